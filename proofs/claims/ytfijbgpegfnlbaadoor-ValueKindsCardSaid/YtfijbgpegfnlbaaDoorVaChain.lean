/- The contracts of the functions of values and signs, one upon the other. -/
import Derived.Test.YtfijbgpegfnlbaaDoorVaBin
import Derived.Test.YtfijbgpegfnlbaaDoorVaRefD
set_option linter.unusedSimpArgs false
set_option linter.unusedVariables false
namespace Go.Proofs.Va
open Go.Ev
variable {Γ : Glob}
theorem two_plain {v : AV} (h : ∃ a b c e, v = .tup [.agg [.int .i64 a, .int .i64 b, .str c], .int .i64 e]) : plainV v = true := by
  obtain ⟨_, _, _, _, rfl⟩ := h; rfl
theorem flat_plain {v : AV} (h : ∃ a b c e, v = .tup [.agg [.int .i64 a, .int .i64 b, .str c], .int .i64 e]) : plainV (flat v) = true := by
  obtain ⟨_, _, _, _, rfl⟩ := h; rfl
theorem num_plain (n : Int) : plainV (numRes n) = true := two_plain (numRes_two n)
theorem flat_num (n : Int) : flat (numRes n) = if numIn n then one4 3 n emp 0 else one4 0 0 emp 7 := by
  unfold numRes; split <;> rfl
theorem may_k {k n : Int} {s : ByteArray} (h : mayP k n s = true) : 0 ≤ k ∧ k ≤ 7 := by
  unfold mayP at h; repeat' split at h
  all_goals first | omega | cases h
theorem may_b {k n : Int} {s : ByteArray} (h : mayP k n s = true) : k = 2 → n = 0 ∨ n = 1 := by
  rintro rfl
  simp [mayP, inP] at h
  omega
theorem may_num {k n : Int} {s : ByteArray} (h : mayP k n s = true) : k = 3 → numIn n = true := by
  rintro rfl
  simp [mayP, inP] at h
  simp [numIn]
  omega
def in64 (n : Int) : Prop := -9223372036854775808 ≤ n ∧ n ≤ 9223372036854775807
instance (n : Int) : Decidable (in64 n) := by unfold in64; infer_instance
theorem may_in64 {k n : Int} {s : ByteArray} (h : mayP k n s = true) : in64 n := by
  unfold mayP inP at h; unfold in64
  repeat' split at h
  all_goals first | (simp at h; omega) | cases h
theorem may_neg {k n : Int} {s : ByteArray} (h : mayP k n s = true) : k = 3 → wrapF .i64 (-n) = -n := fun hk => by
  have := may_num h hk
  simp [numIn] at this
  exact wrap64 (by omega) (by omega)
theorem text_len {k n : Int} {s : ByteArray} (h : mayP k n s = true) : sLen (textP k n s) ≤ 2147483650 := by
  have hi := may_num h
  unfold mayP at h; unfold textP
  repeat' split
  all_goals first
    | decide
    | (cases (decide (n ≠ 0)) <;> decide)
    | (have := itoa_len n; have hi := hi (by assumption); simp [numIn] at hi; unfold sLen; omega)
    | (rename_i h4; subst h4; simp at h; have := h.2; omega)
    | omega
theorem texts_len {k n : Int} {s : ByteArray} {k' n' : Int} {s' : ByteArray} (h : mayP k n s = true) (h' : mayP k' n' s' = true) : sLen (textP k n s) + sLen (textP k' n' s') ≤ 4294967300 := by
  have := text_len h
  have := text_len h'
  omega
theorem comes_eq {r : CR} {v : AV} {h h' : H} (e : r = .ret v h') (hp : plainV v = true) (hk : OldKept h h') : Ev.Comes r h (.ret v h) := .inr ⟨v, h', e, rfl, hp, hk⟩
theorem comes_tells {r : CR} {v : AV} {h : H} (t : Tells r h v) (hp : plainV v = true) : Ev.Comes r h (.ret v h) := let ⟨h', e, hk⟩ := t.elim; comes_eq e hp hk
theorem mixed : Go.Proofs.Tryd.prog.follows .mixedOrders = true := by kernel_rfl
theorem tab_ok : ∀ p ∈ tab, compF Go.Proofs.Tryd.prog p.1 = some p.2 := by
  unfold tab
  simp only [List.forall_mem_cons]
  exact ⟨c12_ok, c13_ok, c14_ok, c15_ok, c16_ok, c17_ok, c18_ok, c19_ok, c20_ok, c21_ok, c22_ok, c23_ok, c24_ok, c25_ok, c26_ok, c27_ok, c28_ok, c29_ok, c30_ok, c31_ok, c32_ok, c33_ok, c35_ok, c36_ok, c37_ok, c38_ok, c39_ok, c40_ok, c41_ok, c42_ok, c43_ok, c44_ok, c46_ok, c47_ok, c48_ok, fun _ h => by cases h⟩
theorem F_ok : ∀ f e, F f = some e → compF Go.Proofs.Tryd.prog f = some e := lookF_ok tab_ok
/-- Itoa, as it is known. -/
noncomputable def S34 : List AV → H → CR := fun xs h => match xs with
  | [.int .i64 n] => if in64 n then .ret (.str (itoaS n)) h else .bad 0
  | _ => .bad 0
noncomputable def k0 : Calls' := upd (fun _ _ _ => .bad 0) 34 S34

variable (ok0 : CallsOk Γ Go.Proofs.Tryd.prog k0)
include ok0
omit ok0 in
noncomputable def S32 : List AV → H → CR := fun xs h => match xs with
  | [.int .i64 n, .int .i64 a, .int .i64 b] => .ret (.bool (inP n a b)) h
  | _ => .bad 0
noncomputable def k32 : Calls' := upd k0 32 S32
theorem ok32 : CallsOk Γ Go.Proofs.Tryd.prog k32 := (id ok0).add mixed F_ok fun xs h r e hb => by
  unfold S32 at e
  split at e
  · rename_i n a b
    subst e
    exact ⟨100, comes_eq (t32 _ _ n a b) rfl (by simp)⟩
  · subst e; exact absurd rfl (hb 0)
omit ok0 in
noncomputable def S12 : List AV → H → CR := fun xs h => match xs with
  | [.agg [.int .i64 k, .int .i64 n, .str s]] => .ret (.bool (mayP k n s)) h
  | _ => .bad 0
noncomputable def k12 : Calls' := upd k32 12 S12
theorem ok12 : CallsOk Γ Go.Proofs.Tryd.prog k12 := (ok32 ok0).add mixed F_ok fun xs h r e hb => by
  unfold S12 at e
  split at e
  · rename_i k n s
    subst e
    exact ⟨100, comes_eq (t12 _ _ (fun _ _ _ _ => rfl) k n s) rfl (by simp)⟩
  · subst e; exact absurd rfl (hb 0)
omit ok0 in
noncomputable def S14 : List AV → H → CR := fun xs h => match xs with
  | [.agg [.int .i64 k, .int .i64 n, .str s]] => .ret (.bool (mayP k n s)) h
  | _ => .bad 0
noncomputable def k14 : Calls' := upd k12 14 S14
theorem ok14 : CallsOk Γ Go.Proofs.Tryd.prog k14 := (ok12 ok0).add mixed F_ok fun xs h r e hb => by
  unfold S14 at e
  split at e
  · rename_i k n s
    subst e
    exact ⟨100, comes_eq (t14 _ _ k n s) rfl (by simp)⟩
  · subst e; exact absurd rfl (hb 0)
omit ok0 in
noncomputable def S15 : List AV → H → CR := fun xs h => match xs with
  | [.agg [.int .i64 k, .int .i64 n, .str s]] => .ret (.bool (truthP k n s)) h
  | _ => .bad 0
noncomputable def k15 : Calls' := upd k14 15 S15
theorem ok15 : CallsOk Γ Go.Proofs.Tryd.prog k15 := (ok14 ok0).add mixed F_ok fun xs h r e hb => by
  unfold S15 at e
  split at e
  · rename_i k n s
    subst e
    exact ⟨100, comes_eq (t15 _ _ k n s) rfl (by simp)⟩
  · subst e; exact absurd rfl (hb 0)
omit ok0 in
noncomputable def S16 : List AV → H → CR := fun xs h => match xs with
  | [.agg [.int .i64 k, .int .i64 n, .str s]] => .ret (.bool (truthP k n s)) h
  | _ => .bad 0
noncomputable def k16 : Calls' := upd k15 16 S16
theorem ok16 : CallsOk Γ Go.Proofs.Tryd.prog k16 := (ok15 ok0).add mixed F_ok fun xs h r e hb => by
  unfold S16 at e
  split at e
  · rename_i k n s
    subst e
    exact ⟨100, comes_eq (t16 _ _ k n s) rfl (by simp)⟩
  · subst e; exact absurd rfl (hb 0)
omit ok0 in
noncomputable def S44 : List AV → H → CR := fun xs h => match xs with
  | [.bool b] => .ret (.str (boolS b)) h
  | _ => .bad 0
noncomputable def k44 : Calls' := upd k16 44 S44
theorem ok44 : CallsOk Γ Go.Proofs.Tryd.prog k44 := (ok16 ok0).add mixed F_ok fun xs h r e hb => by
  unfold S44 at e
  split at e
  · rename_i b
    subst e
    exact ⟨100, comes_eq (t44 _ _ b) rfl (by simp)⟩
  · subst e; exact absurd rfl (hb 0)
omit ok0 in
noncomputable def S33 : List AV → H → CR := fun xs h => match xs with
  | [.bool b] => .ret (.str (boolS b)) h
  | _ => .bad 0
noncomputable def k33 : Calls' := upd k44 33 S33
theorem ok33 : CallsOk Γ Go.Proofs.Tryd.prog k33 := (ok44 ok0).add mixed F_ok fun xs h r e hb => by
  unfold S33 at e
  split at e
  · rename_i b
    subst e
    exact ⟨100, comes_eq (t33 _ _ (fun _ _ => rfl) b) rfl (by simp)⟩
  · subst e; exact absurd rfl (hb 0)
omit ok0 in
noncomputable def k35 : Calls' := upd k33 35 S35
theorem ok35 : CallsOk Γ Go.Proofs.Tryd.prog k35 := (ok33 ok0).add mixed F_ok fun xs h r e hb => by
  unfold S35 at e
  split at e
  · rename_i p n k
    split at e
    · rename_i b hg
      split at e
      · rename_i hk
        split at e
        · rename_i hr
          split at e
          · rename_i x hx
            subst e
            exact ⟨100, comes_eq (t35 _ _ p b n k x hg hk (fun _ _ => hx) (fun hn => absurd hr hn)) rfl (.refl _)⟩
          · subst e; exact absurd rfl (hb 0)
        · rename_i hr
          subst e
          exact ⟨100, comes_eq (t35 _ _ p b n k ⟨#[]⟩ hg hk (fun h1 h2 => absurd ⟨h1, h2⟩ hr) (fun _ => rfl)) rfl (.refl _)⟩
      · subst e; exact absurd rfl (hb 0)
    · subst e; exact absurd rfl (hb 0)
  · subst e; exact absurd rfl (hb 0)
omit ok0 in
theorem itoa_hit {n : Int} {h : H} (hi : in64 n) : k35 34 [.int .i64 n] h = .ret (.str (itoaS n)) h := if_pos hi
omit ok0 in
noncomputable def S17 : List AV → H → CR := fun xs h => match xs with
  | [.agg [.int .i64 k, .int .i64 n, .str s]] => if mayP k n s = true then .ret (.str (textP k n s)) h else .bad 0
  | _ => .bad 0
noncomputable def k17 : Calls' := upd k35 17 S17
theorem ok17 : CallsOk Γ Go.Proofs.Tryd.prog k17 := (ok35 ok0).add mixed F_ok fun xs h r e hb => by
  unfold S17 at e
  split at e
  · rename_i k n s
    split at e
    · rename_i hc
      subst e
      exact ⟨100, comes_eq (t17 _ _ k n s (fun _ _ => rfl) (fun hk _ => itoa_hit (may_in64 hc)) (fun _ _ => rfl)) rfl (by split <;> simp)⟩
    · subst e; exact absurd rfl (hb 0)
  · subst e; exact absurd rfl (hb 0)
omit ok0 in
/-- Digits, as it is known. -/
noncomputable def S22 : List AV → H → CR := fun xs h => match xs with
  | [.int .i64 n] => if in64 n then .ret (.str (itoaS n)) h else .bad 0
  | _ => .bad 0
def μ22 : List AV → Nat := fun xs => match xs with
  | [.int .i64 n] => n.natAbs
  | _ => 0
noncomputable def k22 : Calls' := upd k17 22 S22
theorem ok22 : CallsOk Γ Go.Proofs.Tryd.prog k22 := (ok17 ok0).addRec mixed F_ok μ22 fun xs h r e hb => by
  unfold S22 at e
  split at e
  · rename_i n
    split at e
    · rename_i hi
      subst e
      refine ⟨100, ?_⟩
      obtain ⟨b, hb'⟩ := t22 (upd k17 22 (below μ22 (μ22 [.int .i64 n]) S22)) h n hi.1 hi.2 (fun h' hn => by
        have hlt : (n.tdiv 10).natAbs < n.natAbs := by
          rw [Int.natAbs_tdiv]; exact Nat.div_lt_self (by omega) (by decide)
        have h64 : in64 (n.tdiv 10) := by unfold in64 at *; omega
        rw [upd_hit]
        unfold below
        rw [show Nat.blt (μ22 [.int .i64 (n.tdiv 10)]) (μ22 [.int .i64 n]) = true by rw [natBlt]; exact decide_eq_true hlt]
        show (if in64 (n.tdiv 10) then CR.ret (.str (itoaS (n.tdiv 10))) h' else .bad 0) = _
        rw [if_pos h64])
      exact comes_eq hb' rfl (y_ok2 _ _)
    · subst e; exact absurd rfl (hb 0)
  · subst e; exact absurd rfl (hb 0)
omit ok0 in
theorem dig_hit {n : Int} {h : H} (hi : in64 n) : k22 22 [.int .i64 n] h = .ret (.str (itoaS n)) h := if_pos hi
omit ok0 in
noncomputable def S18 : List AV → H → CR := fun xs h => match xs with
  | [.agg [.int .i64 k, .int .i64 n, .str s]] => if mayP k n s = true then .ret (.str (textP k n s)) h else .bad 0
  | _ => .bad 0
noncomputable def k18 : Calls' := upd k22 18 S18
theorem ok18 : CallsOk Γ Go.Proofs.Tryd.prog k18 := (ok22 ok0).add mixed F_ok fun xs h r e hb => by
  unfold S18 at e
  split at e
  · rename_i k n s
    split at e
    · rename_i hc
      subst e
      exact ⟨100, comes_eq (t18 _ _ k n s (fun hk _ => dig_hit (may_in64 hc)) (may_k hc).1 (may_k hc).2 (may_b hc)) rfl (by simp)⟩
    · subst e; exact absurd rfl (hb 0)
  · subst e; exact absurd rfl (hb 0)
omit ok0 in
noncomputable def S19 : List AV → H → CR := fun xs h => match xs with
  | [.agg [.int .i64 k, .int .i64 n, .str s], .int .i64 c] => if mayP k n s = true then .ret (.str (typeP k c)) h else .bad 0
  | _ => .bad 0
noncomputable def k19 : Calls' := upd k18 19 S19
theorem ok19 : CallsOk Γ Go.Proofs.Tryd.prog k19 := (ok18 ok0).add mixed F_ok fun xs h r e hb => by
  unfold S19 at e
  split at e
  · rename_i k n s c
    split at e
    · rename_i hc
      subst e
      exact ⟨100, comes_eq (t19 _ _ (fun _ _ => rfl) k n s c (may_k hc).1 (may_k hc).2) rfl (by first | (split <;> simp; done) | simp)⟩
    · subst e; exact absurd rfl (hb 0)
  · subst e; exact absurd rfl (hb 0)
omit ok0 in
noncomputable def S20 : List AV → H → CR := fun xs h => match xs with
  | [.agg [.int .i64 k, .int .i64 n, .str s], .int .i64 c] => if mayP k n s = true then .ret (.str (typeP k c)) h else .bad 0
  | _ => .bad 0
noncomputable def k20 : Calls' := upd k19 20 S20
theorem ok20 : CallsOk Γ Go.Proofs.Tryd.prog k20 := (ok19 ok0).add mixed F_ok fun xs h r e hb => by
  unfold S20 at e
  split at e
  · rename_i k n s c
    split at e
    · rename_i hc
      subst e
      exact ⟨100, comes_eq (t20 _ _ k n s c (may_k hc).1 (may_k hc).2) rfl (by simp)⟩
    · subst e; exact absurd rfl (hb 0)
  · subst e; exact absurd rfl (hb 0)
omit ok0 in
noncomputable def S21 : List AV → H → CR := fun xs h => match xs with
  | [.agg [.int .i64 k, .int .i64 n, .str s], .agg [.int .i64 k', .int .i64 n', .str s']] => .ret (.bool (sameP k n s k' n' s')) h
  | _ => .bad 0
noncomputable def k21 : Calls' := upd k20 21 S21
theorem ok21 : CallsOk Γ Go.Proofs.Tryd.prog k21 := (ok20 ok0).add mixed F_ok fun xs h r e hb => by
  unfold S21 at e
  split at e
  · rename_i k n s k' n' s'
    subst e
    exact ⟨100, comes_eq (t21 _ _ k n s k' n' s') rfl (by simp)⟩
  · subst e; exact absurd rfl (hb 0)
omit ok0 in
noncomputable def S36 : List AV → H → CR := fun xs h => match xs with
  | [.bool b] => .ret (V 2 (b01 b) emp) h
  | _ => .bad 0
noncomputable def k36 : Calls' := upd k21 36 S36
theorem ok36 : CallsOk Γ Go.Proofs.Tryd.prog k36 := (ok21 ok0).add mixed F_ok fun xs h r e hb => by
  unfold S36 at e
  split at e
  · rename_i b
    subst e
    exact ⟨100, comes_eq (t36 _ _ b) rfl (by simp)⟩
  · subst e; exact absurd rfl (hb 0)
omit ok0 in
noncomputable def S31 : List AV → H → CR := fun xs h => match xs with
  | [.bool b] => .ret (V 2 (b01 b) emp) h
  | _ => .bad 0
noncomputable def k31 : Calls' := upd k36 31 S31
theorem ok31 : CallsOk Γ Go.Proofs.Tryd.prog k31 := (ok36 ok0).add mixed F_ok fun xs h r e hb => by
  unfold S31 at e
  split at e
  · rename_i b
    subst e
    exact ⟨100, comes_eq (t31 _ _ b) rfl (by simp)⟩
  · subst e; exact absurd rfl (hb 0)
omit ok0 in
noncomputable def S24 : List AV → H → CR := fun xs h => match xs with
  | [.int .i64 n] => .ret (V 3 n emp) h
  | _ => .bad 0
noncomputable def k24 : Calls' := upd k31 24 S24
theorem ok24 : CallsOk Γ Go.Proofs.Tryd.prog k24 := (ok31 ok0).add mixed F_ok fun xs h r e hb => by
  unfold S24 at e
  split at e
  · rename_i n
    subst e
    exact ⟨100, comes_eq (t24 _ _ n) rfl (by simp)⟩
  · subst e; exact absurd rfl (hb 0)
omit ok0 in
noncomputable def S48 : List AV → H → CR := fun xs h => match xs with
  | [.int .i64 n] => .ret (V 3 n emp) h
  | _ => .bad 0
noncomputable def k48 : Calls' := upd k24 48 S48
theorem ok48 : CallsOk Γ Go.Proofs.Tryd.prog k48 := (ok24 ok0).add mixed F_ok fun xs h r e hb => by
  unfold S48 at e
  split at e
  · rename_i n
    subst e
    exact ⟨100, comes_eq (t48 _ _ n) rfl (by simp)⟩
  · subst e; exact absurd rfl (hb 0)
omit ok0 in
noncomputable def S43 : List AV → H → CR := fun xs h => match xs with
  | [.str s] => .ret (V 4 0 s) h
  | _ => .bad 0
noncomputable def k43 : Calls' := upd k48 43 S43
theorem ok43 : CallsOk Γ Go.Proofs.Tryd.prog k43 := (ok48 ok0).add mixed F_ok fun xs h r e hb => by
  unfold S43 at e
  split at e
  · rename_i s
    subst e
    exact ⟨100, comes_eq (t43 _ _ s) rfl (by simp)⟩
  · subst e; exact absurd rfl (hb 0)
omit ok0 in
noncomputable def S40 : List AV → H → CR := fun xs h => match xs with
  | [.int .i64 n] => .ret (numRes n) h
  | _ => .bad 0
noncomputable def k40 : Calls' := upd k43 40 S40
theorem ok40 : CallsOk Γ Go.Proofs.Tryd.prog k40 := (ok43 ok0).add mixed F_ok fun xs h r e hb => by
  unfold S40 at e
  split at e
  · rename_i n
    subst e
    exact ⟨100, comes_eq (t40 _ _ n) (num_plain n) (by simp)⟩
  · subst e; exact absurd rfl (hb 0)
omit ok0 in
noncomputable def S41 : List AV → H → CR := fun xs h => match xs with
  | [.int .i64 n] => .ret (flat (numRes n)) h
  | _ => .bad 0
noncomputable def k41 : Calls' := upd k40 41 S41
theorem ok41 : CallsOk Γ Go.Proofs.Tryd.prog k41 := (ok40 ok0).add mixed F_ok fun xs h r e hb => by
  unfold S41 at e
  split at e
  · rename_i n
    subst e
    exact ⟨100, comes_eq ((t41 _ _ (fun _ _ => rfl) n).trans (by rw [flat_num])) (flat_plain (numRes_two n)) (by simp)⟩
  · subst e; exact absurd rfl (hb 0)
omit ok0 in
noncomputable def S30 : List AV → H → CR := fun xs h => match xs with
  | [.int .i64 n] => .ret (.bool (numIn n)) h
  | _ => .bad 0
noncomputable def k30 : Calls' := upd k41 30 S30
theorem ok30 : CallsOk Γ Go.Proofs.Tryd.prog k30 := (ok41 ok0).add mixed F_ok fun xs h r e hb => by
  unfold S30 at e
  split at e
  · rename_i n
    subst e
    exact ⟨100, comes_eq (t30 _ _ n) rfl (by simp)⟩
  · subst e; exact absurd rfl (hb 0)
omit ok0 in
noncomputable def S26 : List AV → H → CR := fun xs h => match xs with
  | [.int .i64 n] => .ret (.int .i64 n) h
  | _ => .bad 0
noncomputable def k26 : Calls' := upd k30 26 S26
theorem ok26 : CallsOk Γ Go.Proofs.Tryd.prog k26 := (ok30 ok0).add mixed F_ok fun xs h r e hb => by
  unfold S26 at e
  split at e
  · rename_i n
    subst e
    exact ⟨100, comes_eq (t26 _ _ n) rfl (by simp)⟩
  · subst e; exact absurd rfl (hb 0)
omit ok0 in
noncomputable def S46 : List AV → H → CR := fun xs h => match xs with
  | [.str s, .int .i64 a, .int .i64 b] => .ret (.bool (cmpB s (decide (a < b)) (decide (a = b)))) h
  | _ => .bad 0
noncomputable def k46 : Calls' := upd k26 46 S46
theorem ok46 : CallsOk Γ Go.Proofs.Tryd.prog k46 := (ok26 ok0).add mixed F_ok fun xs h r e hb => by
  unfold S46 at e
  split at e
  · rename_i s a b
    subst e
    exact ⟨100, comes_eq (t46 _ _ s a b) rfl (by simp)⟩
  · subst e; exact absurd rfl (hb 0)
omit ok0 in
noncomputable def S47 : List AV → H → CR := fun xs h => match xs with
  | [.str s, .str a, .str b] => .ret (.bool (cmpB s (sLt a b) (sEq a b))) h
  | _ => .bad 0
noncomputable def k47 : Calls' := upd k46 47 S47
theorem ok47 : CallsOk Γ Go.Proofs.Tryd.prog k47 := (ok46 ok0).add mixed F_ok fun xs h r e hb => by
  unfold S47 at e
  split at e
  · rename_i s a b
    subst e
    exact ⟨100, comes_eq (t47 _ _ s a b) rfl (by simp)⟩
  · subst e; exact absurd rfl (hb 0)
omit ok0 in
noncomputable def S42 : List AV → H → CR := fun xs h => match xs with
  | [.str s, .bool a, .bool b] => .ret (V 2 (b01 (cmpB s a b)) emp) h
  | _ => .bad 0
noncomputable def k42 : Calls' := upd k47 42 S42
theorem ok42 : CallsOk Γ Go.Proofs.Tryd.prog k42 := (ok47 ok0).add mixed F_ok fun xs h r e hb => by
  unfold S42 at e
  split at e
  · rename_i s a b
    subst e
    exact ⟨100, comes_eq (t42 _ _ (fun _ _ => rfl) s a b) rfl (by simp)⟩
  · subst e; exact absurd rfl (hb 0)
omit ok0 in
noncomputable def S37 : List AV → H → CR := fun xs h => match xs with
  | [.str s, .agg [.int .i64 k, .int .i64 n, .str t], .agg [.int .i64 k', .int .i64 n', .str t']] => .ret (ordV s k n t k' n' t') h
  | _ => .bad 0
noncomputable def k37 : Calls' := upd k42 37 S37
theorem ok37 : CallsOk Γ Go.Proofs.Tryd.prog k37 := (ok42 ok0).add mixed F_ok fun xs h r e hb => by
  unfold S37 at e
  split at e
  · rename_i s k n t k' n' t'
    subst e
    exact ⟨100, comes_tells (t37 _ _ (fun _ _ => rfl) (fun _ _ _ _ => rfl) (fun _ _ _ _ => rfl) s k n t k' n' t') (two_plain (ordV_two s k n t k' n' t'))⟩
  · subst e; exact absurd rfl (hb 0)
omit ok0 in
noncomputable def S38 : List AV → H → CR := fun xs h => match xs with
  | [.str s, .int .i64 a, .int .i64 b] => if numIn a = true ∧ numIn b = true then .ret (recV s a b) h else .bad 0
  | _ => .bad 0
noncomputable def k38 : Calls' := upd k37 38 S38
theorem ok38 : CallsOk Γ Go.Proofs.Tryd.prog k38 := (ok37 ok0).add mixed F_ok fun xs h r e hb => by
  unfold S38 at e
  split at e
  · rename_i s a b
    split at e
    · rename_i hc
      subst e
      exact ⟨100, comes_tells (t38 _ _ (fun _ _ => rfl) s a b hc.1 hc.2) (two_plain (recV_two s a b))⟩
    · subst e; exact absurd rfl (hb 0)
  · subst e; exact absurd rfl (hb 0)
omit ok0 in
theorem text_hit {k n : Int} {s : ByteArray} {h : H} (hc : mayP k n s = true) : k38 17 [.agg [.int .i64 k, .int .i64 n, .str s]] h = .ret (.str (textP k n s)) h := if_pos hc
omit ok0 in
noncomputable def S39 : List AV → H → CR := fun xs h => match xs with
  | [.agg [.int .i64 k, .int .i64 n, .str s], .agg [.int .i64 k', .int .i64 n', .str s']] => if mayP k n s = true ∧ mayP k' n' s' = true then .ret (joinV (textP k n s) (textP k' n' s')) h else .bad 0
  | _ => .bad 0
noncomputable def k39 : Calls' := upd k38 39 S39
theorem ok39 : CallsOk Γ Go.Proofs.Tryd.prog k39 := (ok38 ok0).add mixed F_ok fun xs h r e hb => by
  unfold S39 at e
  split at e
  · rename_i k n s k' n' s'
    split at e
    · rename_i hc
      subst e
      exact ⟨100, comes_tells (t39 _ _ k n s k' n' s' (fun _ => text_hit hc.1) (fun _ => text_hit hc.2) (texts_len hc.1 hc.2)) (two_plain (joinV_two _ _))⟩
    · subst e; exact absurd rfl (hb 0)
  · subst e; exact absurd rfl (hb 0)
omit ok0 in
noncomputable def S27 : List AV → H → CR := fun xs h => match xs with
  | [.str g, .agg [.int .i64 k, .int .i64 n, .str s]] => if mayP k n s = true then .ret (unV g k n s) h else .bad 0
  | _ => .bad 0
noncomputable def k27 : Calls' := upd k39 27 S27
theorem ok27 : CallsOk Γ Go.Proofs.Tryd.prog k27 := (ok39 ok0).add mixed F_ok fun xs h r e hb => by
  unfold S27 at e
  split at e
  · rename_i g k n s
    split at e
    · rename_i hc
      subst e
      exact ⟨100, comes_tells (t27 _ _ (fun _ _ _ _ => rfl) (fun _ _ => rfl) (fun _ _ => rfl) g k n s (may_neg hc)) (two_plain (unV_two g k n s))⟩
    · subst e; exact absurd rfl (hb 0)
  · subst e; exact absurd rfl (hb 0)
omit ok0 in
theorem rec_hit {g : ByteArray} {a b : Int} {h : H} (hc : numIn a = true ∧ numIn b = true) : k27 38 [.str g, .int .i64 a, .int .i64 b] h = .ret (recV g a b) h := if_pos hc
omit ok0 in
theorem join_hit {k n : Int} {s : ByteArray} {k' n' : Int} {s' : ByteArray} {h : H} (hc : mayP k n s = true ∧ mayP k' n' s' = true) : k27 39 [.agg [.int .i64 k, .int .i64 n, .str s], .agg [.int .i64 k', .int .i64 n', .str s']] h = .ret (joinV (textP k n s) (textP k' n' s')) h := if_pos hc
omit ok0 in
noncomputable def S25 : List AV → H → CR := fun xs h => match xs with
  | [.str g, .agg [.int .i64 k, .int .i64 n, .str s], .agg [.int .i64 k', .int .i64 n', .str s']] => if mayP k n s = true ∧ mayP k' n' s' = true then .ret (binV g k n s k' n' s') h else .bad 0
  | _ => .bad 0
noncomputable def k25 : Calls' := upd k27 25 S25
theorem ok25 : CallsOk Γ Go.Proofs.Tryd.prog k25 := (ok27 ok0).add mixed F_ok fun xs h r e hb => by
  unfold S25 at e
  split at e
  · rename_i g k n s k' n' s'
    split at e
    · rename_i hc
      subst e
      exact ⟨100, comes_tells (t25 (fun _ _ _ _ _ _ _ => rfl) (fun _ _ => rfl) (fun _ _ _ _ _ _ _ _ => rfl) k n s k' n' s' (fun _ _ hk => rec_hit ⟨may_num hc.1 hk.1, may_num hc.2 hk.2⟩) (fun _ => join_hit hc) g) (two_plain (binV_two g k n s k' n' s'))⟩
    · subst e; exact absurd rfl (hb 0)
  · subst e; exact absurd rfl (hb 0)
omit ok0 in
noncomputable def S28 : List AV → H → CR := fun xs h => match xs with
  | [.str g, .agg [.int .i64 k, .int .i64 n, .str s]] => if mayP k n s = true then .ret (flat (unV g k n s)) h else .bad 0
  | _ => .bad 0
noncomputable def k28 : Calls' := upd k25 28 S28
theorem ok28 : CallsOk Γ Go.Proofs.Tryd.prog k28 := (ok25 ok0).add mixed F_ok fun xs h r e hb => by
  unfold S28 at e
  split at e
  · rename_i g k n s
    split at e
    · rename_i hc
      subst e
      exact ⟨100, comes_tells (t28 (fun _ _ _ _ => rfl) (fun _ _ => rfl) (fun _ _ => rfl) g k n s (may_neg hc)) (flat_plain (unV_two g k n s))⟩
    · subst e; exact absurd rfl (hb 0)
  · subst e; exact absurd rfl (hb 0)
omit ok0 in
theorem rtext_hit {k n : Int} {s : ByteArray} {h : H} (hc : mayP k n s = true) : k28 18 [.agg [.int .i64 k, .int .i64 n, .str s]] h = .ret (.str (textP k n s)) h := if_pos hc
omit ok0 in
noncomputable def S29 : List AV → H → CR := fun xs h => match xs with
  | [.str g, .agg [.int .i64 k, .int .i64 n, .str s], .agg [.int .i64 k', .int .i64 n', .str s']] => if mayP k n s = true ∧ mayP k' n' s' = true then .ret (flat (binV g k n s k' n' s')) h else .bad 0
  | _ => .bad 0
noncomputable def k29 : Calls' := upd k28 29 S29
theorem ok29 : CallsOk Γ Go.Proofs.Tryd.prog k29 := (ok28 ok0).add mixed F_ok fun xs h r e hb => by
  unfold S29 at e
  split at e
  · rename_i g k n s k' n' s'
    split at e
    · rename_i hc
      subst e
      exact ⟨100, comes_tells (t29 k n s k' n' s' (fun _ => rtext_hit hc.1) (fun _ => rtext_hit hc.2) (fun _ _ => rfl) (fun _ _ => rfl) (fun _ _ _ _ => rfl) (fun _ _ => rfl) (fun hk => small (may_num hc.1 hk.1) (may_num hc.2 hk.2)) (cat_add (by have := texts_len hc.1 hc.2; unfold sLen at this; omega)) g) (flat_plain (binV_two g k n s k' n' s'))⟩
    · subst e; exact absurd rfl (hb 0)
  · subst e; exact absurd rfl (hb 0)
end Go.Proofs.Va
