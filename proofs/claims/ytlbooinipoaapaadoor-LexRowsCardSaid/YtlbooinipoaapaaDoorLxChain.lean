import Derived.Test.YtlbooinipoaapaaDoorLxText
set_option linter.unusedSimpArgs false
set_option linter.unusedVariables false
set_option linter.unusedSectionVars false
namespace Go.Proofs.Lx
open Go.Ev
noncomputable def c11_2 : EC := (.seq (.steps [(.op Option.none (.look 8 (lLoad (.sl [.a, .a]) 5 Bool.true)) (Option.some [.a, .d])), (.op Option.none (.eff (hStore (.sl [.d]) (.sl [.a, .d]) 5)) Option.none)]) .ret)
noncomputable def c11_1 : EC := (.seq (.steps [(.op Option.none (.pure 1 (vMove (.sl []))) (Option.some [.d, .a])), (.op Option.none (.pure 1 (vMove (.sl [.a]))) (Option.some [.a, .b])), (.op Option.none (.pure 1 (vMove (.sl []))) (Option.some [.b, .b])), (.op Option.none (.pure 23 (vLenS (.sl [.b, .b]))) (Option.some [.c, .b])), (.op Option.none (.pure 25 (vMinMax Bool.false (.sl [.a, .b]) (.sl [.c, .b]))) (Option.some [.d, .b])), (.op Option.none (.pure 25 (vMinMax Bool.true (.k (.int .i64 (.ofNat 0))) (.sl [.d, .b]))) (Option.some [.a, .c])), (.op Option.none (.eff (hCall (.k (.fn 21 [] [])) [(.sl [.d, .a]), (.sl [.a, .c])])) (Option.some [.b, .c])), (.op Option.none (.pure 1 (vMove (.sl [.b, .c]))) (Option.some [.c, .a])), (.op Option.none (.pure 22 (vExtract (.sl [.c, .a]) 0)) (Option.some [.c, .c])), (.op Option.none (.pure 22 (vExtract (.sl [.c, .a]) 1)) (Option.some [.d, .c])), (.op Option.none (.eff (bLoc [(.int .i64 (.ofNat 0)), (.str ⟨#[]⟩), (.int .i64 (.ofNat 0)), (.int .i64 (.ofNat 0)), (.bool Bool.false)] [.a, .a])) (Option.some [.a, .a])), (.op Option.none (.eff (hStore (.sl [.a, .a]) (.sl [.c, .c]) 5)) Option.none), (.op Option.none (.pure 2 (vMove (.sl [.d, .c]))) (Option.some [.b, .a]))]) c11_2)
noncomputable def c11 : EF := ⟨(.seq (.steps [(.op Option.none (.eff (bLoc [(.int .i64 (.ofNat 0)), (.str ⟨#[]⟩), (.int .i64 (.ofNat 0)), (.int .i64 (.ofNat 0)), (.bool Bool.false)] [.d])) (Option.some [.d]))]) c11_1), [(.cell (.sl [.d]) 5 Bool.true)], Bool.false⟩
theorem c11_ok : compF Tryd.prog 11 = some c11 := by kernel_rfl
noncomputable def LF11 : FuncId → Option EF := lookF [(11, c11)]
theorem FF11 : LF11 11 = some c11 := rfl

theorem T_of (s : ByteArray) : AV.str s = T s.data.toList := by cases s; simp [T]
theorem comes_eq {r : CR} {v : AV} {h h' : H} (e : r = .ret v h') (hp : plainV v = true) (hk : OldKept h h') : Ev.Comes r h (.ret v h) := .inr ⟨v, h', e, rfl, hp, hk⟩
theorem comes_tells {r : CR} {v : AV} {h : H} (t : Tells r h v) (hp : plainV v = true) : Ev.Comes r h (.ret v h) := let ⟨h', e, hk⟩ := t.elim; comes_eq e hp hk
theorem one_ok {n : FuncId} {c : EF} (hc : compF Tryd.prog n = some c) : ∀ f e, lookF [(n, c)] f = some e → compF Tryd.prog f = some e := lookF_ok (by simp only [List.forall_mem_cons]; exact ⟨hc, fun _ h => by cases h⟩)
def u8of (n : Int) : UInt8 := n.toNat.toUInt8
theorem u8of_nat (c : UInt8) : u8of (c.toNat : Int) = c := by simp [u8of]
theorem u8of_to {n : Int} (h0 : 0 ≤ n) (h1 : n < 256) : ((u8of n).toNat : Int) = n := by
  unfold u8of
  have : n.toNat < 256 := by omega
  simp [Nat.mod_eq_of_lt this]
  omega
def Is8 (n : Int) : Prop := 0 ≤ n ∧ n < 256
instance (n : Int) : Decidable (Is8 n) := by unfold Is8; infer_instance
theorem is8 (c : UInt8) : Is8 (c.toNat : Int) := ⟨by omega, by have := c.toNat_lt; omega⟩
def signT (l : List UInt8) : Tk := match firstS l signsL with | some x => ⟨5, ⟨x.toArray⟩, 0, x.length⟩ | none => ⟨0, ⟨#[]⟩, 0, 0⟩
theorem signP_eq (l : List UInt8) : signP l = (signT l).res := by unfold signP signT; cases firstS l signsL <;> rfl
def nameT (l : List UInt8) : Tk := match l with
  | [] => ⟨0, ⟨#[]⟩, 0, 0⟩
  | c :: r => if letB c then ⟨if isW ⟨((c :: r).take ((c :: r).takeWhile wordB).length).toArray⟩ then 4 else 3, ⟨((c :: r).take ((c :: r).takeWhile wordB).length).toArray⟩, 0, ((c :: r).takeWhile wordB).length⟩ else ⟨0, ⟨#[]⟩, 0, 0⟩
theorem nameP_eq (l : List UInt8) : nameP l = (nameT l).res := by
  unfold nameP nameT
  cases l with
  | nil => rfl
  | cons c r => simp only; split <;> rfl
def numT (l : List UInt8) : Tk :=
  let k := (l.takeWhile digB).length
  if k = 0 then ⟨0, ⟨#[]⟩, 0, 0⟩ else if numBad l k (numV (l.take k) 0) then ⟨6, ⟨#[]⟩, 0, k⟩ else ⟨1, ⟨(l.take k).toArray⟩, ((numV (l.take k) 0 : Nat) : Int), k⟩
theorem numP_eq (l : List UInt8) : numP l = (numT l).res := by
  unfold numP numT
  simp only
  split
  · rfl
  · split <;> rfl
theorem skip_le : ∀ (f : Nat) (l : List UInt8), (skipGo f l).1 ≤ l.length
  | 0, _ => Nat.zero_le _
  | f + 1, [] => Nat.zero_le _
  | f + 1, c :: r => by
    rw [skipGo_cons]
    split
    · have := skip_le f r
      simp; omega
    · split
      · have := skip_le f ((c :: r).drop ((c :: r).takeWhile lineB).length)
        have h2 : ((c :: r).takeWhile lineB).length ≤ (c :: r).length := (List.takeWhile_sublist _).length_le
        rw [List.length_drop] at this
        simp only
        omega
      · exact Nat.zero_le _
/-- What stands at a place: where it begins, whether a line ended ahead, the token. -/
def nextM (l : List UInt8) (a : Nat) : Nat := a + (skipP (l.drop a)).1
def nextT (l : List UInt8) (a : Nat) : Tk := (((Tk.or ⟨if nextM l a < l.length then 6 else 0, ⟨#[]⟩, 0, 0⟩ (numT (l.drop (nextM l a)))).or (textT (l.drop (nextM l a)))).or (nameT (l.drop (nextM l a)))).or (signT (l.drop (nextM l a)))
abbrev nextA (l : List UInt8) (a : Nat) : AV := .agg [.int .i64 (nextT l a).k, .str (nextT l a).s, .int .i64 (nextT l a).n, .int .i64 (nextM l a : Int), .bool (skipP (l.drop a)).2]
def SEQ : Nat := 0
noncomputable def S44 : List AV → H → CR := fun xs h => match xs with
  | [.int .u8 n] => if Is8 n then .ret (.bool (lineB (u8of n))) h else .bad 0
  | _ => .bad 0
noncomputable def k44 : Calls' := upd (libC lib) 44 S44
theorem ok44 : CallsOk Γ Tryd.prog k44 := (lib_ok).add mixed (F := LF44) (one_ok c44_ok) fun xs h r e hb => by
  unfold S44 at e
  split at e
  · rename_i n
    split at e
    · rename_i hc
      subst e
      rw [← u8of_to hc.1 hc.2, u8of_nat]
      exact ⟨1, comes_eq (t44 _ h) rfl (.refl _)⟩
    · subst e; exact absurd rfl (hb 0)
  · subst e; exact absurd rfl (hb 0)
noncomputable def S45 : List AV → H → CR := fun xs h => match xs with
  | [.int .u8 n] => if Is8 n then .ret (.bool (digB (u8of n))) h else .bad 0
  | _ => .bad 0
noncomputable def k45 : Calls' := upd k44 45 S45
theorem ok45 : CallsOk Γ Tryd.prog k45 := (ok44).add mixed (F := LF45) (one_ok c45_ok) fun xs h r e hb => by
  unfold S45 at e
  split at e
  · rename_i n
    split at e
    · rename_i hc
      subst e
      rw [← u8of_to hc.1 hc.2, u8of_nat]
      exact ⟨1, comes_eq (t45 _ h) rfl (.refl _)⟩
    · subst e; exact absurd rfl (hb 0)
  · subst e; exact absurd rfl (hb 0)
noncomputable def S46 : List AV → H → CR := fun xs h => match xs with
  | [.int .u8 n] => if Is8 n then .ret (.bool (letB (u8of n))) h else .bad 0
  | _ => .bad 0
noncomputable def k46 : Calls' := upd k45 46 S46
theorem ok46 : CallsOk Γ Tryd.prog k46 := (ok45).add mixed (F := LF46) (one_ok c46_ok) fun xs h r e hb => by
  unfold S46 at e
  split at e
  · rename_i n
    split at e
    · rename_i hc
      subst e
      rw [← u8of_to hc.1 hc.2, u8of_nat]
      exact ⟨1, comes_eq (t46 _ h) rfl (.refl _)⟩
    · subst e; exact absurd rfl (hb 0)
  · subst e; exact absurd rfl (hb 0)
set_option maxRecDepth 100000 in
theorem hk46_46 (c : UInt8) (h : H) : k46 46 [.int .u8 (c.toNat : Int)] h = .ret (.bool (letB c)) h := (if_pos (t := CR.ret (.bool (letB (u8of (c.toNat : Int)))) h) (e := CR.bad 0) (is8 c)).trans (by rw [u8of_nat])
set_option maxRecDepth 100000 in
theorem hk46_45 (c : UInt8) (h : H) : k46 45 [.int .u8 (c.toNat : Int)] h = .ret (.bool (digB c)) h := (if_pos (t := CR.ret (.bool (digB (u8of (c.toNat : Int)))) h) (e := CR.bad 0) (is8 c)).trans (by rw [u8of_nat])
noncomputable def S48 : List AV → H → CR := fun xs h => match xs with
  | [.int .u8 n] => if Is8 n then .ret (.bool (wordB (u8of n))) h else .bad 0
  | _ => .bad 0
noncomputable def k48 : Calls' := upd k46 48 S48
theorem ok48 : CallsOk Γ Tryd.prog k48 := (ok46).add mixed (F := LF48) (one_ok c48_ok) fun xs h r e hb => by
  unfold S48 at e
  split at e
  · rename_i n
    split at e
    · rename_i hc
      subst e
      rw [← u8of_to hc.1 hc.2, u8of_nat]
      exact ⟨1, comes_eq (t48 hk46_46 hk46_45 _ h) rfl (.refl _)⟩
    · subst e; exact absurd rfl (hb 0)
  · subst e; exact absurd rfl (hb 0)
set_option maxRecDepth 100000 in
theorem hk48_44 (c : UInt8) (h : H) : k48 44 [.int .u8 (c.toNat : Int)] h = .ret (.bool (lineB c)) h := (if_pos (t := CR.ret (.bool (lineB (u8of (c.toNat : Int)))) h) (e := CR.bad 0) (is8 c)).trans (by rw [u8of_nat])
set_option maxRecDepth 100000 in
theorem hk48_45 (c : UInt8) (h : H) : k48 45 [.int .u8 (c.toNat : Int)] h = .ret (.bool (digB c)) h := (if_pos (t := CR.ret (.bool (digB (u8of (c.toNat : Int)))) h) (e := CR.bad 0) (is8 c)).trans (by rw [u8of_nat])
set_option maxRecDepth 100000 in
theorem hk48_48 (c : UInt8) (h : H) : k48 48 [.int .u8 (c.toNat : Int)] h = .ret (.bool (wordB c)) h := (if_pos (t := CR.ret (.bool (wordB (u8of (c.toNat : Int)))) h) (e := CR.bad 0) (is8 c)).trans (by rw [u8of_nat])
def whB (g : Nat) : Option (UInt8 → Bool) := if g = 44 then some lineB else if g = 45 then some digB else if g = 48 then some wordB else none
noncomputable def S43 : List AV → H → CR := fun xs h => match xs with
  | [.str s, .fn g [] []] => (match whB g with | some P => if s.data.toList.length ≤ 1000000 then .ret (.int .i64 ((s.data.toList.takeWhile P).length : Nat)) h else .bad 0 | none => .bad 0)
  | _ => .bad 0
noncomputable def k43 : Calls' := upd k48 43 S43
theorem ok43 : CallsOk Γ Tryd.prog k43 := ok48.add mixed (F := LF43) (one_ok c43_ok) fun xs h r e hb => by
  unfold S43 at e
  split at e
  · rename_i s g
    split at e
    · rename_i P hP
      split at e
      · rename_i hc
        subst e
        rw [T_of s]
        refine ⟨_, comes_eq (t43 (P := P) ?_ _ h hc) rfl (.refl _)⟩
        intro c h
        unfold whB at hP
        split at hP
        · rename_i hg; subst hg; cases hP; exact hk48_44 c h
        · split at hP
          · rename_i hg; subst hg; cases hP; exact hk48_45 c h
          · split at hP
            · rename_i hg; subst hg; cases hP; exact hk48_48 c h
            · cases hP
      · subst e; exact absurd rfl (hb 0)
    · subst e; exact absurd rfl (hb 0)
  · subst e; exact absurd rfl (hb 0)
noncomputable def S51 : List AV → H → CR := fun xs h => match xs with
  | [.str s, .str p] => if True then .ret (.bool (preB s.data.toList p.data.toList)) h else .bad 0
  | _ => .bad 0
noncomputable def k51 : Calls' := upd k43 51 S51
theorem ok51 : CallsOk Γ Tryd.prog k51 := (ok43).add mixed (F := LF51) (one_ok c51_ok) fun xs h r e hb => by
  unfold S51 at e
  split at e
  · rename_i s p
    split at e
    · rename_i hc
      subst e
      rw [T_of s, T_of p]
      exact ⟨1, comes_eq (t51 _ _ h) rfl (.refl _)⟩
    · subst e; exact absurd rfl (hb 0)
  · subst e; exact absurd rfl (hb 0)
theorem hk51_51 (l p : List UInt8) (h : H) : k51 51 [T l, T p] h = .ret (.bool (preB l p)) h := if_pos (e := CR.bad 0) trivial
noncomputable def S42 : List AV → H → CR := fun xs h => match xs with
  | [.str s, .str p] => if True then .ret (.bool (preB s.data.toList p.data.toList)) h else .bad 0
  | _ => .bad 0
noncomputable def k42 : Calls' := upd k51 42 S42
theorem ok42 : CallsOk Γ Tryd.prog k42 := (ok51).add mixed (F := LF42) (one_ok c42_ok) fun xs h r e hb => by
  unfold S42 at e
  split at e
  · rename_i s p
    split at e
    · rename_i hc
      subst e
      rw [T_of s, T_of p]
      exact ⟨1, comes_eq (t42 hk51_51 _ _ h) rfl (.refl _)⟩
    · subst e; exact absurd rfl (hb 0)
  · subst e; exact absurd rfl (hb 0)
noncomputable def S47 : List AV → H → CR := fun xs h => match xs with
  | [.str s] => if True then .ret (.tup [.int .u8 ((quotB s.data.toList).1.toNat : Int), .int .i64 ((quotB s.data.toList).2 : Int)]) h else .bad 0
  | _ => .bad 0
noncomputable def k47 : Calls' := upd k42 47 S47
theorem ok47 : CallsOk Γ Tryd.prog k47 := (ok42).add mixed (F := LF47) (one_ok c47_ok) fun xs h r e hb => by
  unfold S47 at e
  split at e
  · rename_i s
    split at e
    · rename_i hc
      subst e
      rw [T_of s]
      exact ⟨1, comes_eq (t47 _ h) rfl (.refl _)⟩
    · subst e; exact absurd rfl (hb 0)
  · subst e; exact absurd rfl (hb 0)
theorem hk47_42 (l p : List UInt8) (h : H) : k47 42 [T l, T p] h = .ret (.bool (preB l p)) h := if_pos (e := CR.bad 0) trivial
theorem hk47_41 (c : UInt8) (h : H) : k47 41 [.str ⟨#[9, 10, 13, 32]⟩, .int .u8 (c.toNat : Int)] h = .ret (.int .i64 (Lib.indexByte [9, 10, 13, 32] c)) h := by
  show CR.ret (.int .i64 (Lib.indexByte [9, 10, 13, 32] (u8of (c.toNat : Int)))) h = _
  rw [u8of_nat]
theorem hk47_43_44 (l : List UInt8) (h : H) (hl : l.length ≤ 1000000) : k47 43 [T l, .fn 44 [] []] h = .ret (.int .i64 ((l.takeWhile lineB).length : Nat)) h := if_pos hl
noncomputable def S33 : List AV → H → CR := fun xs h => match xs with
  | [.str s] => if s.data.toList.length ≤ 1000000 then .ret (.tup [.int .i64 ((skipP s.data.toList).1 : Nat), .bool (skipP s.data.toList).2]) h else .bad 0
  | _ => .bad 0
noncomputable def k33 : Calls' := upd k47 33 S33
theorem ok33 : CallsOk Γ Tryd.prog k33 := (ok47).add mixed (F := LF33) (one_ok c33_ok) fun xs h r e hb => by
  unfold S33 at e
  split at e
  · rename_i s
    split at e
    · rename_i hc
      subst e
      rw [T_of s]
      exact ⟨_, comes_eq (t33 hk47_41 hk47_42 hk47_43_44 _ h hc) rfl (.refl _)⟩
    · subst e; exact absurd rfl (hb 0)
  · subst e; exact absurd rfl (hb 0)
theorem hk33_43_45 (l : List UInt8) (h : H) (hl : l.length ≤ 1000000) : k33 43 [T l, .fn 45 [] []] h = .ret (.int .i64 ((l.takeWhile digB).length : Nat)) h := if_pos hl
set_option maxRecDepth 100000 in
theorem hk33_46 (c : UInt8) (h : H) : k33 46 [.int .u8 (c.toNat : Int)] h = .ret (.bool (letB c)) h := (if_pos (t := CR.ret (.bool (letB (u8of (c.toNat : Int)))) h) (e := CR.bad 0) (is8 c)).trans (by rw [u8of_nat])
noncomputable def S34 : List AV → H → CR := fun xs h => match xs with
  | [.str s] => if s.data.toList.length ≤ 1000000 then .ret ((numT s.data.toList).res) h else .bad 0
  | _ => .bad 0
noncomputable def k34 : Calls' := upd k33 34 S34
theorem ok34 : CallsOk Γ Tryd.prog k34 := (ok33).add mixed (F := LF34) (one_ok c34_ok) fun xs h r e hb => by
  unfold S34 at e
  split at e
  · rename_i s
    split at e
    · rename_i hc
      subst e
      rw [T_of s, ← numP_eq]
      exact ⟨_, comes_tells (t34 hk33_46 hk33_43_45 _ h hc) (by rw [numP_eq]; rfl)⟩
    · subst e; exact absurd rfl (hb 0)
  · subst e; exact absurd rfl (hb 0)
noncomputable def S38 : List AV → H → CR := fun xs h => match xs with
  | [.sl p 1 0 n, .str s] => (match Ev.get p h.t with
    | some b => if b.map = false ∧ b.k = 1 ∧ n ≤ 1000000 then (match strsIn b.rows n 0 with | some L => .ret (.int .i64 (idxS s L 0)) h | none => .bad 0) else .bad 0
    | none => .bad 0)
  | _ => .bad 0
noncomputable def k38 : Calls' := upd k34 38 S38
theorem ok38 : CallsOk Γ Tryd.prog k38 := ok34.add mixed (F := LF38) (one_ok c38_ok) fun xs h r e hb => by
  unfold S38 at e
  split at e
  · rename_i p n s
    split at e
    · rename_i b hg
      split at e
      · rename_i hc
        split at e
        · rename_i L hL
          subst e
          obtain ⟨h1, h2⟩ := strsIn_at hL
          subst h1
          exact ⟨_, comes_eq (t38 hg hc.1 hc.2.1 (fun j hj => by have := h2 j hj; rwa [Nat.zero_add] at this) hc.2.2) rfl (.refl _)⟩
        · subst e; exact absurd rfl (hb 0)
      · subst e; exact absurd rfl (hb 0)
    · subst e; exact absurd rfl (hb 0)
  · subst e; exact absurd rfl (hb 0)
noncomputable def S29 : List AV → H → CR := fun xs h => match xs with
  | [.sl p 1 0 n, .str s] => (match Ev.get p h.t with
    | some b => if b.map = false ∧ b.k = 1 ∧ n ≤ 1000000 then (match strsIn b.rows n 0 with | some L => .ret (.bool (!decide (idxS s L 0 < 0))) h | none => .bad 0) else .bad 0
    | none => .bad 0)
  | _ => .bad 0
noncomputable def k29 : Calls' := upd k38 29 S29
theorem hk38_38 {p : Path} {n : Nat} {s : ByteArray} {h : H} {b : Blk} {L : List ByteArray} (hg : Ev.get p h.t = some b) (hc : b.map = false ∧ b.k = 1 ∧ n ≤ 1000000) (hL : strsIn b.rows n 0 = some L) : k38 38 [.sl p 1 0 n, .str s] h = .ret (.int .i64 (idxS s L 0)) h := by
  show S38 [.sl p 1 0 n, .str s] h = _
  unfold S38
  simp only [hg, hL]
  rw [if_pos hc]
theorem ok29 : CallsOk Γ Tryd.prog k29 := ok38.add mixed (F := LF29) (one_ok c29_ok) fun xs h r e hb => by
  unfold S29 at e
  split at e
  · rename_i p n s
    split at e
    · rename_i b hg
      split at e
      · rename_i hc
        split at e
        · rename_i L hL
          subst e
          exact ⟨1, comes_eq (t29 (hk38_38 hg hc hL)) rfl (.refl _)⟩
        · subst e; exact absurd rfl (hb 0)
      · subst e; exact absurd rfl (hb 0)
    · subst e; exact absurd rfl (hb 0)
  · subst e; exact absurd rfl (hb 0)
theorem words_strs : strsIn (strBlk wordsL).rows 19 0 = some (wordsL.map fun x => ⟨x.toArray⟩) := by rfl
theorem hk29_29 (s : ByteArray) (p : Path) (h : H) (hg : Ev.get p h.t = some (strBlk wordsL)) : k29 29 [.sl p 1 0 19, .str s] h = .ret (.bool (isW s)) h := by
  show S29 [.sl p 1 0 19, .str s] h = _
  unfold S29
  simp only [hg, words_strs]
  rw [if_pos ⟨rfl, rfl, by decide⟩]
  rfl
theorem bytes_same (l : List UInt8) : bytesEq l l = true := by rw [bytesEq_iff]; exact beq_self_eq_true _
theorem hk29_30 (h : H) : k29 30 [.str wordsS] h = retStrs wordsL h := by
  show fieldsG [.str wordsS] h = _
  unfold fieldsG
  simp only [bytes_same]
theorem sw : bytesEq signsS.data.toList wordsS.data.toList = false := by decide +kernel
noncomputable def S19 : List AV → H → CR := fun xs h => match xs with
  | [.str s] => if True then .ret (.bool (isW s)) h else .bad 0
  | _ => .bad 0
noncomputable def k19 : Calls' := upd k29 19 S19
theorem ok19 : CallsOk Γ Tryd.prog k19 := (ok29).add mixed (F := LF19) (one_ok c19_ok) fun xs h r e hb => by
  unfold S19 at e
  split at e
  · rename_i s
    split at e
    · rename_i hc
      subst e
      exact ⟨1, comes_tells (t19 s h hk29_30 (hk29_29 s)) rfl⟩
    · subst e; exact absurd rfl (hb 0)
  · subst e; exact absurd rfl (hb 0)
set_option maxRecDepth 100000 in
theorem hk19_46 (c : UInt8) (h : H) : k19 46 [.int .u8 (c.toNat : Int)] h = .ret (.bool (letB c)) h := (if_pos (t := CR.ret (.bool (letB (u8of (c.toNat : Int)))) h) (e := CR.bad 0) (is8 c)).trans (by rw [u8of_nat])
theorem hk19_43_48 (l : List UInt8) (h : H) (hl : l.length ≤ 1000000) : k19 43 [T l, .fn 48 [] []] h = .ret (.int .i64 ((l.takeWhile wordB).length : Nat)) h := if_pos hl
theorem hk19_19 (s : ByteArray) (h : H) : k19 19 [.str s] h = .ret (.bool (isW s)) h := if_pos (e := CR.bad 0) trivial
noncomputable def S36 : List AV → H → CR := fun xs h => match xs with
  | [.str s] => if s.data.toList.length ≤ 1000000 then .ret ((nameT s.data.toList).res) h else .bad 0
  | _ => .bad 0
noncomputable def k36 : Calls' := upd k19 36 S36
theorem ok36 : CallsOk Γ Tryd.prog k36 := (ok19).add mixed (F := LF36) (one_ok c36_ok) fun xs h r e hb => by
  unfold S36 at e
  split at e
  · rename_i s
    split at e
    · rename_i hc
      subst e
      rw [T_of s, ← nameP_eq]
      exact ⟨_, comes_tells (t36 hk19_46 hk19_43_48 hk19_19 _ h hc) (by rw [nameP_eq]; rfl)⟩
    · subst e; exact absurd rfl (hb 0)
  · subst e; exact absurd rfl (hb 0)
theorem hk36_42 (l p : List UInt8) (h : H) : k36 42 [T l, T p] h = .ret (.bool (preB l p)) h := if_pos (e := CR.bad 0) trivial
theorem hk36_30 (h : H) : k36 30 [.str signsS] h = retStrs signsL h := by
  show fieldsG [.str signsS] h = _
  unfold fieldsG
  simp only [bytes_same, sw]
noncomputable def S37 : List AV → H → CR := fun xs h => match xs with
  | [.str s] => if True then .ret ((signT s.data.toList).res) h else .bad 0
  | _ => .bad 0
noncomputable def k37 : Calls' := upd k36 37 S37
theorem ok37 : CallsOk Γ Tryd.prog k37 := (ok36).add mixed (F := LF37) (one_ok c37_ok) fun xs h r e hb => by
  unfold S37 at e
  split at e
  · rename_i s
    split at e
    · rename_i hc
      subst e
      rw [T_of s, ← signP_eq]
      exact ⟨_, comes_tells (t37 hk36_30 hk36_42 _ h) (by rw [signP_eq]; rfl)⟩
    · subst e; exact absurd rfl (hb 0)
  · subst e; exact absurd rfl (hb 0)
theorem hk37_47 (l : List UInt8) (h : H) : k37 47 [T l] h = .ret (.tup [.int .u8 ((quotB l).1.toNat : Int), .int .i64 ((quotB l).2 : Int)]) h := if_pos (e := CR.bad 0) trivial
noncomputable def S35 : List AV → H → CR := fun xs h => match xs with
  | [.str s] => if s.data.toList.length ≤ 1000000 then .ret ((textT s.data.toList).res) h else .bad 0
  | _ => .bad 0
noncomputable def k35 : Calls' := upd k37 35 S35
theorem ok35 : CallsOk Γ Tryd.prog k35 := (ok37).add mixed (F := LF35) (one_ok c35_ok) fun xs h r e hb => by
  unfold S35 at e
  split at e
  · rename_i s
    split at e
    · rename_i hc
      subst e
      rw [T_of s]
      exact ⟨_, comes_tells (t35 hk37_47 _ h hc) rfl⟩
    · subst e; exact absurd rfl (hb 0)
  · subst e; exact absurd rfl (hb 0)
theorem hk35_33 (l : List UInt8) (h : H) (hl : l.length ≤ 1000000) : k35 33 [T l] h = .ret (.tup [.int .i64 ((skipP l).1 : Nat), .bool (skipP l).2]) h := if_pos (e := CR.bad 0) hl
theorem hk35_34 (l : List UInt8) (h : H) (hl : l.length ≤ 1000000) : k35 34 [T l] h = .ret ((numT l).res) h := if_pos (e := CR.bad 0) hl
theorem hk35_35 (l : List UInt8) (h : H) (hl : l.length ≤ 1000000) : k35 35 [T l] h = .ret ((textT l).res) h := if_pos (e := CR.bad 0) hl
theorem hk35_36 (l : List UInt8) (h : H) (hl : l.length ≤ 1000000) : k35 36 [T l] h = .ret ((nameT l).res) h := if_pos (e := CR.bad 0) hl
theorem hk35_37 (l : List UInt8) (h : H) : k35 37 [T l] h = .ret ((signT l).res) h := if_pos (e := CR.bad 0) trivial
theorem orz {x y : Tk} {n : Nat} (h1 : x.z ≤ n) (h2 : y.z ≤ n) : (x.or y).z ≤ n := by unfold Tk.or; split <;> assumption
theorem numT_z (l : List UInt8) : (numT l).z ≤ l.length + 1 := by
  have := (List.takeWhile_sublist digB (l := l)).length_le
  unfold numT
  simp only
  split
  · simp
  · split
    · show (l.takeWhile digB).length ≤ _; omega
    · show (l.takeWhile digB).length ≤ _; omega
theorem textGo_z : ∀ (f n : Nat) (l acc : List UInt8), n ≤ l.length → (textGo f l n acc).2.1 ≤ l.length
  | 0, n, l, acc, h => h
  | f + 1, n, l, acc, h => by
    have hq := quotB_le (l.drop n)
    rw [List.length_drop] at hq
    by_cases hn : n < l.length
    · by_cases hx : ((l[n]).toNat : Int) = 34
      · rw [textGo_end hn hx]; exact h
      · rw [textGo_in hn hx]
        split
        · exact h
        · exact textGo_z f _ l _ (by omega)
    · rw [textGo_out hn]; exact h
theorem textT_z (l : List UInt8) : (textT l).z ≤ l.length + 1 := by
  cases l with
  | nil => simp [textT]
  | cons x r =>
    have := textGo_z ((x :: r).length + 1) 1 (x :: r) [] (by simp)
    unfold textT
    simp only
    split
    · split
      · show (textGo _ _ _ _).2.1 ≤ _; omega
      · split
        · show (textGo _ _ _ _).2.1 ≤ _; omega
        · show (textGo _ _ _ _).2.1 + 1 ≤ _; omega
    · simp
theorem nameT_z (l : List UInt8) : (nameT l).z ≤ l.length + 1 := by
  cases l with
  | nil => simp [nameT]
  | cons x r =>
    have := (List.takeWhile_sublist wordB (l := x :: r)).length_le
    unfold nameT
    simp only
    split
    · show ((x :: r).takeWhile wordB).length ≤ _; omega
    · simp
theorem firstS_in {l x : List UInt8} : ∀ {L : List (List UInt8)}, firstS l L = some x → preB l x = true
  | [], h => by cases h
  | y :: L, h => by
    rw [firstS_cons] at h
    split at h
    · rename_i hp; cases h; exact hp
    · exact firstS_in h
theorem signT_z (l : List UInt8) : (signT l).z ≤ l.length + 1 := by
  unfold signT
  split
  · rename_i x hx
    have := firstS_in hx
    unfold preB at this
    simp only [Bool.and_eq_true, decide_eq_true_eq] at this
    show x.length ≤ _
    omega
  · simp
theorem nextM_le {l : List UInt8} {a : Nat} (h : a ≤ l.length) : nextM l a ≤ l.length := by
  have := skip_le ((l.drop a).length + 1) (l.drop a)
  rw [List.length_drop] at this
  unfold nextM skipP
  rw [List.length_drop]
  omega
theorem nextT_z {l : List UInt8} {a : Nat} : (nextT l a).z ≤ l.length + 1 := by
  have h1 := numT_z (l.drop (nextM l a))
  have h2 := textT_z (l.drop (nextM l a))
  have h3 := nameT_z (l.drop (nextM l a))
  have h4 := signT_z (l.drop (nextM l a))
  rw [List.length_drop] at h1 h2 h3 h4
  exact orz (orz (orz (orz (by simp) (by omega)) (by omega)) (by omega)) (by omega)
noncomputable def S21 : List AV → H → CR := fun xs h => match xs with
  | [.str s, .int .i64 a] => if s.data.toList.length ≤ 1000000 ∧ 0 ≤ a ∧ a ≤ (s.data.toList.length : Int) then .ret (.tup [nextA s.data.toList a.toNat, .int .i64 ((nextM s.data.toList a.toNat + (nextT s.data.toList a.toNat).z : Nat) : Int)]) h else .bad 0
  | _ => .bad 0
noncomputable def k21 : Calls' := upd k35 21 S21
theorem ok21 : CallsOk Γ Tryd.prog k21 := (ok35).add mixed (F := LF21) (one_ok c21_ok) fun xs h r e hb => by
  unfold S21 at e
  split at e
  · rename_i s a
    split at e
    · rename_i hc
      subst e
      obtain ⟨n, rfl⟩ := Int.eq_ofNat_of_zero_le hc.2.1
      have hn : n ≤ s.data.toList.length := by omega
      rw [T_of s]
      generalize s.data.toList = l at *
      have hm := nextM_le hn
      have hd : (l.drop (nextM l n)).length ≤ 1000000 := by rw [List.length_drop]; omega
      have hd' : (l.drop n).length ≤ 1000000 := by rw [List.length_drop]; omega
      have hz := nextT_z (l := l) (a := n)
      exact ⟨10, comes_tells (t21 (n := (skipP (l.drop n)).1) (line := (skipP (l.drop n)).2) hc.1 rfl hm (fun h => hk35_33 _ h hd') _ _ _ _ (nextT l n) (fun h => hk35_34 _ h hd) (fun h => hk35_35 _ h hd) (fun h => hk35_36 _ h hd) (fun h => hk35_37 _ h) rfl (by omega)) rfl⟩
    · subst e; exact absurd rfl (hb 0)
  · subst e; exact absurd rfl (hb 0)
end Go.Proofs.Lx
