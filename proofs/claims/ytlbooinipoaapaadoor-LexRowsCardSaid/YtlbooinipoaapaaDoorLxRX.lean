import Derived.Test.YtlbooinipoaapaaDoorLxRV
set_option linter.unusedSimpArgs false
set_option linter.unusedVariables false
set_option linter.unusedSectionVars false
namespace Go.Proofs.Lx
open Go.Ev
noncomputable def S24 : List AV → H → CR := fun xs h => match xs with
  | [.int .u8 n] => if Is8 n then .ret (.bool (digB (u8of n))) h else .bad 0
  | _ => .bad 0
noncomputable def k24 : Calls' := upd k12 24 S24
theorem ok24 : CallsOk Γ Tryd.prog k24 := ok12.add mixed (F := LF24) (one_ok c24_ok) fun xs h r e hb => by
  unfold S24 at e
  split at e
  · rename_i n
    split at e
    · rename_i hc
      subst e
      have t := t24 (call := k12) (u8of n) h
      rw [u8of_to hc.1 hc.2] at t
      exact ⟨1, comes_eq t rfl (.refl _)⟩
    · subst e; exact absurd rfl (hb 0)
  · subst e; exact absurd rfl (hb 0)
noncomputable def S27 : List AV → H → CR := fun xs h => match xs with
  | [.int .u8 n] => if Is8 n then .ret (.bool (letB (u8of n))) h else .bad 0
  | _ => .bad 0
noncomputable def k27 : Calls' := upd k24 27 S27
theorem ok27 : CallsOk Γ Tryd.prog k27 := ok24.add mixed (F := LF27) (one_ok c27_ok) fun xs h r e hb => by
  unfold S27 at e
  split at e
  · rename_i n
    split at e
    · rename_i hc
      subst e
      have t := t27 (call := k24) (u8of n) h
      rw [u8of_to hc.1 hc.2] at t
      exact ⟨1, comes_eq t rfl (.refl _)⟩
    · subst e; exact absurd rfl (hb 0)
  · subst e; exact absurd rfl (hb 0)
noncomputable def S23 : List AV → H → CR := fun xs h => match xs with
  | [.str s, .int .i64 a] => if s.data.toList.length ≤ 1000000 ∧ 0 ≤ a ∧ a ≤ (s.data.toList.length : Int) then .ret (.tup [.int .i64 ((a.toNat + (skipP (s.data.toList.drop a.toNat)).1 : Nat) : Int), .bool (skipP (s.data.toList.drop a.toNat)).2]) h else .bad 0
  | _ => .bad 0
noncomputable def k23 : Calls' := upd k27 23 S23
theorem ok23 : CallsOk Γ Tryd.prog k23 := ok27.add mixed (F := LF23) (one_ok c23_ok) fun xs h r e hb => by
  unfold S23 at e
  split at e
  · rename_i s a
    split at e
    · rename_i hc
      subst e
      obtain ⟨n, rfl⟩ := Int.eq_ofNat_of_zero_le hc.2.1
      rw [T_of s]
      exact ⟨_, comes_eq (t23 _ n h (by omega) hc.1) rfl (.refl _)⟩
    · subst e; exact absurd rfl (hb 0)
  · subst e; exact absurd rfl (hb 0)

set_option maxRecDepth 100000 in
theorem hk23_24 (c : UInt8) (h : H) : k23 24 [.int .u8 (c.toNat : Int)] h = .ret (.bool (digB c)) h := (if_pos (t := CR.ret (.bool (digB (u8of (c.toNat : Int)))) h) (e := CR.bad 0) (is8 c)).trans (by rw [u8of_nat])
set_option maxRecDepth 100000 in
theorem hk23_27 (c : UInt8) (h : H) : k23 27 [.int .u8 (c.toNat : Int)] h = .ret (.bool (letB c)) h := (if_pos (t := CR.ret (.bool (letB (u8of (c.toNat : Int)))) h) (e := CR.bad 0) (is8 c)).trans (by rw [u8of_nat])
def C25 (s : ByteArray) (a z1 : Int) (e : ByteArray) (z2 m : Int) : Prop := s.data.toList.length ≤ 1000000 ∧ 0 ≤ a ∧ a < (s.data.toList.length : Int) ∧ z1 = 0 ∧ sEq e ⟨#[]⟩ = true ∧ z2 = 0 ∧ 0 ≤ m
instance (s : ByteArray) (a z1 : Int) (e : ByteArray) (z2 m : Int) : Decidable (C25 s a z1 e z2 m) := by unfold C25; infer_instance
def digAt (l : List UInt8) (n : Nat) : Bool := match l[n]? with | some c => digB c | none => false
noncomputable def S25 : List AV → H → CR := fun xs h => match xs with
  | [.str s, .int .i64 a, .agg [.int .i64 z1, .str e, .int .i64 z2, .int .i64 m, .bool b]] => if C25 s a z1 e z2 m ∧ digAt s.data.toList a.toNat = true then .ret (.agg (((numT (s.data.toList.drop a.toNat)).sh a.toNat).found m.toNat b)) h else .bad 0
  | _ => .bad 0
noncomputable def k25 : Calls' := upd k23 25 S25
theorem ok25 : CallsOk Γ Tryd.prog k25 := ok23.add mixed (F := LF25) (one_ok c25_ok) fun xs h r e hb => by
  unfold S25 at e
  split at e
  · rename_i s a z1 e z2 m b
    split at e
    · rename_i hc
      subst e
      obtain ⟨q1, q2, q3, q4, q5, q6, q7⟩ := hc.1
      obtain ⟨n, rfl⟩ := Int.eq_ofNat_of_zero_le q2
      obtain ⟨k, rfl⟩ := Int.eq_ofNat_of_zero_le q7
      have q5 := sEq_iff.1 q5
      subst q4; subst q6; subst q5
      rw [T_of s]
      have hn : n < s.data.toList.length := by omega
      have hd : digB s.data.toList[n] = true := by
        have := hc.2
        unfold digAt at this
        rwa [Int.toNat_natCast, List.getElem?_eq_getElem hn] at this
      exact ⟨_, comes_tells (t25 (hk23_24) (hk23_27) _ n k b h q1 hn hd) rfl⟩
    · subst e; exact absurd rfl (hb 0)
  · subst e; exact absurd rfl (hb 0)
noncomputable def S26 : List AV → H → CR := fun xs h => match xs with
  | [.str s, .int .i64 a, .agg [.int .i64 z1, .str e, .int .i64 z2, .int .i64 m, .bool b]] => if C25 s a z1 e z2 m then .ret (.agg ((rqT s.data.toList a.toNat).found m.toNat b)) h else .bad 0
  | _ => .bad 0
noncomputable def k26 : Calls' := upd k25 26 S26
theorem ok26 : CallsOk Γ Tryd.prog k26 := ok25.add mixed (F := LF26) (one_ok c26_ok) fun xs h r e hb => by
  unfold S26 at e
  split at e
  · rename_i s a z1 e z2 m b
    split at e
    · rename_i hc
      subst e
      obtain ⟨q1, q2, q3, q4, q5, q6, q7⟩ := hc
      obtain ⟨n, rfl⟩ := Int.eq_ofNat_of_zero_le q2
      obtain ⟨k, rfl⟩ := Int.eq_ofNat_of_zero_le q7
      have q5 := sEq_iff.1 q5
      subst q4; subst q6; subst q5
      rw [T_of s]
      have hn : n < s.data.toList.length := by omega
      exact ⟨_, comes_tells (t26 _ n k b h q1 hn) rfl⟩
    · subst e; exact absurd rfl (hb 0)
  · subst e; exact absurd rfl (hb 0)

noncomputable def S31 : List AV → H → CR := fun xs h => match xs with
  | [.sl p 1 0 n, .str s] => (match Ev.get p h.t with
    | some b => if b.map = false ∧ b.k = 1 ∧ n ≤ 1000000 then (match strsIn b.rows n 0 with | some L => .ret (.bool (!decide (idxS s L 0 < 0))) h | none => .bad 0) else .bad 0
    | none => .bad 0)
  | _ => .bad 0
noncomputable def k31 : Calls' := upd k26 31 S31
theorem ok31 : CallsOk Γ Tryd.prog k31 := ok26.add mixed (F := LF31) (one_ok c31_ok) fun xs h r e hb => by
  unfold S31 at e
  split at e
  · rename_i p n s
    split at e
    · rename_i b hg
      split at e
      · rename_i hc
        split at e
        · rename_i L hL
          subst e
          obtain ⟨h1, h2⟩ := strsIn_at hL
          subst h1
          exact ⟨_, comes_eq (t31 hg hc.1 hc.2.1 (fun j hj => by have := h2 j hj; rwa [Nat.zero_add] at this) hc.2.2) rfl (.refl _)⟩
        · subst e; exact absurd rfl (hb 0)
      · subst e; exact absurd rfl (hb 0)
    · subst e; exact absurd rfl (hb 0)
  · subst e; exact absurd rfl (hb 0)
noncomputable def S32 : List AV → H → CR := fun xs h => match xs with
  | [] => .ret (.sl h.next 1 0 19) (h.new wB)
  | _ => .bad 0
noncomputable def k32 : Calls' := upd k31 32 S32
theorem ok32 : CallsOk Γ Tryd.prog k32 := ok31.add mixed (F := LF32) (one_ok c32_ok) fun xs h r e hb => by
  unfold S32 at e
  split at e
  · subst e
    exact ⟨1, .inl ((Classical.choose_spec t32).1 _ h)⟩
  · subst e; exact absurd rfl (hb 0)
theorem strsIn_of {rows : Tr (List AV)} : ∀ (L : List ByteArray) (i : Nat), (∀ (j : Nat) (hj : j < L.length), Ev.get (pathOf (i + j)) rows = some [.str L[j]]) → strsIn rows L.length i = some L
  | [], _, _ => rfl
  | x :: L, i, h => by
    have h0 := h 0 (by simp)
    have ih := strsIn_of L (i + 1) (fun j hj => by
      have := h (j + 1) (by simpa using hj)
      rw [show i + 1 + j = i + (j + 1) by omega, this]
      simp)
    show strsIn rows (L.length + 1) i = _
    unfold strsIn
    have h0' : Ev.get (pathOf i) rows = some [.str x] := by simpa using h0
    rw [h0']
    simp only
    rw [ih]
theorem wB_strs : strsIn wB.rows 19 0 = some (wordsL.map fun x => ⟨x.toArray⟩) := by
  obtain ⟨_, _, _, q⟩ := Classical.choose_spec t32
  have hl : (wordsL.map fun x => (⟨x.toArray⟩ : ByteArray)).length = 19 := by rw [List.length_map]; decide
  have := strsIn_of (rows := wB.rows) (wordsL.map fun x => ⟨x.toArray⟩) 0 (fun j hj => by
    rw [Nat.zero_add]
    have hj' : j < wordsL.length := by simpa using hj
    have := q j hj'
    rw [List.getElem_map]
    exact this)
  rwa [hl] at this
theorem hk32_31 (s : ByteArray) (p : Path) (h : H) (hg : Ev.get p h.t = some wB) : k32 31 [.sl p 1 0 19, .str s] h = .ret (.bool (isW s)) h := by
  obtain ⟨_, q1, q2, _⟩ := Classical.choose_spec t32
  show S31 [.sl p 1 0 19, .str s] h = _
  unfold S31
  simp only [hg, wB_strs]
  rw [if_pos ⟨q1, q2, by decide⟩]
  rfl
theorem hk32_32 (h : H) : k32 32 [] h = .ret (.sl h.next 1 0 19) (h.new wB) := rfl
noncomputable def S20 : List AV → H → CR := fun xs h => match xs with
  | [.str s] => if True then .ret (.bool (isW s)) h else .bad 0
  | _ => .bad 0
noncomputable def k20 : Calls' := upd k32 20 S20
theorem ok20 : CallsOk Γ Tryd.prog k20 := ok32.add mixed (F := LF20) (one_ok c20_ok) fun xs h r e hb => by
  unfold S20 at e
  split at e
  · rename_i s
    split at e
    · rename_i hc
      subst e
      exact ⟨1, comes_tells (t20 s h hk32_32 (hk32_31 s)) rfl⟩
    · subst e; exact absurd rfl (hb 0)
  · subst e; exact absurd rfl (hb 0)

noncomputable def S28 : List AV → H → CR := fun xs h => match xs with
  | [] => .ret (.sl h.next 1 0 26) (h.new sB)
  | _ => .bad 0
noncomputable def k28 : Calls' := upd k20 28 S28
theorem ok28 : CallsOk Γ Tryd.prog k28 := ok20.add mixed (F := LF28) (one_ok c28_ok) fun xs h r e hb => by
  unfold S28 at e
  split at e
  · subst e
    exact ⟨1, .inl ((Classical.choose_spec t28).1 _ h)⟩
  · subst e; exact absurd rfl (hb 0)
set_option maxRecDepth 100000 in
theorem hk28_24 (c : UInt8) (h : H) : k28 24 [.int .u8 (c.toNat : Int)] h = .ret (.bool (digB c)) h := hk23_24 c h
set_option maxRecDepth 100000 in
theorem hk28_27 (c : UInt8) (h : H) : k28 27 [.int .u8 (c.toNat : Int)] h = .ret (.bool (letB c)) h := hk23_27 c h
theorem hk28_20 (s : ByteArray) (h : H) : k28 20 [.str s] h = .ret (.bool (isW s)) h := if_pos (e := CR.bad 0) trivial
theorem hk28_28 (h : H) : k28 28 [] h = .ret (.sl h.next 1 0 26) (h.new sB) := rfl
theorem C25_of (l : List UInt8) (a m : Nat) (hl : l.length ≤ 1000000) (ha : a < l.length) : C25 ⟨l.toArray⟩ (a : Int) 0 ⟨#[]⟩ 0 (m : Int) := ⟨by simpa using hl, by omega, by simpa using ha, rfl, rfl, rfl, by omega⟩
theorem hk28_25 (l : List UInt8) (a m : Nat) (b : Bool) (h : H) (hl : l.length ≤ 1000000) (ha : a < l.length) (hd : digB l[a] = true) : k28 25 [T l, .int .i64 (a : Int), .agg [.int .i64 0, .str ⟨#[]⟩, .int .i64 0, .int .i64 (m : Int), .bool b]] h = .ret (.agg (((numT (l.drop a)).sh a).found m b)) h := by
  have hd' : digAt (⟨l.toArray⟩ : ByteArray).data.toList (a : Int).toNat = true := by
    unfold digAt
    simp only [Int.toNat_natCast]
    rw [List.getElem?_eq_getElem ha]
    exact hd
  show S25 [T l, .int .i64 (a : Int), .agg [.int .i64 0, .str ⟨#[]⟩, .int .i64 0, .int .i64 (m : Int), .bool b]] h = _
  unfold S25
  simp only
  rw [if_pos ⟨C25_of l a m hl ha, hd'⟩]
  simp
theorem hk28_26 (l : List UInt8) (a m : Nat) (b : Bool) (h : H) (hl : l.length ≤ 1000000) (ha : a < l.length) : k28 26 [T l, .int .i64 (a : Int), .agg [.int .i64 0, .str ⟨#[]⟩, .int .i64 0, .int .i64 (m : Int), .bool b]] h = .ret (.agg ((rqT l a).found m b)) h := by
  show S26 [T l, .int .i64 (a : Int), .agg [.int .i64 0, .str ⟨#[]⟩, .int .i64 0, .int .i64 (m : Int), .bool b]] h = _
  unfold S26
  simp only
  rw [if_pos (C25_of l a m hl ha)]
  simp
theorem hk28_23 (l : List UInt8) (n : Nat) (h : H) (hl : l.length ≤ 1000000) (hn : n ≤ l.length) : k28 23 [T l, .int .i64 (n : Int)] h = .ret (.tup [.int .i64 ((nextM l n : Nat) : Int), .bool (skipP (l.drop n)).2]) h := by
  show S23 [T l, .int .i64 (n : Int)] h = _
  unfold S23
  simp only
  rw [if_pos ⟨by simpa using hl, by omega, by simpa using hn⟩]
  simp [nextM]
noncomputable def S15 : List AV → H → CR := fun xs h => match xs with
  | [.str s, .int .i64 n] => if s.data.toList.length ≤ 1000000 then .ret (refA s.data.toList n) h else .bad 0
  | _ => .bad 0
noncomputable def k15 : Calls' := upd k28 15 S15
theorem ok15 : CallsOk Γ Tryd.prog k15 := ok28.add mixed (F := LF15) (one_ok c15_ok) fun xs h r e hb => by
  unfold S15 at e
  split at e
  · rename_i s n
    split at e
    · rename_i hc
      subst e
      rw [T_of s]
      exact ⟨_, comes_tells (t15 hk28_24 hk28_27 hk28_20 hk28_25 hk28_26 hk28_28 hk28_23 _ n h hc) rfl⟩
    · subst e; exact absurd rfl (hb 0)
  · subst e; exact absurd rfl (hb 0)
theorem hk15_15 (l : List UInt8) (n : Int) (h : H) (hl : l.length ≤ 1000000) : k15 15 [T l, .int .i64 n] h = .ret (refA l n) h := by
  show S15 [T l, .int .i64 n] h = _
  unfold S15
  simp only
  rw [if_pos (by simpa using hl)]
end Go.Proofs.Lx
