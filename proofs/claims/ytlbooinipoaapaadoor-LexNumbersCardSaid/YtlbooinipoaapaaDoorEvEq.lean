/- The evaluator's own comparisons and sums are the model's. -/
import Derived.Test.YtlbooinipoaapaaDoorEvRel
import Derived.Laws.BitsLemmas
namespace Go.Ev

theorem keq_eq {j k : IntKind} (h : keq j k = true) : j = k := by
  unfold keq at h
  split at h
  · rfl
  · rfl
  · exact of_decide_eq_true h
theorem keq_self (k : IntKind) : keq k k = true := by cases k <;> rfl
theorem keq_ne {j k : IntKind} (h : keq j k = false) : j ≠ k := by
  intro e; subst e; rw [keq_self] at h; cases h
theorem natBeq (a b : Nat) : Nat.beq a b = decide (a = b) := Bool.eq_iff_iff.2 ⟨fun h => decide_eq_true (Nat.eq_of_beq_eq_true h), fun h => by rw [of_decide_eq_true h]; exact Nat.beq_refl b⟩
theorem natBlt (a b : Nat) : Nat.blt a b = decide (a < b) := Bool.eq_iff_iff.2 ⟨fun h => decide_eq_true (Nat.blt_eq ▸ h), fun h => by rw [Nat.blt_eq]; exact of_decide_eq_true h⟩
theorem ieq_iff (a b : Int) : ieq a b = decide (a = b) := by
  cases a <;> cases b <;> simp [ieq, natBeq]
  all_goals omega
theorem ieq_beq (a b : Int) : ieq a b = (a == b) := by rw [ieq_iff]; rfl
theorem ilt_iff (a b : Int) : ilt a b = decide (a < b) := by
  cases a with
  | ofNat a => cases b with
    | ofNat b => simp [ilt, natBlt]
    | negSucc b => exact (decide_eq_false (by simp only [Int.ofNat_eq_natCast]; omega)).symm
  | negSucc a => cases b with
    | ofNat b => exact (decide_eq_true (by simp only [Int.ofNat_eq_natCast]; omega)).symm
    | negSucc b => exact Bool.eq_iff_iff.2 (by simp only [ilt, natBlt, decide_eq_true_eq]; omega)
theorem wrapF_eq (k : IntKind) (n : Int) : wrapF k n = k.wrap n := by
  unfold wrapF
  split
  · split
    · split
      · rename_i m h
        have := of_decide_eq_true ((natBlt _ _) ▸ h)
        rw [IntKind.wrap_i64]; simp only [Int.ofNat_eq_natCast]; omega
      · rfl
    · split
      · rename_i m h
        have := of_decide_eq_true ((natBlt _ _) ▸ h)
        rw [IntKind.wrap_i64]; omega
      · rfl
  · rfl
theorem bytesEq_iff : ∀ (x y : List UInt8), bytesEq x y = (x == y)
  | [], [] => rfl
  | [], _ :: _ => rfl
  | _ :: _, [] => rfl
  | a :: x, b :: y => by
    have ih := bytesEq_iff x y
    have e : (a :: x == b :: y) = (a == b && x == y) := rfl
    simp only [bytesEq]
    rw [e, ← ih]
    cases h : Nat.beq a.toNat b.toNat with
    | true =>
      have : a = b := UInt8.toNat_inj.1 (Nat.eq_of_beq_eq_true h)
      subst this
      simp
    | false =>
      have : a ≠ b := fun e => by subst e; simp at h
      simp [beq_eq_false_iff_ne.2 this]
theorem bytesEq_eq {x y : List UInt8} (h : bytesEq x y = true) : x = y := by
  rw [bytesEq_iff] at h; exact eq_of_beq h
theorem deq_eq {u v : D} (h : deq u v = true) : u = v := by cases u <;> cases v <;> first | rfl | cases h
theorem peq_eq : ∀ {p q : Path}, peq p q = true → p = q
  | [], [], _ => rfl
  | [], _ :: _, h => by simp [peq] at h
  | _ :: _, [], h => by simp [peq] at h
  | u :: x, v :: y, h => by
    simp only [peq] at h
    split at h
    · rename_i e; rw [deq_eq e, peq_eq h]
    · cases h
theorem str_eq {a b : ByteArray} (h : bytesEq a.data.toList b.data.toList = true) : a = b := by
  have := bytesEq_eq h
  cases a; cases b
  congr 1
  exact Array.toList_inj.1 this

mutual
theorem aveq_eq : ∀ {x y : AV}, aveq x y = true → x = y
  | .bool a, y, h => by cases y <;> simp only [aveq] at h <;> first | cases h | (cases a <;> simp_all)
  | .int j a, y, h => by
    cases y <;> simp only [aveq] at h <;> first
      | cases h
      | (split at h
         · rename_i e; rw [ieq_iff] at h; rw [keq_eq e, of_decide_eq_true h]
         · cases h)
  | .res _ _ _, y, h => by cases y <;> simp [aveq] at h
  | .str a, y, h => by cases y <;> simp only [aveq] at h <;> first | cases h | rw [str_eq h]
  | .ptr p o, y, h => by
    cases y <;> simp only [aveq] at h <;> first
      | cases h
      | (split at h
         · rename_i e; rw [peq_eq e, Nat.eq_of_beq_eq_true h]
         · cases h)
  | .nilp, y, h => by cases y <;> simp only [aveq] at h <;> first | rfl | cases h
  | .sl p k i n, y, h => by
    cases y <;> simp only [aveq] at h <;> first
      | cases h
      | (split at h
         · rename_i e1 e2 e3; rw [peq_eq e1, Nat.eq_of_beq_eq_true e2, Nat.eq_of_beq_eq_true e3, Nat.eq_of_beq_eq_true h]
         · cases h)
  | .sle, y, h => by cases y <;> simp only [aveq] at h <;> first | rfl | cases h
  | .nils, y, h => by cases y <;> simp only [aveq] at h <;> first | rfl | cases h
  | .fn f a c, y, h => by
    cases y <;> simp only [aveq] at h <;> first
      | cases h
      | (split at h
         · rename_i e1 e2; rw [Nat.eq_of_beq_eq_true e1, avseq_eq e2, avseq_eq h]
         · cases h)
  | .nilfn, y, h => by cases y <;> simp only [aveq] at h <;> first | rfl | cases h
  | .ifc t a, y, h => by
    cases y <;> simp only [aveq] at h <;> first
      | cases h
      | (split at h
         · rename_i e; rw [Nat.eq_of_beq_eq_true e, aveq_eq h]
         · cases h)
  | .nilif, y, h => by cases y <;> simp only [aveq] at h <;> first | rfl | cases h
  | .mp p, y, h => by cases y <;> simp only [aveq] at h <;> first | rw [peq_eq h] | cases h
  | .nilm, y, h => by cases y <;> simp only [aveq] at h <;> first | rfl | cases h
  | .agg l, y, h => by cases y <;> simp only [aveq] at h <;> first | cases h | rw [avseq_eq h]
  | .tup l, y, h => by cases y <;> simp only [aveq] at h <;> first | cases h | rw [avseq_eq h]
theorem avseq_eq : ∀ {x y : List AV}, avseq x y = true → x = y
  | [], y, h => by cases y <;> simp [avseq] at h; rfl
  | a :: x, y, h => by
    cases y with
    | nil => simp [avseq] at h
    | cons b y =>
      simp only [avseq] at h
      split at h
      · rename_i e; rw [aveq_eq e, avseq_eq h]
      · cases h
end
end Go.Ev
