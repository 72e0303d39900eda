/- Numbers among words: digits, and what may stand behind. -/
import Derived.Test.YtlbooinipoaapaaDoorLxDig
set_option linter.unusedSimpArgs false
set_option linter.unusedVariables false
namespace Go.Proofs.Lx
open Go.Ev
theorem dig_of {c : UInt8} (h : digB c = true) : 48 ≤ c.toNat ∧ c.toNat ≤ 57 := by
  simp [digB, leI, geI] at h
  omega
theorem dig_to {c : UInt8} (h1 : 48 ≤ c.toNat) (h2 : c.toNat ≤ 57) : digB c = true := by
  simp [digB, leI, geI]
  omega
theorem numV_app (xs : List UInt8) (c : UInt8) (n : Nat) : numV (xs ++ [c]) n = digV (numV xs n) c := by
  unfold numV; rw [List.foldl_append]; rfl
theorem dec_dig : ∀ (u : Nat), ∀ c ∈ Lib.decDigits u, digB c = true := by
  intro u
  induction u using Nat.strongRecOn with
  | _ u ih =>
    intro c hc
    by_cases h : u < 10
    · rw [Lib.decDigits_one h, List.mem_singleton] at hc
      subst hc
      have : (UInt8.ofNat (48 + u)).toNat = 48 + u := by simp [UInt8.toNat_ofNat']; omega
      exact dig_to (by omega) (by omega)
    · rw [Lib.decDigits, dif_neg h] at hc
      rcases List.mem_append.1 hc with hc | hc
      · exact ih (u / 10) (by omega) c hc
      · rw [List.mem_singleton] at hc; subst hc
        have : (UInt8.ofNat (48 + u % 10)).toNat = 48 + u % 10 := by simp [UInt8.toNat_ofNat']; omega
        exact dig_to (by omega) (by omega)
theorem dec_num : ∀ (u : Nat), numV (Lib.decDigits u) 0 = min u 2147483648 := by
  intro u
  induction u using Nat.strongRecOn with
  | _ u ih =>
    by_cases h : u < 10
    · rw [Lib.decDigits_one h]
      have : (UInt8.ofNat (48 + u)).toNat = 48 + u := by simp [UInt8.toNat_ofNat']; omega
      show digV 0 (UInt8.ofNat (48 + u)) = _
      unfold digV; rw [this]; omega
    · rw [Lib.decDigits, dif_neg h, numV_app, ih (u / 10) (by omega)]
      have : (UInt8.ofNat (48 + u % 10)).toNat = 48 + u % 10 := by simp [UInt8.toNat_ofNat']; omega
      unfold digV; rw [this]; omega
theorem dec_head : ∀ (u : Nat), 0 < u → ∃ c r, Lib.decDigits u = c :: r ∧ ¬ (c.toNat : Int) = 48 := by
  intro u
  induction u using Nat.strongRecOn with
  | _ u ih =>
    intro hu
    by_cases h : u < 10
    · rw [Lib.decDigits_one h]
      have : (UInt8.ofNat (48 + u)).toNat = 48 + u := by simp [UInt8.toNat_ofNat']; omega
      exact ⟨_, [], rfl, by rw [this]; omega⟩
    · obtain ⟨c, r, h1, h2⟩ := ih (u / 10) (by omega) (by omega)
      rw [Lib.decDigits, dif_neg h, h1]
      exact ⟨c, _, rfl, h2⟩
theorem dec_len (u : Nat) : (u < 10 → (Lib.decDigits u).length = 1) := fun h => by rw [Lib.decDigits_one h]; rfl
/-- Behind digits no digit. -/
def NoDig (r : List UInt8) : Prop := ∀ c, r.head? = some c → digB c = false
theorem take_dig {ds r : List UInt8} (hd : ∀ c ∈ ds, digB c = true) (hr : NoDig r) : (ds ++ r).takeWhile digB = ds := by
  induction ds with
  | nil =>
    cases r with
    | nil => rfl
    | cons c r => simp only [List.nil_append, List.takeWhile_cons]; rw [hr c rfl]; rfl
  | cons d ds ih =>
    simp only [List.cons_append, List.takeWhile_cons]
    rw [hd d (by simp)]
    simp only [if_true]
    rw [ih (fun c hc => hd c (by simp [hc]))]
theorem ne_bytes {a b : UInt8} (h : a.toNat ≠ b.toNat) (x y : List UInt8) : bytesEq (a :: x) (b :: y) = false := by
  unfold bytesEq
  rw [natBeq, decide_eq_false h]
theorem pre_ne {d y : UInt8} (h : d.toNat ≠ y.toNat) (l ys : List UInt8) : preB (d :: l) (y :: ys) = false := by
  unfold preB
  show (decide _ && bytesEq (d :: (l.take ys.length)) (y :: ys)) = false
  rw [ne_bytes h, Bool.and_false]
theorem sign_dig {d : UInt8} {l : List UInt8} (h : digB d = true) : firstS (d :: l) signsL = none := by
  obtain ⟨h1, h2⟩ := dig_of h
  have key : ∀ (L : List (List UInt8)), (∀ x ∈ L, ∃ y ys, x = y :: ys ∧ (y.toNat < 48 ∨ 57 < y.toNat)) → firstS (d :: l) L = none := by
    intro L
    induction L with
    | nil => intro _; rfl
    | cons x L ih =>
      intro hL
      obtain ⟨y, ys, rfl, hy⟩ := hL x (by simp)
      rw [firstS_cons, pre_ne (by omega)]
      exact ih (fun x hx => hL x (by simp [hx]))
  refine key signsL ?_
  unfold signsL
  simp only [List.forall_mem_cons]
  refine ⟨?_, ?_, ?_, ?_, ?_, ?_, ?_, ?_, ?_, ?_, ?_, ?_, ?_, ?_, ?_, ?_, ?_, ?_, ?_, ?_, ?_, ?_, ?_, ?_, ?_, ?_, fun _ h => by cases h⟩
  all_goals exact ⟨_, _, rfl, by decide⟩
theorem skip_dig {d : UInt8} {l : List UInt8} (h : digB d = true) : skipP (d :: l) = (0, false) := by
  obtain ⟨h1, h2⟩ := dig_of h
  have hb : blankB d = false := by
    have ne : ∀ k : UInt8, k.toNat < 48 → (k == d) = false := fun k hk => by
      have : k ≠ d := fun e => by subst e; omega
      simpa using this
    unfold blankB Lib.indexByte Lib.indexByte Lib.indexByte Lib.indexByte Lib.indexByte
    rw [ne 9 (by decide), ne 10 (by decide), ne 13 (by decide), ne 32 (by decide)]
    decide
  unfold skipP
  rw [skipGo_cons, hb, pre_ne (by show d.toNat ≠ 47; omega)]
  rfl
theorem next_dig {ds r : List UInt8} (hne : ds ≠ []) (hd : ∀ c ∈ ds, digB c = true) (hr : NoDig r) :
    nextM (ds ++ r) 0 = 0 ∧ (skipP ((ds ++ r).drop 0)).2 = false ∧ nextT (ds ++ r) 0 = if numBad (ds ++ r) ds.length (numV ds 0) then ⟨6, ⟨#[]⟩, 0, ds.length⟩ else ⟨1, ⟨ds.toArray⟩, ((numV ds 0 : Nat) : Int), ds.length⟩ := by
  have ht := take_dig hd hr
  obtain ⟨d, es, rfl⟩ := List.exists_cons_of_ne_nil hne
  have h1 := hd d (by simp)
  have hs := skip_dig (l := es ++ r) h1
  have hm : nextM (d :: es ++ r) 0 = 0 := by
    unfold nextM
    show 0 + (skipP (d :: (es ++ r))).1 = 0
    rw [hs]
    rfl
  refine ⟨hm, by show (skipP (d :: (es ++ r))).2 = false; rw [hs], ?_⟩
  unfold nextT
  rw [hm]
  show (((Tk.or _ (numT (d :: es ++ r))).or (textT (d :: (es ++ r)))).or (nameT (d :: (es ++ r)))).or (signT (d :: (es ++ r))) = _
  obtain ⟨h2, h3⟩ := dig_of h1
  have e1 : textT (d :: (es ++ r)) = ⟨0, ⟨#[]⟩, 0, 0⟩ := by
    have : eqI d 34 = false := by simp [eqI]; omega
    simp [textT, this]
  have e2 : nameT (d :: (es ++ r)) = ⟨0, ⟨#[]⟩, 0, 0⟩ := by
    have : letB d = false := by simp [letB, leI, geI, eqI]; omega
    simp [nameT, this]
  have e3 : signT (d :: (es ++ r)) = ⟨0, ⟨#[]⟩, 0, 0⟩ := by
    unfold signT; rw [sign_dig h1]
  have e4 : numT (d :: es ++ r) = if numBad (d :: es ++ r) (d :: es).length (numV (d :: es) 0) then ⟨6, ⟨#[]⟩, 0, (d :: es).length⟩ else ⟨1, ⟨(d :: es).toArray⟩, ((numV (d :: es) 0 : Nat) : Int), (d :: es).length⟩ := by
    unfold numT
    simp only [ht]
    rw [if_neg (by simp), List.take_left' rfl]
  rw [e1, e2, e3, e4]
  generalize (Tk.mk _ _ _ _ : Tk) = b0
  split <;> simp [Tk.or]
end Go.Proofs.Lx
