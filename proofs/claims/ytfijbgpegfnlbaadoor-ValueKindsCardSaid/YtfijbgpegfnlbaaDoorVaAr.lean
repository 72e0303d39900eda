/- Signs: what the program's functions and the reference's make of values. -/
import Derived.Test.YtfijbgpegfnlbaaDoorVaDig
set_option linter.unusedSimpArgs false
set_option linter.unusedVariables false
namespace Go.Proofs.Va
open Go.Ev
theorem F_36 : F 36 = some c36 := rfl
theorem F_40 : F 40 = some c40 := rfl
theorem F_24 : F 24 = some c24 := rfl
theorem F_31 : F 31 = some c31 := rfl
theorem F_43 : F 43 = some c43 := rfl
theorem F_48 : F 48 = some c48 := rfl
theorem F_41 : F 41 = some c41 := rfl
theorem F_30 : F 30 = some c30 := rfl
theorem F_26 : F 26 = some c26 := rfl
theorem F_46 : F 46 = some c46 := rfl
theorem F_47 : F 47 = some c47 := rfl
theorem F_42 : F 42 = some c42 := rfl
theorem F_37 : F 37 = some c37 := rfl
theorem F_38 : F 38 = some c38 := rfl
theorem F_39 : F 39 = some c39 := rfl
theorem F_25 : F 25 = some c25 := rfl
theorem F_27 : F 27 = some c27 := rfl
theorem F_28 : F 28 = some c28 := rfl
theorem F_29 : F 29 = some c29 := rfl
variable (call : Calls') (h : H)
def numIn (n : Int) : Bool := decide (-2147483648 ≤ n) && decide (n ≤ 2147483647)
def b01 (b : Bool) : Int := if b then 1 else 0
/-- A value, and an error, apart; in one. -/
abbrev two (k n : Int) (s : ByteArray) (e : Int) : AV := .tup [V k n s, .int .i64 e]
abbrev one4 (k n : Int) (s : ByteArray) (e : Int) : AV := .agg [.int .i64 k, .int .i64 n, .str s, .int .i64 e]
theorem t36 (b : Bool) : evFun F call 100 36 [.bool b] h = .ret (V 2 (b01 b) emp) ⟨h.next, h.t, h.gen + 1⟩ := by
  cases b <;> simp [evFun, F_36, c36, b01, V, emp]
theorem t31 (b : Bool) : evFun F call 100 31 [.bool b] h = .ret (V 2 (b01 b) emp) ⟨h.next, h.t, h.gen + 1⟩ := by
  cases b <;> simp [evFun, F_31, c31, b01, V, emp]
theorem t24 (n : Int) : evFun F call 100 24 [.int .i64 n] h = .ret (V 3 n emp) ⟨h.next, h.t, h.gen + 1⟩ := by
  simp [evFun, F_24, c24, V, emp]
theorem t48 (n : Int) : evFun F call 100 48 [.int .i64 n] h = .ret (V 3 n emp) ⟨h.next, h.t, h.gen + 1⟩ := by
  simp [evFun, F_48, c48, V, emp]
theorem t43 (s : ByteArray) : evFun F call 100 43 [.str s] h = .ret (V 4 0 s) ⟨h.next, h.t, h.gen + 1⟩ := by
  simp [evFun, F_43, c43, V]
theorem t40 (n : Int) : evFun F call 100 40 [.int .i64 n] h = .ret (if numIn n then two 3 n emp 0 else two 0 0 emp 7) ⟨h.next, h.t, h.gen + 1⟩ := by
  unfold numIn
  by_cases h1 : n < -2147483648 <;> by_cases h2 : 2147483647 < n <;> by_cases h3 : -2147483648 ≤ n <;> by_cases h4 : n ≤ 2147483647 <;> first | omega | simp [evFun, F_40, c40, V, emp, h1, h2, h3, h4]
theorem t41 (hc : ∀ n h, call 48 [.int .i64 n] h = .ret (V 3 n emp) h) (n : Int) : evFun F call 100 41 [.int .i64 n] h = .ret (if numIn n then one4 3 n emp 0 else one4 0 0 emp 7) ⟨h.next, h.t, h.gen + 1⟩ := by
  unfold numIn
  by_cases h1 : n < -2147483648 <;> by_cases h2 : 2147483647 < n <;> by_cases h3 : -2147483648 ≤ n <;> by_cases h4 : n ≤ 2147483647 <;> first | omega | simp [evFun, F_41, c41, V, emp, h1, h2, h3, h4, hc]
theorem t30 (n : Int) : evFun F call 100 30 [.int .i64 n] h = .ret (.bool (numIn n)) h := by
  unfold numIn
  by_cases h1 : n < -2147483648 <;> by_cases h2 : 2147483647 < n <;> by_cases h3 : -2147483648 ≤ n <;> by_cases h4 : n ≤ 2147483647 <;> first | omega | simp [evFun, F_30, c30, h1, h2, h3, h4]
theorem t26 (e : Int) : evFun F call 100 26 [.int .i64 e] h = .ret (.int .i64 e) h := by
  simp [evFun, F_26, c26]
abbrev gEq : ByteArray := ⟨#[61, 61, 61]⟩
abbrev gNe : ByteArray := ⟨#[33, 61, 61]⟩
abbrev gLt : ByteArray := ⟨#[60]⟩
abbrev gLe : ByteArray := ⟨#[60, 61]⟩
abbrev gGt : ByteArray := ⟨#[62]⟩
abbrev gGe : ByteArray := ⟨#[62, 61]⟩
abbrev gAdd : ByteArray := ⟨#[43]⟩
abbrev gSub : ByteArray := ⟨#[45]⟩
abbrev gMul : ByteArray := ⟨#[42]⟩
abbrev gDiv : ByteArray := ⟨#[47]⟩
abbrev gRem : ByteArray := ⟨#[37]⟩
abbrev gNot : ByteArray := ⟨#[33]⟩
theorem signs (s : ByteArray) : s = gEq ∨ s = gNe ∨ s = gLt ∨ s = gLe ∨ s = gGt ∨ s = gGe ∨ s = gAdd ∨ s = gSub ∨ s = gMul ∨ s = gDiv ∨ s = gRem ∨ s = gNot ∨ (sEq s gEq = false ∧ sEq s gNe = false ∧ sEq s gLt = false ∧ sEq s gLe = false ∧ sEq s gGt = false ∧ sEq s gGe = false ∧ sEq s gAdd = false ∧ sEq s gSub = false ∧ sEq s gMul = false ∧ sEq s gDiv = false ∧ sEq s gRem = false ∧ sEq s gNot = false) := by
  simp only [← Bool.not_eq_true, sEq_iff]
  grind
@[simp] theorem q_gEq_gNe : sEq gEq gNe = false := by decide
@[simp] theorem q_gEq_gLt : sEq gEq gLt = false := by decide
@[simp] theorem q_gEq_gLe : sEq gEq gLe = false := by decide
@[simp] theorem q_gEq_gGt : sEq gEq gGt = false := by decide
@[simp] theorem q_gEq_gGe : sEq gEq gGe = false := by decide
@[simp] theorem q_gEq_gAdd : sEq gEq gAdd = false := by decide
@[simp] theorem q_gEq_gSub : sEq gEq gSub = false := by decide
@[simp] theorem q_gEq_gMul : sEq gEq gMul = false := by decide
@[simp] theorem q_gEq_gDiv : sEq gEq gDiv = false := by decide
@[simp] theorem q_gEq_gRem : sEq gEq gRem = false := by decide
@[simp] theorem q_gEq_gNot : sEq gEq gNot = false := by decide
@[simp] theorem q_gNe_gEq : sEq gNe gEq = false := by decide
@[simp] theorem q_gNe_gLt : sEq gNe gLt = false := by decide
@[simp] theorem q_gNe_gLe : sEq gNe gLe = false := by decide
@[simp] theorem q_gNe_gGt : sEq gNe gGt = false := by decide
@[simp] theorem q_gNe_gGe : sEq gNe gGe = false := by decide
@[simp] theorem q_gNe_gAdd : sEq gNe gAdd = false := by decide
@[simp] theorem q_gNe_gSub : sEq gNe gSub = false := by decide
@[simp] theorem q_gNe_gMul : sEq gNe gMul = false := by decide
@[simp] theorem q_gNe_gDiv : sEq gNe gDiv = false := by decide
@[simp] theorem q_gNe_gRem : sEq gNe gRem = false := by decide
@[simp] theorem q_gNe_gNot : sEq gNe gNot = false := by decide
@[simp] theorem q_gLt_gEq : sEq gLt gEq = false := by decide
@[simp] theorem q_gLt_gNe : sEq gLt gNe = false := by decide
@[simp] theorem q_gLt_gLe : sEq gLt gLe = false := by decide
@[simp] theorem q_gLt_gGt : sEq gLt gGt = false := by decide
@[simp] theorem q_gLt_gGe : sEq gLt gGe = false := by decide
@[simp] theorem q_gLt_gAdd : sEq gLt gAdd = false := by decide
@[simp] theorem q_gLt_gSub : sEq gLt gSub = false := by decide
@[simp] theorem q_gLt_gMul : sEq gLt gMul = false := by decide
@[simp] theorem q_gLt_gDiv : sEq gLt gDiv = false := by decide
@[simp] theorem q_gLt_gRem : sEq gLt gRem = false := by decide
@[simp] theorem q_gLt_gNot : sEq gLt gNot = false := by decide
@[simp] theorem q_gLe_gEq : sEq gLe gEq = false := by decide
@[simp] theorem q_gLe_gNe : sEq gLe gNe = false := by decide
@[simp] theorem q_gLe_gLt : sEq gLe gLt = false := by decide
@[simp] theorem q_gLe_gGt : sEq gLe gGt = false := by decide
@[simp] theorem q_gLe_gGe : sEq gLe gGe = false := by decide
@[simp] theorem q_gLe_gAdd : sEq gLe gAdd = false := by decide
@[simp] theorem q_gLe_gSub : sEq gLe gSub = false := by decide
@[simp] theorem q_gLe_gMul : sEq gLe gMul = false := by decide
@[simp] theorem q_gLe_gDiv : sEq gLe gDiv = false := by decide
@[simp] theorem q_gLe_gRem : sEq gLe gRem = false := by decide
@[simp] theorem q_gLe_gNot : sEq gLe gNot = false := by decide
@[simp] theorem q_gGt_gEq : sEq gGt gEq = false := by decide
@[simp] theorem q_gGt_gNe : sEq gGt gNe = false := by decide
@[simp] theorem q_gGt_gLt : sEq gGt gLt = false := by decide
@[simp] theorem q_gGt_gLe : sEq gGt gLe = false := by decide
@[simp] theorem q_gGt_gGe : sEq gGt gGe = false := by decide
@[simp] theorem q_gGt_gAdd : sEq gGt gAdd = false := by decide
@[simp] theorem q_gGt_gSub : sEq gGt gSub = false := by decide
@[simp] theorem q_gGt_gMul : sEq gGt gMul = false := by decide
@[simp] theorem q_gGt_gDiv : sEq gGt gDiv = false := by decide
@[simp] theorem q_gGt_gRem : sEq gGt gRem = false := by decide
@[simp] theorem q_gGt_gNot : sEq gGt gNot = false := by decide
@[simp] theorem q_gGe_gEq : sEq gGe gEq = false := by decide
@[simp] theorem q_gGe_gNe : sEq gGe gNe = false := by decide
@[simp] theorem q_gGe_gLt : sEq gGe gLt = false := by decide
@[simp] theorem q_gGe_gLe : sEq gGe gLe = false := by decide
@[simp] theorem q_gGe_gGt : sEq gGe gGt = false := by decide
@[simp] theorem q_gGe_gAdd : sEq gGe gAdd = false := by decide
@[simp] theorem q_gGe_gSub : sEq gGe gSub = false := by decide
@[simp] theorem q_gGe_gMul : sEq gGe gMul = false := by decide
@[simp] theorem q_gGe_gDiv : sEq gGe gDiv = false := by decide
@[simp] theorem q_gGe_gRem : sEq gGe gRem = false := by decide
@[simp] theorem q_gGe_gNot : sEq gGe gNot = false := by decide
@[simp] theorem q_gAdd_gEq : sEq gAdd gEq = false := by decide
@[simp] theorem q_gAdd_gNe : sEq gAdd gNe = false := by decide
@[simp] theorem q_gAdd_gLt : sEq gAdd gLt = false := by decide
@[simp] theorem q_gAdd_gLe : sEq gAdd gLe = false := by decide
@[simp] theorem q_gAdd_gGt : sEq gAdd gGt = false := by decide
@[simp] theorem q_gAdd_gGe : sEq gAdd gGe = false := by decide
@[simp] theorem q_gAdd_gSub : sEq gAdd gSub = false := by decide
@[simp] theorem q_gAdd_gMul : sEq gAdd gMul = false := by decide
@[simp] theorem q_gAdd_gDiv : sEq gAdd gDiv = false := by decide
@[simp] theorem q_gAdd_gRem : sEq gAdd gRem = false := by decide
@[simp] theorem q_gAdd_gNot : sEq gAdd gNot = false := by decide
@[simp] theorem q_gSub_gEq : sEq gSub gEq = false := by decide
@[simp] theorem q_gSub_gNe : sEq gSub gNe = false := by decide
@[simp] theorem q_gSub_gLt : sEq gSub gLt = false := by decide
@[simp] theorem q_gSub_gLe : sEq gSub gLe = false := by decide
@[simp] theorem q_gSub_gGt : sEq gSub gGt = false := by decide
@[simp] theorem q_gSub_gGe : sEq gSub gGe = false := by decide
@[simp] theorem q_gSub_gAdd : sEq gSub gAdd = false := by decide
@[simp] theorem q_gSub_gMul : sEq gSub gMul = false := by decide
@[simp] theorem q_gSub_gDiv : sEq gSub gDiv = false := by decide
@[simp] theorem q_gSub_gRem : sEq gSub gRem = false := by decide
@[simp] theorem q_gSub_gNot : sEq gSub gNot = false := by decide
@[simp] theorem q_gMul_gEq : sEq gMul gEq = false := by decide
@[simp] theorem q_gMul_gNe : sEq gMul gNe = false := by decide
@[simp] theorem q_gMul_gLt : sEq gMul gLt = false := by decide
@[simp] theorem q_gMul_gLe : sEq gMul gLe = false := by decide
@[simp] theorem q_gMul_gGt : sEq gMul gGt = false := by decide
@[simp] theorem q_gMul_gGe : sEq gMul gGe = false := by decide
@[simp] theorem q_gMul_gAdd : sEq gMul gAdd = false := by decide
@[simp] theorem q_gMul_gSub : sEq gMul gSub = false := by decide
@[simp] theorem q_gMul_gDiv : sEq gMul gDiv = false := by decide
@[simp] theorem q_gMul_gRem : sEq gMul gRem = false := by decide
@[simp] theorem q_gMul_gNot : sEq gMul gNot = false := by decide
@[simp] theorem q_gDiv_gEq : sEq gDiv gEq = false := by decide
@[simp] theorem q_gDiv_gNe : sEq gDiv gNe = false := by decide
@[simp] theorem q_gDiv_gLt : sEq gDiv gLt = false := by decide
@[simp] theorem q_gDiv_gLe : sEq gDiv gLe = false := by decide
@[simp] theorem q_gDiv_gGt : sEq gDiv gGt = false := by decide
@[simp] theorem q_gDiv_gGe : sEq gDiv gGe = false := by decide
@[simp] theorem q_gDiv_gAdd : sEq gDiv gAdd = false := by decide
@[simp] theorem q_gDiv_gSub : sEq gDiv gSub = false := by decide
@[simp] theorem q_gDiv_gMul : sEq gDiv gMul = false := by decide
@[simp] theorem q_gDiv_gRem : sEq gDiv gRem = false := by decide
@[simp] theorem q_gDiv_gNot : sEq gDiv gNot = false := by decide
@[simp] theorem q_gRem_gEq : sEq gRem gEq = false := by decide
@[simp] theorem q_gRem_gNe : sEq gRem gNe = false := by decide
@[simp] theorem q_gRem_gLt : sEq gRem gLt = false := by decide
@[simp] theorem q_gRem_gLe : sEq gRem gLe = false := by decide
@[simp] theorem q_gRem_gGt : sEq gRem gGt = false := by decide
@[simp] theorem q_gRem_gGe : sEq gRem gGe = false := by decide
@[simp] theorem q_gRem_gAdd : sEq gRem gAdd = false := by decide
@[simp] theorem q_gRem_gSub : sEq gRem gSub = false := by decide
@[simp] theorem q_gRem_gMul : sEq gRem gMul = false := by decide
@[simp] theorem q_gRem_gDiv : sEq gRem gDiv = false := by decide
@[simp] theorem q_gRem_gNot : sEq gRem gNot = false := by decide
@[simp] theorem q_gNot_gEq : sEq gNot gEq = false := by decide
@[simp] theorem q_gNot_gNe : sEq gNot gNe = false := by decide
@[simp] theorem q_gNot_gLt : sEq gNot gLt = false := by decide
@[simp] theorem q_gNot_gLe : sEq gNot gLe = false := by decide
@[simp] theorem q_gNot_gGt : sEq gNot gGt = false := by decide
@[simp] theorem q_gNot_gGe : sEq gNot gGe = false := by decide
@[simp] theorem q_gNot_gAdd : sEq gNot gAdd = false := by decide
@[simp] theorem q_gNot_gSub : sEq gNot gSub = false := by decide
@[simp] theorem q_gNot_gMul : sEq gNot gMul = false := by decide
@[simp] theorem q_gNot_gDiv : sEq gNot gDiv = false := by decide
@[simp] theorem q_gNot_gRem : sEq gNot gRem = false := by decide
/-- How two stand by a sign: one is below the other, they are the same. -/
def cmpB (s : ByteArray) (lt eq : Bool) : Bool := if sEq s gLt then lt else if sEq s gLe then lt || eq else if sEq s gGt then !lt && !eq else !lt
theorem signs4 (s : ByteArray) : s = gLt ∨ s = gLe ∨ s = gGt ∨ (sEq s gLt = false ∧ sEq s gLe = false ∧ sEq s gGt = false) := by
  simp only [← Bool.not_eq_true, sEq_iff]
  grind
theorem t46 (s : ByteArray) (a b : Int) : evFun F call 100 46 [.str s, .int .i64 a, .int .i64 b] h = .ret (.bool (cmpB s (decide (a < b)) (decide (a = b)))) h := by
  unfold cmpB
  rcases signs4 s with rfl | rfl | rfl | ⟨h1, h2, h3⟩
  · simp [evFun, F_46, c46]
  · by_cases a1 : a < b <;> by_cases a2 : b < a <;> by_cases a3 : a = b <;> first | omega | simp [evFun, F_46, c46, a1, a2, a3]
  · by_cases a1 : a < b <;> by_cases a2 : b < a <;> by_cases a3 : a = b <;> first | omega | simp [evFun, F_46, c46, a1, a2, a3]
  · simp [evFun, F_46, c46, h1, h2, h3]
theorem t47 (s : ByteArray) (a b : ByteArray) : evFun F call 100 47 [.str s, .str a, .str b] h = .ret (.bool (cmpB s (sLt a b) (sEq a b))) h := by
  unfold cmpB
  rcases signs4 s with rfl | rfl | rfl | ⟨h1, h2, h3⟩
  · simp [evFun, F_47, c47]
  · simp [evFun, F_47, c47]
  · simp [evFun, F_47, c47]
  · simp [evFun, F_47, c47, h1, h2, h3]
theorem t42 (h31 : ∀ b h, call 31 [.bool b] h = .ret (V 2 (b01 b) emp) h) (s : ByteArray) (lt eq : Bool) : evFun F call 100 42 [.str s, .bool lt, .bool eq] h = .ret (V 2 (b01 (cmpB s lt eq)) emp) ⟨h.next, h.t, h.gen + 1⟩ := by
  unfold cmpB
  rcases signs4 s with rfl | rfl | rfl | ⟨h1, h2, h3⟩
  · simp [evFun, F_42, c42, h31]
  · cases lt <;> cases eq <;> simp [evFun, F_42, c42, h31]
  · cases lt <;> cases eq <;> simp [evFun, F_42, c42, h31]
  · simp [evFun, F_42, c42, h31, h1, h2, h3]
def ordV (s : ByteArray) (k n : Int) (t : ByteArray) (k' n' : Int) (t' : ByteArray) : AV :=
  if k = 3 ∧ k' = 3 then two 2 (b01 (cmpB s (decide (n < n')) (decide (n = n')))) emp 0
  else if k = 4 ∧ k' = 4 then two 2 (b01 (cmpB s (sLt t t') (sEq t t'))) emp 0
  else two 0 0 emp 8
theorem t37 (h36 : ∀ b h, call 36 [.bool b] h = .ret (V 2 (b01 b) emp) h) (h46 : ∀ s a b h, call 46 [.str s, .int .i64 a, .int .i64 b] h = .ret (.bool (cmpB s (decide (a < b)) (decide (a = b)))) h)
    (h47 : ∀ s a b h, call 47 [.str s, .str a, .str b] h = .ret (.bool (cmpB s (sLt a b) (sEq a b))) h) (s : ByteArray) (k n : Int) (t : ByteArray) (k' n' : Int) (t' : ByteArray) :
    Tells (evFun F call 100 37 [.str s, V k n t, V k' n' t'] h) h (ordV s k n t k' n' t') := by
  unfold ordV
  by_cases a3 : k = 3 <;> by_cases b3 : k' = 3 <;> by_cases a4 : k = 4 <;> by_cases b4 : k' = 4 <;> first
    | omega
    | (simp [Tells, evFun, F_37, c37, V, h36, h46, h47, a3, b3, a4, b4, emp]; done)
def numRes (z : Int) : AV := if numIn z then two 3 z emp 0 else two 0 0 emp 7
def recV (s : ByteArray) (a b : Int) : AV :=
  if sEq s gAdd then numRes (a + b) else if sEq s gSub then numRes (a - b) else if sEq s gMul then numRes (a * b)
  else if b = 0 then two 0 0 emp 7 else if sEq s gDiv then numRes (a.tdiv b) else numRes (a.tmod b)
theorem small {a b : Int} (ha : numIn a = true) (hb : numIn b = true) : wrapF .i64 (a + b) = a + b ∧ wrapF .i64 (a - b) = a - b ∧ wrapF .i64 (a * b) = a * b ∧ wrapF .i64 (a.tdiv b) = a.tdiv b := by
  simp [numIn] at ha hb
  have h1 : (a * b).natAbs ≤ 2147483648 * 2147483648 := by rw [Int.natAbs_mul]; exact Nat.mul_le_mul (by omega) (by omega)
  have h2 : (a.tdiv b).natAbs ≤ a.natAbs := by rw [Int.natAbs_tdiv]; exact Nat.div_le_self _ _
  exact ⟨wrap64 (by omega) (by omega), wrap64 (by omega) (by omega), wrap64 (by omega) (by omega), wrap64 (by omega) (by omega)⟩
theorem signs5 (s : ByteArray) : s = gAdd ∨ s = gSub ∨ s = gMul ∨ s = gDiv ∨ (sEq s gAdd = false ∧ sEq s gSub = false ∧ sEq s gMul = false ∧ sEq s gDiv = false) := by
  simp only [← Bool.not_eq_true, sEq_iff]
  grind
theorem t38 (h40 : ∀ n h, call 40 [.int .i64 n] h = .ret (numRes n) h) (s : ByteArray) (a b : Int) (ha : numIn a = true) (hb : numIn b = true) : Tells (evFun F call 100 38 [.str s, .int .i64 a, .int .i64 b] h) h (recV s a b) := by
  obtain ⟨w1, w2, w3, w4⟩ := small ha hb
  unfold recV
  have hnr : ∀ z, ∃ k n t e, numRes z = two k n t e := fun z => by unfold numRes; split <;> exact ⟨_, _, _, _, rfl⟩
  rcases signs5 s with rfl | rfl | rfl | rfl | ⟨s1, s2, s3, s4⟩
  · obtain ⟨k, n, t, e, hz⟩ := hnr (a + b)
    simp [Tells, evFun, F_38, c38, h40, w1, hz]
  · obtain ⟨k, n, t, e, hz⟩ := hnr (a - b)
    simp [Tells, evFun, F_38, c38, h40, w2, hz]
  · obtain ⟨k, n, t, e, hz⟩ := hnr (a * b)
    simp [Tells, evFun, F_38, c38, h40, w3, hz]
  · by_cases b0 : b = 0
    · simp [Tells, evFun, F_38, c38, h40, b0, emp]
    · obtain ⟨k, n, t, e, hz⟩ := hnr (a.tdiv b)
      simp [Tells, evFun, F_38, c38, h40, w4, hz, b0]
  · by_cases b0 : b = 0
    · simp [Tells, evFun, F_38, c38, h40, b0, emp, s1, s2, s3, s4]
    · obtain ⟨k, n, t, e, hz⟩ := hnr (a.tmod b)
      simp [Tells, evFun, F_38, c38, h40, hz, b0, s1, s2, s3, s4]
def joinV (x y : ByteArray) : AV := if sLen (cat x y) ≤ 4096 then two 4 0 (cat x y) 0 else two 0 0 emp 7
theorem cat_len (x y : ByteArray) : sLen (cat x y) = sLen x + sLen y := by unfold sLen cat; simp
theorem t39 (k n : Int) (s : ByteArray) (k' n' : Int) (s' : ByteArray) (h17 : ∀ h, call 17 [.agg [.int .i64 k, .int .i64 n, .str s]] h = .ret (.str (textP k n s)) h) (h17' : ∀ h, call 17 [.agg [.int .i64 k', .int .i64 n', .str s']] h = .ret (.str (textP k' n' s')) h) (hl : sLen (textP k n s) + sLen (textP k' n' s') ≤ 4294967300) :
    Tells (evFun F call 100 39 [V k n s, V k' n' s'] h) h (joinV (textP k n s) (textP k' n' s')) := by
  have ca : binStr .add (textP k n s) (textP k' n' s') = some (.str (cat (textP k n s) (textP k' n' s'))) := cat_add (by unfold sLen at hl; omega)
  unfold joinV
  by_cases hc : 4096 < (cat (textP k n s) (textP k' n' s')).size
  · have hc' : ¬ sLen (cat (textP k n s) (textP k' n' s')) ≤ 4096 := by unfold sLen; simpa using hc
    have hc : (4096 : Int) < ((cat (textP k n s) (textP k' n' s')).size : Int) := by omega
    simp [Tells, evFun, F_39, c39, V, h17, h17', ca, hc, hc', emp]
  · have hc' : sLen (cat (textP k n s) (textP k' n' s')) ≤ 4096 := by unfold sLen; simpa using hc
    have hc : ¬ (4096 : Int) < ((cat (textP k n s) (textP k' n' s')).size : Int) := by omega
    simp [Tells, evFun, F_39, c39, V, h17, h17', ca, hc, hc', emp]
def unV (g : ByteArray) (k n : Int) (s : ByteArray) : AV :=
  if sEq g gNot then two 2 (b01 !truthP k n s) emp 0 else if !sEq g gSub then two 0 0 emp 1 else if k = 3 then numRes (-n) else two 0 0 emp 8
theorem signs2 (s : ByteArray) : s = gNot ∨ s = gSub ∨ (sEq s gNot = false ∧ sEq s gSub = false) := by
  simp only [← Bool.not_eq_true, sEq_iff]
  grind
theorem numRes_two (z : Int) : ∃ k n t e, numRes z = .tup [.agg [.int .i64 k, .int .i64 n, .str t], .int .i64 e] := by unfold numRes; split <;> exact ⟨_, _, _, _, rfl⟩
theorem t27 (h15 : ∀ k n s h, call 15 [.agg [.int .i64 k, .int .i64 n, .str s]] h = .ret (.bool (truthP k n s)) h) (h36 : ∀ b h, call 36 [.bool b] h = .ret (V 2 (b01 b) emp) h) (h40 : ∀ n h, call 40 [.int .i64 n] h = .ret (numRes n) h)
    (g : ByteArray) (k n : Int) (s : ByteArray) (hn : k = 3 → wrapF .i64 (-n) = -n) : Tells (evFun F call 100 27 [.str g, V k n s] h) h (unV g k n s) := by
  unfold unV
  rcases signs2 g with rfl | rfl | ⟨g1, g2⟩
  · simp [Tells, evFun, F_27, c27, V, h15, h36]
  · by_cases k3 : k = 3
    · obtain ⟨a, b, c, d, hz⟩ := numRes_two (-n)
      have hn := hn k3
      simp [Tells, evFun, F_27, c27, V, h40, k3, hn, hz]
    · simp [Tells, evFun, F_27, c27, V, h40, k3, emp]
  · simp [Tells, evFun, F_27, c27, V, g1, g2, emp]
def sameP (k n : Int) (s : ByteArray) (k' n' : Int) (s' : ByteArray) : Bool := decide (k = k') && decide (n = n') && sEq s s'
def ordS (g : ByteArray) : Bool := sEq g gLt || sEq g gLe || sEq g gGt || sEq g gGe
def recS (g : ByteArray) : Bool := sEq g gAdd || sEq g gSub || sEq g gMul || sEq g gDiv || sEq g gRem
def binV (g : ByteArray) (k n : Int) (s : ByteArray) (k' n' : Int) (s' : ByteArray) : AV :=
  if sEq g gEq then two 2 (b01 (sameP k n s k' n' s')) emp 0 else if sEq g gNe then two 2 (b01 !sameP k n s k' n' s') emp 0
  else if ordS g then ordV g k n s k' n' s'
  else if recS g then (if k = 3 ∧ k' = 3 then recV g n n' else if sEq g gAdd && (decide (k = 4) || decide (k' = 4)) then joinV (textP k n s) (textP k' n' s') else two 0 0 emp 8)
  else two 0 0 emp 1
theorem ordV_two (g : ByteArray) (k n : Int) (s : ByteArray) (k' n' : Int) (s' : ByteArray) : ∃ a b c e, ordV g k n s k' n' s' = .tup [.agg [.int .i64 a, .int .i64 b, .str c], .int .i64 e] := by unfold ordV; split; exact ⟨_, _, _, _, rfl⟩; split <;> exact ⟨_, _, _, _, rfl⟩
theorem recV_two (g : ByteArray) (a b : Int) : ∃ k n t e, recV g a b = .tup [.agg [.int .i64 k, .int .i64 n, .str t], .int .i64 e] := by
  unfold recV; repeat' split
  all_goals first | exact numRes_two _ | exact ⟨_, _, _, _, rfl⟩
theorem joinV_two (x y : ByteArray) : ∃ k n t e, joinV x y = .tup [.agg [.int .i64 k, .int .i64 n, .str t], .int .i64 e] := by unfold joinV; split <;> exact ⟨_, _, _, _, rfl⟩
theorem signs11 (s : ByteArray) : s = gEq ∨ s = gNe ∨ s = gLt ∨ s = gLe ∨ s = gGt ∨ s = gGe ∨ s = gAdd ∨ s = gSub ∨ s = gMul ∨ s = gDiv ∨ s = gRem ∨ (sEq s gEq = false ∧ sEq s gNe = false ∧ sEq s gLt = false ∧ sEq s gLe = false ∧ sEq s gGt = false ∧ sEq s gGe = false ∧ sEq s gAdd = false ∧ sEq s gSub = false ∧ sEq s gMul = false ∧ sEq s gDiv = false ∧ sEq s gRem = false) := by
  simp only [← Bool.not_eq_true, sEq_iff]
  grind
end Go.Proofs.Va
