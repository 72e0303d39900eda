import Derived.Test.YtlbooinipoaapaaDoorLxWhile
set_option linter.unusedSimpArgs false
set_option linter.unusedVariables false
namespace Go.Proofs.Lx
open Go.Ev
noncomputable def c44_1 : EC := (.seq (.steps [(.op Option.none (.pure 1 (vMove (.sl []))) (Option.some [.c])), (.op Option.none (.pure 11 (vBin .no .neq (.sl [.c]) (.k (.int .u8 (.ofNat 10))))) (Option.some [.d])), (.op Option.none (.pure 2 (vMove (.sl [.d]))) (Option.some [.b]))]) .ret)
noncomputable def c44 : EF := ⟨(.seq (.steps [(.op Option.none (.pure 2 (vMove (.k (.bool Bool.false)))) (Option.some [.b]))]) c44_1), [(.slot (.sl [.b]))], Bool.false⟩
theorem c44_ok : compF Tryd.prog 44 = some c44 := by kernel_rfl
noncomputable def LF44 : FuncId → Option EF := lookF [(44, c44)]
theorem FF44 : LF44 44 = some c44 := rfl
noncomputable def c45_1 : EC := (.seq (.steps [(.op Option.none (.pure 1 (vMove (.sl []))) (Option.some [.c])), (.op Option.none (.pure 11 (vBin .no .geq (.sl [.c]) (.k (.int .u8 (.ofNat 48))))) (Option.some [.d])), (.op Option.none (.pure 1 (vMove (.sl [.d]))) (Option.some [.a, .a])), (.op (Option.some ([.a, .a], Bool.true)) (.pure 1 (vMove (.sl []))) (Option.some [.b, .a])), (.op (Option.some ([.a, .a], Bool.true)) (.pure 11 (vBin .no .leq (.sl [.b, .a]) (.k (.int .u8 (.ofNat 57))))) (Option.some [.c, .a])), (.op Option.none (.pure 3 (vPick (.sl [.a, .a]) (.sl [.c, .a]) (.k (.bool Bool.false)))) (Option.some [.d, .a])), (.op Option.none (.pure 2 (vMove (.sl [.d, .a]))) (Option.some [.b]))]) .ret)
noncomputable def c45 : EF := ⟨(.seq (.steps [(.op Option.none (.pure 2 (vMove (.k (.bool Bool.false)))) (Option.some [.b]))]) c45_1), [(.slot (.sl [.b]))], Bool.false⟩
theorem c45_ok : compF Tryd.prog 45 = some c45 := by kernel_rfl
noncomputable def LF45 : FuncId → Option EF := lookF [(45, c45)]
theorem FF45 : LF45 45 = some c45 := rfl
noncomputable def c46_1 : EC := (.seq (.steps [(.op Option.none (.pure 1 (vMove (.sl []))) (Option.some [.c])), (.op Option.none (.pure 11 (vBin .no .geq (.sl [.c]) (.k (.int .u8 (.ofNat 97))))) (Option.some [.d])), (.op Option.none (.pure 1 (vMove (.sl [.d]))) (Option.some [.a, .a])), (.op (Option.some ([.a, .a], Bool.true)) (.pure 1 (vMove (.sl []))) (Option.some [.b, .a])), (.op (Option.some ([.a, .a], Bool.true)) (.pure 11 (vBin .no .leq (.sl [.b, .a]) (.k (.int .u8 (.ofNat 122))))) (Option.some [.c, .a])), (.op Option.none (.pure 3 (vPick (.sl [.a, .a]) (.sl [.c, .a]) (.k (.bool Bool.false)))) (Option.some [.d, .a])), (.op Option.none (.pure 1 (vMove (.sl [.d, .a]))) (Option.some [.a, .b])), (.op (Option.some ([.a, .b], Bool.false)) (.pure 1 (vMove (.sl []))) (Option.some [.b, .b])), (.op (Option.some ([.a, .b], Bool.false)) (.pure 11 (vBin .no .geq (.sl [.b, .b]) (.k (.int .u8 (.ofNat 65))))) (Option.some [.c, .b])), (.op (Option.some ([.a, .b], Bool.false)) (.pure 1 (vMove (.sl [.c, .b]))) (Option.some [.d, .b])), (.op (Option.some ([.d, .b], Bool.true)) (.pure 1 (vMove (.sl []))) (Option.some [.a, .c])), (.op (Option.some ([.d, .b], Bool.true)) (.pure 11 (vBin .no .leq (.sl [.a, .c]) (.k (.int .u8 (.ofNat 90))))) (Option.some [.b, .c])), (.op (Option.some ([.a, .b], Bool.false)) (.pure 3 (vPick (.sl [.d, .b]) (.sl [.b, .c]) (.k (.bool Bool.false)))) (Option.some [.c, .c])), (.op Option.none (.pure 3 (vPick (.sl [.a, .b]) (.k (.bool Bool.true)) (.sl [.c, .c]))) (Option.some [.d, .c])), (.op Option.none (.pure 1 (vMove (.sl [.d, .c]))) (Option.some [.a, .d])), (.op (Option.some ([.a, .d], Bool.false)) (.pure 1 (vMove (.sl []))) (Option.some [.b, .d])), (.op (Option.some ([.a, .d], Bool.false)) (.pure 11 (vBin .no .eql (.sl [.b, .d]) (.k (.int .u8 (.ofNat 95))))) (Option.some [.c, .d])), (.op Option.none (.pure 3 (vPick (.sl [.a, .d]) (.k (.bool Bool.true)) (.sl [.c, .d]))) (Option.some [.d, .d])), (.op Option.none (.pure 1 (vMove (.sl [.d, .d]))) (Option.some [.a, .a, .a])), (.op (Option.some ([.a, .a, .a], Bool.false)) (.pure 1 (vMove (.sl []))) (Option.some [.b, .a, .a])), (.op (Option.some ([.a, .a, .a], Bool.false)) (.pure 11 (vBin .no .eql (.sl [.b, .a, .a]) (.k (.int .u8 (.ofNat 36))))) (Option.some [.c, .a, .a])), (.op Option.none (.pure 3 (vPick (.sl [.a, .a, .a]) (.k (.bool Bool.true)) (.sl [.c, .a, .a]))) (Option.some [.d, .a, .a])), (.op Option.none (.pure 2 (vMove (.sl [.d, .a, .a]))) (Option.some [.b]))]) .ret)
noncomputable def c46 : EF := ⟨(.seq (.steps [(.op Option.none (.pure 2 (vMove (.k (.bool Bool.false)))) (Option.some [.b]))]) c46_1), [(.slot (.sl [.b]))], Bool.false⟩
theorem c46_ok : compF Tryd.prog 46 = some c46 := by kernel_rfl
noncomputable def LF46 : FuncId → Option EF := lookF [(46, c46)]
theorem FF46 : LF46 46 = some c46 := rfl
noncomputable def c48_1 : EC := (.seq (.steps [(.op Option.none (.pure 1 (vMove (.sl []))) (Option.some [.c])), (.op Option.none (.eff (hCall (.k (.fn 46 [] [])) [(.sl [.c])])) (Option.some [.d])), (.op Option.none (.pure 1 (vMove (.sl [.d]))) (Option.some [.a, .a])), (.op (Option.some ([.a, .a], Bool.false)) (.pure 1 (vMove (.sl []))) (Option.some [.b, .a])), (.op (Option.some ([.a, .a], Bool.false)) (.eff (hCall (.k (.fn 45 [] [])) [(.sl [.b, .a])])) (Option.some [.c, .a])), (.op Option.none (.pure 3 (vPick (.sl [.a, .a]) (.k (.bool Bool.true)) (.sl [.c, .a]))) (Option.some [.d, .a])), (.op Option.none (.pure 2 (vMove (.sl [.d, .a]))) (Option.some [.b]))]) .ret)
noncomputable def c48 : EF := ⟨(.seq (.steps [(.op Option.none (.pure 2 (vMove (.k (.bool Bool.false)))) (Option.some [.b]))]) c48_1), [(.slot (.sl [.b]))], Bool.false⟩
theorem c48_ok : compF Tryd.prog 48 = some c48 := by kernel_rfl
noncomputable def LF48 : FuncId → Option EF := lookF [(48, c48)]
theorem FF48 : LF48 48 = some c48 := rfl
noncomputable def c51_1 : EC := (.seq (.steps [(.op Option.none (.pure 1 (vMove (.sl []))) (Option.some [.a, .a])), (.op Option.none (.pure 23 (vLenS (.sl [.a, .a]))) (Option.some [.b, .a])), (.op Option.none (.pure 1 (vMove (.sl [.a]))) (Option.some [.c, .a])), (.op Option.none (.pure 23 (vLenS (.sl [.c, .a]))) (Option.some [.d, .a])), (.op Option.none (.pure 11 (vBin .no .geq (.sl [.b, .a]) (.sl [.d, .a]))) (Option.some [.a, .b])), (.op Option.none (.pure 1 (vMove (.sl [.a, .b]))) (Option.some [.b, .b])), (.op (Option.some ([.b, .b], Bool.true)) (.pure 1 (vMove (.sl []))) (Option.some [.c, .b])), (.op (Option.some ([.b, .b], Bool.true)) (.pure 1 (vMove (.sl [.a]))) (Option.some [.d, .b])), (.op (Option.some ([.b, .b], Bool.true)) (.pure 23 (vLenS (.sl [.d, .b]))) (Option.some [.a, .c])), (.op (Option.some ([.b, .b], Bool.true)) (.pure 17 (vSliceS (.sl [.c, .b]) Option.none (Option.some (.sl [.a, .c])))) (Option.some [.b, .c])), (.op (Option.some ([.b, .b], Bool.true)) (.pure 1 (vMove (.sl [.a]))) (Option.some [.c, .c])), (.op (Option.some ([.b, .b], Bool.true)) (.pure 11 (vBin .no .eql (.sl [.b, .c]) (.sl [.c, .c]))) (Option.some [.d, .c])), (.op Option.none (.pure 3 (vPick (.sl [.b, .b]) (.sl [.d, .c]) (.k (.bool Bool.false)))) (Option.some [.a, .d])), (.op Option.none (.pure 2 (vMove (.sl [.a, .d]))) (Option.some [.d]))]) .ret)
noncomputable def c51 : EF := ⟨(.seq (.steps [(.op Option.none (.pure 2 (vMove (.k (.bool Bool.false)))) (Option.some [.d]))]) c51_1), [(.slot (.sl [.d]))], Bool.false⟩
theorem c51_ok : compF Tryd.prog 51 = some c51 := by kernel_rfl
noncomputable def LF51 : FuncId → Option EF := lookF [(51, c51)]
theorem FF51 : LF51 51 = some c51 := rfl
noncomputable def c42_1 : EC := (.seq (.steps [(.op Option.none (.pure 1 (vMove (.sl []))) (Option.some [.a, .a])), (.op Option.none (.pure 1 (vMove (.sl [.a]))) (Option.some [.b, .a])), (.op Option.none (.eff (hCall (.k (.fn 51 [] [])) [(.sl [.a, .a]), (.sl [.b, .a])])) (Option.some [.c, .a])), (.op Option.none (.pure 2 (vMove (.sl [.c, .a]))) (Option.some [.d]))]) .ret)
noncomputable def c42 : EF := ⟨(.seq (.steps [(.op Option.none (.pure 2 (vMove (.k (.bool Bool.false)))) (Option.some [.d]))]) c42_1), [(.slot (.sl [.d]))], Bool.false⟩
theorem c42_ok : compF Tryd.prog 42 = some c42 := by kernel_rfl
noncomputable def LF42 : FuncId → Option EF := lookF [(42, c42)]
theorem FF42 : LF42 42 = some c42 := rfl
noncomputable def c47_4 : EC := (.seq (.steps [(.op Option.none (.pure 2 (vMove (.k (.int .u8 (.ofNat 0))))) (Option.some [.b])), (.op Option.none (.pure 2 (vMove (.k (.int .i64 (.ofNat 0))))) (Option.some [.c]))]) .ret)
noncomputable def c47_7 : EC := (.seq (.steps [(.op Option.none (.pure 1 (vMove (.sl []))) (Option.some [.a, .a, .a])), (.op Option.none (.pure 21 (vIndex (.sl [.a, .a, .a]) (.k (.int .i64 (.ofNat 0))))) (Option.some [.b, .a, .a])), (.op Option.none (.pure 2 (vMove (.sl [.b, .a, .a]))) (Option.some [.b])), (.op Option.none (.pure 2 (vMove (.k (.int .i64 (.ofNat 1))))) (Option.some [.c]))]) .ret)
noncomputable def c47_10 : EC := (.seq (.steps [(.op Option.none (.pure 1 (vMove (.sl []))) (Option.some [.a, .a, .b])), (.op Option.none (.pure 21 (vIndex (.sl [.a, .a, .b]) (.k (.int .i64 (.ofNat 1))))) (Option.some [.b, .a, .b])), (.op Option.none (.pure 2 (vMove (.sl [.b, .a, .b]))) (Option.some [.b])), (.op Option.none (.pure 2 (vMove (.k (.int .i64 (.ofNat 2))))) (Option.some [.c]))]) .ret)
noncomputable def c47_13 : EC := (.seq (.steps [(.op Option.none (.pure 2 (vMove (.k (.int .u8 (.ofNat 10))))) (Option.some [.b])), (.op Option.none (.pure 2 (vMove (.k (.int .i64 (.ofNat 2))))) (Option.some [.c]))]) .ret)
noncomputable def c47_12 : EC := (.cond (.sl [.c, .a, .b]) c47_13 .skip)
noncomputable def c47_11 : EC := (.seq (.steps [(.op Option.none (.pure 1 (vMove (.sl []))) (Option.some [.d, .a, .b])), (.op Option.none (.pure 23 (vLenS (.sl [.d, .a, .b]))) (Option.some [.a, .b, .b])), (.op Option.none (.pure 11 (vBin .no .gtr (.sl [.a, .b, .b]) (.k (.int .i64 (.ofNat 1))))) (Option.some [.b, .b, .b])), (.op Option.none (.pure 1 (vMove (.sl [.b, .b, .b]))) (Option.some [.c, .b, .b])), (.op (Option.some ([.c, .b, .b], Bool.true)) (.pure 1 (vMove (.sl []))) (Option.some [.d, .b, .b])), (.op (Option.some ([.c, .b, .b], Bool.true)) (.pure 21 (vIndex (.sl [.d, .b, .b]) (.k (.int .i64 (.ofNat 1))))) (Option.some [.a, .c, .b])), (.op (Option.some ([.c, .b, .b], Bool.true)) (.pure 11 (vBin .no .eql (.sl [.a, .c, .b]) (.k (.int .u8 (.ofNat 110))))) (Option.some [.b, .c, .b])), (.op Option.none (.pure 3 (vPick (.sl [.c, .b, .b]) (.sl [.b, .c, .b]) (.k (.bool Bool.false)))) (Option.some [.c, .c, .b])), (.op Option.none (.pure 2 (vMove (.sl [.c, .c, .b]))) (Option.some [.c, .a, .b]))]) c47_12)
noncomputable def c47_9 : EC := (.cond (.sl [.c, .a, .a]) c47_10 c47_11)
noncomputable def c47_8 : EC := (.seq (.steps [(.op Option.none (.pure 1 (vMove (.sl []))) (Option.some [.d, .a, .a])), (.op Option.none (.pure 23 (vLenS (.sl [.d, .a, .a]))) (Option.some [.a, .b, .a])), (.op Option.none (.pure 11 (vBin .no .gtr (.sl [.a, .b, .a]) (.k (.int .i64 (.ofNat 1))))) (Option.some [.b, .b, .a])), (.op Option.none (.pure 1 (vMove (.sl [.b, .b, .a]))) (Option.some [.c, .b, .a])), (.op (Option.some ([.c, .b, .a], Bool.true)) (.pure 1 (vMove (.sl []))) (Option.some [.d, .b, .a])), (.op (Option.some ([.c, .b, .a], Bool.true)) (.pure 21 (vIndex (.sl [.d, .b, .a]) (.k (.int .i64 (.ofNat 1))))) (Option.some [.a, .c, .a])), (.op (Option.some ([.c, .b, .a], Bool.true)) (.pure 11 (vBin .no .eql (.sl [.a, .c, .a]) (.k (.int .u8 (.ofNat 34))))) (Option.some [.b, .c, .a])), (.op (Option.some ([.c, .b, .a], Bool.true)) (.pure 1 (vMove (.sl [.b, .c, .a]))) (Option.some [.c, .c, .a])), (.op (Option.some ([.c, .c, .a], Bool.false)) (.pure 1 (vMove (.sl []))) (Option.some [.d, .c, .a])), (.op (Option.some ([.c, .c, .a], Bool.false)) (.pure 21 (vIndex (.sl [.d, .c, .a]) (.k (.int .i64 (.ofNat 1))))) (Option.some [.a, .d, .a])), (.op (Option.some ([.c, .c, .a], Bool.false)) (.pure 11 (vBin .no .eql (.sl [.a, .d, .a]) (.k (.int .u8 (.ofNat 92))))) (Option.some [.b, .d, .a])), (.op (Option.some ([.c, .b, .a], Bool.true)) (.pure 3 (vPick (.sl [.c, .c, .a]) (.k (.bool Bool.true)) (.sl [.b, .d, .a]))) (Option.some [.c, .d, .a])), (.op Option.none (.pure 3 (vPick (.sl [.c, .b, .a]) (.sl [.c, .d, .a]) (.k (.bool Bool.false)))) (Option.some [.d, .d, .a])), (.op Option.none (.pure 2 (vMove (.sl [.d, .d, .a]))) (Option.some [.c, .a, .a]))]) c47_9)
noncomputable def c47_6 : EC := (.cond (.sl [.a, .d]) c47_7 c47_8)
noncomputable def c47_5 : EC := (.seq (.steps [(.op Option.none (.pure 1 (vMove (.sl []))) (Option.some [.b, .d])), (.op Option.none (.pure 21 (vIndex (.sl [.b, .d]) (.k (.int .i64 (.ofNat 0))))) (Option.some [.c, .d])), (.op Option.none (.pure 11 (vBin .no .neq (.sl [.c, .d]) (.k (.int .u8 (.ofNat 92))))) (Option.some [.d, .d])), (.op Option.none (.pure 2 (vMove (.sl [.d, .d]))) (Option.some [.a, .d]))]) c47_6)
noncomputable def c47_3 : EC := (.cond (.sl [.d]) c47_4 c47_5)
noncomputable def c47_2 : EC := (.seq (.steps [(.op Option.none (.pure 1 (vMove (.sl []))) (Option.some [.a, .a])), (.op Option.none (.pure 11 (vBin .no .eql (.sl [.a, .a]) (.k (.str ⟨#[]⟩)))) (Option.some [.b, .a])), (.op Option.none (.pure 1 (vMove (.sl [.b, .a]))) (Option.some [.c, .a])), (.op (Option.some ([.c, .a], Bool.false)) (.pure 1 (vMove (.sl []))) (Option.some [.d, .a])), (.op (Option.some ([.c, .a], Bool.false)) (.pure 21 (vIndex (.sl [.d, .a]) (.k (.int .i64 (.ofNat 0))))) (Option.some [.a, .b])), (.op (Option.some ([.c, .a], Bool.false)) (.pure 11 (vBin .no .lss (.sl [.a, .b]) (.k (.int .u8 (.ofNat 32))))) (Option.some [.b, .b])), (.op Option.none (.pure 3 (vPick (.sl [.c, .a]) (.k (.bool Bool.true)) (.sl [.b, .b]))) (Option.some [.c, .b])), (.op Option.none (.pure 1 (vMove (.sl [.c, .b]))) (Option.some [.d, .b])), (.op (Option.some ([.d, .b], Bool.false)) (.pure 1 (vMove (.sl []))) (Option.some [.a, .c])), (.op (Option.some ([.d, .b], Bool.false)) (.pure 21 (vIndex (.sl [.a, .c]) (.k (.int .i64 (.ofNat 0))))) (Option.some [.b, .c])), (.op (Option.some ([.d, .b], Bool.false)) (.pure 11 (vBin .no .gtr (.sl [.b, .c]) (.k (.int .u8 (.ofNat 126))))) (Option.some [.c, .c])), (.op Option.none (.pure 3 (vPick (.sl [.d, .b]) (.k (.bool Bool.true)) (.sl [.c, .c]))) (Option.some [.d, .c])), (.op Option.none (.pure 2 (vMove (.sl [.d, .c]))) (Option.some [.d]))]) c47_3)
noncomputable def c47_14 : EC := (.seq (.steps [(.op Option.none (.pure 2 (vMove (.k (.int .u8 (.ofNat 0))))) (Option.some [.b])), (.op Option.none (.pure 2 (vMove (.k (.int .i64 (.ofNat 0))))) (Option.some [.c]))]) .ret)
noncomputable def c47_1 : EC := (.seq (.block 0 c47_2) c47_14)
noncomputable def c47 : EF := ⟨(.seq (.steps [(.op Option.none (.pure 2 (vMove (.k (.int .u8 (.ofNat 0))))) (Option.some [.b])), (.op Option.none (.pure 2 (vMove (.k (.int .i64 (.ofNat 0))))) (Option.some [.c]))]) c47_1), [(.slot (.sl [.b])), (.slot (.sl [.c]))], Bool.false⟩
theorem c47_ok : compF Tryd.prog 47 = some c47 := by kernel_rfl
noncomputable def LF47 : FuncId → Option EF := lookF [(47, c47)]
theorem FF47 : LF47 47 = some c47 := rfl

def leI (a : Int) (c : UInt8) : Bool := !decide ((c.toNat : Int) < a)
def geI (c : UInt8) (a : Int) : Bool := !decide (a < (c.toNat : Int))
def eqI (c : UInt8) (a : Int) : Bool := decide ((c.toNat : Int) = a)
def digB (c : UInt8) : Bool := leI 48 c && geI c 57
def letB (c : UInt8) : Bool := (leI 97 c && geI c 122) || (leI 65 c && geI c 90) || eqI c 95 || eqI c 36
def wordB (c : UInt8) : Bool := letB c || digB c
def lineB (c : UInt8) : Bool := !eqI c 10
theorem t44 {call : Calls'} (c : UInt8) (h : H) : evFun LF44 call 1 44 [.int .u8 (c.toNat : Int)] h = .ret (.bool (lineB c)) h := by
  rcases Decidable.em ((c.toNat : Int) = 10) with h1 | h1 <;> simp [evFun, FF44, c44, c44_1, lineB, eqI, h1]
theorem t45 {call : Calls'} (c : UInt8) (h : H) : evFun LF45 call 1 45 [.int .u8 (c.toNat : Int)] h = .ret (.bool (digB c)) h := by
  rcases Decidable.em ((c.toNat : Int) < 48) with h1 | h1 <;> rcases Decidable.em (57 < (c.toNat : Int)) with h2 | h2 <;> simp [evFun, FF45, c45, c45_1, digB, leI, geI, h1, h2]
theorem t46 {call : Calls'} (c : UInt8) (h : H) : evFun LF46 call 1 46 [.int .u8 (c.toNat : Int)] h = .ret (.bool (letB c)) h := by
  rcases Decidable.em ((c.toNat : Int) < 97) with h1 | h1 <;> rcases Decidable.em (122 < (c.toNat : Int)) with h2 | h2 <;> rcases Decidable.em ((c.toNat : Int) < 65) with h3 | h3 <;> rcases Decidable.em (90 < (c.toNat : Int)) with h4 | h4 <;> first
    | (exfalso; omega)
    | (rcases Decidable.em ((c.toNat : Int) = 95) with h5 | h5 <;> rcases Decidable.em ((c.toNat : Int) = 36) with h6 | h6 <;> first
      | (exfalso; omega)
      | simp [evFun, FF46, c46, c46_1, letB, leI, geI, eqI, h1, h2, h3, h4, h5, h6])
theorem t48 {call : Calls'} (k46 : ∀ c h, call 46 [.int .u8 (UInt8.toNat c : Int)] h = .ret (.bool (letB c)) h) (k45 : ∀ c h, call 45 [.int .u8 (UInt8.toNat c : Int)] h = .ret (.bool (digB c)) h) (c : UInt8) (h : H) : evFun LF48 call 1 48 [.int .u8 (c.toNat : Int)] h = .ret (.bool (wordB c)) h := by
  cases h1 : letB c <;> cases h2 : digB c <;> simp [evFun, FF48, c48, c48_1, wordB, k46, k45, h1, h2]
/-- Does a text begin with another one? -/
def preB (l p : List UInt8) : Bool := decide (p.length ≤ l.length) && bytesEq (l.take p.length) p
theorem t51 {call : Calls'} (l p : List UInt8) (h : H) : evFun LF51 call 1 51 [T l, T p] h = .ret (.bool (preB l p)) h := by
  by_cases h1 : p.length ≤ l.length
  · have h2 : ¬ (l.length : Int) < (p.length : Int) := by omega
    simp [evFun, FF51, c51, c51_1, preB, h1, h2, sEq, vSliceS, gvo, sliceS, bnd]
  · have h2 : (l.length : Int) < (p.length : Int) := by omega
    simp [evFun, FF51, c51, c51_1, preB, h1, h2]
theorem t42 {call : Calls'} (k51 : ∀ l p h, call 51 [T l, T p] h = .ret (.bool (preB l p)) h) (l p : List UInt8) (h : H) : evFun LF42 call 1 42 [T l, T p] h = .ret (.bool (preB l p)) h := by
  simp [evFun, FF42, c42, c42_1, k51]
/-- What stands at the front of a text's inside, and how many bytes it takes. -/
def quotB (l : List UInt8) : UInt8 × Nat := match l with
  | [] => (0, 0)
  | c :: r => if (!leI 32 c || !geI c 126) then (0, 0) else if !eqI c 92 then (c, 1) else match r with
    | [] => (0, 0)
    | d :: _ => if eqI d 34 || eqI d 92 then (d, 2) else if eqI d 110 then (10, 2) else (0, 0)
theorem t47 {call : Calls'} (l : List UInt8) (h : H) : evFun LF47 call 1 47 [T l] h = .ret (.tup [.int .u8 ((quotB l).1.toNat : Int), .int .i64 ((quotB l).2 : Int)]) h := by
  match l with
  | [] => simp [evFun, FF47, c47, c47_1, c47_2, c47_3, c47_4, c47_5, c47_6, c47_7, c47_8, c47_9, c47_10, c47_11, c47_12, c47_13, c47_14, quotB, sEq, bytesEq]
  | [c] =>
    rcases Decidable.em ((c.toNat : Int) < 32) with h1 | h1 <;> rcases Decidable.em (126 < (c.toNat : Int)) with h2 | h2 <;> rcases Decidable.em ((c.toNat : Int) = 92) with h3 | h3 <;> first
      | (exfalso; omega)
      | simp [evFun, FF47, c47, c47_1, c47_2, c47_3, c47_4, c47_5, c47_6, c47_7, c47_8, c47_9, c47_10, c47_11, c47_12, c47_13, c47_14, quotB, sEq, bytesEq, leI, geI, eqI, h1, h2, h3]
  | c :: d :: r =>
    have h7 : (1 : Int) < (r.length : Int) + 1 + 1 := by omega
    rcases Decidable.em ((c.toNat : Int) < 32) with h1 | h1 <;> rcases Decidable.em (126 < (c.toNat : Int)) with h2 | h2 <;> rcases Decidable.em ((c.toNat : Int) = 92) with h3 | h3 <;> rcases Decidable.em ((d.toNat : Int) = 34) with h4 | h4 <;> rcases Decidable.em ((d.toNat : Int) = 92) with h5 | h5 <;> rcases Decidable.em ((d.toNat : Int) = 110) with h6 | h6 <;> first
      | (exfalso; omega)
      | simp [evFun, FF47, c47, c47_1, c47_2, c47_3, c47_4, c47_5, c47_6, c47_7, c47_8, c47_9, c47_10, c47_11, c47_12, c47_13, c47_14, quotB, sEq, bytesEq, leI, geI, eqI, h1, h2, h3, h4, h5, h6, h7]
end Go.Proofs.Lx
