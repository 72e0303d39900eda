/- The law of numbers, told. -/
import Derived.Test.YtlbooinipoaapaaDoorLxNumLaw
set_option linter.unusedSimpArgs false
set_option linter.unusedVariables false
namespace Go.Proofs.Lx
open Go.Ev
noncomputable def c10_7 : List St := [(.op Option.none (.pure 2 (vMove (.sl [.a, .d]))) (Option.some []))]
noncomputable def c10_6 : List St := ((.op (Option.some ([.b, .c], Bool.true)) (.eff (hCall (.k (.fn 19 [] [])) [(.k (.str ⟨#[97, 49]⟩))])) (Option.some [.c, .c])) :: (.op (Option.some ([.b, .c], Bool.true)) (.pure 12 (vUn .not (.sl [.c, .c]))) (Option.some [.d, .c])) :: (.op Option.none (.pure 3 (vPick (.sl [.b, .c]) (.sl [.d, .c]) (.k (.bool Bool.false)))) (Option.some [.a, .d])) :: c10_7)
noncomputable def c10_5 : List St := ((.op (Option.some ([.c, .b], Bool.true)) (.eff (hCall (.k (.fn 19 [] [])) [(.k (.str ⟨#[121, 105, 101, 108, 100]⟩))])) (Option.some [.d, .b])) :: (.op Option.none (.pure 3 (vPick (.sl [.c, .b]) (.sl [.d, .b]) (.k (.bool Bool.false)))) (Option.some [.a, .c])) :: (.op Option.none (.pure 1 (vMove (.sl [.a, .c]))) (Option.some [.b, .c])) :: c10_6)
noncomputable def c10_4 : List St := ((.op (Option.some ([.b, .a], Bool.true)) (.pure 11 (vBin .no .eql (.sl [.d, .a]) (.k (.str ⟨#[97, 49]⟩)))) (Option.some [.a, .b])) :: (.op Option.none (.pure 3 (vPick (.sl [.b, .a]) (.sl [.a, .b]) (.k (.bool Bool.false)))) (Option.some [.b, .b])) :: (.op Option.none (.pure 1 (vMove (.sl [.b, .b]))) (Option.some [.c, .b])) :: c10_5)
noncomputable def c10_3 : List St := ((.op Option.none (.pure 1 (vMove (.sl [.a, .a]))) (Option.some [.b, .a])) :: (.op (Option.some ([.b, .a], Bool.true)) (.pure 18 (vFieldAddr (.sl [.a]) 1)) (Option.some [.c, .a])) :: (.op (Option.some ([.b, .a], Bool.true)) (.look 8 (lLoad (.sl [.c, .a]) 1 Bool.false)) (Option.some [.d, .a])) :: c10_4)
noncomputable def c10_2 : EC := (.seq (.steps ((.op Option.none (.pure 18 (vFieldAddr (.sl [.a]) 0)) (Option.some [.c])) :: (.op Option.none (.look 8 (lLoad (.sl [.c]) 1 Bool.false)) (Option.some [.d])) :: (.op Option.none (.pure 11 (vBin .no .eql (.sl [.d]) (.k (.int .i64 (.ofNat 3))))) (Option.some [.a, .a])) :: c10_3)) .ret)
noncomputable def c10_1 : EC := (.seq (.steps [(.op Option.none (.eff (hCall (.k (.fn 11 [] [])) [(.k (.str ⟨#[97, 49, 32, 61, 32, 50]⟩)), (.k (.int .i64 (.ofNat 0)))])) (Option.some [.b])), (.op Option.none (.eff (bLoc [(.int .i64 (.ofNat 0)), (.str ⟨#[]⟩), (.int .i64 (.ofNat 0)), (.int .i64 (.ofNat 0)), (.bool Bool.false)] [.a])) (Option.some [.a])), (.op Option.none (.eff (hStore (.sl [.a]) (.sl [.b]) 5)) Option.none)]) c10_2)
noncomputable def c10 : EF := ⟨(.seq (.steps [(.op Option.none (.pure 2 (vMove (.k (.bool Bool.false)))) (Option.some []))]) c10_1), [(.slot (.sl []))], Bool.false⟩
theorem c10_ok : compF Tryd.prog 10 = some c10 := by kernel_rfl
noncomputable def c4_3 : List St := [(.op Option.none (.eff (hStore (.sl [.b, .a]) (.sl [.b, .c]) 5)) Option.none)]
noncomputable def c4_5 : List St := [(.op Option.none (.eff (bLoc [(.int .i64 (.ofNat 0)), (.str ⟨#[]⟩), (.int .i64 (.ofNat 0)), (.int .i64 (.ofNat 0)), (.bool Bool.false)] [.c, .a])) (Option.some [.c, .a])), (.op Option.none (.eff (hStore (.sl [.c, .a]) (.sl [.b, .d]) 5)) Option.none)]
noncomputable def c4_12 : List St := [(.chk Option.none (.look 13 (lBytes (.sl [.c, .a, .a]))) (Option.some [.d, .a, .a])), (.chk Option.none (.new 4 (nBox [(.int .i64 (.ofNat 0)), (.str ⟨#[]⟩), (.int .i64 (.ofNat 0)), (.int .i64 (.ofNat 0)), (.bool Bool.false)])) (Option.some [.d, .a])), (.op Option.none (.eff (hStore (.sl [.d, .a]) (.sl [.b, .b, .a]) 5)) Option.none)]
noncomputable def c4_11 : List St := ((.op Option.none (.eff (hCall (.k (.fn 11 [] [])) [(.sl [.a, .b, .a]), (.k (.int .i64 (.ofNat 0)))])) (Option.some [.b, .b, .a])) :: (.chk Option.none (.pure 1 (vMove (.sl [.a, .a]))) (Option.some [.c, .d])) :: (.chk Option.none (.pure 1 (vMove (.sl [.a]))) (Option.some [.b, .a, .a])) :: (.chk Option.none (.new 7 (nSlice 1 1 [(.int .u8 (.ofNat 0))] [(0, (1, (.sl [.b, .a, .a])))])) (Option.some [.c, .a, .a])) :: c4_12)
noncomputable def c4_10 : List St := ((.chk Option.none (.new 7 (nSlice 1 1 [(.int .u8 (.ofNat 0))] [(0, (1, (.sl [.b, .a, .a])))])) (Option.some [.c, .a, .a])) :: (.chk Option.none (.look 13 (lBytes (.sl [.c, .a, .a]))) (Option.some [.d, .a, .a])) :: (.chk Option.none (.new 4 (nBox [(.int .i64 (.ofNat 0)), (.str ⟨#[]⟩), (.int .i64 (.ofNat 0)), (.int .i64 (.ofNat 0)), (.bool Bool.false)])) (Option.some [.d, .a])) :: (.chk Option.none (.pure 11 (vBin .no .add (.sl [.a, .a, .a]) (.sl [.d, .a, .a]))) (Option.some [.a, .b, .a])) :: c4_11)
noncomputable def c4_9 : List St := ((.op Option.none (.eff (hCall (.k (.fn 13 [] [])) [(.sl [.d, .d])])) (Option.some [.a, .a, .a])) :: (.op Option.none (.pure 11 (vBin .no .add (.sl [.a, .a, .a]) (.sl [.d, .a, .a]))) (Option.some [.a, .b, .a])) :: (.chk Option.none (.pure 1 (vMove (.sl [.a, .a]))) (Option.some [.c, .d])) :: (.chk Option.none (.pure 1 (vMove (.sl [.a]))) (Option.some [.b, .a, .a])) :: c4_10)
noncomputable def c4_8 : List St := ((.chk Option.none (.pure 1 (vMove (.sl [.a]))) (Option.some [.b, .a, .a])) :: (.chk Option.none (.new 7 (nSlice 1 1 [(.int .u8 (.ofNat 0))] [(0, (1, (.sl [.b, .a, .a])))])) (Option.some [.c, .a, .a])) :: (.chk Option.none (.look 13 (lBytes (.sl [.c, .a, .a]))) (Option.some [.d, .a, .a])) :: (.chk Option.none (.new 4 (nBox [(.int .i64 (.ofNat 0)), (.str ⟨#[]⟩), (.int .i64 (.ofNat 0)), (.int .i64 (.ofNat 0)), (.bool Bool.false)])) (Option.some [.d, .a])) :: c4_9)
noncomputable def c4_7 : List St := ((.op Option.none (.look 13 (lBytes (.sl [.c, .a, .a]))) (Option.some [.d, .a, .a])) :: (.op Option.none (.new 4 (nBox [(.int .i64 (.ofNat 0)), (.str ⟨#[]⟩), (.int .i64 (.ofNat 0)), (.int .i64 (.ofNat 0)), (.bool Bool.false)])) (Option.some [.d, .a])) :: (.chk Option.none (.pure 1 (vMove (.sl [.a, .a]))) (Option.some [.c, .d])) :: (.chk Option.none (.pure 11 (vBin .no .rem (.sl [.c, .d]) (.k (.int .i64 (.ofNat 1000))))) (Option.some [.d, .d])) :: c4_8)
noncomputable def c4_18 : List St := [(.op (Option.some ([.a, .c, .b], Bool.false)) (.pure 11 (vBin .no .eql (.sl [.b, .c, .b]) (.k (.int .u8 (.ofNat 36))))) (Option.some [.c, .c, .b])), (.op Option.none (.pure 3 (vPick (.sl [.a, .c, .b]) (.k (.bool Bool.true)) (.sl [.c, .c, .b]))) (Option.some [.d, .c, .b])), (.op Option.none (.pure 2 (vMove (.sl [.d, .c, .b]))) (Option.some [.a, .b]))]
noncomputable def c4_17 : List St := ((.op (Option.some ([.a, .b, .b], Bool.false)) (.pure 11 (vBin .no .eql (.sl [.b, .b, .b]) (.k (.int .u8 (.ofNat 95))))) (Option.some [.c, .b, .b])) :: (.op Option.none (.pure 3 (vPick (.sl [.a, .b, .b]) (.k (.bool Bool.true)) (.sl [.c, .b, .b]))) (Option.some [.d, .b, .b])) :: (.op Option.none (.pure 1 (vMove (.sl [.d, .b, .b]))) (Option.some [.a, .c, .b])) :: (.op (Option.some ([.a, .c, .b], Bool.false)) (.pure 1 (vMove (.sl [.a]))) (Option.some [.b, .c, .b])) :: c4_18)
noncomputable def c4_16 : List St := ((.op (Option.some ([.a, .d, .a], Bool.false)) (.pure 3 (vPick (.sl [.d, .d, .a]) (.sl [.b, .a, .b]) (.k (.bool Bool.false)))) (Option.some [.c, .a, .b])) :: (.op Option.none (.pure 3 (vPick (.sl [.a, .d, .a]) (.k (.bool Bool.true)) (.sl [.c, .a, .b]))) (Option.some [.d, .a, .b])) :: (.op Option.none (.pure 1 (vMove (.sl [.d, .a, .b]))) (Option.some [.a, .b, .b])) :: (.op (Option.some ([.a, .b, .b], Bool.false)) (.pure 1 (vMove (.sl [.a]))) (Option.some [.b, .b, .b])) :: c4_17)
noncomputable def c4_15 : List St := ((.op (Option.some ([.a, .d, .a], Bool.false)) (.pure 11 (vBin .no .geq (.sl [.b, .d, .a]) (.k (.int .u8 (.ofNat 65))))) (Option.some [.c, .d, .a])) :: (.op (Option.some ([.a, .d, .a], Bool.false)) (.pure 1 (vMove (.sl [.c, .d, .a]))) (Option.some [.d, .d, .a])) :: (.op (Option.some ([.d, .d, .a], Bool.true)) (.pure 1 (vMove (.sl [.a]))) (Option.some [.a, .a, .b])) :: (.op (Option.some ([.d, .d, .a], Bool.true)) (.pure 11 (vBin .no .leq (.sl [.a, .a, .b]) (.k (.int .u8 (.ofNat 90))))) (Option.some [.b, .a, .b])) :: c4_16)
noncomputable def c4_14 : List St := ((.op (Option.some ([.a, .c, .a], Bool.true)) (.pure 11 (vBin .no .leq (.sl [.b, .c, .a]) (.k (.int .u8 (.ofNat 122))))) (Option.some [.c, .c, .a])) :: (.op Option.none (.pure 3 (vPick (.sl [.a, .c, .a]) (.sl [.c, .c, .a]) (.k (.bool Bool.false)))) (Option.some [.d, .c, .a])) :: (.op Option.none (.pure 1 (vMove (.sl [.d, .c, .a]))) (Option.some [.a, .d, .a])) :: (.op (Option.some ([.a, .d, .a], Bool.false)) (.pure 1 (vMove (.sl [.a]))) (Option.some [.b, .d, .a])) :: c4_15)
noncomputable def c4_20 : List St := [(.op (Option.some ([.c, .d, .b], Bool.true)) (.pure 11 (vBin .no .leq (.sl [.d, .d, .b]) (.k (.int .u8 (.ofNat 57))))) (Option.some [.a, .a, .c])), (.op Option.none (.pure 3 (vPick (.sl [.c, .d, .b]) (.sl [.a, .a, .c]) (.k (.bool Bool.false)))) (Option.some [.b, .a, .c]))]
noncomputable def c4_22 : EC := (.seq (.steps [(.op Option.none (.eff (hCall (.k (.fn 10 [] [])) [])) (Option.some [.c, .a, .c])), (.op Option.none (.pure 2 (vMove (.sl [.c, .a, .c]))) (Option.some [.d]))]) .ret)
noncomputable def c4_21 : EC := (.cond (.sl [.b, .a, .c]) c4_22 .skip)
noncomputable def c4_32 : List St := [(.op Option.none (.pure 3 (vPick (.sl [.b, .b, .a, .a]) (.sl [.c, .b, .a, .a]) (.k (.bool Bool.false)))) (Option.some [.d, .b, .a, .a])), (.op Option.none (.pure 2 (vMove (.sl [.d, .b, .a, .a]))) (Option.some [.d]))]
noncomputable def c4_31 : List St := ((.op (Option.some ([.d, .c, .d], Bool.true)) (.pure 3 (vPick (.sl [.b, .d, .d]) (.k (.bool Bool.true)) (.sl [.c, .a, .a, .a]))) (Option.some [.d, .a, .a, .a])) :: (.op Option.none (.pure 3 (vPick (.sl [.d, .c, .d]) (.sl [.d, .a, .a, .a]) (.k (.bool Bool.false)))) (Option.some [.a, .b, .a, .a])) :: (.op Option.none (.pure 1 (vMove (.sl [.a, .b, .a, .a]))) (Option.some [.b, .b, .a, .a])) :: (.op (Option.some ([.b, .b, .a, .a], Bool.true)) (.eff (hCall (.k (.fn 10 [] [])) [])) (Option.some [.c, .b, .a, .a])) :: c4_32)
noncomputable def c4_30 : List St := ((.op (Option.some ([.b, .d, .d], Bool.false)) (.look 8 (lLoad (.sl [.c, .d, .d]) 1 Bool.false)) (Option.some [.d, .d, .d])) :: (.op (Option.some ([.b, .d, .d], Bool.false)) (.pure 1 (vMove (.sl [.a, .a]))) (Option.some [.a, .a, .a, .a])) :: (.op (Option.some ([.b, .d, .d], Bool.false)) (.pure 11 (vBin .no .rem (.sl [.a, .a, .a, .a]) (.k (.int .i64 (.ofNat 1000))))) (Option.some [.b, .a, .a, .a])) :: (.op (Option.some ([.b, .d, .d], Bool.false)) (.pure 11 (vBin .no .eql (.sl [.d, .d, .d]) (.sl [.b, .a, .a, .a]))) (Option.some [.c, .a, .a, .a])) :: c4_31)
noncomputable def c4_29 : List St := ((.op Option.none (.pure 1 (vMove (.sl [.c, .c, .d]))) (Option.some [.d, .c, .d])) :: (.op (Option.some ([.d, .c, .d], Bool.true)) (.pure 1 (vMove (.sl [.a, .b]))) (Option.some [.a, .d, .d])) :: (.op (Option.some ([.d, .c, .d], Bool.true)) (.pure 1 (vMove (.sl [.a, .d, .d]))) (Option.some [.b, .d, .d])) :: (.op (Option.some ([.b, .d, .d], Bool.false)) (.pure 18 (vFieldAddr (.sl [.d, .a]) 2)) (Option.some [.c, .d, .d])) :: c4_30)
noncomputable def c4_28 : List St := ((.op (Option.some ([.a, .b, .d], Bool.true)) (.pure 11 (vBin .no .eql (.sl [.c, .b, .d]) (.k (.int .i64 (.ofNat 6))))) (Option.some [.d, .b, .d])) :: (.op (Option.some ([.a, .b, .d], Bool.true)) (.pure 1 (vMove (.sl [.a, .b]))) (Option.some [.a, .c, .d])) :: (.op (Option.some ([.a, .b, .d], Bool.true)) (.pure 11 (vBin (.one .bool) .eql (.sl [.d, .b, .d]) (.sl [.a, .c, .d]))) (Option.some [.b, .c, .d])) :: (.op Option.none (.pure 3 (vPick (.sl [.a, .b, .d]) (.sl [.b, .c, .d]) (.k (.bool Bool.false)))) (Option.some [.c, .c, .d])) :: c4_29)
noncomputable def c4_27 : List St := ((.op Option.none (.pure 3 (vPick (.sl [.d, .d, .c]) (.sl [.c, .a, .d]) (.k (.bool Bool.false)))) (Option.some [.d, .a, .d])) :: (.op Option.none (.pure 1 (vMove (.sl [.d, .a, .d]))) (Option.some [.a, .b, .d])) :: (.op (Option.some ([.a, .b, .d], Bool.true)) (.pure 18 (vFieldAddr (.sl [.d, .a]) 0)) (Option.some [.b, .b, .d])) :: (.op (Option.some ([.a, .b, .d], Bool.true)) (.look 8 (lLoad (.sl [.b, .b, .d]) 1 Bool.false)) (Option.some [.c, .b, .d])) :: c4_28)
noncomputable def c4_26 : List St := ((.op Option.none (.pure 1 (vMove (.sl [.c, .d, .c]))) (Option.some [.d, .d, .c])) :: (.op (Option.some ([.d, .d, .c], Bool.true)) (.pure 18 (vFieldAddr (.sl [.c, .a]) 0)) (Option.some [.a, .a, .d])) :: (.op (Option.some ([.d, .d, .c], Bool.true)) (.look 8 (lLoad (.sl [.a, .a, .d]) 1 Bool.false)) (Option.some [.b, .a, .d])) :: (.op (Option.some ([.d, .d, .c], Bool.true)) (.pure 11 (vBin .no .eql (.sl [.b, .a, .d]) (.k (.int .i64 (.ofNat 6))))) (Option.some [.c, .a, .d])) :: c4_27)
noncomputable def c4_25 : List St := ((.op Option.none (.pure 3 (vPick (.sl [.c, .b, .c]) (.sl [.c, .c, .c]) (.k (.bool Bool.false)))) (Option.some [.d, .c, .c])) :: (.op Option.none (.pure 1 (vMove (.sl [.a, .a]))) (Option.some [.a, .d, .c])) :: (.op Option.none (.pure 11 (vBin .no .leq (.sl [.a, .d, .c]) (.k (.int .i64 (.ofNat 2147483647))))) (Option.some [.b, .d, .c])) :: (.op Option.none (.pure 11 (vBin (.one .bool) .eql (.sl [.d, .c, .c]) (.sl [.b, .d, .c]))) (Option.some [.c, .d, .c])) :: c4_26)
noncomputable def c4_24 : List St := ((.op (Option.some ([.c, .b, .c], Bool.true)) (.pure 18 (vFieldAddr (.sl [.b, .a]) 2)) (Option.some [.d, .b, .c])) :: (.op (Option.some ([.c, .b, .c], Bool.true)) (.look 8 (lLoad (.sl [.d, .b, .c]) 1 Bool.false)) (Option.some [.a, .c, .c])) :: (.op (Option.some ([.c, .b, .c], Bool.true)) (.pure 1 (vMove (.sl [.a, .a]))) (Option.some [.b, .c, .c])) :: (.op (Option.some ([.c, .b, .c], Bool.true)) (.pure 11 (vBin .no .eql (.sl [.a, .c, .c]) (.sl [.b, .c, .c]))) (Option.some [.c, .c, .c])) :: c4_25)
noncomputable def c4_23 : EC := (.seq (.steps ((.op Option.none (.pure 18 (vFieldAddr (.sl [.b, .a]) 0)) (Option.some [.d, .a, .c])) :: (.op Option.none (.look 8 (lLoad (.sl [.d, .a, .c]) 1 Bool.false)) (Option.some [.a, .b, .c])) :: (.op Option.none (.pure 11 (vBin .no .eql (.sl [.a, .b, .c]) (.k (.int .i64 (.ofNat 1))))) (Option.some [.b, .b, .c])) :: (.op Option.none (.pure 1 (vMove (.sl [.b, .b, .c]))) (Option.some [.c, .b, .c])) :: c4_24)) .ret)
noncomputable def c4_19 : EC := (.seq (.seq (.steps ((.op Option.none (.pure 1 (vMove (.sl [.a]))) (Option.some [.a, .d, .b])) :: (.op Option.none (.pure 11 (vBin .no .geq (.sl [.a, .d, .b]) (.k (.int .u8 (.ofNat 48))))) (Option.some [.b, .d, .b])) :: (.op Option.none (.pure 1 (vMove (.sl [.b, .d, .b]))) (Option.some [.c, .d, .b])) :: (.op (Option.some ([.c, .d, .b], Bool.true)) (.pure 1 (vMove (.sl [.a]))) (Option.some [.d, .d, .b])) :: c4_20)) c4_21) c4_23)
noncomputable def c4_13 : EC := (.seq (.steps ((.op Option.none (.pure 1 (vMove (.sl [.a]))) (Option.some [.c, .b, .a])) :: (.op Option.none (.pure 11 (vBin .no .geq (.sl [.c, .b, .a]) (.k (.int .u8 (.ofNat 97))))) (Option.some [.d, .b, .a])) :: (.op Option.none (.pure 1 (vMove (.sl [.d, .b, .a]))) (Option.some [.a, .c, .a])) :: (.op (Option.some ([.a, .c, .a], Bool.true)) (.pure 1 (vMove (.sl [.a]))) (Option.some [.b, .c, .a])) :: c4_14)) c4_19)
noncomputable def c4_6 : EC := (.seq (.drawn ((.op Option.none (.pure 1 (vMove (.sl [.a, .a]))) (Option.some [.c, .d])) :: (.op Option.none (.pure 11 (vBin .no .rem (.sl [.c, .d]) (.k (.int .i64 (.ofNat 1000))))) (Option.some [.d, .d])) :: (.op Option.none (.pure 1 (vMove (.sl [.a]))) (Option.some [.b, .a, .a])) :: (.op Option.none (.new 7 (nSlice 1 1 [(.int .u8 (.ofNat 0))] [(0, (1, (.sl [.b, .a, .a])))])) (Option.some [.c, .a, .a])) :: c4_7) [[.c, .d], [.d, .d], [.a, .a, .a], [.b, .a, .a], [.c, .a, .a], [.d, .a, .a], [.a, .b, .a], [.b, .b, .a], [.d, .a]]) c4_13)
noncomputable def c4_4 : EC := (.seq (.steps ((.op Option.none (.pure 1 (vMove (.sl [.a, .a]))) (Option.some [.c, .c])) :: (.op Option.none (.eff (hCall (.k (.fn 13 [] [])) [(.sl [.c, .c])])) (Option.some [.d, .c])) :: (.op Option.none (.pure 11 (vBin .no .add (.k (.str ⟨#[48]⟩)) (.sl [.d, .c]))) (Option.some [.a, .d])) :: (.op Option.none (.eff (hCall (.k (.fn 11 [] [])) [(.sl [.a, .d]), (.k (.int .i64 (.ofNat 0)))])) (Option.some [.b, .d])) :: c4_5)) c4_6)
noncomputable def c4_2 : EC := (.seq (.steps ((.op Option.none (.pure 1 (vMove (.sl [.a, .a]))) (Option.some [.d, .b])) :: (.op Option.none (.eff (hCall (.k (.fn 13 [] [])) [(.sl [.d, .b])])) (Option.some [.a, .c])) :: (.op Option.none (.eff (hCall (.k (.fn 11 [] [])) [(.sl [.a, .c]), (.k (.int .i64 (.ofNat 0)))])) (Option.some [.b, .c])) :: (.op Option.none (.eff (bLoc [(.int .i64 (.ofNat 0)), (.str ⟨#[]⟩), (.int .i64 (.ofNat 0)), (.int .i64 (.ofNat 0)), (.bool Bool.false)] [.b, .a])) (Option.some [.b, .a])) :: c4_3)) c4_4)
noncomputable def c4_1 : EC := (.seq (.steps [(.op Option.none (.pure 1 (vMove (.sl []))) (Option.some [.b, .b])), (.op Option.none (.pure 13 (vConvInt .i64 (.sl [.b, .b]))) (Option.some [.c, .b])), (.op Option.none (.pure 2 (vMove (.sl [.c, .b]))) (Option.some [.a, .a]))]) c4_2)
noncomputable def c4 : EF := ⟨(.seq (.steps [(.op Option.none (.pure 2 (vMove (.k (.bool Bool.false)))) (Option.some [.d]))]) c4_1), [(.slot (.sl [.d]))], Bool.false⟩
theorem c4_ok : compF Tryd.prog 4 = some c4 := by kernel_rfl
noncomputable def LF10 : FuncId → Option EF := lookF [(10, c10)]
noncomputable def LF4 : FuncId → Option EF := lookF [(4, c4)]
theorem FF10 : LF10 10 = some c10 := rfl
theorem FF4 : LF4 4 = some c4 := rfl
def a1S : List UInt8 := [97, 49, 32, 61, 32, 50]
theorem a1_k : (nextT a1S 0).k = 3 := by decide +kernel
theorem a1_s : (nextT a1S 0).s = ⟨#[97, 49]⟩ := by decide +kernel
theorem w_yield : isW ⟨#[121, 105, 101, 108, 100]⟩ = true := by decide +kernel
theorem w_a1 : isW ⟨#[97, 49]⟩ = false := by decide +kernel
theorem t10 {call : Calls'} (h : H) (k11' : ∀ h, call 11 [.str ⟨#[97, 49, 32, 61, 32, 50]⟩, .int .i64 0] h = .ret (nextA a1S 0) h) (k19' : ∀ s h, call 19 [.str s] h = .ret (.bool (isW s)) h) : Tells (evFun LF10 call 100 10 [] h) h (.bool true) := by
  have e1 := a1_k
  have e2 := a1_s
  simp [Tells, evFun, FF10, c10, -aeqs, -aeq, wrap64, k11', k19', e1, e2, w_yield, w_a1]
  (try (conv in (evC call 100 c10_1 (.node _ _ _ _ _) _) => unfold c10_1; simp [-aeqs, -aeq, wrap64, k11', k19', e1, e2, w_yield, w_a1]); try dsimp only)
  (try (conv in (evC call 100 c10_2 (.node _ _ _ _ _) _) => unfold c10_2; simp [-aeqs, -aeq, wrap64, k11', k19', e1, e2, w_yield, w_a1]); try dsimp only)
  (try (conv in (evSteps call c10_3 (.node _ _ _ _ _) _) => unfold c10_3; simp [-aeqs, -aeq, wrap64, k11', k19', e1, e2, w_yield, w_a1]); try dsimp only)
  (try (conv in (evSteps call c10_4 (.node _ _ _ _ _) _) => unfold c10_4; simp [-aeqs, -aeq, wrap64, k11', k19', e1, e2, w_yield, w_a1]); try dsimp only)
  (try (conv in (evSteps call c10_5 (.node _ _ _ _ _) _) => unfold c10_5; simp [-aeqs, -aeq, wrap64, k11', k19', e1, e2, w_yield, w_a1]); try dsimp only)
  (try (conv in (evSteps call c10_6 (.node _ _ _ _ _) _) => unfold c10_6; simp [-aeqs, -aeq, wrap64, k11', k19', e1, e2, w_yield, w_a1]); try dsimp only)
  (try (conv in (evSteps call c10_7 (.node _ _ _ _ _) _) => unfold c10_7; simp [-aeqs, -aeq, wrap64, k11', k19', e1, e2, w_yield, w_a1]); try dsimp only)
  try simp [-aeqs, -aeq, wrap64, k11', k19', e1, e2, w_yield, w_a1]
noncomputable def S10 : List AV → H → CR := fun xs h => match xs with
  | [] => .ret (.bool true) h
  | _ => .bad 0
noncomputable def k10 : Calls' := upd k13 10 S10
theorem clamp0 (n : Nat) : clampA n 0 = 0 := by unfold clampA; rw [if_neg (by omega), if_neg (by omega)]; rfl
theorem hk13_11 (l : List UInt8) (h : H) (hl : l.length ≤ 1000000) : k13 11 [T l, .int .i64 0] h = .ret (nextA l 0) h := (hk11_11 l 0 h hl).trans (by rw [clamp0])
theorem ok10 : CallsOk Γ Tryd.prog k10 := ok13.add mixed (F := LF10) (one_ok c10_ok) fun xs h r e hb => by
  unfold S10 at e
  split at e
  · subst e
    exact ⟨100, comes_tells (t10 h (fun h => hk13_11 a1S h (by decide)) (fun s h => if_pos (e := CR.bad 0) trivial)) rfl⟩
  · subst e; exact absurd rfl (hb 0)

theorem itoa_dec (n : Nat) : itoaS (n : Int) = ⟨(Lib.decDigits n).toArray⟩ := by
  unfold itoaS Lib.itoa
  rw [if_neg (by omega)]; rfl
theorem dec_small (u : Nat) (h : u < 10000000000) : (Lib.decDigits u).length ≤ 1000 := by
  have h1 := itoa_len (u : Int)
  have key : ∀ (m u : Nat), u < 10 ^ (m + 1) → Lib.nDigits u ≤ m + 1 := by
    intro m
    induction m with
    | zero => intro u hu; rw [Lib.nDigits_small (by omega)]; omega
    | succ m ih =>
      intro u hu
      by_cases h10 : u < 10
      · rw [Lib.nDigits_small h10]; omega
      · rw [Lib.nDigits_big h10]
        have := ih (u / 10) (by rw [Nat.pow_succ] at hu; omega)
        omega
  have := key 9 u (by omega)
  rw [Lib.decDigits_length]; omega
theorem dec_ne (u : Nat) : Lib.decDigits u ≠ [] := by
  intro h
  have := Lib.nDigits_pos u
  rw [← Lib.decDigits_length, h] at this
  simp at this
theorem dec_lead (u : Nat) (x : UInt8) (xs : List UInt8) (h : Lib.decDigits u = x :: xs) : (decide (1 < (x :: xs).length) && eqI x 48) = false := by
  by_cases h1 : u < 10
  · rw [Lib.decDigits_one h1] at h
    cases h; rfl
  · obtain ⟨c, r, h2, h3⟩ := dec_head u (by omega)
    rw [h2] at h
    cases h
    simp [eqI, h3]
def tailB (r : List UInt8) : Bool := match r with | c :: _ => letB c | [] => false
theorem bad_dec (u : Nat) (r : List UInt8) : numBad (Lib.decDigits u ++ r) (Lib.decDigits u).length (min u 2147483648) = (decide (2147483647 < u) || tailB r) := by
  have hl := dec_lead u
  have hne := dec_ne u
  have e2 : decide (2147483647 < min u 2147483648) = decide (2147483647 < u) := by
    by_cases h : 2147483647 < u
    · rw [decide_eq_true h, decide_eq_true (by omega)]
    · rw [decide_eq_false h, decide_eq_false (by omega)]
  generalize Lib.decDigits u = D at *
  cases D with
  | nil => exact absurd rfl hne
  | cons x xs =>
    have e1 := hl x xs rfl
    have e3 : ((x :: xs) ++ r)[(x :: xs).length]? = r.head? := by
      cases r with
      | nil => simp
      | cons c r => simp
    unfold numBad
    rw [e3, e2]
    show ((decide (2147483647 < u) || (decide (1 < (x :: xs).length) && eqI x 48)) || _) = _
    rw [e1, Bool.or_false]
    cases r <;> rfl
theorem next_dec (u : Nat) (r : List UInt8) (hr : NoDig r) : nextA (Lib.decDigits u ++ r) 0 = if (decide (2147483647 < u) || tailB r) then .agg [.int .i64 6, .str ⟨#[]⟩, .int .i64 0, .int .i64 0, .bool false] else .agg [.int .i64 1, T (Lib.decDigits u), .int .i64 ((min u 2147483648 : Nat) : Int), .int .i64 0, .bool false] := by
  obtain ⟨h1, h2, h3⟩ := next_dig (dec_ne u) (dec_dig u) hr
  unfold nextA
  rw [h1, h2, h3, dec_num, bad_dec]
  cases (decide (2147483647 < u) || tailB r) <;> rfl
theorem next_nought (u : Nat) : nextA (48 :: Lib.decDigits u) 0 = .agg [.int .i64 6, .str ⟨#[]⟩, .int .i64 0, .int .i64 0, .bool false] := by
  obtain ⟨h1, h2, h3⟩ := next_dig (ds := 48 :: Lib.decDigits u) (r := []) (by simp) (by
    intro c hc
    rcases List.mem_cons.1 hc with rfl | hc
    · decide
    · exact dec_dig u c hc) (fun c h => by cases h)
  rw [List.append_nil] at h1 h2 h3
  have hb : numBad (48 :: Lib.decDigits u) (48 :: Lib.decDigits u).length (numV (48 :: Lib.decDigits u) 0) = true := by
    have hp : 0 < (Lib.decDigits u).length := List.length_pos_iff.2 (dec_ne u)
    unfold numBad
    have : decide (1 < (48 :: Lib.decDigits u).length) = true := by simp; omega
    rw [this]
    simp [eqI]
  unfold nextA
  rw [h1, h2, h3, if_pos hb]
  rfl
@[simp high] theorem y_eqb (a b : Bool) : aeq .bool (.bool a) (.bool b) = some (a == b) := by
  cases a <;> cases b <;> rfl
set_option maxRecDepth 100000 in
set_option maxHeartbeats 4000000 in
theorem L4 (n i : Nat) (N : Int) (c : UInt8) (hN : N = (n : Int)) (hn : n < 4294967296) (hi : n % 1000 = i) (em : N.tmod 1000 = (i : Int)) {call : Calls'} (k13' : ∀ n h, in64 n → call 13 [.int .i64 n] h = .ret (.str (itoaS n)) h) (k11' : ∀ l h, List.length l ≤ 1000000 → call 11 [T l, .int .i64 0] h = .ret (nextA l 0) h) (k10' : ∀ h, call 10 [] h = .ret (.bool true) h) :
    Says (evFun LF4 call 100 4 [.int .u32 N, .int .u8 (c.toNat : Int)] H.empty) (.bool true) := by
  have wN : wrapF .i64 N = N := wrap64 (by omega) (by omega)
  have hi' : i < 1000 := by omega
  have lD := dec_small n (by omega)
  have lE := dec_small i (by omega)
  have g1 : ∀ h, call 13 [.int .i64 N] h = .ret (T (Lib.decDigits n)) h := fun h => (k13' N h (by unfold in64; omega)).trans (by rw [hN, itoa_dec])
  have g2 : ∀ h, call 13 [.int .i64 (i : Int)] h = .ret (T (Lib.decDigits i)) h := fun h => (k13' i h (by unfold in64; omega)).trans (by rw [itoa_dec])
  have nD : nextA (Lib.decDigits n) 0 = if decide (2147483647 < n) = true then .agg [.int .i64 6, .str ⟨#[]⟩, .int .i64 0, .int .i64 0, .bool false] else .agg [.int .i64 1, T (Lib.decDigits n), .int .i64 ((min n 2147483648 : Nat) : Int), .int .i64 0, .bool false] := by
    have := next_dec n [] (fun c h => by cases h)
    rwa [List.append_nil, show tailB [] = false from rfl, Bool.or_false] at this
  have g4 := fun h => (k11' (48 :: Lib.decDigits n) h (by simp <;> omega)).trans (congrArg (fun v => CR.ret v h) (next_nought n))
  have c0 : binStr .add ⟨#[48]⟩ ⟨(Lib.decDigits n).toArray⟩ = some (T (48 :: Lib.decDigits n)) := by
    rw [cat_add (by simp <;> omega)]
    try simp [cat]
  have c1 : binStr .add ⟨(Lib.decDigits i).toArray⟩ ⟨#[c]⟩ = some (T (Lib.decDigits i ++ [c])) := by
    rw [cat_add (by simp <;> omega)]
    try simp [cat]
  have le : (Lib.decDigits i ++ [c]).length ≤ 1000000 := by simp; omega
  by_cases hd : digB c = true
  · obtain ⟨d1, d2⟩ := dig_of hd
    have x1 : (c.toNat : Int) < 97 := by omega
    have x3 : (c.toNat : Int) < 65 := by omega
    have x5 : ¬ (c.toNat : Int) = 95 := by omega
    have x6 : ¬ (c.toNat : Int) = 36 := by omega
    have x7 : ¬ (c.toNat : Int) < 48 := by omega
    have x8 : ¬ 57 < (c.toNat : Int) := by omega
    have g5 := fun h => k11' (Lib.decDigits i ++ [c]) h le
    rcases Decidable.em (2147483647 < n) with hm | hm
    · have hm' : ¬ N ≤ 2147483647 := by omega
      have g3 : ∀ h, call 11 [T (Lib.decDigits n), .int .i64 0] h = .ret (.agg [.int .i64 6, .str ⟨#[]⟩, .int .i64 0, .int .i64 0, .bool false]) h := fun h => (k11' _ h (by omega)).trans (by rw [nD, if_pos (decide_eq_true hm)])
      simp [Says, evFun, FF4, c4, -aeqs, -aeq, wrap64, k10', wN, em, g1, g2, g3, g4, g5, c0, c1, hm', x1, x3, x5, x6, x7, x8]
      (try (conv in (evC call 100 c4_1 (.node _ _ _ _ _) _) => unfold c4_1; simp [-aeqs, -aeq, wrap64, k10', wN, em, g1, g2, g3, g4, g5, c0, c1, hm', x1, x3, x5, x6, x7, x8]); try dsimp only)
      (try (conv in (evC call 100 c4_2 (.node _ _ _ _ _) _) => unfold c4_2; simp [-aeqs, -aeq, wrap64, k10', wN, em, g1, g2, g3, g4, g5, c0, c1, hm', x1, x3, x5, x6, x7, x8]); try dsimp only)
      (try (conv in (evSteps call c4_3 (.node _ _ _ _ _) _) => unfold c4_3; simp [-aeqs, -aeq, wrap64, k10', wN, em, g1, g2, g3, g4, g5, c0, c1, hm', x1, x3, x5, x6, x7, x8]); try dsimp only)
      (try (conv in (evC call 100 c4_4 (.node _ _ _ _ _) _) => unfold c4_4; simp [-aeqs, -aeq, wrap64, k10', wN, em, g1, g2, g3, g4, g5, c0, c1, hm', x1, x3, x5, x6, x7, x8]); try dsimp only)
      (try (conv in (evSteps call c4_5 (.node _ _ _ _ _) _) => unfold c4_5; simp [-aeqs, -aeq, wrap64, k10', wN, em, g1, g2, g3, g4, g5, c0, c1, hm', x1, x3, x5, x6, x7, x8]); try dsimp only)
      (try (conv in (evC call 100 c4_6 (.node _ _ _ _ _) _) => unfold c4_6; simp [-aeqs, -aeq, wrap64, k10', wN, em, g1, g2, g3, g4, g5, c0, c1, hm', x1, x3, x5, x6, x7, x8]); try dsimp only)
      (try (conv in (evSteps call c4_7 (.node _ _ _ _ _) _) => unfold c4_7; simp [-aeqs, -aeq, wrap64, k10', wN, em, g1, g2, g3, g4, g5, c0, c1, hm', x1, x3, x5, x6, x7, x8]); try dsimp only)
      (try (conv in (evSteps call c4_8 (.node _ _ _ _ _) _) => unfold c4_8; simp [-aeqs, -aeq, wrap64, k10', wN, em, g1, g2, g3, g4, g5, c0, c1, hm', x1, x3, x5, x6, x7, x8]); try dsimp only)
      (try (conv in (evSteps call c4_9 (.node _ _ _ _ _) _) => unfold c4_9; simp [-aeqs, -aeq, wrap64, k10', wN, em, g1, g2, g3, g4, g5, c0, c1, hm', x1, x3, x5, x6, x7, x8]); try dsimp only)
      (try (conv in (evSteps call c4_10 (.node _ _ _ _ _) _) => unfold c4_10; simp [-aeqs, -aeq, wrap64, k10', wN, em, g1, g2, g3, g4, g5, c0, c1, hm', x1, x3, x5, x6, x7, x8]); try dsimp only)
      (try (conv in (evSteps call c4_11 (.node _ _ _ _ _) _) => unfold c4_11; simp [-aeqs, -aeq, wrap64, k10', wN, em, g1, g2, g3, g4, g5, c0, c1, hm', x1, x3, x5, x6, x7, x8]); try dsimp only)
      (try (conv in (evSteps call c4_12 (.node _ _ _ _ _) _) => unfold c4_12; simp [-aeqs, -aeq, wrap64, k10', wN, em, g1, g2, g3, g4, g5, c0, c1, hm', x1, x3, x5, x6, x7, x8]); try dsimp only)
      (try (conv in (evC call 100 c4_13 (.node _ _ _ _ _) _) => unfold c4_13; simp [-aeqs, -aeq, wrap64, k10', wN, em, g1, g2, g3, g4, g5, c0, c1, hm', x1, x3, x5, x6, x7, x8]); try dsimp only)
      (try (conv in (evSteps call c4_14 (.node _ _ _ _ _) _) => unfold c4_14; simp [-aeqs, -aeq, wrap64, k10', wN, em, g1, g2, g3, g4, g5, c0, c1, hm', x1, x3, x5, x6, x7, x8]); try dsimp only)
      (try (conv in (evSteps call c4_15 (.node _ _ _ _ _) _) => unfold c4_15; simp [-aeqs, -aeq, wrap64, k10', wN, em, g1, g2, g3, g4, g5, c0, c1, hm', x1, x3, x5, x6, x7, x8]); try dsimp only)
      (try (conv in (evSteps call c4_16 (.node _ _ _ _ _) _) => unfold c4_16; simp [-aeqs, -aeq, wrap64, k10', wN, em, g1, g2, g3, g4, g5, c0, c1, hm', x1, x3, x5, x6, x7, x8]); try dsimp only)
      (try (conv in (evSteps call c4_17 (.node _ _ _ _ _) _) => unfold c4_17; simp [-aeqs, -aeq, wrap64, k10', wN, em, g1, g2, g3, g4, g5, c0, c1, hm', x1, x3, x5, x6, x7, x8]); try dsimp only)
      (try (conv in (evSteps call c4_18 (.node _ _ _ _ _) _) => unfold c4_18; simp [-aeqs, -aeq, wrap64, k10', wN, em, g1, g2, g3, g4, g5, c0, c1, hm', x1, x3, x5, x6, x7, x8]); try dsimp only)
      (try (conv in (evC call 100 c4_19 (.node _ _ _ _ _) _) => unfold c4_19; simp [-aeqs, -aeq, wrap64, k10', wN, em, g1, g2, g3, g4, g5, c0, c1, hm', x1, x3, x5, x6, x7, x8]); try dsimp only)
      (try (conv in (evSteps call c4_20 (.node _ _ _ _ _) _) => unfold c4_20; simp [-aeqs, -aeq, wrap64, k10', wN, em, g1, g2, g3, g4, g5, c0, c1, hm', x1, x3, x5, x6, x7, x8]); try dsimp only)
      (try (conv in (evC call 100 c4_21 (.node _ _ _ _ _) _) => unfold c4_21; simp [-aeqs, -aeq, wrap64, k10', wN, em, g1, g2, g3, g4, g5, c0, c1, hm', x1, x3, x5, x6, x7, x8]); try dsimp only)
      (try (conv in (evC call 100 c4_22 (.node _ _ _ _ _) _) => unfold c4_22; simp [-aeqs, -aeq, wrap64, k10', wN, em, g1, g2, g3, g4, g5, c0, c1, hm', x1, x3, x5, x6, x7, x8]); try dsimp only)
      (try (conv in (evC call 100 c4_23 (.node _ _ _ _ _) _) => unfold c4_23; simp [-aeqs, -aeq, wrap64, k10', wN, em, g1, g2, g3, g4, g5, c0, c1, hm', x1, x3, x5, x6, x7, x8]); try dsimp only)
      (try (conv in (evSteps call c4_24 (.node _ _ _ _ _) _) => unfold c4_24; simp [-aeqs, -aeq, wrap64, k10', wN, em, g1, g2, g3, g4, g5, c0, c1, hm', x1, x3, x5, x6, x7, x8]); try dsimp only)
      (try (conv in (evSteps call c4_25 (.node _ _ _ _ _) _) => unfold c4_25; simp [-aeqs, -aeq, wrap64, k10', wN, em, g1, g2, g3, g4, g5, c0, c1, hm', x1, x3, x5, x6, x7, x8]); try dsimp only)
      (try (conv in (evSteps call c4_26 (.node _ _ _ _ _) _) => unfold c4_26; simp [-aeqs, -aeq, wrap64, k10', wN, em, g1, g2, g3, g4, g5, c0, c1, hm', x1, x3, x5, x6, x7, x8]); try dsimp only)
      (try (conv in (evSteps call c4_27 (.node _ _ _ _ _) _) => unfold c4_27; simp [-aeqs, -aeq, wrap64, k10', wN, em, g1, g2, g3, g4, g5, c0, c1, hm', x1, x3, x5, x6, x7, x8]); try dsimp only)
      (try (conv in (evSteps call c4_28 (.node _ _ _ _ _) _) => unfold c4_28; simp [-aeqs, -aeq, wrap64, k10', wN, em, g1, g2, g3, g4, g5, c0, c1, hm', x1, x3, x5, x6, x7, x8]); try dsimp only)
      (try (conv in (evSteps call c4_29 (.node _ _ _ _ _) _) => unfold c4_29; simp [-aeqs, -aeq, wrap64, k10', wN, em, g1, g2, g3, g4, g5, c0, c1, hm', x1, x3, x5, x6, x7, x8]); try dsimp only)
      (try (conv in (evSteps call c4_30 (.node _ _ _ _ _) _) => unfold c4_30; simp [-aeqs, -aeq, wrap64, k10', wN, em, g1, g2, g3, g4, g5, c0, c1, hm', x1, x3, x5, x6, x7, x8]); try dsimp only)
      (try (conv in (evSteps call c4_31 (.node _ _ _ _ _) _) => unfold c4_31; simp [-aeqs, -aeq, wrap64, k10', wN, em, g1, g2, g3, g4, g5, c0, c1, hm', x1, x3, x5, x6, x7, x8]); try dsimp only)
      (try (conv in (evSteps call c4_32 (.node _ _ _ _ _) _) => unfold c4_32; simp [-aeqs, -aeq, wrap64, k10', wN, em, g1, g2, g3, g4, g5, c0, c1, hm', x1, x3, x5, x6, x7, x8]); try dsimp only)
      try simp [-aeqs, -aeq, wrap64, k10', wN, em, g1, g2, g3, g4, g5, c0, c1, hm', x1, x3, x5, x6, x7, x8]
    · have hm' : N ≤ 2147483647 := by omega
      have hmn : min n 2147483648 = n := by omega
      have g3 : ∀ h, call 11 [T (Lib.decDigits n), .int .i64 0] h = .ret (.agg [.int .i64 1, T (Lib.decDigits n), .int .i64 N, .int .i64 0, .bool false]) h := fun h => (k11' _ h (by omega)).trans (by rw [nD, if_neg (by simpa using hm), hmn, hN])
      simp [Says, evFun, FF4, c4, -aeqs, -aeq, wrap64, k10', wN, em, g1, g2, g3, g4, g5, c0, c1, hm', x1, x3, x5, x6, x7, x8]
      (try (conv in (evC call 100 c4_1 (.node _ _ _ _ _) _) => unfold c4_1; simp [-aeqs, -aeq, wrap64, k10', wN, em, g1, g2, g3, g4, g5, c0, c1, hm', x1, x3, x5, x6, x7, x8]); try dsimp only)
      (try (conv in (evC call 100 c4_2 (.node _ _ _ _ _) _) => unfold c4_2; simp [-aeqs, -aeq, wrap64, k10', wN, em, g1, g2, g3, g4, g5, c0, c1, hm', x1, x3, x5, x6, x7, x8]); try dsimp only)
      (try (conv in (evSteps call c4_3 (.node _ _ _ _ _) _) => unfold c4_3; simp [-aeqs, -aeq, wrap64, k10', wN, em, g1, g2, g3, g4, g5, c0, c1, hm', x1, x3, x5, x6, x7, x8]); try dsimp only)
      (try (conv in (evC call 100 c4_4 (.node _ _ _ _ _) _) => unfold c4_4; simp [-aeqs, -aeq, wrap64, k10', wN, em, g1, g2, g3, g4, g5, c0, c1, hm', x1, x3, x5, x6, x7, x8]); try dsimp only)
      (try (conv in (evSteps call c4_5 (.node _ _ _ _ _) _) => unfold c4_5; simp [-aeqs, -aeq, wrap64, k10', wN, em, g1, g2, g3, g4, g5, c0, c1, hm', x1, x3, x5, x6, x7, x8]); try dsimp only)
      (try (conv in (evC call 100 c4_6 (.node _ _ _ _ _) _) => unfold c4_6; simp [-aeqs, -aeq, wrap64, k10', wN, em, g1, g2, g3, g4, g5, c0, c1, hm', x1, x3, x5, x6, x7, x8]); try dsimp only)
      (try (conv in (evSteps call c4_7 (.node _ _ _ _ _) _) => unfold c4_7; simp [-aeqs, -aeq, wrap64, k10', wN, em, g1, g2, g3, g4, g5, c0, c1, hm', x1, x3, x5, x6, x7, x8]); try dsimp only)
      (try (conv in (evSteps call c4_8 (.node _ _ _ _ _) _) => unfold c4_8; simp [-aeqs, -aeq, wrap64, k10', wN, em, g1, g2, g3, g4, g5, c0, c1, hm', x1, x3, x5, x6, x7, x8]); try dsimp only)
      (try (conv in (evSteps call c4_9 (.node _ _ _ _ _) _) => unfold c4_9; simp [-aeqs, -aeq, wrap64, k10', wN, em, g1, g2, g3, g4, g5, c0, c1, hm', x1, x3, x5, x6, x7, x8]); try dsimp only)
      (try (conv in (evSteps call c4_10 (.node _ _ _ _ _) _) => unfold c4_10; simp [-aeqs, -aeq, wrap64, k10', wN, em, g1, g2, g3, g4, g5, c0, c1, hm', x1, x3, x5, x6, x7, x8]); try dsimp only)
      (try (conv in (evSteps call c4_11 (.node _ _ _ _ _) _) => unfold c4_11; simp [-aeqs, -aeq, wrap64, k10', wN, em, g1, g2, g3, g4, g5, c0, c1, hm', x1, x3, x5, x6, x7, x8]); try dsimp only)
      (try (conv in (evSteps call c4_12 (.node _ _ _ _ _) _) => unfold c4_12; simp [-aeqs, -aeq, wrap64, k10', wN, em, g1, g2, g3, g4, g5, c0, c1, hm', x1, x3, x5, x6, x7, x8]); try dsimp only)
      (try (conv in (evC call 100 c4_13 (.node _ _ _ _ _) _) => unfold c4_13; simp [-aeqs, -aeq, wrap64, k10', wN, em, g1, g2, g3, g4, g5, c0, c1, hm', x1, x3, x5, x6, x7, x8]); try dsimp only)
      (try (conv in (evSteps call c4_14 (.node _ _ _ _ _) _) => unfold c4_14; simp [-aeqs, -aeq, wrap64, k10', wN, em, g1, g2, g3, g4, g5, c0, c1, hm', x1, x3, x5, x6, x7, x8]); try dsimp only)
      (try (conv in (evSteps call c4_15 (.node _ _ _ _ _) _) => unfold c4_15; simp [-aeqs, -aeq, wrap64, k10', wN, em, g1, g2, g3, g4, g5, c0, c1, hm', x1, x3, x5, x6, x7, x8]); try dsimp only)
      (try (conv in (evSteps call c4_16 (.node _ _ _ _ _) _) => unfold c4_16; simp [-aeqs, -aeq, wrap64, k10', wN, em, g1, g2, g3, g4, g5, c0, c1, hm', x1, x3, x5, x6, x7, x8]); try dsimp only)
      (try (conv in (evSteps call c4_17 (.node _ _ _ _ _) _) => unfold c4_17; simp [-aeqs, -aeq, wrap64, k10', wN, em, g1, g2, g3, g4, g5, c0, c1, hm', x1, x3, x5, x6, x7, x8]); try dsimp only)
      (try (conv in (evSteps call c4_18 (.node _ _ _ _ _) _) => unfold c4_18; simp [-aeqs, -aeq, wrap64, k10', wN, em, g1, g2, g3, g4, g5, c0, c1, hm', x1, x3, x5, x6, x7, x8]); try dsimp only)
      (try (conv in (evC call 100 c4_19 (.node _ _ _ _ _) _) => unfold c4_19; simp [-aeqs, -aeq, wrap64, k10', wN, em, g1, g2, g3, g4, g5, c0, c1, hm', x1, x3, x5, x6, x7, x8]); try dsimp only)
      (try (conv in (evSteps call c4_20 (.node _ _ _ _ _) _) => unfold c4_20; simp [-aeqs, -aeq, wrap64, k10', wN, em, g1, g2, g3, g4, g5, c0, c1, hm', x1, x3, x5, x6, x7, x8]); try dsimp only)
      (try (conv in (evC call 100 c4_21 (.node _ _ _ _ _) _) => unfold c4_21; simp [-aeqs, -aeq, wrap64, k10', wN, em, g1, g2, g3, g4, g5, c0, c1, hm', x1, x3, x5, x6, x7, x8]); try dsimp only)
      (try (conv in (evC call 100 c4_22 (.node _ _ _ _ _) _) => unfold c4_22; simp [-aeqs, -aeq, wrap64, k10', wN, em, g1, g2, g3, g4, g5, c0, c1, hm', x1, x3, x5, x6, x7, x8]); try dsimp only)
      (try (conv in (evC call 100 c4_23 (.node _ _ _ _ _) _) => unfold c4_23; simp [-aeqs, -aeq, wrap64, k10', wN, em, g1, g2, g3, g4, g5, c0, c1, hm', x1, x3, x5, x6, x7, x8]); try dsimp only)
      (try (conv in (evSteps call c4_24 (.node _ _ _ _ _) _) => unfold c4_24; simp [-aeqs, -aeq, wrap64, k10', wN, em, g1, g2, g3, g4, g5, c0, c1, hm', x1, x3, x5, x6, x7, x8]); try dsimp only)
      (try (conv in (evSteps call c4_25 (.node _ _ _ _ _) _) => unfold c4_25; simp [-aeqs, -aeq, wrap64, k10', wN, em, g1, g2, g3, g4, g5, c0, c1, hm', x1, x3, x5, x6, x7, x8]); try dsimp only)
      (try (conv in (evSteps call c4_26 (.node _ _ _ _ _) _) => unfold c4_26; simp [-aeqs, -aeq, wrap64, k10', wN, em, g1, g2, g3, g4, g5, c0, c1, hm', x1, x3, x5, x6, x7, x8]); try dsimp only)
      (try (conv in (evSteps call c4_27 (.node _ _ _ _ _) _) => unfold c4_27; simp [-aeqs, -aeq, wrap64, k10', wN, em, g1, g2, g3, g4, g5, c0, c1, hm', x1, x3, x5, x6, x7, x8]); try dsimp only)
      (try (conv in (evSteps call c4_28 (.node _ _ _ _ _) _) => unfold c4_28; simp [-aeqs, -aeq, wrap64, k10', wN, em, g1, g2, g3, g4, g5, c0, c1, hm', x1, x3, x5, x6, x7, x8]); try dsimp only)
      (try (conv in (evSteps call c4_29 (.node _ _ _ _ _) _) => unfold c4_29; simp [-aeqs, -aeq, wrap64, k10', wN, em, g1, g2, g3, g4, g5, c0, c1, hm', x1, x3, x5, x6, x7, x8]); try dsimp only)
      (try (conv in (evSteps call c4_30 (.node _ _ _ _ _) _) => unfold c4_30; simp [-aeqs, -aeq, wrap64, k10', wN, em, g1, g2, g3, g4, g5, c0, c1, hm', x1, x3, x5, x6, x7, x8]); try dsimp only)
      (try (conv in (evSteps call c4_31 (.node _ _ _ _ _) _) => unfold c4_31; simp [-aeqs, -aeq, wrap64, k10', wN, em, g1, g2, g3, g4, g5, c0, c1, hm', x1, x3, x5, x6, x7, x8]); try dsimp only)
      (try (conv in (evSteps call c4_32 (.node _ _ _ _ _) _) => unfold c4_32; simp [-aeqs, -aeq, wrap64, k10', wN, em, g1, g2, g3, g4, g5, c0, c1, hm', x1, x3, x5, x6, x7, x8]); try dsimp only)
      try simp [-aeqs, -aeq, wrap64, k10', wN, em, g1, g2, g3, g4, g5, c0, c1, hm', x1, x3, x5, x6, x7, x8]
  · have nd : NoDig [c] := by
      intro x hx
      simp at hx; subst hx
      simpa using hd
    have hd' : (c.toNat : Int) < 48 ∨ 57 < (c.toNat : Int) := by
      rcases Decidable.em ((c.toNat : Int) < 48) with h | h
      · exact .inl h
      · rcases Decidable.em (57 < (c.toNat : Int)) with h' | h'
        · exact .inr h'
        · exact absurd (dig_to (c := c) (by omega) (by omega)) hd
    have hsm : decide (2147483647 < i) = false := decide_eq_false (by omega)
    have htl : tailB [c] = letB c := rfl
    have hmin : min i 2147483648 = i := by omega
    have g5 : ∀ h, call 11 [T (Lib.decDigits i ++ [c]), .int .i64 0] h = .ret (if letB c = true then .agg [.int .i64 6, .str ⟨#[]⟩, .int .i64 0, .int .i64 0, .bool false] else .agg [.int .i64 1, T (Lib.decDigits i), .int .i64 (i : Int), .int .i64 0, .bool false]) h := by
      intro h
      rw [k11' _ h le, next_dec i [c] nd, hsm, htl, Bool.false_or, hmin]
    rcases Decidable.em ((c.toNat : Int) < 97) with x1 | x1 <;> rcases Decidable.em (122 < (c.toNat : Int)) with x2 | x2 <;> first | (exfalso; omega) | skip
    all_goals rcases Decidable.em ((c.toNat : Int) < 65) with x3 | x3 <;> rcases Decidable.em (90 < (c.toNat : Int)) with x4 | x4 <;> first | (exfalso; omega) | skip
    all_goals rcases Decidable.em ((c.toNat : Int) = 95) with x5 | x5 <;> rcases Decidable.em ((c.toNat : Int) = 36) with x6 | x6 <;> first | (exfalso; omega) | skip
    all_goals rcases Decidable.em ((c.toNat : Int) < 48) with x7 | x7 <;> rcases Decidable.em (57 < (c.toNat : Int)) with x8 | x8 <;> first | (exfalso; omega) | skip
    all_goals
      have hlv := Eq.refl (letB c)
      conv at hlv => rhs; simp [letB, leI, geI, eqI, x1, x2, x3, x4, x5, x6]
    all_goals simp only [hlv, if_true, if_false, Bool.false_eq_true] at g5
    all_goals first
      | (have hcc : c = 36 := UInt8.toNat_inj.1 (by show c.toNat = 36; omega)
         subst hcc)
      | (have hcc : c = 95 := UInt8.toNat_inj.1 (by show c.toNat = 95; omega)
         subst hcc)
      | skip
    all_goals rcases Decidable.em (2147483647 < n) with hm | hm
    all_goals first
      | (have hm' : ¬ N ≤ 2147483647 := by omega
         have hmm : 2147483647 < N := by omega
         have g3 : ∀ h, call 11 [T (Lib.decDigits n), .int .i64 0] h = .ret (.agg [.int .i64 6, .str ⟨#[]⟩, .int .i64 0, .int .i64 0, .bool false]) h := fun h => (k11' _ h (by omega)).trans (by rw [nD, if_pos (decide_eq_true hm)])
         simp [Says, evFun, FF4, c4, -aeqs, -aeq, wrap64, k10', wN, em, g1, g2, g3, g4, g5, c0, c1, hm', hmm, x1, x2, x3, x4, x5, x6, x7, x8]
         (try (conv in (evC call 100 c4_1 (.node _ _ _ _ _) _) => unfold c4_1; simp [-aeqs, -aeq, wrap64, k10', wN, em, g1, g2, g3, g4, g5, c0, c1, hm', hmm, x1, x2, x3, x4, x5, x6, x7, x8]); try dsimp only)
         (try (conv in (evC call 100 c4_2 (.node _ _ _ _ _) _) => unfold c4_2; simp [-aeqs, -aeq, wrap64, k10', wN, em, g1, g2, g3, g4, g5, c0, c1, hm', hmm, x1, x2, x3, x4, x5, x6, x7, x8]); try dsimp only)
         (try (conv in (evSteps call c4_3 (.node _ _ _ _ _) _) => unfold c4_3; simp [-aeqs, -aeq, wrap64, k10', wN, em, g1, g2, g3, g4, g5, c0, c1, hm', hmm, x1, x2, x3, x4, x5, x6, x7, x8]); try dsimp only)
         (try (conv in (evC call 100 c4_4 (.node _ _ _ _ _) _) => unfold c4_4; simp [-aeqs, -aeq, wrap64, k10', wN, em, g1, g2, g3, g4, g5, c0, c1, hm', hmm, x1, x2, x3, x4, x5, x6, x7, x8]); try dsimp only)
         (try (conv in (evSteps call c4_5 (.node _ _ _ _ _) _) => unfold c4_5; simp [-aeqs, -aeq, wrap64, k10', wN, em, g1, g2, g3, g4, g5, c0, c1, hm', hmm, x1, x2, x3, x4, x5, x6, x7, x8]); try dsimp only)
         (try (conv in (evC call 100 c4_6 (.node _ _ _ _ _) _) => unfold c4_6; simp [-aeqs, -aeq, wrap64, k10', wN, em, g1, g2, g3, g4, g5, c0, c1, hm', hmm, x1, x2, x3, x4, x5, x6, x7, x8]); try dsimp only)
         (try (conv in (evSteps call c4_7 (.node _ _ _ _ _) _) => unfold c4_7; simp [-aeqs, -aeq, wrap64, k10', wN, em, g1, g2, g3, g4, g5, c0, c1, hm', hmm, x1, x2, x3, x4, x5, x6, x7, x8]); try dsimp only)
         (try (conv in (evSteps call c4_8 (.node _ _ _ _ _) _) => unfold c4_8; simp [-aeqs, -aeq, wrap64, k10', wN, em, g1, g2, g3, g4, g5, c0, c1, hm', hmm, x1, x2, x3, x4, x5, x6, x7, x8]); try dsimp only)
         (try (conv in (evSteps call c4_9 (.node _ _ _ _ _) _) => unfold c4_9; simp [-aeqs, -aeq, wrap64, k10', wN, em, g1, g2, g3, g4, g5, c0, c1, hm', hmm, x1, x2, x3, x4, x5, x6, x7, x8]); try dsimp only)
         (try (conv in (evSteps call c4_10 (.node _ _ _ _ _) _) => unfold c4_10; simp [-aeqs, -aeq, wrap64, k10', wN, em, g1, g2, g3, g4, g5, c0, c1, hm', hmm, x1, x2, x3, x4, x5, x6, x7, x8]); try dsimp only)
         (try (conv in (evSteps call c4_11 (.node _ _ _ _ _) _) => unfold c4_11; simp [-aeqs, -aeq, wrap64, k10', wN, em, g1, g2, g3, g4, g5, c0, c1, hm', hmm, x1, x2, x3, x4, x5, x6, x7, x8]); try dsimp only)
         (try (conv in (evSteps call c4_12 (.node _ _ _ _ _) _) => unfold c4_12; simp [-aeqs, -aeq, wrap64, k10', wN, em, g1, g2, g3, g4, g5, c0, c1, hm', hmm, x1, x2, x3, x4, x5, x6, x7, x8]); try dsimp only)
         (try (conv in (evC call 100 c4_13 (.node _ _ _ _ _) _) => unfold c4_13; simp [-aeqs, -aeq, wrap64, k10', wN, em, g1, g2, g3, g4, g5, c0, c1, hm', hmm, x1, x2, x3, x4, x5, x6, x7, x8]); try dsimp only)
         (try (conv in (evSteps call c4_14 (.node _ _ _ _ _) _) => unfold c4_14; simp [-aeqs, -aeq, wrap64, k10', wN, em, g1, g2, g3, g4, g5, c0, c1, hm', hmm, x1, x2, x3, x4, x5, x6, x7, x8]); try dsimp only)
         (try (conv in (evSteps call c4_15 (.node _ _ _ _ _) _) => unfold c4_15; simp [-aeqs, -aeq, wrap64, k10', wN, em, g1, g2, g3, g4, g5, c0, c1, hm', hmm, x1, x2, x3, x4, x5, x6, x7, x8]); try dsimp only)
         (try (conv in (evSteps call c4_16 (.node _ _ _ _ _) _) => unfold c4_16; simp [-aeqs, -aeq, wrap64, k10', wN, em, g1, g2, g3, g4, g5, c0, c1, hm', hmm, x1, x2, x3, x4, x5, x6, x7, x8]); try dsimp only)
         (try (conv in (evSteps call c4_17 (.node _ _ _ _ _) _) => unfold c4_17; simp [-aeqs, -aeq, wrap64, k10', wN, em, g1, g2, g3, g4, g5, c0, c1, hm', hmm, x1, x2, x3, x4, x5, x6, x7, x8]); try dsimp only)
         (try (conv in (evSteps call c4_18 (.node _ _ _ _ _) _) => unfold c4_18; simp [-aeqs, -aeq, wrap64, k10', wN, em, g1, g2, g3, g4, g5, c0, c1, hm', hmm, x1, x2, x3, x4, x5, x6, x7, x8]); try dsimp only)
         (try (conv in (evC call 100 c4_19 (.node _ _ _ _ _) _) => unfold c4_19; simp [-aeqs, -aeq, wrap64, k10', wN, em, g1, g2, g3, g4, g5, c0, c1, hm', hmm, x1, x2, x3, x4, x5, x6, x7, x8]); try dsimp only)
         (try (conv in (evSteps call c4_20 (.node _ _ _ _ _) _) => unfold c4_20; simp [-aeqs, -aeq, wrap64, k10', wN, em, g1, g2, g3, g4, g5, c0, c1, hm', hmm, x1, x2, x3, x4, x5, x6, x7, x8]); try dsimp only)
         (try (conv in (evC call 100 c4_21 (.node _ _ _ _ _) _) => unfold c4_21; simp [-aeqs, -aeq, wrap64, k10', wN, em, g1, g2, g3, g4, g5, c0, c1, hm', hmm, x1, x2, x3, x4, x5, x6, x7, x8]); try dsimp only)
         (try (conv in (evC call 100 c4_22 (.node _ _ _ _ _) _) => unfold c4_22; simp [-aeqs, -aeq, wrap64, k10', wN, em, g1, g2, g3, g4, g5, c0, c1, hm', hmm, x1, x2, x3, x4, x5, x6, x7, x8]); try dsimp only)
         (try (conv in (evC call 100 c4_23 (.node _ _ _ _ _) _) => unfold c4_23; simp [-aeqs, -aeq, wrap64, k10', wN, em, g1, g2, g3, g4, g5, c0, c1, hm', hmm, x1, x2, x3, x4, x5, x6, x7, x8]); try dsimp only)
         (try (conv in (evSteps call c4_24 (.node _ _ _ _ _) _) => unfold c4_24; simp [-aeqs, -aeq, wrap64, k10', wN, em, g1, g2, g3, g4, g5, c0, c1, hm', hmm, x1, x2, x3, x4, x5, x6, x7, x8]); try dsimp only)
         (try (conv in (evSteps call c4_25 (.node _ _ _ _ _) _) => unfold c4_25; simp [-aeqs, -aeq, wrap64, k10', wN, em, g1, g2, g3, g4, g5, c0, c1, hm', hmm, x1, x2, x3, x4, x5, x6, x7, x8]); try dsimp only)
         (try (conv in (evSteps call c4_26 (.node _ _ _ _ _) _) => unfold c4_26; simp [-aeqs, -aeq, wrap64, k10', wN, em, g1, g2, g3, g4, g5, c0, c1, hm', hmm, x1, x2, x3, x4, x5, x6, x7, x8]); try dsimp only)
         (try (conv in (evSteps call c4_27 (.node _ _ _ _ _) _) => unfold c4_27; simp [-aeqs, -aeq, wrap64, k10', wN, em, g1, g2, g3, g4, g5, c0, c1, hm', hmm, x1, x2, x3, x4, x5, x6, x7, x8]); try dsimp only)
         (try (conv in (evSteps call c4_28 (.node _ _ _ _ _) _) => unfold c4_28; simp [-aeqs, -aeq, wrap64, k10', wN, em, g1, g2, g3, g4, g5, c0, c1, hm', hmm, x1, x2, x3, x4, x5, x6, x7, x8]); try dsimp only)
         (try (conv in (evSteps call c4_29 (.node _ _ _ _ _) _) => unfold c4_29; simp [-aeqs, -aeq, wrap64, k10', wN, em, g1, g2, g3, g4, g5, c0, c1, hm', hmm, x1, x2, x3, x4, x5, x6, x7, x8]); try dsimp only)
         (try (conv in (evSteps call c4_30 (.node _ _ _ _ _) _) => unfold c4_30; simp [-aeqs, -aeq, wrap64, k10', wN, em, g1, g2, g3, g4, g5, c0, c1, hm', hmm, x1, x2, x3, x4, x5, x6, x7, x8]); try dsimp only)
         (try (conv in (evSteps call c4_31 (.node _ _ _ _ _) _) => unfold c4_31; simp [-aeqs, -aeq, wrap64, k10', wN, em, g1, g2, g3, g4, g5, c0, c1, hm', hmm, x1, x2, x3, x4, x5, x6, x7, x8]); try dsimp only)
         (try (conv in (evSteps call c4_32 (.node _ _ _ _ _) _) => unfold c4_32; simp [-aeqs, -aeq, wrap64, k10', wN, em, g1, g2, g3, g4, g5, c0, c1, hm', hmm, x1, x2, x3, x4, x5, x6, x7, x8]); try dsimp only)
         try simp [-aeqs, -aeq, wrap64, k10', wN, em, g1, g2, g3, g4, g5, c0, c1, hm', hmm, x1, x2, x3, x4, x5, x6, x7, x8]
         done)
      | (have hm' : N ≤ 2147483647 := by omega
         have hmm : ¬ 2147483647 < N := by omega
         have hmn : min n 2147483648 = n := by omega
         have g3 : ∀ h, call 11 [T (Lib.decDigits n), .int .i64 0] h = .ret (.agg [.int .i64 1, T (Lib.decDigits n), .int .i64 N, .int .i64 0, .bool false]) h := fun h => (k11' _ h (by omega)).trans (by rw [nD, if_neg (by simpa using hm), hmn, hN])
         simp [Says, evFun, FF4, c4, -aeqs, -aeq, wrap64, k10', wN, em, g1, g2, g3, g4, g5, c0, c1, hm', hmm, x1, x2, x3, x4, x5, x6, x7, x8]
         (try (conv in (evC call 100 c4_1 (.node _ _ _ _ _) _) => unfold c4_1; simp [-aeqs, -aeq, wrap64, k10', wN, em, g1, g2, g3, g4, g5, c0, c1, hm', hmm, x1, x2, x3, x4, x5, x6, x7, x8]); try dsimp only)
         (try (conv in (evC call 100 c4_2 (.node _ _ _ _ _) _) => unfold c4_2; simp [-aeqs, -aeq, wrap64, k10', wN, em, g1, g2, g3, g4, g5, c0, c1, hm', hmm, x1, x2, x3, x4, x5, x6, x7, x8]); try dsimp only)
         (try (conv in (evSteps call c4_3 (.node _ _ _ _ _) _) => unfold c4_3; simp [-aeqs, -aeq, wrap64, k10', wN, em, g1, g2, g3, g4, g5, c0, c1, hm', hmm, x1, x2, x3, x4, x5, x6, x7, x8]); try dsimp only)
         (try (conv in (evC call 100 c4_4 (.node _ _ _ _ _) _) => unfold c4_4; simp [-aeqs, -aeq, wrap64, k10', wN, em, g1, g2, g3, g4, g5, c0, c1, hm', hmm, x1, x2, x3, x4, x5, x6, x7, x8]); try dsimp only)
         (try (conv in (evSteps call c4_5 (.node _ _ _ _ _) _) => unfold c4_5; simp [-aeqs, -aeq, wrap64, k10', wN, em, g1, g2, g3, g4, g5, c0, c1, hm', hmm, x1, x2, x3, x4, x5, x6, x7, x8]); try dsimp only)
         (try (conv in (evC call 100 c4_6 (.node _ _ _ _ _) _) => unfold c4_6; simp [-aeqs, -aeq, wrap64, k10', wN, em, g1, g2, g3, g4, g5, c0, c1, hm', hmm, x1, x2, x3, x4, x5, x6, x7, x8]); try dsimp only)
         (try (conv in (evSteps call c4_7 (.node _ _ _ _ _) _) => unfold c4_7; simp [-aeqs, -aeq, wrap64, k10', wN, em, g1, g2, g3, g4, g5, c0, c1, hm', hmm, x1, x2, x3, x4, x5, x6, x7, x8]); try dsimp only)
         (try (conv in (evSteps call c4_8 (.node _ _ _ _ _) _) => unfold c4_8; simp [-aeqs, -aeq, wrap64, k10', wN, em, g1, g2, g3, g4, g5, c0, c1, hm', hmm, x1, x2, x3, x4, x5, x6, x7, x8]); try dsimp only)
         (try (conv in (evSteps call c4_9 (.node _ _ _ _ _) _) => unfold c4_9; simp [-aeqs, -aeq, wrap64, k10', wN, em, g1, g2, g3, g4, g5, c0, c1, hm', hmm, x1, x2, x3, x4, x5, x6, x7, x8]); try dsimp only)
         (try (conv in (evSteps call c4_10 (.node _ _ _ _ _) _) => unfold c4_10; simp [-aeqs, -aeq, wrap64, k10', wN, em, g1, g2, g3, g4, g5, c0, c1, hm', hmm, x1, x2, x3, x4, x5, x6, x7, x8]); try dsimp only)
         (try (conv in (evSteps call c4_11 (.node _ _ _ _ _) _) => unfold c4_11; simp [-aeqs, -aeq, wrap64, k10', wN, em, g1, g2, g3, g4, g5, c0, c1, hm', hmm, x1, x2, x3, x4, x5, x6, x7, x8]); try dsimp only)
         (try (conv in (evSteps call c4_12 (.node _ _ _ _ _) _) => unfold c4_12; simp [-aeqs, -aeq, wrap64, k10', wN, em, g1, g2, g3, g4, g5, c0, c1, hm', hmm, x1, x2, x3, x4, x5, x6, x7, x8]); try dsimp only)
         (try (conv in (evC call 100 c4_13 (.node _ _ _ _ _) _) => unfold c4_13; simp [-aeqs, -aeq, wrap64, k10', wN, em, g1, g2, g3, g4, g5, c0, c1, hm', hmm, x1, x2, x3, x4, x5, x6, x7, x8]); try dsimp only)
         (try (conv in (evSteps call c4_14 (.node _ _ _ _ _) _) => unfold c4_14; simp [-aeqs, -aeq, wrap64, k10', wN, em, g1, g2, g3, g4, g5, c0, c1, hm', hmm, x1, x2, x3, x4, x5, x6, x7, x8]); try dsimp only)
         (try (conv in (evSteps call c4_15 (.node _ _ _ _ _) _) => unfold c4_15; simp [-aeqs, -aeq, wrap64, k10', wN, em, g1, g2, g3, g4, g5, c0, c1, hm', hmm, x1, x2, x3, x4, x5, x6, x7, x8]); try dsimp only)
         (try (conv in (evSteps call c4_16 (.node _ _ _ _ _) _) => unfold c4_16; simp [-aeqs, -aeq, wrap64, k10', wN, em, g1, g2, g3, g4, g5, c0, c1, hm', hmm, x1, x2, x3, x4, x5, x6, x7, x8]); try dsimp only)
         (try (conv in (evSteps call c4_17 (.node _ _ _ _ _) _) => unfold c4_17; simp [-aeqs, -aeq, wrap64, k10', wN, em, g1, g2, g3, g4, g5, c0, c1, hm', hmm, x1, x2, x3, x4, x5, x6, x7, x8]); try dsimp only)
         (try (conv in (evSteps call c4_18 (.node _ _ _ _ _) _) => unfold c4_18; simp [-aeqs, -aeq, wrap64, k10', wN, em, g1, g2, g3, g4, g5, c0, c1, hm', hmm, x1, x2, x3, x4, x5, x6, x7, x8]); try dsimp only)
         (try (conv in (evC call 100 c4_19 (.node _ _ _ _ _) _) => unfold c4_19; simp [-aeqs, -aeq, wrap64, k10', wN, em, g1, g2, g3, g4, g5, c0, c1, hm', hmm, x1, x2, x3, x4, x5, x6, x7, x8]); try dsimp only)
         (try (conv in (evSteps call c4_20 (.node _ _ _ _ _) _) => unfold c4_20; simp [-aeqs, -aeq, wrap64, k10', wN, em, g1, g2, g3, g4, g5, c0, c1, hm', hmm, x1, x2, x3, x4, x5, x6, x7, x8]); try dsimp only)
         (try (conv in (evC call 100 c4_21 (.node _ _ _ _ _) _) => unfold c4_21; simp [-aeqs, -aeq, wrap64, k10', wN, em, g1, g2, g3, g4, g5, c0, c1, hm', hmm, x1, x2, x3, x4, x5, x6, x7, x8]); try dsimp only)
         (try (conv in (evC call 100 c4_22 (.node _ _ _ _ _) _) => unfold c4_22; simp [-aeqs, -aeq, wrap64, k10', wN, em, g1, g2, g3, g4, g5, c0, c1, hm', hmm, x1, x2, x3, x4, x5, x6, x7, x8]); try dsimp only)
         (try (conv in (evC call 100 c4_23 (.node _ _ _ _ _) _) => unfold c4_23; simp [-aeqs, -aeq, wrap64, k10', wN, em, g1, g2, g3, g4, g5, c0, c1, hm', hmm, x1, x2, x3, x4, x5, x6, x7, x8]); try dsimp only)
         (try (conv in (evSteps call c4_24 (.node _ _ _ _ _) _) => unfold c4_24; simp [-aeqs, -aeq, wrap64, k10', wN, em, g1, g2, g3, g4, g5, c0, c1, hm', hmm, x1, x2, x3, x4, x5, x6, x7, x8]); try dsimp only)
         (try (conv in (evSteps call c4_25 (.node _ _ _ _ _) _) => unfold c4_25; simp [-aeqs, -aeq, wrap64, k10', wN, em, g1, g2, g3, g4, g5, c0, c1, hm', hmm, x1, x2, x3, x4, x5, x6, x7, x8]); try dsimp only)
         (try (conv in (evSteps call c4_26 (.node _ _ _ _ _) _) => unfold c4_26; simp [-aeqs, -aeq, wrap64, k10', wN, em, g1, g2, g3, g4, g5, c0, c1, hm', hmm, x1, x2, x3, x4, x5, x6, x7, x8]); try dsimp only)
         (try (conv in (evSteps call c4_27 (.node _ _ _ _ _) _) => unfold c4_27; simp [-aeqs, -aeq, wrap64, k10', wN, em, g1, g2, g3, g4, g5, c0, c1, hm', hmm, x1, x2, x3, x4, x5, x6, x7, x8]); try dsimp only)
         (try (conv in (evSteps call c4_28 (.node _ _ _ _ _) _) => unfold c4_28; simp [-aeqs, -aeq, wrap64, k10', wN, em, g1, g2, g3, g4, g5, c0, c1, hm', hmm, x1, x2, x3, x4, x5, x6, x7, x8]); try dsimp only)
         (try (conv in (evSteps call c4_29 (.node _ _ _ _ _) _) => unfold c4_29; simp [-aeqs, -aeq, wrap64, k10', wN, em, g1, g2, g3, g4, g5, c0, c1, hm', hmm, x1, x2, x3, x4, x5, x6, x7, x8]); try dsimp only)
         (try (conv in (evSteps call c4_30 (.node _ _ _ _ _) _) => unfold c4_30; simp [-aeqs, -aeq, wrap64, k10', wN, em, g1, g2, g3, g4, g5, c0, c1, hm', hmm, x1, x2, x3, x4, x5, x6, x7, x8]); try dsimp only)
         (try (conv in (evSteps call c4_31 (.node _ _ _ _ _) _) => unfold c4_31; simp [-aeqs, -aeq, wrap64, k10', wN, em, g1, g2, g3, g4, g5, c0, c1, hm', hmm, x1, x2, x3, x4, x5, x6, x7, x8]); try dsimp only)
         (try (conv in (evSteps call c4_32 (.node _ _ _ _ _) _) => unfold c4_32; simp [-aeqs, -aeq, wrap64, k10', wN, em, g1, g2, g3, g4, g5, c0, c1, hm', hmm, x1, x2, x3, x4, x5, x6, x7, x8]); try dsimp only)
         try simp [-aeqs, -aeq, wrap64, k10', wN, em, g1, g2, g3, g4, g5, c0, c1, hm', hmm, x1, x2, x3, x4, x5, x6, x7, x8]
         done)
theorem nat_u32 {n : Int} (h : (Lit.int .u32 n).wf = true) : ∃ m : Nat, n = m ∧ m < 4294967296 := by
  simp [Lit.wf, IntKind.min, IntKind.max, IntKind.bits, IntKind.signed] at h
  obtain ⟨m, rfl⟩ := Int.eq_ofNat_of_zero_le h.1
  exact ⟨m, rfl, by omega⟩
theorem L4w (N c : Int) (wN : (Lit.int .u32 N).wf = true) (wc : (Lit.int .u8 c).wf = true) : Says (evFun LF4 k10 100 4 [.int .u32 N, .int .u8 c] H.empty) (.bool true) := by
  obtain ⟨n, rfl, hn⟩ := nat_u32 wN
  have hc : 0 ≤ c ∧ c < 256 := by
    simp [Lit.wf, IntKind.min, IntKind.max, IntKind.bits, IntKind.signed] at wc
    omega
  rw [← u8of_to hc.1 hc.2]
  exact L4 n (n % 1000) _ _ rfl hn rfl rfl (fun n h hi => if_pos (e := CR.bad 0) hi) hk13_11 (fun _ => rfl)
theorem calls_says {FL : FuncId → Option EF} (hF : ∀ f e, FL f = some e → compF Tryd.prog f = some e) {f : FuncId} {xs : List AV} (t : Says (evFun FL k10 100 f xs H.empty) (.bool true)) {args : Array Value} (ha : VRs (fun _ => none) xs args.toList) (W : World) (hG : Sps W) :
    Calls Tryd.prog f args W (fun e W' => e = .returned (.bool true) ∧ Go.RowKit.Below W.heap.size W W') := by
  obtain ⟨h', hr⟩ := t.elim
  refine Calls.mono ((fun_sound hF ok10 (DrawnAll mixed) 100).ret hr (HR.empty W) (met W hG) ha) ?_
  rintro _ w' ⟨x, A', rfl, hx, J⟩
  have hx : x = .bool true := hx
  exact ⟨by rw [hx], ⟨J.os, J.tape, J.output, J.size, fun k hk => J.keep k hk (fun p r hp => by cases hp)⟩⟩
end Go.Proofs.Lx
