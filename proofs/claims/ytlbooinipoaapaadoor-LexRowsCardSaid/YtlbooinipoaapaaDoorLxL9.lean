/- LexRows, told. -/
import Derived.Test.YtlbooinipoaapaaDoorLxRw
set_option linter.unusedSimpArgs false
set_option linter.unusedVariables false
set_option linter.unusedSectionVars false
namespace Go.Proofs.Lx
open Go.Ev
noncomputable def c9_5 : EC := (.seq (.steps [(.op Option.none (.pure 2 (vMove (.k (.bool Bool.false)))) (Option.some [.b]))]) .ret)
noncomputable def c9_4 : EC := (.cond (.sl [.b, .c]) c9_5 .skip)
noncomputable def c9_11 : EC := (.cond (.sl [.b, .d]) .skip (.exit 0))
noncomputable def c9_14 : List St := [(.op Option.none (.eff (bLoc [(.int .i64 (.ofNat 0)), (.str ⟨#[]⟩), (.int .i64 (.ofNat 0)), (.int .i64 (.ofNat 0)), (.bool Bool.false)] [.c, .a])) (Option.some [.c, .a])), (.op Option.none (.eff (hStore (.sl [.c, .a]) (.sl [.d, .a, .a]) 5)) Option.none)]
noncomputable def c9_21 : List St := [(.op (Option.some ([.d, .d, .a], Bool.false)) (.pure 11 (vBin .no .eql (.sl [.a, .c, .b]) (.sl [.d, .c, .b]))) (Option.some [.a, .d, .b])), (.op (Option.some ([.d, .d, .a], Bool.false)) (.pure 11 (vBin (.one .bool) .neq (.sl [.d, .b, .b]) (.sl [.a, .d, .b]))) (Option.some [.b, .d, .b])), (.op Option.none (.pure 3 (vPick (.sl [.d, .d, .a]) (.k (.bool Bool.true)) (.sl [.b, .d, .b]))) (Option.some [.c, .d, .b]))]
noncomputable def c9_20 : List St := ((.op (Option.some ([.d, .d, .a], Bool.false)) (.pure 1 (vMove (.sl [.b, .a]))) (Option.some [.a, .c, .b])) :: (.op (Option.some ([.d, .d, .a], Bool.false)) (.pure 1 (vMove (.sl [.d]))) (Option.some [.b, .c, .b])) :: (.op (Option.some ([.d, .d, .a], Bool.false)) (.pure 23 (vLen (.sl [.b, .c, .b]))) (Option.some [.c, .c, .b])) :: (.op (Option.some ([.d, .d, .a], Bool.false)) (.pure 11 (vBin .no .sub (.sl [.c, .c, .b]) (.k (.int .i64 (.ofNat 1))))) (Option.some [.d, .c, .b])) :: c9_21)
noncomputable def c9_19 : List St := ((.op (Option.some ([.d, .a, .b], Bool.false)) (.pure 18 (vFieldAddr (.sl [.c, .a]) 0)) (Option.some [.a, .b, .b])) :: (.op (Option.some ([.d, .a, .b], Bool.false)) (.look 8 (lLoad (.sl [.a, .b, .b]) 1 Bool.false)) (Option.some [.b, .b, .b])) :: (.op (Option.some ([.d, .a, .b], Bool.false)) (.pure 11 (vBin .no .eql (.sl [.b, .b, .b]) (.k (.int .i64 (.ofNat 6))))) (Option.some [.c, .b, .b])) :: (.op (Option.some ([.d, .d, .a], Bool.false)) (.pure 3 (vPick (.sl [.d, .a, .b]) (.k (.bool Bool.true)) (.sl [.c, .b, .b]))) (Option.some [.d, .b, .b])) :: c9_20)
noncomputable def c9_18 : List St := ((.op (Option.some ([.d, .d, .a], Bool.false)) (.pure 18 (vFieldAddr (.sl [.c, .a]) 0)) (Option.some [.a, .a, .b])) :: (.op (Option.some ([.d, .d, .a], Bool.false)) (.look 8 (lLoad (.sl [.a, .a, .b]) 1 Bool.false)) (Option.some [.b, .a, .b])) :: (.op (Option.some ([.d, .d, .a], Bool.false)) (.pure 11 (vBin .no .eql (.sl [.b, .a, .b]) (.k (.int .i64 (.ofNat 0))))) (Option.some [.c, .a, .b])) :: (.op (Option.some ([.d, .d, .a], Bool.false)) (.pure 1 (vMove (.sl [.c, .a, .b]))) (Option.some [.d, .a, .b])) :: c9_19)
noncomputable def c9_17 : List St := ((.op (Option.some ([.a, .c, .a], Bool.false)) (.pure 23 (vLenS (.sl [.d, .c, .a]))) (Option.some [.a, .d, .a])) :: (.op (Option.some ([.a, .c, .a], Bool.false)) (.pure 11 (vBin .no .gtr (.sl [.c, .c, .a]) (.sl [.a, .d, .a]))) (Option.some [.b, .d, .a])) :: (.op Option.none (.pure 3 (vPick (.sl [.a, .c, .a]) (.k (.bool Bool.true)) (.sl [.b, .d, .a]))) (Option.some [.c, .d, .a])) :: (.op Option.none (.pure 1 (vMove (.sl [.c, .d, .a]))) (Option.some [.d, .d, .a])) :: c9_18)
noncomputable def c9_16 : List St := ((.op Option.none (.pure 1 (vMove (.sl [.d, .b, .a]))) (Option.some [.a, .c, .a])) :: (.op (Option.some ([.a, .c, .a], Bool.false)) (.pure 18 (vFieldAddr (.sl [.c, .a]) 3)) (Option.some [.b, .c, .a])) :: (.op (Option.some ([.a, .c, .a], Bool.false)) (.look 8 (lLoad (.sl [.b, .c, .a]) 1 Bool.false)) (Option.some [.c, .c, .a])) :: (.op (Option.some ([.a, .c, .a], Bool.false)) (.pure 1 (vMove (.sl [.c]))) (Option.some [.d, .c, .a])) :: c9_17)
noncomputable def c9_23 : EC := (.seq (.steps [(.op Option.none (.pure 2 (vMove (.k (.bool Bool.false)))) (Option.some [.b]))]) .ret)
noncomputable def c9_22 : EC := (.cond (.sl [.c, .d, .b]) c9_23 .skip)
noncomputable def c9_45 : List St := [(.chk (Option.some ([.d, .c, .d], Bool.false)) (.look 8 (lLoad (.sl [.c, .b, .a, .a]) 1 Bool.false)) (Option.some [.d, .b, .a, .a])), (.chk (Option.some ([.d, .c, .d], Bool.false)) (.pure 11 (vBin .no .neq (.sl [.b, .b, .a, .a]) (.sl [.d, .b, .a, .a]))) (Option.some [.a, .c, .a, .a])), (.chk (Option.some ([.b, .a, .d], Bool.true)) (.pure 3 (vPick (.sl [.d, .c, .d]) (.k (.bool Bool.true)) (.sl [.a, .c, .a, .a]))) (Option.some [.b, .c, .a, .a])), (.chk Option.none (.pure 3 (vPick (.sl [.b, .a, .d]) (.sl [.b, .c, .a, .a]) (.k (.bool Bool.false)))) (Option.some [.c, .c, .a, .a]))]
noncomputable def c9_44 : List St := ((.chk (Option.some ([.d, .c, .d], Bool.false)) (.pure 23 (vLenS (.sl [.c, .a, .a, .a]))) (Option.some [.d, .a, .a, .a])) :: (.chk (Option.some ([.d, .c, .d], Bool.false)) (.pure 11 (vBin .no .add (.sl [.a, .a, .a, .a]) (.sl [.d, .a, .a, .a]))) (Option.some [.a, .b, .a, .a])) :: (.chk (Option.some ([.d, .c, .d], Bool.false)) (.pure 17 (vSliceS (.sl [.a, .d, .d]) (Option.some (.sl [.c, .d, .d])) (Option.some (.sl [.a, .b, .a, .a])))) (Option.some [.b, .b, .a, .a])) :: (.chk (Option.some ([.d, .c, .d], Bool.false)) (.pure 18 (vFieldAddr (.sl [.c, .a]) 1)) (Option.some [.c, .b, .a, .a])) :: c9_45)
noncomputable def c9_43 : List St := ((.chk (Option.some ([.d, .c, .d], Bool.false)) (.pure 18 (vFieldAddr (.sl [.c, .a]) 3)) (Option.some [.d, .d, .d])) :: (.chk (Option.some ([.d, .c, .d], Bool.false)) (.look 8 (lLoad (.sl [.d, .d, .d]) 1 Bool.false)) (Option.some [.a, .a, .a, .a])) :: (.chk (Option.some ([.d, .c, .d], Bool.false)) (.pure 18 (vFieldAddr (.sl [.c, .a]) 1)) (Option.some [.b, .a, .a, .a])) :: (.chk (Option.some ([.d, .c, .d], Bool.false)) (.look 8 (lLoad (.sl [.b, .a, .a, .a]) 1 Bool.false)) (Option.some [.c, .a, .a, .a])) :: c9_44)
noncomputable def c9_42 : List St := ((.chk (Option.some ([.b, .a, .d], Bool.true)) (.pure 1 (vMove (.sl [.c, .c, .d]))) (Option.some [.d, .c, .d])) :: (.chk (Option.some ([.d, .c, .d], Bool.false)) (.pure 1 (vMove (.sl [.c]))) (Option.some [.a, .d, .d])) :: (.chk (Option.some ([.d, .c, .d], Bool.false)) (.pure 18 (vFieldAddr (.sl [.c, .a]) 3)) (Option.some [.b, .d, .d])) :: (.chk (Option.some ([.d, .c, .d], Bool.false)) (.look 8 (lLoad (.sl [.b, .d, .d]) 1 Bool.false)) (Option.some [.c, .d, .d])) :: c9_43)
noncomputable def c9_41 : List St := ((.chk (Option.some ([.b, .a, .d], Bool.true)) (.pure 11 (vBin .no .add (.sl [.d, .a, .d]) (.sl [.c, .b, .d]))) (Option.some [.d, .b, .d])) :: (.chk (Option.some ([.b, .a, .d], Bool.true)) (.pure 1 (vMove (.sl [.c]))) (Option.some [.a, .c, .d])) :: (.chk (Option.some ([.b, .a, .d], Bool.true)) (.pure 23 (vLenS (.sl [.a, .c, .d]))) (Option.some [.b, .c, .d])) :: (.chk (Option.some ([.b, .a, .d], Bool.true)) (.pure 11 (vBin .no .gtr (.sl [.d, .b, .d]) (.sl [.b, .c, .d]))) (Option.some [.c, .c, .d])) :: c9_42)
noncomputable def c9_40 : List St := ((.chk (Option.some ([.b, .a, .d], Bool.true)) (.look 8 (lLoad (.sl [.c, .a, .d]) 1 Bool.false)) (Option.some [.d, .a, .d])) :: (.chk (Option.some ([.b, .a, .d], Bool.true)) (.pure 18 (vFieldAddr (.sl [.c, .a]) 1)) (Option.some [.a, .b, .d])) :: (.chk (Option.some ([.b, .a, .d], Bool.true)) (.look 8 (lLoad (.sl [.a, .b, .d]) 1 Bool.false)) (Option.some [.b, .b, .d])) :: (.chk (Option.some ([.b, .a, .d], Bool.true)) (.pure 23 (vLenS (.sl [.b, .b, .d]))) (Option.some [.c, .b, .d])) :: c9_41)
noncomputable def c9_39 : List St := ((.chk (Option.some ([.a, .d, .c], Bool.false)) (.pure 11 (vBin .no .eql (.sl [.c, .d, .c]) (.k (.int .i64 (.ofNat 1))))) (Option.some [.d, .d, .c])) :: (.chk Option.none (.pure 3 (vPick (.sl [.a, .d, .c]) (.k (.bool Bool.true)) (.sl [.d, .d, .c]))) (Option.some [.a, .a, .d])) :: (.chk Option.none (.pure 1 (vMove (.sl [.a, .a, .d]))) (Option.some [.b, .a, .d])) :: (.chk (Option.some ([.b, .a, .d], Bool.true)) (.pure 18 (vFieldAddr (.sl [.c, .a]) 3)) (Option.some [.c, .a, .d])) :: c9_40)
noncomputable def c9_38 : List St := ((.chk Option.none (.pure 3 (vPick (.sl [.d, .b, .c]) (.k (.bool Bool.true)) (.sl [.c, .c, .c]))) (Option.some [.d, .c, .c])) :: (.chk Option.none (.pure 1 (vMove (.sl [.d, .c, .c]))) (Option.some [.a, .d, .c])) :: (.chk (Option.some ([.a, .d, .c], Bool.false)) (.pure 18 (vFieldAddr (.sl [.c, .a]) 0)) (Option.some [.b, .d, .c])) :: (.chk (Option.some ([.a, .d, .c], Bool.false)) (.look 8 (lLoad (.sl [.b, .d, .c]) 1 Bool.false)) (Option.some [.c, .d, .c])) :: c9_39)
noncomputable def c9_37 : List St := ((.chk Option.none (.pure 1 (vMove (.sl [.c, .b, .c]))) (Option.some [.d, .b, .c])) :: (.chk (Option.some ([.d, .b, .c], Bool.false)) (.pure 18 (vFieldAddr (.sl [.c, .a]) 0)) (Option.some [.a, .c, .c])) :: (.chk (Option.some ([.d, .b, .c], Bool.false)) (.look 8 (lLoad (.sl [.a, .c, .c]) 1 Bool.false)) (Option.some [.b, .c, .c])) :: (.chk (Option.some ([.d, .b, .c], Bool.false)) (.pure 11 (vBin .no .eql (.sl [.b, .c, .c]) (.k (.int .i64 (.ofNat 5))))) (Option.some [.c, .c, .c])) :: c9_38)
noncomputable def c9_36 : List St := ((.chk (Option.some ([.c, .a, .c], Bool.false)) (.pure 18 (vFieldAddr (.sl [.c, .a]) 0)) (Option.some [.d, .a, .c])) :: (.chk (Option.some ([.c, .a, .c], Bool.false)) (.look 8 (lLoad (.sl [.d, .a, .c]) 1 Bool.false)) (Option.some [.a, .b, .c])) :: (.chk (Option.some ([.c, .a, .c], Bool.false)) (.pure 11 (vBin .no .eql (.sl [.a, .b, .c]) (.k (.int .i64 (.ofNat 4))))) (Option.some [.b, .b, .c])) :: (.chk Option.none (.pure 3 (vPick (.sl [.c, .a, .c]) (.k (.bool Bool.true)) (.sl [.b, .b, .c]))) (Option.some [.c, .b, .c])) :: c9_37)
noncomputable def c9_35 : List St := ((.chk Option.none (.pure 18 (vFieldAddr (.sl [.c, .a]) 0)) (Option.some [.d, .d, .b])) :: (.chk Option.none (.look 8 (lLoad (.sl [.d, .d, .b]) 1 Bool.false)) (Option.some [.a, .a, .c])) :: (.chk Option.none (.pure 11 (vBin .no .eql (.sl [.a, .a, .c]) (.k (.int .i64 (.ofNat 3))))) (Option.some [.b, .a, .c])) :: (.chk Option.none (.pure 1 (vMove (.sl [.b, .a, .c]))) (Option.some [.c, .a, .c])) :: c9_36)
noncomputable def c9_34 : List St := ((.op (Option.some ([.d, .c, .d], Bool.false)) (.look 8 (lLoad (.sl [.c, .b, .a, .a]) 1 Bool.false)) (Option.some [.d, .b, .a, .a])) :: (.op (Option.some ([.d, .c, .d], Bool.false)) (.pure 11 (vBin .no .neq (.sl [.b, .b, .a, .a]) (.sl [.d, .b, .a, .a]))) (Option.some [.a, .c, .a, .a])) :: (.op (Option.some ([.b, .a, .d], Bool.true)) (.pure 3 (vPick (.sl [.d, .c, .d]) (.k (.bool Bool.true)) (.sl [.a, .c, .a, .a]))) (Option.some [.b, .c, .a, .a])) :: (.op Option.none (.pure 3 (vPick (.sl [.b, .a, .d]) (.sl [.b, .c, .a, .a]) (.k (.bool Bool.false)))) (Option.some [.c, .c, .a, .a])) :: c9_35)
noncomputable def c9_33 : List St := ((.op (Option.some ([.d, .c, .d], Bool.false)) (.pure 23 (vLenS (.sl [.c, .a, .a, .a]))) (Option.some [.d, .a, .a, .a])) :: (.op (Option.some ([.d, .c, .d], Bool.false)) (.pure 11 (vBin .no .add (.sl [.a, .a, .a, .a]) (.sl [.d, .a, .a, .a]))) (Option.some [.a, .b, .a, .a])) :: (.op (Option.some ([.d, .c, .d], Bool.false)) (.pure 17 (vSliceS (.sl [.a, .d, .d]) (Option.some (.sl [.c, .d, .d])) (Option.some (.sl [.a, .b, .a, .a])))) (Option.some [.b, .b, .a, .a])) :: (.op (Option.some ([.d, .c, .d], Bool.false)) (.pure 18 (vFieldAddr (.sl [.c, .a]) 1)) (Option.some [.c, .b, .a, .a])) :: c9_34)
noncomputable def c9_32 : List St := ((.op (Option.some ([.d, .c, .d], Bool.false)) (.pure 18 (vFieldAddr (.sl [.c, .a]) 3)) (Option.some [.d, .d, .d])) :: (.op (Option.some ([.d, .c, .d], Bool.false)) (.look 8 (lLoad (.sl [.d, .d, .d]) 1 Bool.false)) (Option.some [.a, .a, .a, .a])) :: (.op (Option.some ([.d, .c, .d], Bool.false)) (.pure 18 (vFieldAddr (.sl [.c, .a]) 1)) (Option.some [.b, .a, .a, .a])) :: (.op (Option.some ([.d, .c, .d], Bool.false)) (.look 8 (lLoad (.sl [.b, .a, .a, .a]) 1 Bool.false)) (Option.some [.c, .a, .a, .a])) :: c9_33)
noncomputable def c9_31 : List St := ((.op (Option.some ([.b, .a, .d], Bool.true)) (.pure 1 (vMove (.sl [.c, .c, .d]))) (Option.some [.d, .c, .d])) :: (.op (Option.some ([.d, .c, .d], Bool.false)) (.pure 1 (vMove (.sl [.c]))) (Option.some [.a, .d, .d])) :: (.op (Option.some ([.d, .c, .d], Bool.false)) (.pure 18 (vFieldAddr (.sl [.c, .a]) 3)) (Option.some [.b, .d, .d])) :: (.op (Option.some ([.d, .c, .d], Bool.false)) (.look 8 (lLoad (.sl [.b, .d, .d]) 1 Bool.false)) (Option.some [.c, .d, .d])) :: c9_32)
noncomputable def c9_30 : List St := ((.op (Option.some ([.b, .a, .d], Bool.true)) (.pure 11 (vBin .no .add (.sl [.d, .a, .d]) (.sl [.c, .b, .d]))) (Option.some [.d, .b, .d])) :: (.op (Option.some ([.b, .a, .d], Bool.true)) (.pure 1 (vMove (.sl [.c]))) (Option.some [.a, .c, .d])) :: (.op (Option.some ([.b, .a, .d], Bool.true)) (.pure 23 (vLenS (.sl [.a, .c, .d]))) (Option.some [.b, .c, .d])) :: (.op (Option.some ([.b, .a, .d], Bool.true)) (.pure 11 (vBin .no .gtr (.sl [.d, .b, .d]) (.sl [.b, .c, .d]))) (Option.some [.c, .c, .d])) :: c9_31)
noncomputable def c9_29 : List St := ((.op (Option.some ([.b, .a, .d], Bool.true)) (.look 8 (lLoad (.sl [.c, .a, .d]) 1 Bool.false)) (Option.some [.d, .a, .d])) :: (.op (Option.some ([.b, .a, .d], Bool.true)) (.pure 18 (vFieldAddr (.sl [.c, .a]) 1)) (Option.some [.a, .b, .d])) :: (.op (Option.some ([.b, .a, .d], Bool.true)) (.look 8 (lLoad (.sl [.a, .b, .d]) 1 Bool.false)) (Option.some [.b, .b, .d])) :: (.op (Option.some ([.b, .a, .d], Bool.true)) (.pure 23 (vLenS (.sl [.b, .b, .d]))) (Option.some [.c, .b, .d])) :: c9_30)
noncomputable def c9_28 : List St := ((.op (Option.some ([.a, .d, .c], Bool.false)) (.pure 11 (vBin .no .eql (.sl [.c, .d, .c]) (.k (.int .i64 (.ofNat 1))))) (Option.some [.d, .d, .c])) :: (.op Option.none (.pure 3 (vPick (.sl [.a, .d, .c]) (.k (.bool Bool.true)) (.sl [.d, .d, .c]))) (Option.some [.a, .a, .d])) :: (.op Option.none (.pure 1 (vMove (.sl [.a, .a, .d]))) (Option.some [.b, .a, .d])) :: (.op (Option.some ([.b, .a, .d], Bool.true)) (.pure 18 (vFieldAddr (.sl [.c, .a]) 3)) (Option.some [.c, .a, .d])) :: c9_29)
noncomputable def c9_27 : List St := ((.op Option.none (.pure 3 (vPick (.sl [.d, .b, .c]) (.k (.bool Bool.true)) (.sl [.c, .c, .c]))) (Option.some [.d, .c, .c])) :: (.op Option.none (.pure 1 (vMove (.sl [.d, .c, .c]))) (Option.some [.a, .d, .c])) :: (.op (Option.some ([.a, .d, .c], Bool.false)) (.pure 18 (vFieldAddr (.sl [.c, .a]) 0)) (Option.some [.b, .d, .c])) :: (.op (Option.some ([.a, .d, .c], Bool.false)) (.look 8 (lLoad (.sl [.b, .d, .c]) 1 Bool.false)) (Option.some [.c, .d, .c])) :: c9_28)
noncomputable def c9_26 : List St := ((.op Option.none (.pure 1 (vMove (.sl [.c, .b, .c]))) (Option.some [.d, .b, .c])) :: (.op (Option.some ([.d, .b, .c], Bool.false)) (.pure 18 (vFieldAddr (.sl [.c, .a]) 0)) (Option.some [.a, .c, .c])) :: (.op (Option.some ([.d, .b, .c], Bool.false)) (.look 8 (lLoad (.sl [.a, .c, .c]) 1 Bool.false)) (Option.some [.b, .c, .c])) :: (.op (Option.some ([.d, .b, .c], Bool.false)) (.pure 11 (vBin .no .eql (.sl [.b, .c, .c]) (.k (.int .i64 (.ofNat 5))))) (Option.some [.c, .c, .c])) :: c9_27)
noncomputable def c9_25 : List St := ((.op (Option.some ([.c, .a, .c], Bool.false)) (.pure 18 (vFieldAddr (.sl [.c, .a]) 0)) (Option.some [.d, .a, .c])) :: (.op (Option.some ([.c, .a, .c], Bool.false)) (.look 8 (lLoad (.sl [.d, .a, .c]) 1 Bool.false)) (Option.some [.a, .b, .c])) :: (.op (Option.some ([.c, .a, .c], Bool.false)) (.pure 11 (vBin .no .eql (.sl [.a, .b, .c]) (.k (.int .i64 (.ofNat 4))))) (Option.some [.b, .b, .c])) :: (.op Option.none (.pure 3 (vPick (.sl [.c, .a, .c]) (.k (.bool Bool.true)) (.sl [.b, .b, .c]))) (Option.some [.c, .b, .c])) :: c9_26)
noncomputable def c9_47 : EC := (.seq (.steps [(.op Option.none (.pure 2 (vMove (.k (.bool Bool.false)))) (Option.some [.b]))]) .ret)
noncomputable def c9_46 : EC := (.cond (.sl [.c, .c, .a, .a]) c9_47 .skip)
noncomputable def c9_59 : List St := [(.chk Option.none (.pure 3 (vPick (.sl [.d, .a, .b, .a]) (.k (.bool Bool.true)) (.sl [.d, .c, .b, .a]))) (Option.some [.a, .d, .b, .a]))]
noncomputable def c9_58 : List St := ((.chk (Option.some ([.d, .a, .b, .a], Bool.false)) (.pure 18 (vFieldAddr (.sl [.c, .a]) 3)) (Option.some [.b, .c, .b, .a])) :: (.chk (Option.some ([.d, .a, .b, .a], Bool.false)) (.look 8 (lLoad (.sl [.b, .c, .b, .a]) 1 Bool.false)) (Option.some [.c, .c, .b, .a])) :: (.chk (Option.some ([.d, .a, .b, .a], Bool.false)) (.pure 19 (vField (.sl [.d, .b, .b, .a]) 3 1 Bool.false)) (Option.some [.a, .c, .b, .a])) :: (.chk (Option.some ([.d, .a, .b, .a], Bool.false)) (.pure 11 (vBin .no .neq (.sl [.a, .c, .b, .a]) (.sl [.c, .c, .b, .a]))) (Option.some [.d, .c, .b, .a])) :: c9_59)
noncomputable def c9_57 : List St := ((.chk Option.none (.look 8 (lLoad (.sl [.a, .a, .b, .a]) 1 Bool.false)) (Option.some [.b, .a, .b, .a])) :: (.chk Option.none (.pure 19 (vField (.sl [.c, .d, .a, .a]) 0 1 Bool.false)) (Option.some [.d, .d, .a, .a])) :: (.chk Option.none (.pure 11 (vBin .no .neq (.sl [.d, .d, .a, .a]) (.sl [.b, .a, .b, .a]))) (Option.some [.c, .a, .b, .a])) :: (.chk (Option.some ([.d, .a, .b, .a], Bool.false)) (.pure 18 (vFieldAddr (.sl [.c, .a]) 3)) (Option.some [.b, .b, .b, .a])) :: c9_58)
noncomputable def c9_56 : List St := ((.op (Option.some ([.d, .a, .b, .a], Bool.false)) (.pure 11 (vBin .no .neq (.sl [.a, .c, .b, .a]) (.sl [.c, .c, .b, .a]))) (Option.some [.d, .c, .b, .a])) :: (.op Option.none (.pure 3 (vPick (.sl [.d, .a, .b, .a]) (.k (.bool Bool.true)) (.sl [.d, .c, .b, .a]))) (Option.some [.a, .d, .b, .a])) :: (.chk Option.none (.pure 18 (vFieldAddr (.sl [.c, .a]) 3)) (Option.some [.a, .d, .a, .a])) :: (.chk Option.none (.pure 18 (vFieldAddr (.sl [.c, .a]) 0)) (Option.some [.a, .a, .b, .a])) :: c9_57)
noncomputable def c9_55 : List St := ((.chk (Option.some ([.d, .a, .b, .a], Bool.false)) (.pure 18 (vFieldAddr (.sl [.c, .a]) 3)) (Option.some [.b, .c, .b, .a])) :: (.chk (Option.some ([.d, .a, .b, .a], Bool.false)) (.look 8 (lLoad (.sl [.b, .c, .b, .a]) 1 Bool.false)) (Option.some [.c, .c, .b, .a])) :: (.op (Option.some ([.d, .a, .b, .a], Bool.false)) (.eff (hCall (.k (.fn 11 [] [])) [(.sl [.a, .b, .b, .a]), (.sl [.c, .b, .b, .a])])) (Option.some [.d, .b, .b, .a])) :: (.op (Option.some ([.d, .a, .b, .a], Bool.false)) (.pure 19 (vField (.sl [.d, .b, .b, .a]) 3 1 Bool.false)) (Option.some [.a, .c, .b, .a])) :: c9_56)
noncomputable def c9_54 : List St := ((.chk Option.none (.pure 1 (vMove (.sl [.c, .a, .b, .a]))) (Option.some [.d, .a, .b, .a])) :: (.chk (Option.some ([.d, .a, .b, .a], Bool.false)) (.pure 1 (vMove (.sl [.c]))) (Option.some [.a, .b, .b, .a])) :: (.chk (Option.some ([.d, .a, .b, .a], Bool.false)) (.pure 18 (vFieldAddr (.sl [.c, .a]) 3)) (Option.some [.b, .b, .b, .a])) :: (.chk (Option.some ([.d, .a, .b, .a], Bool.false)) (.look 8 (lLoad (.sl [.b, .b, .b, .a]) 1 Bool.false)) (Option.some [.c, .b, .b, .a])) :: c9_55)
noncomputable def c9_53 : List St := ((.chk Option.none (.pure 18 (vFieldAddr (.sl [.c, .a]) 0)) (Option.some [.a, .a, .b, .a])) :: (.chk Option.none (.look 8 (lLoad (.sl [.a, .a, .b, .a]) 1 Bool.false)) (Option.some [.b, .a, .b, .a])) :: (.chk Option.none (.pure 19 (vField (.sl [.c, .d, .a, .a]) 0 1 Bool.false)) (Option.some [.d, .d, .a, .a])) :: (.chk Option.none (.pure 11 (vBin .no .neq (.sl [.d, .d, .a, .a]) (.sl [.b, .a, .b, .a]))) (Option.some [.c, .a, .b, .a])) :: c9_54)
noncomputable def c9_52 : List St := ((.op (Option.some ([.d, .a, .b, .a], Bool.false)) (.look 8 (lLoad (.sl [.b, .b, .b, .a]) 1 Bool.false)) (Option.some [.c, .b, .b, .a])) :: (.op (Option.some ([.d, .a, .b, .a], Bool.false)) (.pure 18 (vFieldAddr (.sl [.c, .a]) 3)) (Option.some [.b, .c, .b, .a])) :: (.op (Option.some ([.d, .a, .b, .a], Bool.false)) (.look 8 (lLoad (.sl [.b, .c, .b, .a]) 1 Bool.false)) (Option.some [.c, .c, .b, .a])) :: (.chk Option.none (.pure 18 (vFieldAddr (.sl [.c, .a]) 3)) (Option.some [.a, .d, .a, .a])) :: c9_53)
noncomputable def c9_51 : List St := ((.op Option.none (.pure 11 (vBin .no .neq (.sl [.d, .d, .a, .a]) (.sl [.b, .a, .b, .a]))) (Option.some [.c, .a, .b, .a])) :: (.op Option.none (.pure 1 (vMove (.sl [.c, .a, .b, .a]))) (Option.some [.d, .a, .b, .a])) :: (.op (Option.some ([.d, .a, .b, .a], Bool.false)) (.pure 1 (vMove (.sl [.c]))) (Option.some [.a, .b, .b, .a])) :: (.op (Option.some ([.d, .a, .b, .a], Bool.false)) (.pure 18 (vFieldAddr (.sl [.c, .a]) 3)) (Option.some [.b, .b, .b, .a])) :: c9_52)
noncomputable def c9_50 : List St := ((.chk Option.none (.pure 18 (vFieldAddr (.sl [.c, .a]) 0)) (Option.some [.a, .a, .b, .a])) :: (.chk Option.none (.look 8 (lLoad (.sl [.a, .a, .b, .a]) 1 Bool.false)) (Option.some [.b, .a, .b, .a])) :: (.op Option.none (.eff (hCall (.k (.fn 11 [] [])) [(.sl [.d, .c, .a, .a]), (.sl [.b, .d, .a, .a])])) (Option.some [.c, .d, .a, .a])) :: (.op Option.none (.pure 19 (vField (.sl [.c, .d, .a, .a]) 0 1 Bool.false)) (Option.some [.d, .d, .a, .a])) :: c9_51)
noncomputable def c9_49 : List St := ((.op Option.none (.look 8 (lLoad (.sl [.a, .a, .b, .a]) 1 Bool.false)) (Option.some [.b, .a, .b, .a])) :: (.chk Option.none (.pure 1 (vMove (.sl [.c]))) (Option.some [.d, .c, .a, .a])) :: (.chk Option.none (.pure 18 (vFieldAddr (.sl [.c, .a]) 3)) (Option.some [.a, .d, .a, .a])) :: (.chk Option.none (.look 8 (lLoad (.sl [.a, .d, .a, .a]) 1 Bool.false)) (Option.some [.b, .d, .a, .a])) :: c9_50)
noncomputable def c9_61 : EC := (.seq (.steps [(.op Option.none (.pure 2 (vMove (.k (.bool Bool.false)))) (Option.some [.b]))]) .ret)
noncomputable def c9_60 : EC := (.cond (.sl [.a, .d, .b, .a]) c9_61 .skip)
noncomputable def c9_62 : EC := (.steps [(.op Option.none (.pure 18 (vFieldAddr (.sl [.c, .a]) 3)) (Option.some [.b, .d, .b, .a])), (.op Option.none (.look 8 (lLoad (.sl [.b, .d, .b, .a]) 1 Bool.false)) (Option.some [.c, .d, .b, .a])), (.op Option.none (.pure 2 (vMove (.sl [.c, .d, .b, .a]))) (Option.some [.a, .a]))])
noncomputable def c9_48 : EC := (.seq (.seq (.drawn ((.op Option.none (.pure 1 (vMove (.sl [.c]))) (Option.some [.d, .c, .a, .a])) :: (.op Option.none (.pure 18 (vFieldAddr (.sl [.c, .a]) 3)) (Option.some [.a, .d, .a, .a])) :: (.op Option.none (.look 8 (lLoad (.sl [.a, .d, .a, .a]) 1 Bool.false)) (Option.some [.b, .d, .a, .a])) :: (.op Option.none (.pure 18 (vFieldAddr (.sl [.c, .a]) 0)) (Option.some [.a, .a, .b, .a])) :: c9_49) [[.d, .c, .a, .a], [.a, .d, .a, .a], [.b, .d, .a, .a], [.c, .d, .a, .a], [.d, .d, .a, .a], [.a, .a, .b, .a], [.b, .a, .b, .a], [.c, .a, .b, .a], [.d, .a, .b, .a], [.a, .b, .b, .a], [.b, .b, .b, .a], [.c, .b, .b, .a], [.d, .b, .b, .a], [.a, .c, .b, .a], [.b, .c, .b, .a], [.c, .c, .b, .a], [.d, .c, .b, .a], [.a, .d, .b, .a]]) c9_60) c9_62)
noncomputable def c9_24 : EC := (.seq (.seq (.drawn ((.op Option.none (.pure 18 (vFieldAddr (.sl [.c, .a]) 0)) (Option.some [.d, .d, .b])) :: (.op Option.none (.look 8 (lLoad (.sl [.d, .d, .b]) 1 Bool.false)) (Option.some [.a, .a, .c])) :: (.op Option.none (.pure 11 (vBin .no .eql (.sl [.a, .a, .c]) (.k (.int .i64 (.ofNat 3))))) (Option.some [.b, .a, .c])) :: (.op Option.none (.pure 1 (vMove (.sl [.b, .a, .c]))) (Option.some [.c, .a, .c])) :: c9_25) [[.d, .d, .b], [.a, .a, .c], [.b, .a, .c], [.c, .a, .c], [.d, .a, .c], [.a, .b, .c], [.b, .b, .c], [.c, .b, .c], [.d, .b, .c], [.a, .c, .c], [.b, .c, .c], [.c, .c, .c], [.d, .c, .c], [.a, .d, .c], [.b, .d, .c], [.c, .d, .c], [.d, .d, .c], [.a, .a, .d], [.b, .a, .d], [.c, .a, .d], [.d, .a, .d], [.a, .b, .d], [.b, .b, .d], [.c, .b, .d], [.d, .b, .d], [.a, .c, .d], [.b, .c, .d], [.c, .c, .d], [.d, .c, .d], [.a, .d, .d], [.b, .d, .d], [.c, .d, .d], [.d, .d, .d], [.a, .a, .a, .a], [.b, .a, .a, .a], [.c, .a, .a, .a], [.d, .a, .a, .a], [.a, .b, .a, .a], [.b, .b, .a, .a], [.c, .b, .a, .a], [.d, .b, .a, .a], [.a, .c, .a, .a], [.b, .c, .a, .a], [.c, .c, .a, .a]]) c9_46) c9_48)
noncomputable def c9_15 : EC := (.seq (.seq (.steps ((.op Option.none (.pure 18 (vFieldAddr (.sl [.c, .a]) 3)) (Option.some [.a, .b, .a])) :: (.op Option.none (.look 8 (lLoad (.sl [.a, .b, .a]) 1 Bool.false)) (Option.some [.b, .b, .a])) :: (.op Option.none (.pure 1 (vMove (.sl [.a, .a]))) (Option.some [.c, .b, .a])) :: (.op Option.none (.pure 11 (vBin .no .leq (.sl [.b, .b, .a]) (.sl [.c, .b, .a]))) (Option.some [.d, .b, .a])) :: c9_16)) c9_22) c9_24)
noncomputable def c9_13 : EC := (.seq (.steps ((.op Option.none (.pure 1 (vMove (.sl [.d]))) (Option.some [.a, .a, .a])) :: (.op Option.none (.pure 1 (vMove (.sl [.b, .a]))) (Option.some [.b, .a, .a])) :: (.op Option.none (.pure 20 (vIndexAddr 5 (.sl [.a, .a, .a]) (.sl [.b, .a, .a]))) (Option.some [.c, .a, .a])) :: (.op Option.none (.look 8 (lLoad (.sl [.c, .a, .a]) 5 Bool.true)) (Option.some [.d, .a, .a])) :: c9_14)) c9_15)
noncomputable def c9_63 : EC := (.steps [(.op Option.none (.pure 1 (vMove (.sl [.b, .a]))) (Option.some [.c, .d])), (.op Option.none (.pure 11 (vBin .no .add (.sl [.c, .d]) (.k (.int .i64 (.ofNat 1))))) (Option.some [.d, .d])), (.op Option.none (.pure 2 (vMove (.sl [.d, .d]))) (Option.some [.b, .a]))])
noncomputable def c9_12 : EC := (.seq (.block 1 c9_13) c9_63)
noncomputable def c9_10 : EC := (.seq (.seq (.steps [(.op Option.none (.pure 1 (vMove (.sl [.b, .a]))) (Option.some [.c, .c])), (.op Option.none (.pure 1 (vMove (.sl [.d]))) (Option.some [.d, .c])), (.op Option.none (.pure 23 (vLen (.sl [.d, .c]))) (Option.some [.a, .d])), (.op Option.none (.pure 11 (vBin .no .lss (.sl [.c, .c]) (.sl [.a, .d]))) (Option.some [.b, .d]))]) c9_11) c9_12)
noncomputable def c9_9 : EC := (.loop c9_10)
noncomputable def c9_8 : EC := (.block 0 c9_9)
noncomputable def c9_69 : List St := [(.op Option.none (.pure 1 (vMove (.sl [.c, .a, .d, .a]))) (Option.some [.d, .a, .d, .a])), (.op (Option.some ([.d, .a, .d, .a], Bool.true)) (.eff (hCall (.k (.fn 10 [] [])) [])) (Option.some [.a, .b, .d, .a])), (.op Option.none (.pure 3 (vPick (.sl [.d, .a, .d, .a]) (.sl [.a, .b, .d, .a]) (.k (.bool Bool.false)))) (Option.some [.b, .b, .d, .a])), (.op Option.none (.pure 2 (vMove (.sl [.b, .b, .d, .a]))) (Option.some [.b]))]
noncomputable def c9_68 : List St := ((.op (Option.some ([.d, .b, .c, .a], Bool.false)) (.pure 1 (vMove (.sl [.c]))) (Option.some [.d, .d, .c, .a])) :: (.op (Option.some ([.d, .b, .c, .a], Bool.false)) (.pure 23 (vLenS (.sl [.d, .d, .c, .a]))) (Option.some [.a, .a, .d, .a])) :: (.op (Option.some ([.d, .b, .c, .a], Bool.false)) (.pure 11 (vBin .no .eql (.sl [.c, .d, .c, .a]) (.sl [.a, .a, .d, .a]))) (Option.some [.b, .a, .d, .a])) :: (.op Option.none (.pure 3 (vPick (.sl [.d, .b, .c, .a]) (.k (.bool Bool.true)) (.sl [.b, .a, .d, .a]))) (Option.some [.c, .a, .d, .a])) :: c9_69)
noncomputable def c9_67 : List St := ((.op (Option.some ([.d, .b, .c, .a], Bool.false)) (.pure 11 (vBin .no .sub (.sl [.c, .c, .c, .a]) (.k (.int .i64 (.ofNat 1))))) (Option.some [.d, .c, .c, .a])) :: (.op (Option.some ([.d, .b, .c, .a], Bool.false)) (.pure 20 (vIndexAddr 5 (.sl [.a, .c, .c, .a]) (.sl [.d, .c, .c, .a]))) (Option.some [.a, .d, .c, .a])) :: (.op (Option.some ([.d, .b, .c, .a], Bool.false)) (.pure 18 (vFieldAddr (.sl [.a, .d, .c, .a]) 3)) (Option.some [.b, .d, .c, .a])) :: (.op (Option.some ([.d, .b, .c, .a], Bool.false)) (.look 8 (lLoad (.sl [.b, .d, .c, .a]) 1 Bool.false)) (Option.some [.c, .d, .c, .a])) :: c9_68)
noncomputable def c9_66 : List St := ((.op Option.none (.pure 1 (vMove (.sl [.c, .b, .c, .a]))) (Option.some [.d, .b, .c, .a])) :: (.op (Option.some ([.d, .b, .c, .a], Bool.false)) (.pure 1 (vMove (.sl [.d]))) (Option.some [.a, .c, .c, .a])) :: (.op (Option.some ([.d, .b, .c, .a], Bool.false)) (.pure 1 (vMove (.sl [.d]))) (Option.some [.b, .c, .c, .a])) :: (.op (Option.some ([.d, .b, .c, .a], Bool.false)) (.pure 23 (vLen (.sl [.b, .c, .c, .a]))) (Option.some [.c, .c, .c, .a])) :: c9_67)
noncomputable def c9_65 : List St := ((.op Option.none (.pure 20 (vIndexAddr 5 (.sl [.d, .d, .b, .a]) (.sl [.c, .a, .c, .a]))) (Option.some [.d, .a, .c, .a])) :: (.op Option.none (.pure 18 (vFieldAddr (.sl [.d, .a, .c, .a]) 0)) (Option.some [.a, .b, .c, .a])) :: (.op Option.none (.look 8 (lLoad (.sl [.a, .b, .c, .a]) 1 Bool.false)) (Option.some [.b, .b, .c, .a])) :: (.op Option.none (.pure 11 (vBin .no .neq (.sl [.b, .b, .c, .a]) (.k (.int .i64 (.ofNat 0))))) (Option.some [.c, .b, .c, .a])) :: c9_66)
noncomputable def c9_64 : EC := (.seq (.steps ((.op Option.none (.pure 1 (vMove (.sl [.d]))) (Option.some [.d, .d, .b, .a])) :: (.op Option.none (.pure 1 (vMove (.sl [.d]))) (Option.some [.a, .a, .c, .a])) :: (.op Option.none (.pure 23 (vLen (.sl [.a, .a, .c, .a]))) (Option.some [.b, .a, .c, .a])) :: (.op Option.none (.pure 11 (vBin .no .sub (.sl [.b, .a, .c, .a]) (.k (.int .i64 (.ofNat 1))))) (Option.some [.c, .a, .c, .a])) :: c9_65)) .ret)
noncomputable def c9_7 : EC := (.seq (.seq (.steps [(.op Option.none (.pure 2 (vMove (.k (.int .i64 (.ofNat 0))))) (Option.some [.b, .a]))]) c9_8) c9_64)
noncomputable def c9_6 : EC := (.seq (.steps [(.op Option.none (.pure 2 (vMove (.k (.int .i64 (.negSucc 0))))) (Option.some [.a, .a]))]) c9_7)
noncomputable def c9_3 : EC := (.seq (.seq (.steps [(.op Option.none (.pure 1 (vMove (.sl [.d]))) (Option.some [.d, .b])), (.op Option.none (.pure 23 (vLen (.sl [.d, .b]))) (Option.some [.a, .c])), (.op Option.none (.pure 11 (vBin .no .eql (.sl [.a, .c]) (.k (.int .i64 (.ofNat 0))))) (Option.some [.b, .c]))]) c9_4) c9_6)
noncomputable def c9_2 : EC := (.seq (.steps [(.op Option.none (.pure 1 (vMove (.sl [.c]))) (Option.some [.b, .b])), (.op Option.none (.eff (hCall (.k (.fn 17 [] [])) [(.sl [.b, .b])])) (Option.some [.c, .b])), (.op Option.none (.pure 2 (vMove (.sl [.c, .b]))) (Option.some [.d]))]) c9_3)
noncomputable def c9_1 : EC := (.seq (.steps [(.op Option.none (.pure 1 (vMove (.sl []))) (Option.some [.d, .a])), (.op Option.none (.eff (hCall (.k (.fn 14 [] [])) [(.sl [.d, .a])])) (Option.some [.a, .b])), (.op Option.none (.pure 2 (vMove (.sl [.a, .b]))) (Option.some [.c]))]) c9_2)
noncomputable def c9 : EF := ⟨(.seq (.steps [(.op Option.none (.pure 2 (vMove (.k (.bool Bool.false)))) (Option.some [.b]))]) c9_1), [(.slot (.sl [.b]))], Bool.false⟩
theorem c9_ok : compF Tryd.prog 9 = some c9 := by kernel_rfl
noncomputable def LF9 : FuncId → Option EF := lookF [(9, c9)]
theorem FF9 : LF9 9 = some c9 := rfl

set_option maxHeartbeats 4000000 in
theorem rw_one {call : Calls'} {s : List UInt8} {p : Path} {B : Blk} {N : Nat} (fuel i : Nat) (fr : FT) (nx : Path) (t : Tr Blk) (g : Nat) (hb : Ev.get p t = some B) (hm : B.map = false) (hk : B.k = 5) (hi : i < N) (hN : N ≤ 2000000) (hs : s.length ≤ 1000000)
    {k n n2 : Int} {x x2 : List UInt8} {A : Nat} {b b2 : Bool} (hr : Ev.get (pathOf i) B.rows = some [.int .i64 k, T x, .int .i64 n, .int .i64 (A : Int), .bool b]) (hA : A ≤ s.length) (last : Int) (hlast : last < A)
    (k11 : ∀ h, call 11 [T s, .int .i64 (A : Int)] h = .ret (.agg [.int .i64 k, T x2, .int .i64 n2, .int .i64 (A : Int), .bool b2]) h) (hkind : k = 0 ∨ k = 1 ∨ k = 2 ∨ k = 3 ∨ k = 4 ∨ k = 5 ∨ k = 6) (hend : (k = 0 ∨ k = 6) ↔ i + 1 = N)
    (htext : k = 1 ∨ k = 3 ∨ k = 4 ∨ k = 5 → A + x.length ≤ s.length ∧ (s.drop A).take x.length = x)
    (e0 : Ev.get [.d] fr = some (.v (.sl p 5 0 N))) (e1 : Ev.get [.c] fr = some (.v (T s))) (e2 : Ev.get [.b, .a] fr = some (.v (.int .i64 (i : Int)))) (e3 : Ev.get [.a, .a] fr = some (.v (.int .i64 last))) :
    ∃ fr' g', evC call fuel c9_10 fr ⟨nx, t, g⟩ = .norm fr' ⟨nx, t, g'⟩ ∧ Ev.get [.d] fr' = some (.v (.sl p 5 0 N)) ∧ Ev.get [.c] fr' = some (.v (T s)) ∧ Ev.get [.b, .a] fr' = some (.v (.int .i64 ((i + 1 : Nat) : Int))) ∧ Ev.get [.a, .a] fr' = some (.v (.int .i64 (A : Int))) := by
  have w : wrapF .i64 ((i : Int) + 1) = (i : Int) + 1 := wrap64 (by omega) (by omega)
  have w2 : wrapF .i64 ((N : Int) - 1) = (N : Int) - 1 := wrap64 (by omega) (by omega)
  have d5 : i * 5 / 5 = i := Nat.mul_div_cancel i (by decide)
  have d5' : i * 5 % 5 = 0 := Nat.mul_mod_left i 5
  have a1 : ¬ (A : Int) ≤ last := by omega
  have a1' : last < (A : Int) := hlast
  have a2 : ¬ (s.length : Int) < (A : Int) := by omega
  have a2' : ¬ s.length < A := by omega
  rcases hkind with rfl | rfl | rfl | rfl | rfl | rfl | rfl
  · have he0 : i + 1 = N := hend.1 (by simp)
    have he := eq_true (show (i : Int) = (N : Int) - 1 by omega)
    refine ⟨?fr0, ?g0, ?e0, ?_, ?_, ?_, ?_⟩
    case e0 =>
      (try (conv in (evC call _ c9_10 _ _) => unfold c9_10; simp [gs, e0, e1, e2, e3, hi, hb, hm, hk, hr, w, w2, clrOut, d5, d5', a1, a1', a2, a2', k11, vField, he]); try dsimp only)
      (try (conv in (evC call _ c9_11 _ _) => unfold c9_11; simp [gs, e0, e1, e2, e3, hi, hb, hm, hk, hr, w, w2, clrOut, d5, d5', a1, a1', a2, a2', k11, vField, he]); try dsimp only)
      (try (conv in (evC call _ c9_12 _ _) => unfold c9_12; simp [gs, e0, e1, e2, e3, hi, hb, hm, hk, hr, w, w2, clrOut, d5, d5', a1, a1', a2, a2', k11, vField, he]); try dsimp only)
      (try (conv in (evC call _ c9_13 _ _) => unfold c9_13; simp [gs, e0, e1, e2, e3, hi, hb, hm, hk, hr, w, w2, clrOut, d5, d5', a1, a1', a2, a2', k11, vField, he]); try dsimp only)
      (try (conv in (evSteps call c9_14 _ _) => unfold c9_14; simp [gs, e0, e1, e2, e3, hi, hb, hm, hk, hr, w, w2, clrOut, d5, d5', a1, a1', a2, a2', k11, vField, he]); try dsimp only)
      (try (conv in (evC call _ c9_15 _ _) => unfold c9_15; simp [gs, e0, e1, e2, e3, hi, hb, hm, hk, hr, w, w2, clrOut, d5, d5', a1, a1', a2, a2', k11, vField, he]); try dsimp only)
      (try (conv in (evSteps call c9_16 _ _) => unfold c9_16; simp [gs, e0, e1, e2, e3, hi, hb, hm, hk, hr, w, w2, clrOut, d5, d5', a1, a1', a2, a2', k11, vField, he]); try dsimp only)
      (try (conv in (evSteps call c9_17 _ _) => unfold c9_17; simp [gs, e0, e1, e2, e3, hi, hb, hm, hk, hr, w, w2, clrOut, d5, d5', a1, a1', a2, a2', k11, vField, he]); try dsimp only)
      (try (conv in (evSteps call c9_18 _ _) => unfold c9_18; simp [gs, e0, e1, e2, e3, hi, hb, hm, hk, hr, w, w2, clrOut, d5, d5', a1, a1', a2, a2', k11, vField, he]); try dsimp only)
      (try (conv in (evSteps call c9_19 _ _) => unfold c9_19; simp [gs, e0, e1, e2, e3, hi, hb, hm, hk, hr, w, w2, clrOut, d5, d5', a1, a1', a2, a2', k11, vField, he]); try dsimp only)
      (try (conv in (evSteps call c9_20 _ _) => unfold c9_20; simp [gs, e0, e1, e2, e3, hi, hb, hm, hk, hr, w, w2, clrOut, d5, d5', a1, a1', a2, a2', k11, vField, he]); try dsimp only)
      (try (conv in (evSteps call c9_21 _ _) => unfold c9_21; simp [gs, e0, e1, e2, e3, hi, hb, hm, hk, hr, w, w2, clrOut, d5, d5', a1, a1', a2, a2', k11, vField, he]); try dsimp only)
      (try (conv in (evC call _ c9_22 _ _) => unfold c9_22; simp [gs, e0, e1, e2, e3, hi, hb, hm, hk, hr, w, w2, clrOut, d5, d5', a1, a1', a2, a2', k11, vField, he]); try dsimp only)
      (try (conv in (evC call _ c9_23 _ _) => unfold c9_23; simp [gs, e0, e1, e2, e3, hi, hb, hm, hk, hr, w, w2, clrOut, d5, d5', a1, a1', a2, a2', k11, vField, he]); try dsimp only)
      (try (conv in (evC call _ c9_24 _ _) => unfold c9_24; simp [gs, e0, e1, e2, e3, hi, hb, hm, hk, hr, w, w2, clrOut, d5, d5', a1, a1', a2, a2', k11, vField, he]); try dsimp only)
      (try (conv in (evSteps call c9_25 _ _) => unfold c9_25; simp [gs, e0, e1, e2, e3, hi, hb, hm, hk, hr, w, w2, clrOut, d5, d5', a1, a1', a2, a2', k11, vField, he]); try dsimp only)
      (try (conv in (evSteps call c9_26 _ _) => unfold c9_26; simp [gs, e0, e1, e2, e3, hi, hb, hm, hk, hr, w, w2, clrOut, d5, d5', a1, a1', a2, a2', k11, vField, he]); try dsimp only)
      (try (conv in (evSteps call c9_27 _ _) => unfold c9_27; simp [gs, e0, e1, e2, e3, hi, hb, hm, hk, hr, w, w2, clrOut, d5, d5', a1, a1', a2, a2', k11, vField, he]); try dsimp only)
      (try (conv in (evSteps call c9_28 _ _) => unfold c9_28; simp [gs, e0, e1, e2, e3, hi, hb, hm, hk, hr, w, w2, clrOut, d5, d5', a1, a1', a2, a2', k11, vField, he]); try dsimp only)
      (try (conv in (evSteps call c9_29 _ _) => unfold c9_29; simp [gs, e0, e1, e2, e3, hi, hb, hm, hk, hr, w, w2, clrOut, d5, d5', a1, a1', a2, a2', k11, vField, he]); try dsimp only)
      (try (conv in (evSteps call c9_30 _ _) => unfold c9_30; simp [gs, e0, e1, e2, e3, hi, hb, hm, hk, hr, w, w2, clrOut, d5, d5', a1, a1', a2, a2', k11, vField, he]); try dsimp only)
      (try (conv in (evSteps call c9_31 _ _) => unfold c9_31; simp [gs, e0, e1, e2, e3, hi, hb, hm, hk, hr, w, w2, clrOut, d5, d5', a1, a1', a2, a2', k11, vField, he]); try dsimp only)
      (try (conv in (evSteps call c9_32 _ _) => unfold c9_32; simp [gs, e0, e1, e2, e3, hi, hb, hm, hk, hr, w, w2, clrOut, d5, d5', a1, a1', a2, a2', k11, vField, he]); try dsimp only)
      (try (conv in (evSteps call c9_33 _ _) => unfold c9_33; simp [gs, e0, e1, e2, e3, hi, hb, hm, hk, hr, w, w2, clrOut, d5, d5', a1, a1', a2, a2', k11, vField, he]); try dsimp only)
      (try (conv in (evSteps call c9_34 _ _) => unfold c9_34; simp [gs, e0, e1, e2, e3, hi, hb, hm, hk, hr, w, w2, clrOut, d5, d5', a1, a1', a2, a2', k11, vField, he]); try dsimp only)
      (try (conv in (evSteps call c9_35 _ _) => unfold c9_35; simp [gs, e0, e1, e2, e3, hi, hb, hm, hk, hr, w, w2, clrOut, d5, d5', a1, a1', a2, a2', k11, vField, he]); try dsimp only)
      (try (conv in (evSteps call c9_36 _ _) => unfold c9_36; simp [gs, e0, e1, e2, e3, hi, hb, hm, hk, hr, w, w2, clrOut, d5, d5', a1, a1', a2, a2', k11, vField, he]); try dsimp only)
      (try (conv in (evSteps call c9_37 _ _) => unfold c9_37; simp [gs, e0, e1, e2, e3, hi, hb, hm, hk, hr, w, w2, clrOut, d5, d5', a1, a1', a2, a2', k11, vField, he]); try dsimp only)
      (try (conv in (evSteps call c9_38 _ _) => unfold c9_38; simp [gs, e0, e1, e2, e3, hi, hb, hm, hk, hr, w, w2, clrOut, d5, d5', a1, a1', a2, a2', k11, vField, he]); try dsimp only)
      (try (conv in (evSteps call c9_39 _ _) => unfold c9_39; simp [gs, e0, e1, e2, e3, hi, hb, hm, hk, hr, w, w2, clrOut, d5, d5', a1, a1', a2, a2', k11, vField, he]); try dsimp only)
      (try (conv in (evSteps call c9_40 _ _) => unfold c9_40; simp [gs, e0, e1, e2, e3, hi, hb, hm, hk, hr, w, w2, clrOut, d5, d5', a1, a1', a2, a2', k11, vField, he]); try dsimp only)
      (try (conv in (evSteps call c9_41 _ _) => unfold c9_41; simp [gs, e0, e1, e2, e3, hi, hb, hm, hk, hr, w, w2, clrOut, d5, d5', a1, a1', a2, a2', k11, vField, he]); try dsimp only)
      (try (conv in (evSteps call c9_42 _ _) => unfold c9_42; simp [gs, e0, e1, e2, e3, hi, hb, hm, hk, hr, w, w2, clrOut, d5, d5', a1, a1', a2, a2', k11, vField, he]); try dsimp only)
      (try (conv in (evSteps call c9_43 _ _) => unfold c9_43; simp [gs, e0, e1, e2, e3, hi, hb, hm, hk, hr, w, w2, clrOut, d5, d5', a1, a1', a2, a2', k11, vField, he]); try dsimp only)
      (try (conv in (evSteps call c9_44 _ _) => unfold c9_44; simp [gs, e0, e1, e2, e3, hi, hb, hm, hk, hr, w, w2, clrOut, d5, d5', a1, a1', a2, a2', k11, vField, he]); try dsimp only)
      (try (conv in (evSteps call c9_45 _ _) => unfold c9_45; simp [gs, e0, e1, e2, e3, hi, hb, hm, hk, hr, w, w2, clrOut, d5, d5', a1, a1', a2, a2', k11, vField, he]); try dsimp only)
      (try (conv in (evC call _ c9_46 _ _) => unfold c9_46; simp [gs, e0, e1, e2, e3, hi, hb, hm, hk, hr, w, w2, clrOut, d5, d5', a1, a1', a2, a2', k11, vField, he]); try dsimp only)
      (try (conv in (evC call _ c9_47 _ _) => unfold c9_47; simp [gs, e0, e1, e2, e3, hi, hb, hm, hk, hr, w, w2, clrOut, d5, d5', a1, a1', a2, a2', k11, vField, he]); try dsimp only)
      (try (conv in (evC call _ c9_48 _ _) => unfold c9_48; simp [gs, e0, e1, e2, e3, hi, hb, hm, hk, hr, w, w2, clrOut, d5, d5', a1, a1', a2, a2', k11, vField, he]); try dsimp only)
      (try (conv in (evSteps call c9_49 _ _) => unfold c9_49; simp [gs, e0, e1, e2, e3, hi, hb, hm, hk, hr, w, w2, clrOut, d5, d5', a1, a1', a2, a2', k11, vField, he]); try dsimp only)
      (try (conv in (evSteps call c9_50 _ _) => unfold c9_50; simp [gs, e0, e1, e2, e3, hi, hb, hm, hk, hr, w, w2, clrOut, d5, d5', a1, a1', a2, a2', k11, vField, he]); try dsimp only)
      (try (conv in (evSteps call c9_51 _ _) => unfold c9_51; simp [gs, e0, e1, e2, e3, hi, hb, hm, hk, hr, w, w2, clrOut, d5, d5', a1, a1', a2, a2', k11, vField, he]); try dsimp only)
      (try (conv in (evSteps call c9_52 _ _) => unfold c9_52; simp [gs, e0, e1, e2, e3, hi, hb, hm, hk, hr, w, w2, clrOut, d5, d5', a1, a1', a2, a2', k11, vField, he]); try dsimp only)
      (try (conv in (evSteps call c9_53 _ _) => unfold c9_53; simp [gs, e0, e1, e2, e3, hi, hb, hm, hk, hr, w, w2, clrOut, d5, d5', a1, a1', a2, a2', k11, vField, he]); try dsimp only)
      (try (conv in (evSteps call c9_54 _ _) => unfold c9_54; simp [gs, e0, e1, e2, e3, hi, hb, hm, hk, hr, w, w2, clrOut, d5, d5', a1, a1', a2, a2', k11, vField, he]); try dsimp only)
      (try (conv in (evSteps call c9_55 _ _) => unfold c9_55; simp [gs, e0, e1, e2, e3, hi, hb, hm, hk, hr, w, w2, clrOut, d5, d5', a1, a1', a2, a2', k11, vField, he]); try dsimp only)
      (try (conv in (evSteps call c9_56 _ _) => unfold c9_56; simp [gs, e0, e1, e2, e3, hi, hb, hm, hk, hr, w, w2, clrOut, d5, d5', a1, a1', a2, a2', k11, vField, he]); try dsimp only)
      (try (conv in (evSteps call c9_57 _ _) => unfold c9_57; simp [gs, e0, e1, e2, e3, hi, hb, hm, hk, hr, w, w2, clrOut, d5, d5', a1, a1', a2, a2', k11, vField, he]); try dsimp only)
      (try (conv in (evSteps call c9_58 _ _) => unfold c9_58; simp [gs, e0, e1, e2, e3, hi, hb, hm, hk, hr, w, w2, clrOut, d5, d5', a1, a1', a2, a2', k11, vField, he]); try dsimp only)
      (try (conv in (evSteps call c9_59 _ _) => unfold c9_59; simp [gs, e0, e1, e2, e3, hi, hb, hm, hk, hr, w, w2, clrOut, d5, d5', a1, a1', a2, a2', k11, vField, he]); try dsimp only)
      (try (conv in (evC call _ c9_60 _ _) => unfold c9_60; simp [gs, e0, e1, e2, e3, hi, hb, hm, hk, hr, w, w2, clrOut, d5, d5', a1, a1', a2, a2', k11, vField, he]); try dsimp only)
      (try (conv in (evC call _ c9_61 _ _) => unfold c9_61; simp [gs, e0, e1, e2, e3, hi, hb, hm, hk, hr, w, w2, clrOut, d5, d5', a1, a1', a2, a2', k11, vField, he]); try dsimp only)
      (try (conv in (evC call _ c9_62 _ _) => unfold c9_62; simp [gs, e0, e1, e2, e3, hi, hb, hm, hk, hr, w, w2, clrOut, d5, d5', a1, a1', a2, a2', k11, vField, he]); try dsimp only)
      (try (conv in (evC call _ c9_63 _ _) => unfold c9_63; simp [gs, e0, e1, e2, e3, hi, hb, hm, hk, hr, w, w2, clrOut, d5, d5', a1, a1', a2, a2', k11, vField, he]); try dsimp only)
      all_goals first | rfl | exact ⟨rfl, rfl⟩
    all_goals simp [gs, e0, e1, e2, e3]
  · have he0 : ¬ i + 1 = N := fun e => by have := hend.2 e; simp at this
    have he : ¬ (i : Int) = (N : Int) - 1 := by omega
    obtain ⟨t1, t2⟩ := htext (by simp)
    obtain ⟨E, hE⟩ : ∃ E, E = A + x.length := ⟨_, rfl⟩
    have w5 : wrapF .i64 ((A : Int) + (x.length : Int)) = (E : Int) := by rw [wrap64 (by omega) (by omega)]; omega
    have t3 : E - A = x.length := by omega
    have t4 : E ≤ s.length := by omega
    have t5 : A ≤ E := by omega
    have t6 : ¬ (s.length : Int) < (E : Int) := by omega
    have t7 : ¬ s.length < E := by omega
    rw [← t3] at t2
    refine ⟨?fr1, ?g1, ?e1, ?_, ?_, ?_, ?_⟩
    case e1 =>
      (try (conv in (evC call _ c9_10 _ _) => unfold c9_10; simp [gs, e0, e1, e2, e3, hi, hb, hm, hk, hr, w, w2, clrOut, d5, d5', a1, a1', a2, a2', k11, vField, he, w5, t4, t5, t6, t7, t2, gvo, vSliceS]); try dsimp only)
      (try (conv in (evC call _ c9_11 _ _) => unfold c9_11; simp [gs, e0, e1, e2, e3, hi, hb, hm, hk, hr, w, w2, clrOut, d5, d5', a1, a1', a2, a2', k11, vField, he, w5, t4, t5, t6, t7, t2, gvo, vSliceS]); try dsimp only)
      (try (conv in (evC call _ c9_12 _ _) => unfold c9_12; simp [gs, e0, e1, e2, e3, hi, hb, hm, hk, hr, w, w2, clrOut, d5, d5', a1, a1', a2, a2', k11, vField, he, w5, t4, t5, t6, t7, t2, gvo, vSliceS]); try dsimp only)
      (try (conv in (evC call _ c9_13 _ _) => unfold c9_13; simp [gs, e0, e1, e2, e3, hi, hb, hm, hk, hr, w, w2, clrOut, d5, d5', a1, a1', a2, a2', k11, vField, he, w5, t4, t5, t6, t7, t2, gvo, vSliceS]); try dsimp only)
      (try (conv in (evSteps call c9_14 _ _) => unfold c9_14; simp [gs, e0, e1, e2, e3, hi, hb, hm, hk, hr, w, w2, clrOut, d5, d5', a1, a1', a2, a2', k11, vField, he, w5, t4, t5, t6, t7, t2, gvo, vSliceS]); try dsimp only)
      (try (conv in (evC call _ c9_15 _ _) => unfold c9_15; simp [gs, e0, e1, e2, e3, hi, hb, hm, hk, hr, w, w2, clrOut, d5, d5', a1, a1', a2, a2', k11, vField, he, w5, t4, t5, t6, t7, t2, gvo, vSliceS]); try dsimp only)
      (try (conv in (evSteps call c9_16 _ _) => unfold c9_16; simp [gs, e0, e1, e2, e3, hi, hb, hm, hk, hr, w, w2, clrOut, d5, d5', a1, a1', a2, a2', k11, vField, he, w5, t4, t5, t6, t7, t2, gvo, vSliceS]); try dsimp only)
      (try (conv in (evSteps call c9_17 _ _) => unfold c9_17; simp [gs, e0, e1, e2, e3, hi, hb, hm, hk, hr, w, w2, clrOut, d5, d5', a1, a1', a2, a2', k11, vField, he, w5, t4, t5, t6, t7, t2, gvo, vSliceS]); try dsimp only)
      (try (conv in (evSteps call c9_18 _ _) => unfold c9_18; simp [gs, e0, e1, e2, e3, hi, hb, hm, hk, hr, w, w2, clrOut, d5, d5', a1, a1', a2, a2', k11, vField, he, w5, t4, t5, t6, t7, t2, gvo, vSliceS]); try dsimp only)
      (try (conv in (evSteps call c9_19 _ _) => unfold c9_19; simp [gs, e0, e1, e2, e3, hi, hb, hm, hk, hr, w, w2, clrOut, d5, d5', a1, a1', a2, a2', k11, vField, he, w5, t4, t5, t6, t7, t2, gvo, vSliceS]); try dsimp only)
      (try (conv in (evSteps call c9_20 _ _) => unfold c9_20; simp [gs, e0, e1, e2, e3, hi, hb, hm, hk, hr, w, w2, clrOut, d5, d5', a1, a1', a2, a2', k11, vField, he, w5, t4, t5, t6, t7, t2, gvo, vSliceS]); try dsimp only)
      (try (conv in (evSteps call c9_21 _ _) => unfold c9_21; simp [gs, e0, e1, e2, e3, hi, hb, hm, hk, hr, w, w2, clrOut, d5, d5', a1, a1', a2, a2', k11, vField, he, w5, t4, t5, t6, t7, t2, gvo, vSliceS]); try dsimp only)
      (try (conv in (evC call _ c9_22 _ _) => unfold c9_22; simp [gs, e0, e1, e2, e3, hi, hb, hm, hk, hr, w, w2, clrOut, d5, d5', a1, a1', a2, a2', k11, vField, he, w5, t4, t5, t6, t7, t2, gvo, vSliceS]); try dsimp only)
      (try (conv in (evC call _ c9_23 _ _) => unfold c9_23; simp [gs, e0, e1, e2, e3, hi, hb, hm, hk, hr, w, w2, clrOut, d5, d5', a1, a1', a2, a2', k11, vField, he, w5, t4, t5, t6, t7, t2, gvo, vSliceS]); try dsimp only)
      (try (conv in (evC call _ c9_24 _ _) => unfold c9_24; simp [gs, e0, e1, e2, e3, hi, hb, hm, hk, hr, w, w2, clrOut, d5, d5', a1, a1', a2, a2', k11, vField, he, w5, t4, t5, t6, t7, t2, gvo, vSliceS]); try dsimp only)
      (try (conv in (evSteps call c9_25 _ _) => unfold c9_25; simp [gs, e0, e1, e2, e3, hi, hb, hm, hk, hr, w, w2, clrOut, d5, d5', a1, a1', a2, a2', k11, vField, he, w5, t4, t5, t6, t7, t2, gvo, vSliceS]); try dsimp only)
      (try (conv in (evSteps call c9_26 _ _) => unfold c9_26; simp [gs, e0, e1, e2, e3, hi, hb, hm, hk, hr, w, w2, clrOut, d5, d5', a1, a1', a2, a2', k11, vField, he, w5, t4, t5, t6, t7, t2, gvo, vSliceS]); try dsimp only)
      (try (conv in (evSteps call c9_27 _ _) => unfold c9_27; simp [gs, e0, e1, e2, e3, hi, hb, hm, hk, hr, w, w2, clrOut, d5, d5', a1, a1', a2, a2', k11, vField, he, w5, t4, t5, t6, t7, t2, gvo, vSliceS]); try dsimp only)
      (try (conv in (evSteps call c9_28 _ _) => unfold c9_28; simp [gs, e0, e1, e2, e3, hi, hb, hm, hk, hr, w, w2, clrOut, d5, d5', a1, a1', a2, a2', k11, vField, he, w5, t4, t5, t6, t7, t2, gvo, vSliceS]); try dsimp only)
      (try (conv in (evSteps call c9_29 _ _) => unfold c9_29; simp [gs, e0, e1, e2, e3, hi, hb, hm, hk, hr, w, w2, clrOut, d5, d5', a1, a1', a2, a2', k11, vField, he, w5, t4, t5, t6, t7, t2, gvo, vSliceS]); try dsimp only)
      (try (conv in (evSteps call c9_30 _ _) => unfold c9_30; simp [gs, e0, e1, e2, e3, hi, hb, hm, hk, hr, w, w2, clrOut, d5, d5', a1, a1', a2, a2', k11, vField, he, w5, t4, t5, t6, t7, t2, gvo, vSliceS]); try dsimp only)
      (try (conv in (evSteps call c9_31 _ _) => unfold c9_31; simp [gs, e0, e1, e2, e3, hi, hb, hm, hk, hr, w, w2, clrOut, d5, d5', a1, a1', a2, a2', k11, vField, he, w5, t4, t5, t6, t7, t2, gvo, vSliceS]); try dsimp only)
      (try (conv in (evSteps call c9_32 _ _) => unfold c9_32; simp [gs, e0, e1, e2, e3, hi, hb, hm, hk, hr, w, w2, clrOut, d5, d5', a1, a1', a2, a2', k11, vField, he, w5, t4, t5, t6, t7, t2, gvo, vSliceS]); try dsimp only)
      (try (conv in (evSteps call c9_33 _ _) => unfold c9_33; simp [gs, e0, e1, e2, e3, hi, hb, hm, hk, hr, w, w2, clrOut, d5, d5', a1, a1', a2, a2', k11, vField, he, w5, t4, t5, t6, t7, t2, gvo, vSliceS]); try dsimp only)
      (try (conv in (evSteps call c9_34 _ _) => unfold c9_34; simp [gs, e0, e1, e2, e3, hi, hb, hm, hk, hr, w, w2, clrOut, d5, d5', a1, a1', a2, a2', k11, vField, he, w5, t4, t5, t6, t7, t2, gvo, vSliceS]); try dsimp only)
      (try (conv in (evSteps call c9_35 _ _) => unfold c9_35; simp [gs, e0, e1, e2, e3, hi, hb, hm, hk, hr, w, w2, clrOut, d5, d5', a1, a1', a2, a2', k11, vField, he, w5, t4, t5, t6, t7, t2, gvo, vSliceS]); try dsimp only)
      (try (conv in (evSteps call c9_36 _ _) => unfold c9_36; simp [gs, e0, e1, e2, e3, hi, hb, hm, hk, hr, w, w2, clrOut, d5, d5', a1, a1', a2, a2', k11, vField, he, w5, t4, t5, t6, t7, t2, gvo, vSliceS]); try dsimp only)
      (try (conv in (evSteps call c9_37 _ _) => unfold c9_37; simp [gs, e0, e1, e2, e3, hi, hb, hm, hk, hr, w, w2, clrOut, d5, d5', a1, a1', a2, a2', k11, vField, he, w5, t4, t5, t6, t7, t2, gvo, vSliceS]); try dsimp only)
      (try (conv in (evSteps call c9_38 _ _) => unfold c9_38; simp [gs, e0, e1, e2, e3, hi, hb, hm, hk, hr, w, w2, clrOut, d5, d5', a1, a1', a2, a2', k11, vField, he, w5, t4, t5, t6, t7, t2, gvo, vSliceS]); try dsimp only)
      (try (conv in (evSteps call c9_39 _ _) => unfold c9_39; simp [gs, e0, e1, e2, e3, hi, hb, hm, hk, hr, w, w2, clrOut, d5, d5', a1, a1', a2, a2', k11, vField, he, w5, t4, t5, t6, t7, t2, gvo, vSliceS]); try dsimp only)
      (try (conv in (evSteps call c9_40 _ _) => unfold c9_40; simp [gs, e0, e1, e2, e3, hi, hb, hm, hk, hr, w, w2, clrOut, d5, d5', a1, a1', a2, a2', k11, vField, he, w5, t4, t5, t6, t7, t2, gvo, vSliceS]); try dsimp only)
      (try (conv in (evSteps call c9_41 _ _) => unfold c9_41; simp [gs, e0, e1, e2, e3, hi, hb, hm, hk, hr, w, w2, clrOut, d5, d5', a1, a1', a2, a2', k11, vField, he, w5, t4, t5, t6, t7, t2, gvo, vSliceS]); try dsimp only)
      (try (conv in (evSteps call c9_42 _ _) => unfold c9_42; simp [gs, e0, e1, e2, e3, hi, hb, hm, hk, hr, w, w2, clrOut, d5, d5', a1, a1', a2, a2', k11, vField, he, w5, t4, t5, t6, t7, t2, gvo, vSliceS]); try dsimp only)
      (try (conv in (evSteps call c9_43 _ _) => unfold c9_43; simp [gs, e0, e1, e2, e3, hi, hb, hm, hk, hr, w, w2, clrOut, d5, d5', a1, a1', a2, a2', k11, vField, he, w5, t4, t5, t6, t7, t2, gvo, vSliceS]); try dsimp only)
      (try (conv in (evSteps call c9_44 _ _) => unfold c9_44; simp [gs, e0, e1, e2, e3, hi, hb, hm, hk, hr, w, w2, clrOut, d5, d5', a1, a1', a2, a2', k11, vField, he, w5, t4, t5, t6, t7, t2, gvo, vSliceS]); try dsimp only)
      (try (conv in (evSteps call c9_45 _ _) => unfold c9_45; simp [gs, e0, e1, e2, e3, hi, hb, hm, hk, hr, w, w2, clrOut, d5, d5', a1, a1', a2, a2', k11, vField, he, w5, t4, t5, t6, t7, t2, gvo, vSliceS]); try dsimp only)
      (try (conv in (evC call _ c9_46 _ _) => unfold c9_46; simp [gs, e0, e1, e2, e3, hi, hb, hm, hk, hr, w, w2, clrOut, d5, d5', a1, a1', a2, a2', k11, vField, he, w5, t4, t5, t6, t7, t2, gvo, vSliceS]); try dsimp only)
      (try (conv in (evC call _ c9_47 _ _) => unfold c9_47; simp [gs, e0, e1, e2, e3, hi, hb, hm, hk, hr, w, w2, clrOut, d5, d5', a1, a1', a2, a2', k11, vField, he, w5, t4, t5, t6, t7, t2, gvo, vSliceS]); try dsimp only)
      (try (conv in (evC call _ c9_48 _ _) => unfold c9_48; simp [gs, e0, e1, e2, e3, hi, hb, hm, hk, hr, w, w2, clrOut, d5, d5', a1, a1', a2, a2', k11, vField, he, w5, t4, t5, t6, t7, t2, gvo, vSliceS]); try dsimp only)
      (try (conv in (evSteps call c9_49 _ _) => unfold c9_49; simp [gs, e0, e1, e2, e3, hi, hb, hm, hk, hr, w, w2, clrOut, d5, d5', a1, a1', a2, a2', k11, vField, he, w5, t4, t5, t6, t7, t2, gvo, vSliceS]); try dsimp only)
      (try (conv in (evSteps call c9_50 _ _) => unfold c9_50; simp [gs, e0, e1, e2, e3, hi, hb, hm, hk, hr, w, w2, clrOut, d5, d5', a1, a1', a2, a2', k11, vField, he, w5, t4, t5, t6, t7, t2, gvo, vSliceS]); try dsimp only)
      (try (conv in (evSteps call c9_51 _ _) => unfold c9_51; simp [gs, e0, e1, e2, e3, hi, hb, hm, hk, hr, w, w2, clrOut, d5, d5', a1, a1', a2, a2', k11, vField, he, w5, t4, t5, t6, t7, t2, gvo, vSliceS]); try dsimp only)
      (try (conv in (evSteps call c9_52 _ _) => unfold c9_52; simp [gs, e0, e1, e2, e3, hi, hb, hm, hk, hr, w, w2, clrOut, d5, d5', a1, a1', a2, a2', k11, vField, he, w5, t4, t5, t6, t7, t2, gvo, vSliceS]); try dsimp only)
      (try (conv in (evSteps call c9_53 _ _) => unfold c9_53; simp [gs, e0, e1, e2, e3, hi, hb, hm, hk, hr, w, w2, clrOut, d5, d5', a1, a1', a2, a2', k11, vField, he, w5, t4, t5, t6, t7, t2, gvo, vSliceS]); try dsimp only)
      (try (conv in (evSteps call c9_54 _ _) => unfold c9_54; simp [gs, e0, e1, e2, e3, hi, hb, hm, hk, hr, w, w2, clrOut, d5, d5', a1, a1', a2, a2', k11, vField, he, w5, t4, t5, t6, t7, t2, gvo, vSliceS]); try dsimp only)
      (try (conv in (evSteps call c9_55 _ _) => unfold c9_55; simp [gs, e0, e1, e2, e3, hi, hb, hm, hk, hr, w, w2, clrOut, d5, d5', a1, a1', a2, a2', k11, vField, he, w5, t4, t5, t6, t7, t2, gvo, vSliceS]); try dsimp only)
      (try (conv in (evSteps call c9_56 _ _) => unfold c9_56; simp [gs, e0, e1, e2, e3, hi, hb, hm, hk, hr, w, w2, clrOut, d5, d5', a1, a1', a2, a2', k11, vField, he, w5, t4, t5, t6, t7, t2, gvo, vSliceS]); try dsimp only)
      (try (conv in (evSteps call c9_57 _ _) => unfold c9_57; simp [gs, e0, e1, e2, e3, hi, hb, hm, hk, hr, w, w2, clrOut, d5, d5', a1, a1', a2, a2', k11, vField, he, w5, t4, t5, t6, t7, t2, gvo, vSliceS]); try dsimp only)
      (try (conv in (evSteps call c9_58 _ _) => unfold c9_58; simp [gs, e0, e1, e2, e3, hi, hb, hm, hk, hr, w, w2, clrOut, d5, d5', a1, a1', a2, a2', k11, vField, he, w5, t4, t5, t6, t7, t2, gvo, vSliceS]); try dsimp only)
      (try (conv in (evSteps call c9_59 _ _) => unfold c9_59; simp [gs, e0, e1, e2, e3, hi, hb, hm, hk, hr, w, w2, clrOut, d5, d5', a1, a1', a2, a2', k11, vField, he, w5, t4, t5, t6, t7, t2, gvo, vSliceS]); try dsimp only)
      (try (conv in (evC call _ c9_60 _ _) => unfold c9_60; simp [gs, e0, e1, e2, e3, hi, hb, hm, hk, hr, w, w2, clrOut, d5, d5', a1, a1', a2, a2', k11, vField, he, w5, t4, t5, t6, t7, t2, gvo, vSliceS]); try dsimp only)
      (try (conv in (evC call _ c9_61 _ _) => unfold c9_61; simp [gs, e0, e1, e2, e3, hi, hb, hm, hk, hr, w, w2, clrOut, d5, d5', a1, a1', a2, a2', k11, vField, he, w5, t4, t5, t6, t7, t2, gvo, vSliceS]); try dsimp only)
      (try (conv in (evC call _ c9_62 _ _) => unfold c9_62; simp [gs, e0, e1, e2, e3, hi, hb, hm, hk, hr, w, w2, clrOut, d5, d5', a1, a1', a2, a2', k11, vField, he, w5, t4, t5, t6, t7, t2, gvo, vSliceS]); try dsimp only)
      (try (conv in (evC call _ c9_63 _ _) => unfold c9_63; simp [gs, e0, e1, e2, e3, hi, hb, hm, hk, hr, w, w2, clrOut, d5, d5', a1, a1', a2, a2', k11, vField, he, w5, t4, t5, t6, t7, t2, gvo, vSliceS]); try dsimp only)
      all_goals first | rfl | exact ⟨rfl, rfl⟩
    all_goals simp [gs, e0, e1, e2, e3]
  · have he0 : ¬ i + 1 = N := fun e => by have := hend.2 e; simp at this
    have he : ¬ (i : Int) = (N : Int) - 1 := by omega
    refine ⟨?fr2, ?g2, ?e2, ?_, ?_, ?_, ?_⟩
    case e2 =>
      (try (conv in (evC call _ c9_10 _ _) => unfold c9_10; simp [gs, e0, e1, e2, e3, hi, hb, hm, hk, hr, w, w2, clrOut, d5, d5', a1, a1', a2, a2', k11, vField, he]); try dsimp only)
      (try (conv in (evC call _ c9_11 _ _) => unfold c9_11; simp [gs, e0, e1, e2, e3, hi, hb, hm, hk, hr, w, w2, clrOut, d5, d5', a1, a1', a2, a2', k11, vField, he]); try dsimp only)
      (try (conv in (evC call _ c9_12 _ _) => unfold c9_12; simp [gs, e0, e1, e2, e3, hi, hb, hm, hk, hr, w, w2, clrOut, d5, d5', a1, a1', a2, a2', k11, vField, he]); try dsimp only)
      (try (conv in (evC call _ c9_13 _ _) => unfold c9_13; simp [gs, e0, e1, e2, e3, hi, hb, hm, hk, hr, w, w2, clrOut, d5, d5', a1, a1', a2, a2', k11, vField, he]); try dsimp only)
      (try (conv in (evSteps call c9_14 _ _) => unfold c9_14; simp [gs, e0, e1, e2, e3, hi, hb, hm, hk, hr, w, w2, clrOut, d5, d5', a1, a1', a2, a2', k11, vField, he]); try dsimp only)
      (try (conv in (evC call _ c9_15 _ _) => unfold c9_15; simp [gs, e0, e1, e2, e3, hi, hb, hm, hk, hr, w, w2, clrOut, d5, d5', a1, a1', a2, a2', k11, vField, he]); try dsimp only)
      (try (conv in (evSteps call c9_16 _ _) => unfold c9_16; simp [gs, e0, e1, e2, e3, hi, hb, hm, hk, hr, w, w2, clrOut, d5, d5', a1, a1', a2, a2', k11, vField, he]); try dsimp only)
      (try (conv in (evSteps call c9_17 _ _) => unfold c9_17; simp [gs, e0, e1, e2, e3, hi, hb, hm, hk, hr, w, w2, clrOut, d5, d5', a1, a1', a2, a2', k11, vField, he]); try dsimp only)
      (try (conv in (evSteps call c9_18 _ _) => unfold c9_18; simp [gs, e0, e1, e2, e3, hi, hb, hm, hk, hr, w, w2, clrOut, d5, d5', a1, a1', a2, a2', k11, vField, he]); try dsimp only)
      (try (conv in (evSteps call c9_19 _ _) => unfold c9_19; simp [gs, e0, e1, e2, e3, hi, hb, hm, hk, hr, w, w2, clrOut, d5, d5', a1, a1', a2, a2', k11, vField, he]); try dsimp only)
      (try (conv in (evSteps call c9_20 _ _) => unfold c9_20; simp [gs, e0, e1, e2, e3, hi, hb, hm, hk, hr, w, w2, clrOut, d5, d5', a1, a1', a2, a2', k11, vField, he]); try dsimp only)
      (try (conv in (evSteps call c9_21 _ _) => unfold c9_21; simp [gs, e0, e1, e2, e3, hi, hb, hm, hk, hr, w, w2, clrOut, d5, d5', a1, a1', a2, a2', k11, vField, he]); try dsimp only)
      (try (conv in (evC call _ c9_22 _ _) => unfold c9_22; simp [gs, e0, e1, e2, e3, hi, hb, hm, hk, hr, w, w2, clrOut, d5, d5', a1, a1', a2, a2', k11, vField, he]); try dsimp only)
      (try (conv in (evC call _ c9_23 _ _) => unfold c9_23; simp [gs, e0, e1, e2, e3, hi, hb, hm, hk, hr, w, w2, clrOut, d5, d5', a1, a1', a2, a2', k11, vField, he]); try dsimp only)
      (try (conv in (evC call _ c9_24 _ _) => unfold c9_24; simp [gs, e0, e1, e2, e3, hi, hb, hm, hk, hr, w, w2, clrOut, d5, d5', a1, a1', a2, a2', k11, vField, he]); try dsimp only)
      (try (conv in (evSteps call c9_25 _ _) => unfold c9_25; simp [gs, e0, e1, e2, e3, hi, hb, hm, hk, hr, w, w2, clrOut, d5, d5', a1, a1', a2, a2', k11, vField, he]); try dsimp only)
      (try (conv in (evSteps call c9_26 _ _) => unfold c9_26; simp [gs, e0, e1, e2, e3, hi, hb, hm, hk, hr, w, w2, clrOut, d5, d5', a1, a1', a2, a2', k11, vField, he]); try dsimp only)
      (try (conv in (evSteps call c9_27 _ _) => unfold c9_27; simp [gs, e0, e1, e2, e3, hi, hb, hm, hk, hr, w, w2, clrOut, d5, d5', a1, a1', a2, a2', k11, vField, he]); try dsimp only)
      (try (conv in (evSteps call c9_28 _ _) => unfold c9_28; simp [gs, e0, e1, e2, e3, hi, hb, hm, hk, hr, w, w2, clrOut, d5, d5', a1, a1', a2, a2', k11, vField, he]); try dsimp only)
      (try (conv in (evSteps call c9_29 _ _) => unfold c9_29; simp [gs, e0, e1, e2, e3, hi, hb, hm, hk, hr, w, w2, clrOut, d5, d5', a1, a1', a2, a2', k11, vField, he]); try dsimp only)
      (try (conv in (evSteps call c9_30 _ _) => unfold c9_30; simp [gs, e0, e1, e2, e3, hi, hb, hm, hk, hr, w, w2, clrOut, d5, d5', a1, a1', a2, a2', k11, vField, he]); try dsimp only)
      (try (conv in (evSteps call c9_31 _ _) => unfold c9_31; simp [gs, e0, e1, e2, e3, hi, hb, hm, hk, hr, w, w2, clrOut, d5, d5', a1, a1', a2, a2', k11, vField, he]); try dsimp only)
      (try (conv in (evSteps call c9_32 _ _) => unfold c9_32; simp [gs, e0, e1, e2, e3, hi, hb, hm, hk, hr, w, w2, clrOut, d5, d5', a1, a1', a2, a2', k11, vField, he]); try dsimp only)
      (try (conv in (evSteps call c9_33 _ _) => unfold c9_33; simp [gs, e0, e1, e2, e3, hi, hb, hm, hk, hr, w, w2, clrOut, d5, d5', a1, a1', a2, a2', k11, vField, he]); try dsimp only)
      (try (conv in (evSteps call c9_34 _ _) => unfold c9_34; simp [gs, e0, e1, e2, e3, hi, hb, hm, hk, hr, w, w2, clrOut, d5, d5', a1, a1', a2, a2', k11, vField, he]); try dsimp only)
      (try (conv in (evSteps call c9_35 _ _) => unfold c9_35; simp [gs, e0, e1, e2, e3, hi, hb, hm, hk, hr, w, w2, clrOut, d5, d5', a1, a1', a2, a2', k11, vField, he]); try dsimp only)
      (try (conv in (evSteps call c9_36 _ _) => unfold c9_36; simp [gs, e0, e1, e2, e3, hi, hb, hm, hk, hr, w, w2, clrOut, d5, d5', a1, a1', a2, a2', k11, vField, he]); try dsimp only)
      (try (conv in (evSteps call c9_37 _ _) => unfold c9_37; simp [gs, e0, e1, e2, e3, hi, hb, hm, hk, hr, w, w2, clrOut, d5, d5', a1, a1', a2, a2', k11, vField, he]); try dsimp only)
      (try (conv in (evSteps call c9_38 _ _) => unfold c9_38; simp [gs, e0, e1, e2, e3, hi, hb, hm, hk, hr, w, w2, clrOut, d5, d5', a1, a1', a2, a2', k11, vField, he]); try dsimp only)
      (try (conv in (evSteps call c9_39 _ _) => unfold c9_39; simp [gs, e0, e1, e2, e3, hi, hb, hm, hk, hr, w, w2, clrOut, d5, d5', a1, a1', a2, a2', k11, vField, he]); try dsimp only)
      (try (conv in (evSteps call c9_40 _ _) => unfold c9_40; simp [gs, e0, e1, e2, e3, hi, hb, hm, hk, hr, w, w2, clrOut, d5, d5', a1, a1', a2, a2', k11, vField, he]); try dsimp only)
      (try (conv in (evSteps call c9_41 _ _) => unfold c9_41; simp [gs, e0, e1, e2, e3, hi, hb, hm, hk, hr, w, w2, clrOut, d5, d5', a1, a1', a2, a2', k11, vField, he]); try dsimp only)
      (try (conv in (evSteps call c9_42 _ _) => unfold c9_42; simp [gs, e0, e1, e2, e3, hi, hb, hm, hk, hr, w, w2, clrOut, d5, d5', a1, a1', a2, a2', k11, vField, he]); try dsimp only)
      (try (conv in (evSteps call c9_43 _ _) => unfold c9_43; simp [gs, e0, e1, e2, e3, hi, hb, hm, hk, hr, w, w2, clrOut, d5, d5', a1, a1', a2, a2', k11, vField, he]); try dsimp only)
      (try (conv in (evSteps call c9_44 _ _) => unfold c9_44; simp [gs, e0, e1, e2, e3, hi, hb, hm, hk, hr, w, w2, clrOut, d5, d5', a1, a1', a2, a2', k11, vField, he]); try dsimp only)
      (try (conv in (evSteps call c9_45 _ _) => unfold c9_45; simp [gs, e0, e1, e2, e3, hi, hb, hm, hk, hr, w, w2, clrOut, d5, d5', a1, a1', a2, a2', k11, vField, he]); try dsimp only)
      (try (conv in (evC call _ c9_46 _ _) => unfold c9_46; simp [gs, e0, e1, e2, e3, hi, hb, hm, hk, hr, w, w2, clrOut, d5, d5', a1, a1', a2, a2', k11, vField, he]); try dsimp only)
      (try (conv in (evC call _ c9_47 _ _) => unfold c9_47; simp [gs, e0, e1, e2, e3, hi, hb, hm, hk, hr, w, w2, clrOut, d5, d5', a1, a1', a2, a2', k11, vField, he]); try dsimp only)
      (try (conv in (evC call _ c9_48 _ _) => unfold c9_48; simp [gs, e0, e1, e2, e3, hi, hb, hm, hk, hr, w, w2, clrOut, d5, d5', a1, a1', a2, a2', k11, vField, he]); try dsimp only)
      (try (conv in (evSteps call c9_49 _ _) => unfold c9_49; simp [gs, e0, e1, e2, e3, hi, hb, hm, hk, hr, w, w2, clrOut, d5, d5', a1, a1', a2, a2', k11, vField, he]); try dsimp only)
      (try (conv in (evSteps call c9_50 _ _) => unfold c9_50; simp [gs, e0, e1, e2, e3, hi, hb, hm, hk, hr, w, w2, clrOut, d5, d5', a1, a1', a2, a2', k11, vField, he]); try dsimp only)
      (try (conv in (evSteps call c9_51 _ _) => unfold c9_51; simp [gs, e0, e1, e2, e3, hi, hb, hm, hk, hr, w, w2, clrOut, d5, d5', a1, a1', a2, a2', k11, vField, he]); try dsimp only)
      (try (conv in (evSteps call c9_52 _ _) => unfold c9_52; simp [gs, e0, e1, e2, e3, hi, hb, hm, hk, hr, w, w2, clrOut, d5, d5', a1, a1', a2, a2', k11, vField, he]); try dsimp only)
      (try (conv in (evSteps call c9_53 _ _) => unfold c9_53; simp [gs, e0, e1, e2, e3, hi, hb, hm, hk, hr, w, w2, clrOut, d5, d5', a1, a1', a2, a2', k11, vField, he]); try dsimp only)
      (try (conv in (evSteps call c9_54 _ _) => unfold c9_54; simp [gs, e0, e1, e2, e3, hi, hb, hm, hk, hr, w, w2, clrOut, d5, d5', a1, a1', a2, a2', k11, vField, he]); try dsimp only)
      (try (conv in (evSteps call c9_55 _ _) => unfold c9_55; simp [gs, e0, e1, e2, e3, hi, hb, hm, hk, hr, w, w2, clrOut, d5, d5', a1, a1', a2, a2', k11, vField, he]); try dsimp only)
      (try (conv in (evSteps call c9_56 _ _) => unfold c9_56; simp [gs, e0, e1, e2, e3, hi, hb, hm, hk, hr, w, w2, clrOut, d5, d5', a1, a1', a2, a2', k11, vField, he]); try dsimp only)
      (try (conv in (evSteps call c9_57 _ _) => unfold c9_57; simp [gs, e0, e1, e2, e3, hi, hb, hm, hk, hr, w, w2, clrOut, d5, d5', a1, a1', a2, a2', k11, vField, he]); try dsimp only)
      (try (conv in (evSteps call c9_58 _ _) => unfold c9_58; simp [gs, e0, e1, e2, e3, hi, hb, hm, hk, hr, w, w2, clrOut, d5, d5', a1, a1', a2, a2', k11, vField, he]); try dsimp only)
      (try (conv in (evSteps call c9_59 _ _) => unfold c9_59; simp [gs, e0, e1, e2, e3, hi, hb, hm, hk, hr, w, w2, clrOut, d5, d5', a1, a1', a2, a2', k11, vField, he]); try dsimp only)
      (try (conv in (evC call _ c9_60 _ _) => unfold c9_60; simp [gs, e0, e1, e2, e3, hi, hb, hm, hk, hr, w, w2, clrOut, d5, d5', a1, a1', a2, a2', k11, vField, he]); try dsimp only)
      (try (conv in (evC call _ c9_61 _ _) => unfold c9_61; simp [gs, e0, e1, e2, e3, hi, hb, hm, hk, hr, w, w2, clrOut, d5, d5', a1, a1', a2, a2', k11, vField, he]); try dsimp only)
      (try (conv in (evC call _ c9_62 _ _) => unfold c9_62; simp [gs, e0, e1, e2, e3, hi, hb, hm, hk, hr, w, w2, clrOut, d5, d5', a1, a1', a2, a2', k11, vField, he]); try dsimp only)
      (try (conv in (evC call _ c9_63 _ _) => unfold c9_63; simp [gs, e0, e1, e2, e3, hi, hb, hm, hk, hr, w, w2, clrOut, d5, d5', a1, a1', a2, a2', k11, vField, he]); try dsimp only)
      all_goals first | rfl | exact ⟨rfl, rfl⟩
    all_goals simp [gs, e0, e1, e2, e3]
  · have he0 : ¬ i + 1 = N := fun e => by have := hend.2 e; simp at this
    have he : ¬ (i : Int) = (N : Int) - 1 := by omega
    obtain ⟨t1, t2⟩ := htext (by simp)
    obtain ⟨E, hE⟩ : ∃ E, E = A + x.length := ⟨_, rfl⟩
    have w5 : wrapF .i64 ((A : Int) + (x.length : Int)) = (E : Int) := by rw [wrap64 (by omega) (by omega)]; omega
    have t3 : E - A = x.length := by omega
    have t4 : E ≤ s.length := by omega
    have t5 : A ≤ E := by omega
    have t6 : ¬ (s.length : Int) < (E : Int) := by omega
    have t7 : ¬ s.length < E := by omega
    rw [← t3] at t2
    refine ⟨?fr3, ?g3, ?e3, ?_, ?_, ?_, ?_⟩
    case e3 =>
      (try (conv in (evC call _ c9_10 _ _) => unfold c9_10; simp [gs, e0, e1, e2, e3, hi, hb, hm, hk, hr, w, w2, clrOut, d5, d5', a1, a1', a2, a2', k11, vField, he, w5, t4, t5, t6, t7, t2, gvo, vSliceS]); try dsimp only)
      (try (conv in (evC call _ c9_11 _ _) => unfold c9_11; simp [gs, e0, e1, e2, e3, hi, hb, hm, hk, hr, w, w2, clrOut, d5, d5', a1, a1', a2, a2', k11, vField, he, w5, t4, t5, t6, t7, t2, gvo, vSliceS]); try dsimp only)
      (try (conv in (evC call _ c9_12 _ _) => unfold c9_12; simp [gs, e0, e1, e2, e3, hi, hb, hm, hk, hr, w, w2, clrOut, d5, d5', a1, a1', a2, a2', k11, vField, he, w5, t4, t5, t6, t7, t2, gvo, vSliceS]); try dsimp only)
      (try (conv in (evC call _ c9_13 _ _) => unfold c9_13; simp [gs, e0, e1, e2, e3, hi, hb, hm, hk, hr, w, w2, clrOut, d5, d5', a1, a1', a2, a2', k11, vField, he, w5, t4, t5, t6, t7, t2, gvo, vSliceS]); try dsimp only)
      (try (conv in (evSteps call c9_14 _ _) => unfold c9_14; simp [gs, e0, e1, e2, e3, hi, hb, hm, hk, hr, w, w2, clrOut, d5, d5', a1, a1', a2, a2', k11, vField, he, w5, t4, t5, t6, t7, t2, gvo, vSliceS]); try dsimp only)
      (try (conv in (evC call _ c9_15 _ _) => unfold c9_15; simp [gs, e0, e1, e2, e3, hi, hb, hm, hk, hr, w, w2, clrOut, d5, d5', a1, a1', a2, a2', k11, vField, he, w5, t4, t5, t6, t7, t2, gvo, vSliceS]); try dsimp only)
      (try (conv in (evSteps call c9_16 _ _) => unfold c9_16; simp [gs, e0, e1, e2, e3, hi, hb, hm, hk, hr, w, w2, clrOut, d5, d5', a1, a1', a2, a2', k11, vField, he, w5, t4, t5, t6, t7, t2, gvo, vSliceS]); try dsimp only)
      (try (conv in (evSteps call c9_17 _ _) => unfold c9_17; simp [gs, e0, e1, e2, e3, hi, hb, hm, hk, hr, w, w2, clrOut, d5, d5', a1, a1', a2, a2', k11, vField, he, w5, t4, t5, t6, t7, t2, gvo, vSliceS]); try dsimp only)
      (try (conv in (evSteps call c9_18 _ _) => unfold c9_18; simp [gs, e0, e1, e2, e3, hi, hb, hm, hk, hr, w, w2, clrOut, d5, d5', a1, a1', a2, a2', k11, vField, he, w5, t4, t5, t6, t7, t2, gvo, vSliceS]); try dsimp only)
      (try (conv in (evSteps call c9_19 _ _) => unfold c9_19; simp [gs, e0, e1, e2, e3, hi, hb, hm, hk, hr, w, w2, clrOut, d5, d5', a1, a1', a2, a2', k11, vField, he, w5, t4, t5, t6, t7, t2, gvo, vSliceS]); try dsimp only)
      (try (conv in (evSteps call c9_20 _ _) => unfold c9_20; simp [gs, e0, e1, e2, e3, hi, hb, hm, hk, hr, w, w2, clrOut, d5, d5', a1, a1', a2, a2', k11, vField, he, w5, t4, t5, t6, t7, t2, gvo, vSliceS]); try dsimp only)
      (try (conv in (evSteps call c9_21 _ _) => unfold c9_21; simp [gs, e0, e1, e2, e3, hi, hb, hm, hk, hr, w, w2, clrOut, d5, d5', a1, a1', a2, a2', k11, vField, he, w5, t4, t5, t6, t7, t2, gvo, vSliceS]); try dsimp only)
      (try (conv in (evC call _ c9_22 _ _) => unfold c9_22; simp [gs, e0, e1, e2, e3, hi, hb, hm, hk, hr, w, w2, clrOut, d5, d5', a1, a1', a2, a2', k11, vField, he, w5, t4, t5, t6, t7, t2, gvo, vSliceS]); try dsimp only)
      (try (conv in (evC call _ c9_23 _ _) => unfold c9_23; simp [gs, e0, e1, e2, e3, hi, hb, hm, hk, hr, w, w2, clrOut, d5, d5', a1, a1', a2, a2', k11, vField, he, w5, t4, t5, t6, t7, t2, gvo, vSliceS]); try dsimp only)
      (try (conv in (evC call _ c9_24 _ _) => unfold c9_24; simp [gs, e0, e1, e2, e3, hi, hb, hm, hk, hr, w, w2, clrOut, d5, d5', a1, a1', a2, a2', k11, vField, he, w5, t4, t5, t6, t7, t2, gvo, vSliceS]); try dsimp only)
      (try (conv in (evSteps call c9_25 _ _) => unfold c9_25; simp [gs, e0, e1, e2, e3, hi, hb, hm, hk, hr, w, w2, clrOut, d5, d5', a1, a1', a2, a2', k11, vField, he, w5, t4, t5, t6, t7, t2, gvo, vSliceS]); try dsimp only)
      (try (conv in (evSteps call c9_26 _ _) => unfold c9_26; simp [gs, e0, e1, e2, e3, hi, hb, hm, hk, hr, w, w2, clrOut, d5, d5', a1, a1', a2, a2', k11, vField, he, w5, t4, t5, t6, t7, t2, gvo, vSliceS]); try dsimp only)
      (try (conv in (evSteps call c9_27 _ _) => unfold c9_27; simp [gs, e0, e1, e2, e3, hi, hb, hm, hk, hr, w, w2, clrOut, d5, d5', a1, a1', a2, a2', k11, vField, he, w5, t4, t5, t6, t7, t2, gvo, vSliceS]); try dsimp only)
      (try (conv in (evSteps call c9_28 _ _) => unfold c9_28; simp [gs, e0, e1, e2, e3, hi, hb, hm, hk, hr, w, w2, clrOut, d5, d5', a1, a1', a2, a2', k11, vField, he, w5, t4, t5, t6, t7, t2, gvo, vSliceS]); try dsimp only)
      (try (conv in (evSteps call c9_29 _ _) => unfold c9_29; simp [gs, e0, e1, e2, e3, hi, hb, hm, hk, hr, w, w2, clrOut, d5, d5', a1, a1', a2, a2', k11, vField, he, w5, t4, t5, t6, t7, t2, gvo, vSliceS]); try dsimp only)
      (try (conv in (evSteps call c9_30 _ _) => unfold c9_30; simp [gs, e0, e1, e2, e3, hi, hb, hm, hk, hr, w, w2, clrOut, d5, d5', a1, a1', a2, a2', k11, vField, he, w5, t4, t5, t6, t7, t2, gvo, vSliceS]); try dsimp only)
      (try (conv in (evSteps call c9_31 _ _) => unfold c9_31; simp [gs, e0, e1, e2, e3, hi, hb, hm, hk, hr, w, w2, clrOut, d5, d5', a1, a1', a2, a2', k11, vField, he, w5, t4, t5, t6, t7, t2, gvo, vSliceS]); try dsimp only)
      (try (conv in (evSteps call c9_32 _ _) => unfold c9_32; simp [gs, e0, e1, e2, e3, hi, hb, hm, hk, hr, w, w2, clrOut, d5, d5', a1, a1', a2, a2', k11, vField, he, w5, t4, t5, t6, t7, t2, gvo, vSliceS]); try dsimp only)
      (try (conv in (evSteps call c9_33 _ _) => unfold c9_33; simp [gs, e0, e1, e2, e3, hi, hb, hm, hk, hr, w, w2, clrOut, d5, d5', a1, a1', a2, a2', k11, vField, he, w5, t4, t5, t6, t7, t2, gvo, vSliceS]); try dsimp only)
      (try (conv in (evSteps call c9_34 _ _) => unfold c9_34; simp [gs, e0, e1, e2, e3, hi, hb, hm, hk, hr, w, w2, clrOut, d5, d5', a1, a1', a2, a2', k11, vField, he, w5, t4, t5, t6, t7, t2, gvo, vSliceS]); try dsimp only)
      (try (conv in (evSteps call c9_35 _ _) => unfold c9_35; simp [gs, e0, e1, e2, e3, hi, hb, hm, hk, hr, w, w2, clrOut, d5, d5', a1, a1', a2, a2', k11, vField, he, w5, t4, t5, t6, t7, t2, gvo, vSliceS]); try dsimp only)
      (try (conv in (evSteps call c9_36 _ _) => unfold c9_36; simp [gs, e0, e1, e2, e3, hi, hb, hm, hk, hr, w, w2, clrOut, d5, d5', a1, a1', a2, a2', k11, vField, he, w5, t4, t5, t6, t7, t2, gvo, vSliceS]); try dsimp only)
      (try (conv in (evSteps call c9_37 _ _) => unfold c9_37; simp [gs, e0, e1, e2, e3, hi, hb, hm, hk, hr, w, w2, clrOut, d5, d5', a1, a1', a2, a2', k11, vField, he, w5, t4, t5, t6, t7, t2, gvo, vSliceS]); try dsimp only)
      (try (conv in (evSteps call c9_38 _ _) => unfold c9_38; simp [gs, e0, e1, e2, e3, hi, hb, hm, hk, hr, w, w2, clrOut, d5, d5', a1, a1', a2, a2', k11, vField, he, w5, t4, t5, t6, t7, t2, gvo, vSliceS]); try dsimp only)
      (try (conv in (evSteps call c9_39 _ _) => unfold c9_39; simp [gs, e0, e1, e2, e3, hi, hb, hm, hk, hr, w, w2, clrOut, d5, d5', a1, a1', a2, a2', k11, vField, he, w5, t4, t5, t6, t7, t2, gvo, vSliceS]); try dsimp only)
      (try (conv in (evSteps call c9_40 _ _) => unfold c9_40; simp [gs, e0, e1, e2, e3, hi, hb, hm, hk, hr, w, w2, clrOut, d5, d5', a1, a1', a2, a2', k11, vField, he, w5, t4, t5, t6, t7, t2, gvo, vSliceS]); try dsimp only)
      (try (conv in (evSteps call c9_41 _ _) => unfold c9_41; simp [gs, e0, e1, e2, e3, hi, hb, hm, hk, hr, w, w2, clrOut, d5, d5', a1, a1', a2, a2', k11, vField, he, w5, t4, t5, t6, t7, t2, gvo, vSliceS]); try dsimp only)
      (try (conv in (evSteps call c9_42 _ _) => unfold c9_42; simp [gs, e0, e1, e2, e3, hi, hb, hm, hk, hr, w, w2, clrOut, d5, d5', a1, a1', a2, a2', k11, vField, he, w5, t4, t5, t6, t7, t2, gvo, vSliceS]); try dsimp only)
      (try (conv in (evSteps call c9_43 _ _) => unfold c9_43; simp [gs, e0, e1, e2, e3, hi, hb, hm, hk, hr, w, w2, clrOut, d5, d5', a1, a1', a2, a2', k11, vField, he, w5, t4, t5, t6, t7, t2, gvo, vSliceS]); try dsimp only)
      (try (conv in (evSteps call c9_44 _ _) => unfold c9_44; simp [gs, e0, e1, e2, e3, hi, hb, hm, hk, hr, w, w2, clrOut, d5, d5', a1, a1', a2, a2', k11, vField, he, w5, t4, t5, t6, t7, t2, gvo, vSliceS]); try dsimp only)
      (try (conv in (evSteps call c9_45 _ _) => unfold c9_45; simp [gs, e0, e1, e2, e3, hi, hb, hm, hk, hr, w, w2, clrOut, d5, d5', a1, a1', a2, a2', k11, vField, he, w5, t4, t5, t6, t7, t2, gvo, vSliceS]); try dsimp only)
      (try (conv in (evC call _ c9_46 _ _) => unfold c9_46; simp [gs, e0, e1, e2, e3, hi, hb, hm, hk, hr, w, w2, clrOut, d5, d5', a1, a1', a2, a2', k11, vField, he, w5, t4, t5, t6, t7, t2, gvo, vSliceS]); try dsimp only)
      (try (conv in (evC call _ c9_47 _ _) => unfold c9_47; simp [gs, e0, e1, e2, e3, hi, hb, hm, hk, hr, w, w2, clrOut, d5, d5', a1, a1', a2, a2', k11, vField, he, w5, t4, t5, t6, t7, t2, gvo, vSliceS]); try dsimp only)
      (try (conv in (evC call _ c9_48 _ _) => unfold c9_48; simp [gs, e0, e1, e2, e3, hi, hb, hm, hk, hr, w, w2, clrOut, d5, d5', a1, a1', a2, a2', k11, vField, he, w5, t4, t5, t6, t7, t2, gvo, vSliceS]); try dsimp only)
      (try (conv in (evSteps call c9_49 _ _) => unfold c9_49; simp [gs, e0, e1, e2, e3, hi, hb, hm, hk, hr, w, w2, clrOut, d5, d5', a1, a1', a2, a2', k11, vField, he, w5, t4, t5, t6, t7, t2, gvo, vSliceS]); try dsimp only)
      (try (conv in (evSteps call c9_50 _ _) => unfold c9_50; simp [gs, e0, e1, e2, e3, hi, hb, hm, hk, hr, w, w2, clrOut, d5, d5', a1, a1', a2, a2', k11, vField, he, w5, t4, t5, t6, t7, t2, gvo, vSliceS]); try dsimp only)
      (try (conv in (evSteps call c9_51 _ _) => unfold c9_51; simp [gs, e0, e1, e2, e3, hi, hb, hm, hk, hr, w, w2, clrOut, d5, d5', a1, a1', a2, a2', k11, vField, he, w5, t4, t5, t6, t7, t2, gvo, vSliceS]); try dsimp only)
      (try (conv in (evSteps call c9_52 _ _) => unfold c9_52; simp [gs, e0, e1, e2, e3, hi, hb, hm, hk, hr, w, w2, clrOut, d5, d5', a1, a1', a2, a2', k11, vField, he, w5, t4, t5, t6, t7, t2, gvo, vSliceS]); try dsimp only)
      (try (conv in (evSteps call c9_53 _ _) => unfold c9_53; simp [gs, e0, e1, e2, e3, hi, hb, hm, hk, hr, w, w2, clrOut, d5, d5', a1, a1', a2, a2', k11, vField, he, w5, t4, t5, t6, t7, t2, gvo, vSliceS]); try dsimp only)
      (try (conv in (evSteps call c9_54 _ _) => unfold c9_54; simp [gs, e0, e1, e2, e3, hi, hb, hm, hk, hr, w, w2, clrOut, d5, d5', a1, a1', a2, a2', k11, vField, he, w5, t4, t5, t6, t7, t2, gvo, vSliceS]); try dsimp only)
      (try (conv in (evSteps call c9_55 _ _) => unfold c9_55; simp [gs, e0, e1, e2, e3, hi, hb, hm, hk, hr, w, w2, clrOut, d5, d5', a1, a1', a2, a2', k11, vField, he, w5, t4, t5, t6, t7, t2, gvo, vSliceS]); try dsimp only)
      (try (conv in (evSteps call c9_56 _ _) => unfold c9_56; simp [gs, e0, e1, e2, e3, hi, hb, hm, hk, hr, w, w2, clrOut, d5, d5', a1, a1', a2, a2', k11, vField, he, w5, t4, t5, t6, t7, t2, gvo, vSliceS]); try dsimp only)
      (try (conv in (evSteps call c9_57 _ _) => unfold c9_57; simp [gs, e0, e1, e2, e3, hi, hb, hm, hk, hr, w, w2, clrOut, d5, d5', a1, a1', a2, a2', k11, vField, he, w5, t4, t5, t6, t7, t2, gvo, vSliceS]); try dsimp only)
      (try (conv in (evSteps call c9_58 _ _) => unfold c9_58; simp [gs, e0, e1, e2, e3, hi, hb, hm, hk, hr, w, w2, clrOut, d5, d5', a1, a1', a2, a2', k11, vField, he, w5, t4, t5, t6, t7, t2, gvo, vSliceS]); try dsimp only)
      (try (conv in (evSteps call c9_59 _ _) => unfold c9_59; simp [gs, e0, e1, e2, e3, hi, hb, hm, hk, hr, w, w2, clrOut, d5, d5', a1, a1', a2, a2', k11, vField, he, w5, t4, t5, t6, t7, t2, gvo, vSliceS]); try dsimp only)
      (try (conv in (evC call _ c9_60 _ _) => unfold c9_60; simp [gs, e0, e1, e2, e3, hi, hb, hm, hk, hr, w, w2, clrOut, d5, d5', a1, a1', a2, a2', k11, vField, he, w5, t4, t5, t6, t7, t2, gvo, vSliceS]); try dsimp only)
      (try (conv in (evC call _ c9_61 _ _) => unfold c9_61; simp [gs, e0, e1, e2, e3, hi, hb, hm, hk, hr, w, w2, clrOut, d5, d5', a1, a1', a2, a2', k11, vField, he, w5, t4, t5, t6, t7, t2, gvo, vSliceS]); try dsimp only)
      (try (conv in (evC call _ c9_62 _ _) => unfold c9_62; simp [gs, e0, e1, e2, e3, hi, hb, hm, hk, hr, w, w2, clrOut, d5, d5', a1, a1', a2, a2', k11, vField, he, w5, t4, t5, t6, t7, t2, gvo, vSliceS]); try dsimp only)
      (try (conv in (evC call _ c9_63 _ _) => unfold c9_63; simp [gs, e0, e1, e2, e3, hi, hb, hm, hk, hr, w, w2, clrOut, d5, d5', a1, a1', a2, a2', k11, vField, he, w5, t4, t5, t6, t7, t2, gvo, vSliceS]); try dsimp only)
      all_goals first | rfl | exact ⟨rfl, rfl⟩
    all_goals simp [gs, e0, e1, e2, e3]
  · have he0 : ¬ i + 1 = N := fun e => by have := hend.2 e; simp at this
    have he : ¬ (i : Int) = (N : Int) - 1 := by omega
    obtain ⟨t1, t2⟩ := htext (by simp)
    obtain ⟨E, hE⟩ : ∃ E, E = A + x.length := ⟨_, rfl⟩
    have w5 : wrapF .i64 ((A : Int) + (x.length : Int)) = (E : Int) := by rw [wrap64 (by omega) (by omega)]; omega
    have t3 : E - A = x.length := by omega
    have t4 : E ≤ s.length := by omega
    have t5 : A ≤ E := by omega
    have t6 : ¬ (s.length : Int) < (E : Int) := by omega
    have t7 : ¬ s.length < E := by omega
    rw [← t3] at t2
    refine ⟨?fr4, ?g4, ?e4, ?_, ?_, ?_, ?_⟩
    case e4 =>
      (try (conv in (evC call _ c9_10 _ _) => unfold c9_10; simp [gs, e0, e1, e2, e3, hi, hb, hm, hk, hr, w, w2, clrOut, d5, d5', a1, a1', a2, a2', k11, vField, he, w5, t4, t5, t6, t7, t2, gvo, vSliceS]); try dsimp only)
      (try (conv in (evC call _ c9_11 _ _) => unfold c9_11; simp [gs, e0, e1, e2, e3, hi, hb, hm, hk, hr, w, w2, clrOut, d5, d5', a1, a1', a2, a2', k11, vField, he, w5, t4, t5, t6, t7, t2, gvo, vSliceS]); try dsimp only)
      (try (conv in (evC call _ c9_12 _ _) => unfold c9_12; simp [gs, e0, e1, e2, e3, hi, hb, hm, hk, hr, w, w2, clrOut, d5, d5', a1, a1', a2, a2', k11, vField, he, w5, t4, t5, t6, t7, t2, gvo, vSliceS]); try dsimp only)
      (try (conv in (evC call _ c9_13 _ _) => unfold c9_13; simp [gs, e0, e1, e2, e3, hi, hb, hm, hk, hr, w, w2, clrOut, d5, d5', a1, a1', a2, a2', k11, vField, he, w5, t4, t5, t6, t7, t2, gvo, vSliceS]); try dsimp only)
      (try (conv in (evSteps call c9_14 _ _) => unfold c9_14; simp [gs, e0, e1, e2, e3, hi, hb, hm, hk, hr, w, w2, clrOut, d5, d5', a1, a1', a2, a2', k11, vField, he, w5, t4, t5, t6, t7, t2, gvo, vSliceS]); try dsimp only)
      (try (conv in (evC call _ c9_15 _ _) => unfold c9_15; simp [gs, e0, e1, e2, e3, hi, hb, hm, hk, hr, w, w2, clrOut, d5, d5', a1, a1', a2, a2', k11, vField, he, w5, t4, t5, t6, t7, t2, gvo, vSliceS]); try dsimp only)
      (try (conv in (evSteps call c9_16 _ _) => unfold c9_16; simp [gs, e0, e1, e2, e3, hi, hb, hm, hk, hr, w, w2, clrOut, d5, d5', a1, a1', a2, a2', k11, vField, he, w5, t4, t5, t6, t7, t2, gvo, vSliceS]); try dsimp only)
      (try (conv in (evSteps call c9_17 _ _) => unfold c9_17; simp [gs, e0, e1, e2, e3, hi, hb, hm, hk, hr, w, w2, clrOut, d5, d5', a1, a1', a2, a2', k11, vField, he, w5, t4, t5, t6, t7, t2, gvo, vSliceS]); try dsimp only)
      (try (conv in (evSteps call c9_18 _ _) => unfold c9_18; simp [gs, e0, e1, e2, e3, hi, hb, hm, hk, hr, w, w2, clrOut, d5, d5', a1, a1', a2, a2', k11, vField, he, w5, t4, t5, t6, t7, t2, gvo, vSliceS]); try dsimp only)
      (try (conv in (evSteps call c9_19 _ _) => unfold c9_19; simp [gs, e0, e1, e2, e3, hi, hb, hm, hk, hr, w, w2, clrOut, d5, d5', a1, a1', a2, a2', k11, vField, he, w5, t4, t5, t6, t7, t2, gvo, vSliceS]); try dsimp only)
      (try (conv in (evSteps call c9_20 _ _) => unfold c9_20; simp [gs, e0, e1, e2, e3, hi, hb, hm, hk, hr, w, w2, clrOut, d5, d5', a1, a1', a2, a2', k11, vField, he, w5, t4, t5, t6, t7, t2, gvo, vSliceS]); try dsimp only)
      (try (conv in (evSteps call c9_21 _ _) => unfold c9_21; simp [gs, e0, e1, e2, e3, hi, hb, hm, hk, hr, w, w2, clrOut, d5, d5', a1, a1', a2, a2', k11, vField, he, w5, t4, t5, t6, t7, t2, gvo, vSliceS]); try dsimp only)
      (try (conv in (evC call _ c9_22 _ _) => unfold c9_22; simp [gs, e0, e1, e2, e3, hi, hb, hm, hk, hr, w, w2, clrOut, d5, d5', a1, a1', a2, a2', k11, vField, he, w5, t4, t5, t6, t7, t2, gvo, vSliceS]); try dsimp only)
      (try (conv in (evC call _ c9_23 _ _) => unfold c9_23; simp [gs, e0, e1, e2, e3, hi, hb, hm, hk, hr, w, w2, clrOut, d5, d5', a1, a1', a2, a2', k11, vField, he, w5, t4, t5, t6, t7, t2, gvo, vSliceS]); try dsimp only)
      (try (conv in (evC call _ c9_24 _ _) => unfold c9_24; simp [gs, e0, e1, e2, e3, hi, hb, hm, hk, hr, w, w2, clrOut, d5, d5', a1, a1', a2, a2', k11, vField, he, w5, t4, t5, t6, t7, t2, gvo, vSliceS]); try dsimp only)
      (try (conv in (evSteps call c9_25 _ _) => unfold c9_25; simp [gs, e0, e1, e2, e3, hi, hb, hm, hk, hr, w, w2, clrOut, d5, d5', a1, a1', a2, a2', k11, vField, he, w5, t4, t5, t6, t7, t2, gvo, vSliceS]); try dsimp only)
      (try (conv in (evSteps call c9_26 _ _) => unfold c9_26; simp [gs, e0, e1, e2, e3, hi, hb, hm, hk, hr, w, w2, clrOut, d5, d5', a1, a1', a2, a2', k11, vField, he, w5, t4, t5, t6, t7, t2, gvo, vSliceS]); try dsimp only)
      (try (conv in (evSteps call c9_27 _ _) => unfold c9_27; simp [gs, e0, e1, e2, e3, hi, hb, hm, hk, hr, w, w2, clrOut, d5, d5', a1, a1', a2, a2', k11, vField, he, w5, t4, t5, t6, t7, t2, gvo, vSliceS]); try dsimp only)
      (try (conv in (evSteps call c9_28 _ _) => unfold c9_28; simp [gs, e0, e1, e2, e3, hi, hb, hm, hk, hr, w, w2, clrOut, d5, d5', a1, a1', a2, a2', k11, vField, he, w5, t4, t5, t6, t7, t2, gvo, vSliceS]); try dsimp only)
      (try (conv in (evSteps call c9_29 _ _) => unfold c9_29; simp [gs, e0, e1, e2, e3, hi, hb, hm, hk, hr, w, w2, clrOut, d5, d5', a1, a1', a2, a2', k11, vField, he, w5, t4, t5, t6, t7, t2, gvo, vSliceS]); try dsimp only)
      (try (conv in (evSteps call c9_30 _ _) => unfold c9_30; simp [gs, e0, e1, e2, e3, hi, hb, hm, hk, hr, w, w2, clrOut, d5, d5', a1, a1', a2, a2', k11, vField, he, w5, t4, t5, t6, t7, t2, gvo, vSliceS]); try dsimp only)
      (try (conv in (evSteps call c9_31 _ _) => unfold c9_31; simp [gs, e0, e1, e2, e3, hi, hb, hm, hk, hr, w, w2, clrOut, d5, d5', a1, a1', a2, a2', k11, vField, he, w5, t4, t5, t6, t7, t2, gvo, vSliceS]); try dsimp only)
      (try (conv in (evSteps call c9_32 _ _) => unfold c9_32; simp [gs, e0, e1, e2, e3, hi, hb, hm, hk, hr, w, w2, clrOut, d5, d5', a1, a1', a2, a2', k11, vField, he, w5, t4, t5, t6, t7, t2, gvo, vSliceS]); try dsimp only)
      (try (conv in (evSteps call c9_33 _ _) => unfold c9_33; simp [gs, e0, e1, e2, e3, hi, hb, hm, hk, hr, w, w2, clrOut, d5, d5', a1, a1', a2, a2', k11, vField, he, w5, t4, t5, t6, t7, t2, gvo, vSliceS]); try dsimp only)
      (try (conv in (evSteps call c9_34 _ _) => unfold c9_34; simp [gs, e0, e1, e2, e3, hi, hb, hm, hk, hr, w, w2, clrOut, d5, d5', a1, a1', a2, a2', k11, vField, he, w5, t4, t5, t6, t7, t2, gvo, vSliceS]); try dsimp only)
      (try (conv in (evSteps call c9_35 _ _) => unfold c9_35; simp [gs, e0, e1, e2, e3, hi, hb, hm, hk, hr, w, w2, clrOut, d5, d5', a1, a1', a2, a2', k11, vField, he, w5, t4, t5, t6, t7, t2, gvo, vSliceS]); try dsimp only)
      (try (conv in (evSteps call c9_36 _ _) => unfold c9_36; simp [gs, e0, e1, e2, e3, hi, hb, hm, hk, hr, w, w2, clrOut, d5, d5', a1, a1', a2, a2', k11, vField, he, w5, t4, t5, t6, t7, t2, gvo, vSliceS]); try dsimp only)
      (try (conv in (evSteps call c9_37 _ _) => unfold c9_37; simp [gs, e0, e1, e2, e3, hi, hb, hm, hk, hr, w, w2, clrOut, d5, d5', a1, a1', a2, a2', k11, vField, he, w5, t4, t5, t6, t7, t2, gvo, vSliceS]); try dsimp only)
      (try (conv in (evSteps call c9_38 _ _) => unfold c9_38; simp [gs, e0, e1, e2, e3, hi, hb, hm, hk, hr, w, w2, clrOut, d5, d5', a1, a1', a2, a2', k11, vField, he, w5, t4, t5, t6, t7, t2, gvo, vSliceS]); try dsimp only)
      (try (conv in (evSteps call c9_39 _ _) => unfold c9_39; simp [gs, e0, e1, e2, e3, hi, hb, hm, hk, hr, w, w2, clrOut, d5, d5', a1, a1', a2, a2', k11, vField, he, w5, t4, t5, t6, t7, t2, gvo, vSliceS]); try dsimp only)
      (try (conv in (evSteps call c9_40 _ _) => unfold c9_40; simp [gs, e0, e1, e2, e3, hi, hb, hm, hk, hr, w, w2, clrOut, d5, d5', a1, a1', a2, a2', k11, vField, he, w5, t4, t5, t6, t7, t2, gvo, vSliceS]); try dsimp only)
      (try (conv in (evSteps call c9_41 _ _) => unfold c9_41; simp [gs, e0, e1, e2, e3, hi, hb, hm, hk, hr, w, w2, clrOut, d5, d5', a1, a1', a2, a2', k11, vField, he, w5, t4, t5, t6, t7, t2, gvo, vSliceS]); try dsimp only)
      (try (conv in (evSteps call c9_42 _ _) => unfold c9_42; simp [gs, e0, e1, e2, e3, hi, hb, hm, hk, hr, w, w2, clrOut, d5, d5', a1, a1', a2, a2', k11, vField, he, w5, t4, t5, t6, t7, t2, gvo, vSliceS]); try dsimp only)
      (try (conv in (evSteps call c9_43 _ _) => unfold c9_43; simp [gs, e0, e1, e2, e3, hi, hb, hm, hk, hr, w, w2, clrOut, d5, d5', a1, a1', a2, a2', k11, vField, he, w5, t4, t5, t6, t7, t2, gvo, vSliceS]); try dsimp only)
      (try (conv in (evSteps call c9_44 _ _) => unfold c9_44; simp [gs, e0, e1, e2, e3, hi, hb, hm, hk, hr, w, w2, clrOut, d5, d5', a1, a1', a2, a2', k11, vField, he, w5, t4, t5, t6, t7, t2, gvo, vSliceS]); try dsimp only)
      (try (conv in (evSteps call c9_45 _ _) => unfold c9_45; simp [gs, e0, e1, e2, e3, hi, hb, hm, hk, hr, w, w2, clrOut, d5, d5', a1, a1', a2, a2', k11, vField, he, w5, t4, t5, t6, t7, t2, gvo, vSliceS]); try dsimp only)
      (try (conv in (evC call _ c9_46 _ _) => unfold c9_46; simp [gs, e0, e1, e2, e3, hi, hb, hm, hk, hr, w, w2, clrOut, d5, d5', a1, a1', a2, a2', k11, vField, he, w5, t4, t5, t6, t7, t2, gvo, vSliceS]); try dsimp only)
      (try (conv in (evC call _ c9_47 _ _) => unfold c9_47; simp [gs, e0, e1, e2, e3, hi, hb, hm, hk, hr, w, w2, clrOut, d5, d5', a1, a1', a2, a2', k11, vField, he, w5, t4, t5, t6, t7, t2, gvo, vSliceS]); try dsimp only)
      (try (conv in (evC call _ c9_48 _ _) => unfold c9_48; simp [gs, e0, e1, e2, e3, hi, hb, hm, hk, hr, w, w2, clrOut, d5, d5', a1, a1', a2, a2', k11, vField, he, w5, t4, t5, t6, t7, t2, gvo, vSliceS]); try dsimp only)
      (try (conv in (evSteps call c9_49 _ _) => unfold c9_49; simp [gs, e0, e1, e2, e3, hi, hb, hm, hk, hr, w, w2, clrOut, d5, d5', a1, a1', a2, a2', k11, vField, he, w5, t4, t5, t6, t7, t2, gvo, vSliceS]); try dsimp only)
      (try (conv in (evSteps call c9_50 _ _) => unfold c9_50; simp [gs, e0, e1, e2, e3, hi, hb, hm, hk, hr, w, w2, clrOut, d5, d5', a1, a1', a2, a2', k11, vField, he, w5, t4, t5, t6, t7, t2, gvo, vSliceS]); try dsimp only)
      (try (conv in (evSteps call c9_51 _ _) => unfold c9_51; simp [gs, e0, e1, e2, e3, hi, hb, hm, hk, hr, w, w2, clrOut, d5, d5', a1, a1', a2, a2', k11, vField, he, w5, t4, t5, t6, t7, t2, gvo, vSliceS]); try dsimp only)
      (try (conv in (evSteps call c9_52 _ _) => unfold c9_52; simp [gs, e0, e1, e2, e3, hi, hb, hm, hk, hr, w, w2, clrOut, d5, d5', a1, a1', a2, a2', k11, vField, he, w5, t4, t5, t6, t7, t2, gvo, vSliceS]); try dsimp only)
      (try (conv in (evSteps call c9_53 _ _) => unfold c9_53; simp [gs, e0, e1, e2, e3, hi, hb, hm, hk, hr, w, w2, clrOut, d5, d5', a1, a1', a2, a2', k11, vField, he, w5, t4, t5, t6, t7, t2, gvo, vSliceS]); try dsimp only)
      (try (conv in (evSteps call c9_54 _ _) => unfold c9_54; simp [gs, e0, e1, e2, e3, hi, hb, hm, hk, hr, w, w2, clrOut, d5, d5', a1, a1', a2, a2', k11, vField, he, w5, t4, t5, t6, t7, t2, gvo, vSliceS]); try dsimp only)
      (try (conv in (evSteps call c9_55 _ _) => unfold c9_55; simp [gs, e0, e1, e2, e3, hi, hb, hm, hk, hr, w, w2, clrOut, d5, d5', a1, a1', a2, a2', k11, vField, he, w5, t4, t5, t6, t7, t2, gvo, vSliceS]); try dsimp only)
      (try (conv in (evSteps call c9_56 _ _) => unfold c9_56; simp [gs, e0, e1, e2, e3, hi, hb, hm, hk, hr, w, w2, clrOut, d5, d5', a1, a1', a2, a2', k11, vField, he, w5, t4, t5, t6, t7, t2, gvo, vSliceS]); try dsimp only)
      (try (conv in (evSteps call c9_57 _ _) => unfold c9_57; simp [gs, e0, e1, e2, e3, hi, hb, hm, hk, hr, w, w2, clrOut, d5, d5', a1, a1', a2, a2', k11, vField, he, w5, t4, t5, t6, t7, t2, gvo, vSliceS]); try dsimp only)
      (try (conv in (evSteps call c9_58 _ _) => unfold c9_58; simp [gs, e0, e1, e2, e3, hi, hb, hm, hk, hr, w, w2, clrOut, d5, d5', a1, a1', a2, a2', k11, vField, he, w5, t4, t5, t6, t7, t2, gvo, vSliceS]); try dsimp only)
      (try (conv in (evSteps call c9_59 _ _) => unfold c9_59; simp [gs, e0, e1, e2, e3, hi, hb, hm, hk, hr, w, w2, clrOut, d5, d5', a1, a1', a2, a2', k11, vField, he, w5, t4, t5, t6, t7, t2, gvo, vSliceS]); try dsimp only)
      (try (conv in (evC call _ c9_60 _ _) => unfold c9_60; simp [gs, e0, e1, e2, e3, hi, hb, hm, hk, hr, w, w2, clrOut, d5, d5', a1, a1', a2, a2', k11, vField, he, w5, t4, t5, t6, t7, t2, gvo, vSliceS]); try dsimp only)
      (try (conv in (evC call _ c9_61 _ _) => unfold c9_61; simp [gs, e0, e1, e2, e3, hi, hb, hm, hk, hr, w, w2, clrOut, d5, d5', a1, a1', a2, a2', k11, vField, he, w5, t4, t5, t6, t7, t2, gvo, vSliceS]); try dsimp only)
      (try (conv in (evC call _ c9_62 _ _) => unfold c9_62; simp [gs, e0, e1, e2, e3, hi, hb, hm, hk, hr, w, w2, clrOut, d5, d5', a1, a1', a2, a2', k11, vField, he, w5, t4, t5, t6, t7, t2, gvo, vSliceS]); try dsimp only)
      (try (conv in (evC call _ c9_63 _ _) => unfold c9_63; simp [gs, e0, e1, e2, e3, hi, hb, hm, hk, hr, w, w2, clrOut, d5, d5', a1, a1', a2, a2', k11, vField, he, w5, t4, t5, t6, t7, t2, gvo, vSliceS]); try dsimp only)
      all_goals first | rfl | exact ⟨rfl, rfl⟩
    all_goals simp [gs, e0, e1, e2, e3]
  · have he0 : ¬ i + 1 = N := fun e => by have := hend.2 e; simp at this
    have he : ¬ (i : Int) = (N : Int) - 1 := by omega
    obtain ⟨t1, t2⟩ := htext (by simp)
    obtain ⟨E, hE⟩ : ∃ E, E = A + x.length := ⟨_, rfl⟩
    have w5 : wrapF .i64 ((A : Int) + (x.length : Int)) = (E : Int) := by rw [wrap64 (by omega) (by omega)]; omega
    have t3 : E - A = x.length := by omega
    have t4 : E ≤ s.length := by omega
    have t5 : A ≤ E := by omega
    have t6 : ¬ (s.length : Int) < (E : Int) := by omega
    have t7 : ¬ s.length < E := by omega
    rw [← t3] at t2
    refine ⟨?fr5, ?g5, ?e5, ?_, ?_, ?_, ?_⟩
    case e5 =>
      (try (conv in (evC call _ c9_10 _ _) => unfold c9_10; simp [gs, e0, e1, e2, e3, hi, hb, hm, hk, hr, w, w2, clrOut, d5, d5', a1, a1', a2, a2', k11, vField, he, w5, t4, t5, t6, t7, t2, gvo, vSliceS]); try dsimp only)
      (try (conv in (evC call _ c9_11 _ _) => unfold c9_11; simp [gs, e0, e1, e2, e3, hi, hb, hm, hk, hr, w, w2, clrOut, d5, d5', a1, a1', a2, a2', k11, vField, he, w5, t4, t5, t6, t7, t2, gvo, vSliceS]); try dsimp only)
      (try (conv in (evC call _ c9_12 _ _) => unfold c9_12; simp [gs, e0, e1, e2, e3, hi, hb, hm, hk, hr, w, w2, clrOut, d5, d5', a1, a1', a2, a2', k11, vField, he, w5, t4, t5, t6, t7, t2, gvo, vSliceS]); try dsimp only)
      (try (conv in (evC call _ c9_13 _ _) => unfold c9_13; simp [gs, e0, e1, e2, e3, hi, hb, hm, hk, hr, w, w2, clrOut, d5, d5', a1, a1', a2, a2', k11, vField, he, w5, t4, t5, t6, t7, t2, gvo, vSliceS]); try dsimp only)
      (try (conv in (evSteps call c9_14 _ _) => unfold c9_14; simp [gs, e0, e1, e2, e3, hi, hb, hm, hk, hr, w, w2, clrOut, d5, d5', a1, a1', a2, a2', k11, vField, he, w5, t4, t5, t6, t7, t2, gvo, vSliceS]); try dsimp only)
      (try (conv in (evC call _ c9_15 _ _) => unfold c9_15; simp [gs, e0, e1, e2, e3, hi, hb, hm, hk, hr, w, w2, clrOut, d5, d5', a1, a1', a2, a2', k11, vField, he, w5, t4, t5, t6, t7, t2, gvo, vSliceS]); try dsimp only)
      (try (conv in (evSteps call c9_16 _ _) => unfold c9_16; simp [gs, e0, e1, e2, e3, hi, hb, hm, hk, hr, w, w2, clrOut, d5, d5', a1, a1', a2, a2', k11, vField, he, w5, t4, t5, t6, t7, t2, gvo, vSliceS]); try dsimp only)
      (try (conv in (evSteps call c9_17 _ _) => unfold c9_17; simp [gs, e0, e1, e2, e3, hi, hb, hm, hk, hr, w, w2, clrOut, d5, d5', a1, a1', a2, a2', k11, vField, he, w5, t4, t5, t6, t7, t2, gvo, vSliceS]); try dsimp only)
      (try (conv in (evSteps call c9_18 _ _) => unfold c9_18; simp [gs, e0, e1, e2, e3, hi, hb, hm, hk, hr, w, w2, clrOut, d5, d5', a1, a1', a2, a2', k11, vField, he, w5, t4, t5, t6, t7, t2, gvo, vSliceS]); try dsimp only)
      (try (conv in (evSteps call c9_19 _ _) => unfold c9_19; simp [gs, e0, e1, e2, e3, hi, hb, hm, hk, hr, w, w2, clrOut, d5, d5', a1, a1', a2, a2', k11, vField, he, w5, t4, t5, t6, t7, t2, gvo, vSliceS]); try dsimp only)
      (try (conv in (evSteps call c9_20 _ _) => unfold c9_20; simp [gs, e0, e1, e2, e3, hi, hb, hm, hk, hr, w, w2, clrOut, d5, d5', a1, a1', a2, a2', k11, vField, he, w5, t4, t5, t6, t7, t2, gvo, vSliceS]); try dsimp only)
      (try (conv in (evSteps call c9_21 _ _) => unfold c9_21; simp [gs, e0, e1, e2, e3, hi, hb, hm, hk, hr, w, w2, clrOut, d5, d5', a1, a1', a2, a2', k11, vField, he, w5, t4, t5, t6, t7, t2, gvo, vSliceS]); try dsimp only)
      (try (conv in (evC call _ c9_22 _ _) => unfold c9_22; simp [gs, e0, e1, e2, e3, hi, hb, hm, hk, hr, w, w2, clrOut, d5, d5', a1, a1', a2, a2', k11, vField, he, w5, t4, t5, t6, t7, t2, gvo, vSliceS]); try dsimp only)
      (try (conv in (evC call _ c9_23 _ _) => unfold c9_23; simp [gs, e0, e1, e2, e3, hi, hb, hm, hk, hr, w, w2, clrOut, d5, d5', a1, a1', a2, a2', k11, vField, he, w5, t4, t5, t6, t7, t2, gvo, vSliceS]); try dsimp only)
      (try (conv in (evC call _ c9_24 _ _) => unfold c9_24; simp [gs, e0, e1, e2, e3, hi, hb, hm, hk, hr, w, w2, clrOut, d5, d5', a1, a1', a2, a2', k11, vField, he, w5, t4, t5, t6, t7, t2, gvo, vSliceS]); try dsimp only)
      (try (conv in (evSteps call c9_25 _ _) => unfold c9_25; simp [gs, e0, e1, e2, e3, hi, hb, hm, hk, hr, w, w2, clrOut, d5, d5', a1, a1', a2, a2', k11, vField, he, w5, t4, t5, t6, t7, t2, gvo, vSliceS]); try dsimp only)
      (try (conv in (evSteps call c9_26 _ _) => unfold c9_26; simp [gs, e0, e1, e2, e3, hi, hb, hm, hk, hr, w, w2, clrOut, d5, d5', a1, a1', a2, a2', k11, vField, he, w5, t4, t5, t6, t7, t2, gvo, vSliceS]); try dsimp only)
      (try (conv in (evSteps call c9_27 _ _) => unfold c9_27; simp [gs, e0, e1, e2, e3, hi, hb, hm, hk, hr, w, w2, clrOut, d5, d5', a1, a1', a2, a2', k11, vField, he, w5, t4, t5, t6, t7, t2, gvo, vSliceS]); try dsimp only)
      (try (conv in (evSteps call c9_28 _ _) => unfold c9_28; simp [gs, e0, e1, e2, e3, hi, hb, hm, hk, hr, w, w2, clrOut, d5, d5', a1, a1', a2, a2', k11, vField, he, w5, t4, t5, t6, t7, t2, gvo, vSliceS]); try dsimp only)
      (try (conv in (evSteps call c9_29 _ _) => unfold c9_29; simp [gs, e0, e1, e2, e3, hi, hb, hm, hk, hr, w, w2, clrOut, d5, d5', a1, a1', a2, a2', k11, vField, he, w5, t4, t5, t6, t7, t2, gvo, vSliceS]); try dsimp only)
      (try (conv in (evSteps call c9_30 _ _) => unfold c9_30; simp [gs, e0, e1, e2, e3, hi, hb, hm, hk, hr, w, w2, clrOut, d5, d5', a1, a1', a2, a2', k11, vField, he, w5, t4, t5, t6, t7, t2, gvo, vSliceS]); try dsimp only)
      (try (conv in (evSteps call c9_31 _ _) => unfold c9_31; simp [gs, e0, e1, e2, e3, hi, hb, hm, hk, hr, w, w2, clrOut, d5, d5', a1, a1', a2, a2', k11, vField, he, w5, t4, t5, t6, t7, t2, gvo, vSliceS]); try dsimp only)
      (try (conv in (evSteps call c9_32 _ _) => unfold c9_32; simp [gs, e0, e1, e2, e3, hi, hb, hm, hk, hr, w, w2, clrOut, d5, d5', a1, a1', a2, a2', k11, vField, he, w5, t4, t5, t6, t7, t2, gvo, vSliceS]); try dsimp only)
      (try (conv in (evSteps call c9_33 _ _) => unfold c9_33; simp [gs, e0, e1, e2, e3, hi, hb, hm, hk, hr, w, w2, clrOut, d5, d5', a1, a1', a2, a2', k11, vField, he, w5, t4, t5, t6, t7, t2, gvo, vSliceS]); try dsimp only)
      (try (conv in (evSteps call c9_34 _ _) => unfold c9_34; simp [gs, e0, e1, e2, e3, hi, hb, hm, hk, hr, w, w2, clrOut, d5, d5', a1, a1', a2, a2', k11, vField, he, w5, t4, t5, t6, t7, t2, gvo, vSliceS]); try dsimp only)
      (try (conv in (evSteps call c9_35 _ _) => unfold c9_35; simp [gs, e0, e1, e2, e3, hi, hb, hm, hk, hr, w, w2, clrOut, d5, d5', a1, a1', a2, a2', k11, vField, he, w5, t4, t5, t6, t7, t2, gvo, vSliceS]); try dsimp only)
      (try (conv in (evSteps call c9_36 _ _) => unfold c9_36; simp [gs, e0, e1, e2, e3, hi, hb, hm, hk, hr, w, w2, clrOut, d5, d5', a1, a1', a2, a2', k11, vField, he, w5, t4, t5, t6, t7, t2, gvo, vSliceS]); try dsimp only)
      (try (conv in (evSteps call c9_37 _ _) => unfold c9_37; simp [gs, e0, e1, e2, e3, hi, hb, hm, hk, hr, w, w2, clrOut, d5, d5', a1, a1', a2, a2', k11, vField, he, w5, t4, t5, t6, t7, t2, gvo, vSliceS]); try dsimp only)
      (try (conv in (evSteps call c9_38 _ _) => unfold c9_38; simp [gs, e0, e1, e2, e3, hi, hb, hm, hk, hr, w, w2, clrOut, d5, d5', a1, a1', a2, a2', k11, vField, he, w5, t4, t5, t6, t7, t2, gvo, vSliceS]); try dsimp only)
      (try (conv in (evSteps call c9_39 _ _) => unfold c9_39; simp [gs, e0, e1, e2, e3, hi, hb, hm, hk, hr, w, w2, clrOut, d5, d5', a1, a1', a2, a2', k11, vField, he, w5, t4, t5, t6, t7, t2, gvo, vSliceS]); try dsimp only)
      (try (conv in (evSteps call c9_40 _ _) => unfold c9_40; simp [gs, e0, e1, e2, e3, hi, hb, hm, hk, hr, w, w2, clrOut, d5, d5', a1, a1', a2, a2', k11, vField, he, w5, t4, t5, t6, t7, t2, gvo, vSliceS]); try dsimp only)
      (try (conv in (evSteps call c9_41 _ _) => unfold c9_41; simp [gs, e0, e1, e2, e3, hi, hb, hm, hk, hr, w, w2, clrOut, d5, d5', a1, a1', a2, a2', k11, vField, he, w5, t4, t5, t6, t7, t2, gvo, vSliceS]); try dsimp only)
      (try (conv in (evSteps call c9_42 _ _) => unfold c9_42; simp [gs, e0, e1, e2, e3, hi, hb, hm, hk, hr, w, w2, clrOut, d5, d5', a1, a1', a2, a2', k11, vField, he, w5, t4, t5, t6, t7, t2, gvo, vSliceS]); try dsimp only)
      (try (conv in (evSteps call c9_43 _ _) => unfold c9_43; simp [gs, e0, e1, e2, e3, hi, hb, hm, hk, hr, w, w2, clrOut, d5, d5', a1, a1', a2, a2', k11, vField, he, w5, t4, t5, t6, t7, t2, gvo, vSliceS]); try dsimp only)
      (try (conv in (evSteps call c9_44 _ _) => unfold c9_44; simp [gs, e0, e1, e2, e3, hi, hb, hm, hk, hr, w, w2, clrOut, d5, d5', a1, a1', a2, a2', k11, vField, he, w5, t4, t5, t6, t7, t2, gvo, vSliceS]); try dsimp only)
      (try (conv in (evSteps call c9_45 _ _) => unfold c9_45; simp [gs, e0, e1, e2, e3, hi, hb, hm, hk, hr, w, w2, clrOut, d5, d5', a1, a1', a2, a2', k11, vField, he, w5, t4, t5, t6, t7, t2, gvo, vSliceS]); try dsimp only)
      (try (conv in (evC call _ c9_46 _ _) => unfold c9_46; simp [gs, e0, e1, e2, e3, hi, hb, hm, hk, hr, w, w2, clrOut, d5, d5', a1, a1', a2, a2', k11, vField, he, w5, t4, t5, t6, t7, t2, gvo, vSliceS]); try dsimp only)
      (try (conv in (evC call _ c9_47 _ _) => unfold c9_47; simp [gs, e0, e1, e2, e3, hi, hb, hm, hk, hr, w, w2, clrOut, d5, d5', a1, a1', a2, a2', k11, vField, he, w5, t4, t5, t6, t7, t2, gvo, vSliceS]); try dsimp only)
      (try (conv in (evC call _ c9_48 _ _) => unfold c9_48; simp [gs, e0, e1, e2, e3, hi, hb, hm, hk, hr, w, w2, clrOut, d5, d5', a1, a1', a2, a2', k11, vField, he, w5, t4, t5, t6, t7, t2, gvo, vSliceS]); try dsimp only)
      (try (conv in (evSteps call c9_49 _ _) => unfold c9_49; simp [gs, e0, e1, e2, e3, hi, hb, hm, hk, hr, w, w2, clrOut, d5, d5', a1, a1', a2, a2', k11, vField, he, w5, t4, t5, t6, t7, t2, gvo, vSliceS]); try dsimp only)
      (try (conv in (evSteps call c9_50 _ _) => unfold c9_50; simp [gs, e0, e1, e2, e3, hi, hb, hm, hk, hr, w, w2, clrOut, d5, d5', a1, a1', a2, a2', k11, vField, he, w5, t4, t5, t6, t7, t2, gvo, vSliceS]); try dsimp only)
      (try (conv in (evSteps call c9_51 _ _) => unfold c9_51; simp [gs, e0, e1, e2, e3, hi, hb, hm, hk, hr, w, w2, clrOut, d5, d5', a1, a1', a2, a2', k11, vField, he, w5, t4, t5, t6, t7, t2, gvo, vSliceS]); try dsimp only)
      (try (conv in (evSteps call c9_52 _ _) => unfold c9_52; simp [gs, e0, e1, e2, e3, hi, hb, hm, hk, hr, w, w2, clrOut, d5, d5', a1, a1', a2, a2', k11, vField, he, w5, t4, t5, t6, t7, t2, gvo, vSliceS]); try dsimp only)
      (try (conv in (evSteps call c9_53 _ _) => unfold c9_53; simp [gs, e0, e1, e2, e3, hi, hb, hm, hk, hr, w, w2, clrOut, d5, d5', a1, a1', a2, a2', k11, vField, he, w5, t4, t5, t6, t7, t2, gvo, vSliceS]); try dsimp only)
      (try (conv in (evSteps call c9_54 _ _) => unfold c9_54; simp [gs, e0, e1, e2, e3, hi, hb, hm, hk, hr, w, w2, clrOut, d5, d5', a1, a1', a2, a2', k11, vField, he, w5, t4, t5, t6, t7, t2, gvo, vSliceS]); try dsimp only)
      (try (conv in (evSteps call c9_55 _ _) => unfold c9_55; simp [gs, e0, e1, e2, e3, hi, hb, hm, hk, hr, w, w2, clrOut, d5, d5', a1, a1', a2, a2', k11, vField, he, w5, t4, t5, t6, t7, t2, gvo, vSliceS]); try dsimp only)
      (try (conv in (evSteps call c9_56 _ _) => unfold c9_56; simp [gs, e0, e1, e2, e3, hi, hb, hm, hk, hr, w, w2, clrOut, d5, d5', a1, a1', a2, a2', k11, vField, he, w5, t4, t5, t6, t7, t2, gvo, vSliceS]); try dsimp only)
      (try (conv in (evSteps call c9_57 _ _) => unfold c9_57; simp [gs, e0, e1, e2, e3, hi, hb, hm, hk, hr, w, w2, clrOut, d5, d5', a1, a1', a2, a2', k11, vField, he, w5, t4, t5, t6, t7, t2, gvo, vSliceS]); try dsimp only)
      (try (conv in (evSteps call c9_58 _ _) => unfold c9_58; simp [gs, e0, e1, e2, e3, hi, hb, hm, hk, hr, w, w2, clrOut, d5, d5', a1, a1', a2, a2', k11, vField, he, w5, t4, t5, t6, t7, t2, gvo, vSliceS]); try dsimp only)
      (try (conv in (evSteps call c9_59 _ _) => unfold c9_59; simp [gs, e0, e1, e2, e3, hi, hb, hm, hk, hr, w, w2, clrOut, d5, d5', a1, a1', a2, a2', k11, vField, he, w5, t4, t5, t6, t7, t2, gvo, vSliceS]); try dsimp only)
      (try (conv in (evC call _ c9_60 _ _) => unfold c9_60; simp [gs, e0, e1, e2, e3, hi, hb, hm, hk, hr, w, w2, clrOut, d5, d5', a1, a1', a2, a2', k11, vField, he, w5, t4, t5, t6, t7, t2, gvo, vSliceS]); try dsimp only)
      (try (conv in (evC call _ c9_61 _ _) => unfold c9_61; simp [gs, e0, e1, e2, e3, hi, hb, hm, hk, hr, w, w2, clrOut, d5, d5', a1, a1', a2, a2', k11, vField, he, w5, t4, t5, t6, t7, t2, gvo, vSliceS]); try dsimp only)
      (try (conv in (evC call _ c9_62 _ _) => unfold c9_62; simp [gs, e0, e1, e2, e3, hi, hb, hm, hk, hr, w, w2, clrOut, d5, d5', a1, a1', a2, a2', k11, vField, he, w5, t4, t5, t6, t7, t2, gvo, vSliceS]); try dsimp only)
      (try (conv in (evC call _ c9_63 _ _) => unfold c9_63; simp [gs, e0, e1, e2, e3, hi, hb, hm, hk, hr, w, w2, clrOut, d5, d5', a1, a1', a2, a2', k11, vField, he, w5, t4, t5, t6, t7, t2, gvo, vSliceS]); try dsimp only)
      all_goals first | rfl | exact ⟨rfl, rfl⟩
    all_goals simp [gs, e0, e1, e2, e3]
  · have he0 : i + 1 = N := hend.1 (by simp)
    have he := eq_true (show (i : Int) = (N : Int) - 1 by omega)
    refine ⟨?fr6, ?g6, ?e6, ?_, ?_, ?_, ?_⟩
    case e6 =>
      (try (conv in (evC call _ c9_10 _ _) => unfold c9_10; simp [gs, e0, e1, e2, e3, hi, hb, hm, hk, hr, w, w2, clrOut, d5, d5', a1, a1', a2, a2', k11, vField, he]); try dsimp only)
      (try (conv in (evC call _ c9_11 _ _) => unfold c9_11; simp [gs, e0, e1, e2, e3, hi, hb, hm, hk, hr, w, w2, clrOut, d5, d5', a1, a1', a2, a2', k11, vField, he]); try dsimp only)
      (try (conv in (evC call _ c9_12 _ _) => unfold c9_12; simp [gs, e0, e1, e2, e3, hi, hb, hm, hk, hr, w, w2, clrOut, d5, d5', a1, a1', a2, a2', k11, vField, he]); try dsimp only)
      (try (conv in (evC call _ c9_13 _ _) => unfold c9_13; simp [gs, e0, e1, e2, e3, hi, hb, hm, hk, hr, w, w2, clrOut, d5, d5', a1, a1', a2, a2', k11, vField, he]); try dsimp only)
      (try (conv in (evSteps call c9_14 _ _) => unfold c9_14; simp [gs, e0, e1, e2, e3, hi, hb, hm, hk, hr, w, w2, clrOut, d5, d5', a1, a1', a2, a2', k11, vField, he]); try dsimp only)
      (try (conv in (evC call _ c9_15 _ _) => unfold c9_15; simp [gs, e0, e1, e2, e3, hi, hb, hm, hk, hr, w, w2, clrOut, d5, d5', a1, a1', a2, a2', k11, vField, he]); try dsimp only)
      (try (conv in (evSteps call c9_16 _ _) => unfold c9_16; simp [gs, e0, e1, e2, e3, hi, hb, hm, hk, hr, w, w2, clrOut, d5, d5', a1, a1', a2, a2', k11, vField, he]); try dsimp only)
      (try (conv in (evSteps call c9_17 _ _) => unfold c9_17; simp [gs, e0, e1, e2, e3, hi, hb, hm, hk, hr, w, w2, clrOut, d5, d5', a1, a1', a2, a2', k11, vField, he]); try dsimp only)
      (try (conv in (evSteps call c9_18 _ _) => unfold c9_18; simp [gs, e0, e1, e2, e3, hi, hb, hm, hk, hr, w, w2, clrOut, d5, d5', a1, a1', a2, a2', k11, vField, he]); try dsimp only)
      (try (conv in (evSteps call c9_19 _ _) => unfold c9_19; simp [gs, e0, e1, e2, e3, hi, hb, hm, hk, hr, w, w2, clrOut, d5, d5', a1, a1', a2, a2', k11, vField, he]); try dsimp only)
      (try (conv in (evSteps call c9_20 _ _) => unfold c9_20; simp [gs, e0, e1, e2, e3, hi, hb, hm, hk, hr, w, w2, clrOut, d5, d5', a1, a1', a2, a2', k11, vField, he]); try dsimp only)
      (try (conv in (evSteps call c9_21 _ _) => unfold c9_21; simp [gs, e0, e1, e2, e3, hi, hb, hm, hk, hr, w, w2, clrOut, d5, d5', a1, a1', a2, a2', k11, vField, he]); try dsimp only)
      (try (conv in (evC call _ c9_22 _ _) => unfold c9_22; simp [gs, e0, e1, e2, e3, hi, hb, hm, hk, hr, w, w2, clrOut, d5, d5', a1, a1', a2, a2', k11, vField, he]); try dsimp only)
      (try (conv in (evC call _ c9_23 _ _) => unfold c9_23; simp [gs, e0, e1, e2, e3, hi, hb, hm, hk, hr, w, w2, clrOut, d5, d5', a1, a1', a2, a2', k11, vField, he]); try dsimp only)
      (try (conv in (evC call _ c9_24 _ _) => unfold c9_24; simp [gs, e0, e1, e2, e3, hi, hb, hm, hk, hr, w, w2, clrOut, d5, d5', a1, a1', a2, a2', k11, vField, he]); try dsimp only)
      (try (conv in (evSteps call c9_25 _ _) => unfold c9_25; simp [gs, e0, e1, e2, e3, hi, hb, hm, hk, hr, w, w2, clrOut, d5, d5', a1, a1', a2, a2', k11, vField, he]); try dsimp only)
      (try (conv in (evSteps call c9_26 _ _) => unfold c9_26; simp [gs, e0, e1, e2, e3, hi, hb, hm, hk, hr, w, w2, clrOut, d5, d5', a1, a1', a2, a2', k11, vField, he]); try dsimp only)
      (try (conv in (evSteps call c9_27 _ _) => unfold c9_27; simp [gs, e0, e1, e2, e3, hi, hb, hm, hk, hr, w, w2, clrOut, d5, d5', a1, a1', a2, a2', k11, vField, he]); try dsimp only)
      (try (conv in (evSteps call c9_28 _ _) => unfold c9_28; simp [gs, e0, e1, e2, e3, hi, hb, hm, hk, hr, w, w2, clrOut, d5, d5', a1, a1', a2, a2', k11, vField, he]); try dsimp only)
      (try (conv in (evSteps call c9_29 _ _) => unfold c9_29; simp [gs, e0, e1, e2, e3, hi, hb, hm, hk, hr, w, w2, clrOut, d5, d5', a1, a1', a2, a2', k11, vField, he]); try dsimp only)
      (try (conv in (evSteps call c9_30 _ _) => unfold c9_30; simp [gs, e0, e1, e2, e3, hi, hb, hm, hk, hr, w, w2, clrOut, d5, d5', a1, a1', a2, a2', k11, vField, he]); try dsimp only)
      (try (conv in (evSteps call c9_31 _ _) => unfold c9_31; simp [gs, e0, e1, e2, e3, hi, hb, hm, hk, hr, w, w2, clrOut, d5, d5', a1, a1', a2, a2', k11, vField, he]); try dsimp only)
      (try (conv in (evSteps call c9_32 _ _) => unfold c9_32; simp [gs, e0, e1, e2, e3, hi, hb, hm, hk, hr, w, w2, clrOut, d5, d5', a1, a1', a2, a2', k11, vField, he]); try dsimp only)
      (try (conv in (evSteps call c9_33 _ _) => unfold c9_33; simp [gs, e0, e1, e2, e3, hi, hb, hm, hk, hr, w, w2, clrOut, d5, d5', a1, a1', a2, a2', k11, vField, he]); try dsimp only)
      (try (conv in (evSteps call c9_34 _ _) => unfold c9_34; simp [gs, e0, e1, e2, e3, hi, hb, hm, hk, hr, w, w2, clrOut, d5, d5', a1, a1', a2, a2', k11, vField, he]); try dsimp only)
      (try (conv in (evSteps call c9_35 _ _) => unfold c9_35; simp [gs, e0, e1, e2, e3, hi, hb, hm, hk, hr, w, w2, clrOut, d5, d5', a1, a1', a2, a2', k11, vField, he]); try dsimp only)
      (try (conv in (evSteps call c9_36 _ _) => unfold c9_36; simp [gs, e0, e1, e2, e3, hi, hb, hm, hk, hr, w, w2, clrOut, d5, d5', a1, a1', a2, a2', k11, vField, he]); try dsimp only)
      (try (conv in (evSteps call c9_37 _ _) => unfold c9_37; simp [gs, e0, e1, e2, e3, hi, hb, hm, hk, hr, w, w2, clrOut, d5, d5', a1, a1', a2, a2', k11, vField, he]); try dsimp only)
      (try (conv in (evSteps call c9_38 _ _) => unfold c9_38; simp [gs, e0, e1, e2, e3, hi, hb, hm, hk, hr, w, w2, clrOut, d5, d5', a1, a1', a2, a2', k11, vField, he]); try dsimp only)
      (try (conv in (evSteps call c9_39 _ _) => unfold c9_39; simp [gs, e0, e1, e2, e3, hi, hb, hm, hk, hr, w, w2, clrOut, d5, d5', a1, a1', a2, a2', k11, vField, he]); try dsimp only)
      (try (conv in (evSteps call c9_40 _ _) => unfold c9_40; simp [gs, e0, e1, e2, e3, hi, hb, hm, hk, hr, w, w2, clrOut, d5, d5', a1, a1', a2, a2', k11, vField, he]); try dsimp only)
      (try (conv in (evSteps call c9_41 _ _) => unfold c9_41; simp [gs, e0, e1, e2, e3, hi, hb, hm, hk, hr, w, w2, clrOut, d5, d5', a1, a1', a2, a2', k11, vField, he]); try dsimp only)
      (try (conv in (evSteps call c9_42 _ _) => unfold c9_42; simp [gs, e0, e1, e2, e3, hi, hb, hm, hk, hr, w, w2, clrOut, d5, d5', a1, a1', a2, a2', k11, vField, he]); try dsimp only)
      (try (conv in (evSteps call c9_43 _ _) => unfold c9_43; simp [gs, e0, e1, e2, e3, hi, hb, hm, hk, hr, w, w2, clrOut, d5, d5', a1, a1', a2, a2', k11, vField, he]); try dsimp only)
      (try (conv in (evSteps call c9_44 _ _) => unfold c9_44; simp [gs, e0, e1, e2, e3, hi, hb, hm, hk, hr, w, w2, clrOut, d5, d5', a1, a1', a2, a2', k11, vField, he]); try dsimp only)
      (try (conv in (evSteps call c9_45 _ _) => unfold c9_45; simp [gs, e0, e1, e2, e3, hi, hb, hm, hk, hr, w, w2, clrOut, d5, d5', a1, a1', a2, a2', k11, vField, he]); try dsimp only)
      (try (conv in (evC call _ c9_46 _ _) => unfold c9_46; simp [gs, e0, e1, e2, e3, hi, hb, hm, hk, hr, w, w2, clrOut, d5, d5', a1, a1', a2, a2', k11, vField, he]); try dsimp only)
      (try (conv in (evC call _ c9_47 _ _) => unfold c9_47; simp [gs, e0, e1, e2, e3, hi, hb, hm, hk, hr, w, w2, clrOut, d5, d5', a1, a1', a2, a2', k11, vField, he]); try dsimp only)
      (try (conv in (evC call _ c9_48 _ _) => unfold c9_48; simp [gs, e0, e1, e2, e3, hi, hb, hm, hk, hr, w, w2, clrOut, d5, d5', a1, a1', a2, a2', k11, vField, he]); try dsimp only)
      (try (conv in (evSteps call c9_49 _ _) => unfold c9_49; simp [gs, e0, e1, e2, e3, hi, hb, hm, hk, hr, w, w2, clrOut, d5, d5', a1, a1', a2, a2', k11, vField, he]); try dsimp only)
      (try (conv in (evSteps call c9_50 _ _) => unfold c9_50; simp [gs, e0, e1, e2, e3, hi, hb, hm, hk, hr, w, w2, clrOut, d5, d5', a1, a1', a2, a2', k11, vField, he]); try dsimp only)
      (try (conv in (evSteps call c9_51 _ _) => unfold c9_51; simp [gs, e0, e1, e2, e3, hi, hb, hm, hk, hr, w, w2, clrOut, d5, d5', a1, a1', a2, a2', k11, vField, he]); try dsimp only)
      (try (conv in (evSteps call c9_52 _ _) => unfold c9_52; simp [gs, e0, e1, e2, e3, hi, hb, hm, hk, hr, w, w2, clrOut, d5, d5', a1, a1', a2, a2', k11, vField, he]); try dsimp only)
      (try (conv in (evSteps call c9_53 _ _) => unfold c9_53; simp [gs, e0, e1, e2, e3, hi, hb, hm, hk, hr, w, w2, clrOut, d5, d5', a1, a1', a2, a2', k11, vField, he]); try dsimp only)
      (try (conv in (evSteps call c9_54 _ _) => unfold c9_54; simp [gs, e0, e1, e2, e3, hi, hb, hm, hk, hr, w, w2, clrOut, d5, d5', a1, a1', a2, a2', k11, vField, he]); try dsimp only)
      (try (conv in (evSteps call c9_55 _ _) => unfold c9_55; simp [gs, e0, e1, e2, e3, hi, hb, hm, hk, hr, w, w2, clrOut, d5, d5', a1, a1', a2, a2', k11, vField, he]); try dsimp only)
      (try (conv in (evSteps call c9_56 _ _) => unfold c9_56; simp [gs, e0, e1, e2, e3, hi, hb, hm, hk, hr, w, w2, clrOut, d5, d5', a1, a1', a2, a2', k11, vField, he]); try dsimp only)
      (try (conv in (evSteps call c9_57 _ _) => unfold c9_57; simp [gs, e0, e1, e2, e3, hi, hb, hm, hk, hr, w, w2, clrOut, d5, d5', a1, a1', a2, a2', k11, vField, he]); try dsimp only)
      (try (conv in (evSteps call c9_58 _ _) => unfold c9_58; simp [gs, e0, e1, e2, e3, hi, hb, hm, hk, hr, w, w2, clrOut, d5, d5', a1, a1', a2, a2', k11, vField, he]); try dsimp only)
      (try (conv in (evSteps call c9_59 _ _) => unfold c9_59; simp [gs, e0, e1, e2, e3, hi, hb, hm, hk, hr, w, w2, clrOut, d5, d5', a1, a1', a2, a2', k11, vField, he]); try dsimp only)
      (try (conv in (evC call _ c9_60 _ _) => unfold c9_60; simp [gs, e0, e1, e2, e3, hi, hb, hm, hk, hr, w, w2, clrOut, d5, d5', a1, a1', a2, a2', k11, vField, he]); try dsimp only)
      (try (conv in (evC call _ c9_61 _ _) => unfold c9_61; simp [gs, e0, e1, e2, e3, hi, hb, hm, hk, hr, w, w2, clrOut, d5, d5', a1, a1', a2, a2', k11, vField, he]); try dsimp only)
      (try (conv in (evC call _ c9_62 _ _) => unfold c9_62; simp [gs, e0, e1, e2, e3, hi, hb, hm, hk, hr, w, w2, clrOut, d5, d5', a1, a1', a2, a2', k11, vField, he]); try dsimp only)
      (try (conv in (evC call _ c9_63 _ _) => unfold c9_63; simp [gs, e0, e1, e2, e3, hi, hb, hm, hk, hr, w, w2, clrOut, d5, d5', a1, a1', a2, a2', k11, vField, he]); try dsimp only)
      all_goals first | rfl | exact ⟨rfl, rfl⟩
    all_goals simp [gs, e0, e1, e2, e3]
theorem rw_end {call : Calls'} {s : List UInt8} {p : Path} {N : Nat} (fuel i : Nat) (fr : FT) (h : H) (hi : ¬ i < N)
    (e0 : Ev.get [.d] fr = some (.v (.sl p 5 0 N))) (e1 : Ev.get [.c] fr = some (.v (T s))) (e2 : Ev.get [.b, .a] fr = some (.v (.int .i64 (i : Int)))) :
    ∃ fr', evC call fuel c9_10 fr h = .exit 0 fr' h ∧ Ev.get [.d] fr' = some (.v (.sl p 5 0 N)) ∧ Ev.get [.c] fr' = some (.v (T s)) := by
  refine ⟨?fr, ?e, ?_, ?_⟩
  case e =>
    simp [c9_10, c9_11, c9_12, c9_13, c9_14, c9_15, c9_16, c9_17, c9_18, c9_19, c9_20, c9_21, c9_22, c9_23, c9_24, c9_25, c9_26, c9_27, c9_28, c9_29, c9_30, c9_31, c9_32, c9_33, c9_34, c9_35, c9_36, c9_37, c9_38, c9_39, c9_40, c9_41, c9_42, c9_43, c9_44, c9_45, c9_46, c9_47, c9_48, c9_49, c9_50, c9_51, c9_52, c9_53, c9_54, c9_55, c9_56, c9_57, c9_58, c9_59, c9_60, c9_61, c9_62, c9_63, gs, e0, e1, e2, hi]
    rfl
  all_goals simp [gs, e0, e1]
theorem rw_all {call : Calls'} {s : List UInt8} {p : Path} {B : Blk} {rows : List (List AV)} (fuel : Nat) (nx : Path) (t : Tr Blk) (hb : Ev.get p t = some B) (hm : B.map = false) (hk : B.k = 5) (hR : ∀ (j : Nat) (hj : j < rows.length), Ev.get (pathOf j) B.rows = some rows[j]) (hN : rows.length ≤ 2000000) (hs : s.length ≤ 1000000)
    (k11 : ∀ (m : Nat) h, m ≤ s.length → call 11 [T s, .int .i64 (m : Int)] h = .ret (.agg (rowA s m)) h) :
    ∀ (rest : List (List AV)) (a : Nat) (ht : Tks s a rest) (done : List (List AV)) (hd : rows = done ++ rest) (last : Int) (hlast : last < a) (fr : FT) (g j : Nat)
    (e0 : Ev.get [.d] fr = some (.v (.sl p 5 0 rows.length))) (e1 : Ev.get [.c] fr = some (.v (T s))) (e2 : Ev.get [.b, .a] fr = some (.v (.int .i64 (done.length : Int)))) (e3 : Ev.get [.a, .a] fr = some (.v (.int .i64 last))),
    ∃ fr' g', loopF call fuel c9_10 (rest.length + 1 + j) fr ⟨nx, t, g⟩ = .exit 0 fr' ⟨nx, t, g'⟩ ∧ Ev.get [.d] fr' = some (.v (.sl p 5 0 rows.length)) ∧ Ev.get [.c] fr' = some (.v (T s)) := by
  have step : ∀ (a : Nat) (rest' : List (List AV)) (done : List (List AV)) (ha : a ≤ s.length) (hd : rows = done ++ rowA s a :: rest') (he : ((nextT s a).k = 0 ∨ (nextT s a).k = 6) ↔ rest' = []) (last : Int) (hlast : last < a) (fr : FT) (g : Nat)
    (e0 : Ev.get [.d] fr = some (.v (.sl p 5 0 rows.length))) (e1 : Ev.get [.c] fr = some (.v (T s))) (e2 : Ev.get [.b, .a] fr = some (.v (.int .i64 (done.length : Int)))) (e3 : Ev.get [.a, .a] fr = some (.v (.int .i64 last))),
    ∃ fr' g', evC call fuel c9_10 fr ⟨nx, t, g⟩ = .norm fr' ⟨nx, t, g'⟩ ∧ Ev.get [.d] fr' = some (.v (.sl p 5 0 rows.length)) ∧ Ev.get [.c] fr' = some (.v (T s)) ∧ Ev.get [.b, .a] fr' = some (.v (.int .i64 ((done.length + 1 : Nat) : Int))) ∧ Ev.get [.a, .a] fr' = some (.v (.int .i64 (nextM s a : Int))) := by
    intro a rest' done ha hd he last hlast fr g e0 e1 e2 e3
    obtain ⟨f1, f2, f3⟩ := row_facts s a ha
    have hge := nextM_ge s a
    have hle := nextM_le ha
    have hlen : rows.length = done.length + (rest'.length + 1) := by rw [hd, List.length_append, List.length_cons]
    have hr := hR done.length (by omega)
    have hrow : rows[done.length]'(by omega) = rowA s a := by
      have : rows[done.length]? = some (rowA s a) := by rw [hd, List.getElem?_append_right (Nat.le_refl _), Nat.sub_self]; rfl
      rw [List.getElem?_eq_getElem (by omega)] at this
      exact Option.some.inj this
    rw [hrow] at hr
    have hx : (nextT s a).s = ⟨(nextT s a).s.data.toList.toArray⟩ := by cases (nextT s a).s; rfl
    unfold rowA at hr
    rw [hx] at hr
    have k1 := fun h => k11 (nextM s a) h hle
    unfold rowA at k1
    rw [nextT_again, nextM_again, hx] at k1
    refine rw_one (k := (nextT s a).k) (A := nextM s a) fuel done.length fr nx t g hb hm hk (by omega) hN hs hr hle last (by omega) k1 f1 ?_ f2 e0 e1 e2 e3
    rw [he, hlen]
    constructor
    · intro e; rw [e]; rfl
    · intro e; exact List.eq_nil_of_length_eq_zero (by omega)
  intro rest a ht
  induction ht with
  | @last a ha hk' =>
    intro done hd last hlast fr g j e0 e1 e2 e3
    obtain ⟨fr1, g1, h1, a0, a1, a2, _⟩ := step a [] done ha hd ⟨fun _ => rfl, fun _ => hk'⟩ last hlast fr g e0 e1 e2 e3
    have hlen : rows.length = done.length + 1 := by rw [hd, List.length_append]; rfl
    obtain ⟨fr2, h2, b0, b1⟩ := rw_end (call := call) fuel (done.length + 1) fr1 ⟨nx, t, g1⟩ (by omega) a0 a1 a2
    refine ⟨fr2, g1, ?_, b0, b1⟩
    rw [show [rowA s a].length + 1 + j = j + 1 + 1 by simp; omega, loopF_succ, h1]
    simp only
    rw [loopF_succ, h2]
  | @more a rest' ha hk' ht ih =>
    intro done hd last hlast fr g j e0 e1 e2 e3
    obtain ⟨fr1, g1, h1, a0, a1, a2, a3⟩ := step a rest' done ha hd ⟨fun h => absurd h hk', fun h => absurd h ht.ne⟩ last hlast fr g e0 e1 e2 e3
    have hz := next_z_pos s a ha (fun e => hk' (.inl e)) (fun e => hk' (.inr e))
    obtain ⟨fr2, g2, h2, b0, b1⟩ := ih (done ++ [rowA s a]) (by rw [hd, List.append_assoc]; rfl) (nextM s a : Int) (by omega) fr1 g1 j a0 a1 (by rw [List.length_append]; exact a2) a3
    refine ⟨fr2, g2, ?_, b0, b1⟩
    rw [show (rowA s a :: rest').length + 1 + j = (rest'.length + 1 + j) + 1 by rw [List.length_cons]; omega, loopF_succ, h1]
    exact h2
set_option maxHeartbeats 4000000 in
theorem rw_tail {call : Calls'} {s : List UInt8} {p : Path} {B : Blk} {N z : Nat} (fuel : Nat) (fr : FT) (nx : Path) (t : Tr Blk) (g : Nat) (hb : Ev.get p t = some B) (hm : B.map = false) (hk : B.k = 5) (hz : N = z + 1) (hN : N ≤ 2000000)
    {kk x3 : Int} {x2 : ByteArray} {x5 : Bool} {mm : Nat} (hlast : Ev.get (pathOf z) B.rows = some [.int .i64 kk, .str x2, .int .i64 x3, .int .i64 (mm : Int), .bool x5]) (hkk : kk = 0 ∧ mm = s.length ∨ kk = 6) (k10' : ∀ h, call 10 [] h = .ret (.bool true) h)
    (e0 : Ev.get [.d] fr = some (.v (.sl p 5 0 N))) (e1 : Ev.get [.c] fr = some (.v (T s))) :
    ∃ fr', evC call fuel c9_64 fr ⟨nx, t, g⟩ = .ret fr' ⟨nx, t, g⟩ ∧ Ev.get [.b] fr' = some (.v (.bool true)) := by
  have hd5 : z * 5 / 5 = z := Nat.mul_div_cancel _ (by decide)
  have hd5' : z * 5 % 5 = 0 := Nat.mul_mod_left _ 5
  have hd8 : (z * 5 + 3) / 5 = z := by omega
  have hd8' : (z * 5 + 3) % 5 = 3 := by omega
  have w2 : wrapF .i64 ((N : Int) - 1) = (z : Int) := by rw [wrap64 (by omega) (by omega)]; omega
  have hlt : z < N := by omega
  clear hz hN
  rcases hkk with ⟨rfl, rfl⟩ | rfl
  · refine ⟨?fr, ?e, ?_⟩
    case e =>
      (try (conv in (evC call _ c9_64 _ _) => unfold c9_64; simp [gs, k10', e0, e1, vField, hb, hm, hk, hlast, hd5, hd5', hd8, hd8', w2, hlt]); try dsimp only)
      (try (conv in (evSteps call c9_65 _ _) => unfold c9_65; simp [gs, k10', e0, e1, vField, hb, hm, hk, hlast, hd5, hd5', hd8, hd8', w2, hlt]); try dsimp only)
      (try (conv in (evSteps call c9_66 _ _) => unfold c9_66; simp [gs, k10', e0, e1, vField, hb, hm, hk, hlast, hd5, hd5', hd8, hd8', w2, hlt]); try dsimp only)
      (try (conv in (evSteps call c9_67 _ _) => unfold c9_67; simp [gs, k10', e0, e1, vField, hb, hm, hk, hlast, hd5, hd5', hd8, hd8', w2, hlt]); try dsimp only)
      (try (conv in (evSteps call c9_68 _ _) => unfold c9_68; simp [gs, k10', e0, e1, vField, hb, hm, hk, hlast, hd5, hd5', hd8, hd8', w2, hlt]); try dsimp only)
      (try (conv in (evSteps call c9_69 _ _) => unfold c9_69; simp [gs, k10', e0, e1, vField, hb, hm, hk, hlast, hd5, hd5', hd8, hd8', w2, hlt]); try dsimp only)
      (try (conv in (evSteps call c9_69 _ _) => unfold c9_69; simp [gs, k10', e0, e1, vField, hb, hm, hk, hlast, hd5, hd5', hd8, hd8', w2, hlt]); try dsimp only)
      (try (conv in (evSteps call c9_68 _ _) => unfold c9_68; simp [gs, k10', e0, e1, vField, hb, hm, hk, hlast, hd5, hd5', hd8, hd8', w2, hlt]); try dsimp only)
      (try (conv in (evSteps call c9_67 _ _) => unfold c9_67; simp [gs, k10', e0, e1, vField, hb, hm, hk, hlast, hd5, hd5', hd8, hd8', w2, hlt]); try dsimp only)
      (try (conv in (evSteps call c9_66 _ _) => unfold c9_66; simp [gs, k10', e0, e1, vField, hb, hm, hk, hlast, hd5, hd5', hd8, hd8', w2, hlt]); try dsimp only)
      (try (conv in (evSteps call c9_65 _ _) => unfold c9_65; simp [gs, k10', e0, e1, vField, hb, hm, hk, hlast, hd5, hd5', hd8, hd8', w2, hlt]); try dsimp only)
      (try (conv in (evC call _ c9_64 _ _) => unfold c9_64; simp [gs, k10', e0, e1, vField, hb, hm, hk, hlast, hd5, hd5', hd8, hd8', w2, hlt]); try dsimp only)
      all_goals rfl
    all_goals simp [gs, e0, e1]
  · refine ⟨?fr2, ?e2, ?_⟩
    case e2 =>
      (try (conv in (evC call _ c9_64 _ _) => unfold c9_64; simp [gs, k10', e0, e1, vField, hb, hm, hk, hlast, hd5, hd5', hd8, hd8', w2, hlt]); try dsimp only)
      (try (conv in (evSteps call c9_65 _ _) => unfold c9_65; simp [gs, k10', e0, e1, vField, hb, hm, hk, hlast, hd5, hd5', hd8, hd8', w2, hlt]); try dsimp only)
      (try (conv in (evSteps call c9_66 _ _) => unfold c9_66; simp [gs, k10', e0, e1, vField, hb, hm, hk, hlast, hd5, hd5', hd8, hd8', w2, hlt]); try dsimp only)
      (try (conv in (evSteps call c9_67 _ _) => unfold c9_67; simp [gs, k10', e0, e1, vField, hb, hm, hk, hlast, hd5, hd5', hd8, hd8', w2, hlt]); try dsimp only)
      (try (conv in (evSteps call c9_68 _ _) => unfold c9_68; simp [gs, k10', e0, e1, vField, hb, hm, hk, hlast, hd5, hd5', hd8, hd8', w2, hlt]); try dsimp only)
      (try (conv in (evSteps call c9_69 _ _) => unfold c9_69; simp [gs, k10', e0, e1, vField, hb, hm, hk, hlast, hd5, hd5', hd8, hd8', w2, hlt]); try dsimp only)
      (try (conv in (evSteps call c9_69 _ _) => unfold c9_69; simp [gs, k10', e0, e1, vField, hb, hm, hk, hlast, hd5, hd5', hd8, hd8', w2, hlt]); try dsimp only)
      (try (conv in (evSteps call c9_68 _ _) => unfold c9_68; simp [gs, k10', e0, e1, vField, hb, hm, hk, hlast, hd5, hd5', hd8, hd8', w2, hlt]); try dsimp only)
      (try (conv in (evSteps call c9_67 _ _) => unfold c9_67; simp [gs, k10', e0, e1, vField, hb, hm, hk, hlast, hd5, hd5', hd8, hd8', w2, hlt]); try dsimp only)
      (try (conv in (evSteps call c9_66 _ _) => unfold c9_66; simp [gs, k10', e0, e1, vField, hb, hm, hk, hlast, hd5, hd5', hd8, hd8', w2, hlt]); try dsimp only)
      (try (conv in (evSteps call c9_65 _ _) => unfold c9_65; simp [gs, k10', e0, e1, vField, hb, hm, hk, hlast, hd5, hd5', hd8, hd8', w2, hlt]); try dsimp only)
      (try (conv in (evC call _ c9_64 _ _) => unfold c9_64; simp [gs, k10', e0, e1, vField, hb, hm, hk, hlast, hd5, hd5', hd8, hd8', w2, hlt]); try dsimp only)
      all_goals rfl
    all_goals simp [gs, e0, e1]
set_option maxRecDepth 100000 in
set_option maxHeartbeats 4000000 in
theorem L9 {l : List UInt8} {h : H} {v : AV} (hv : InS h v (l.map b8)) (F : Nat) (hF : 1000 ≤ F) : Says (evFun LF9 k14 F 9 [v] h) (.bool true) := by
  have hl0 := textOf_len l
  have g14 := k14_14 hv
  generalize h.new bitsB = h1 at *
  generalize hs : textOf l = s at *
  have hl : s.length ≤ 1000000 := by omega
  have k10' : ∀ h, k14 10 [] h = .ret (.bool true) h := fun _ => rfl
  have k11' : ∀ (m : Nat) h, m ≤ s.length → k14 11 [T s, .int .i64 (m : Int)] h = .ret (.agg (rowA s m)) h := fun m h hm => (hk11_11 s m h hl).trans (by rw [clamp_nat hm])
  obtain ⟨v1, H1, g17, o1, s1⟩ := all17 s h1 hl
  have g17 : k14 17 [T s] h1 = .ret v1 H1 := g17
  have hlen := (toks_len s (s.length + 1) 0 []).2
  simp only [List.length_nil] at hlen
  have hlen : (toks s).length ≤ s.length + 1 := by unfold toks; omega
  rcases o1 with ⟨e, _⟩ | ⟨p, B, rfl, hne, _, hp, hb, hk, hn, hg, hro, hm, hR⟩
  · exact absurd e (toks_ne s)
  obtain ⟨b, hb0, hb1, hb2⟩ := (toks_tks s).end
  have hpos : 0 < (toks s).length := List.length_pos_iff.2 hne
  have hlast := hR ((toks s).length - 1) (by omega)
  rw [List.getLast?_eq_getElem?, List.getElem?_eq_getElem (by omega)] at hb2
  rw [Option.some.inj hb2] at hlast
  clear hb2
  obtain ⟨f1, f2, f3⟩ := row_facts s b hb0
  obtain ⟨fr', g', h2, h3, h4⟩ := rw_all (call := k14) F H1.next H1.t hb hm hk hR (by omega) hl k11' (toks s) 0 (toks_tks s) [] rfl (-1) (by omega) ((.node (some (.v v)) (.node none (.node (some (.v (.int .i64 (-1)))) .nil .nil .nil .nil) (.node (some (.v (T s))) .nil .nil .nil .nil) (.node (some (.v (.int .i64 ((toks s).length : Int)))) .nil .nil .nil .nil) .nil) (.node (some (.v (.bool false))) (.node (some (.v (.int .i64 0))) .nil .nil .nil .nil) (.node (some (.v (T s))) .nil .nil .nil .nil) (.node (some (.v (.bool false))) .nil .nil .nil .nil) .nil) (.node (some (.v (T s))) .nil (.node (some (.v (.sl p 5 0 (toks s).length))) .nil .nil .nil .nil) .nil .nil) (.node (some (.v (.sl p 5 0 (toks s).length))) (.node (some (.v v)) .nil .nil .nil .nil) (.node (some (.v (.sl p 5 0 (toks s).length))) .nil .nil .nil .nil) .nil .nil))) H1.gen (F - 1 - (toks s).length) rfl rfl rfl rfl
  rw [show (toks s).length + 1 + (F - 1 - (toks s).length) = F by omega] at h2
  have h2 : loopF k14 F c9_10 F ((.node (some (.v v)) (.node none (.node (some (.v (.int .i64 (-1)))) .nil .nil .nil .nil) (.node (some (.v (T s))) .nil .nil .nil .nil) (.node (some (.v (.int .i64 ((toks s).length : Int)))) .nil .nil .nil .nil) .nil) (.node (some (.v (.bool false))) (.node (some (.v (.int .i64 0))) .nil .nil .nil .nil) (.node (some (.v (T s))) .nil .nil .nil .nil) (.node (some (.v (.bool false))) .nil .nil .nil .nil) .nil) (.node (some (.v (T s))) .nil (.node (some (.v (.sl p 5 0 (toks s).length))) .nil .nil .nil .nil) .nil .nil) (.node (some (.v (.sl p 5 0 (toks s).length))) (.node (some (.v v)) .nil .nil .nil .nil) (.node (some (.v (.sl p 5 0 (toks s).length))) .nil .nil .nil .nil) .nil .nil))) H1 = .exit 0 fr' ⟨H1.next, H1.t, g'⟩ := h2
  have hle : ¬ (toks s).length = 0 := by omega
  unfold rowA at hlast
  clear hR
  obtain ⟨fr2, h5, h6⟩ := rw_tail (call := k14) F fr' H1.next H1.t g' hb hm hk (show (toks s).length = (toks s).length - 1 + 1 by omega) (by omega) hlast (by rcases hb1 with h | h; exact .inl ⟨h, f3 h⟩; exact .inr h) k10' h3 h4
  generalize (toks s).length = N at *
  generalize k14 = call at *
  · simp [Says, evFun, FF9, c9]
    (try (conv in (evC call _ c9_1 _ _) => unfold c9_1; simp [-y_Hnew, -y_Hput, g14, g17, h2, hle, gs, h5, h6]); try dsimp only)
    (try (conv in (evC call _ c9_2 _ _) => unfold c9_2; simp [-y_Hnew, -y_Hput, g14, g17, h2, hle, gs, h5, h6]); try dsimp only)
    (try (conv in (evC call _ c9_3 _ _) => unfold c9_3; simp [-y_Hnew, -y_Hput, g14, g17, h2, hle, gs, h5, h6]); try dsimp only)
    (try (conv in (evC call _ c9_4 _ _) => unfold c9_4; simp [-y_Hnew, -y_Hput, g14, g17, h2, hle, gs, h5, h6]); try dsimp only)
    (try (conv in (evC call _ c9_5 _ _) => unfold c9_5; simp [-y_Hnew, -y_Hput, g14, g17, h2, hle, gs, h5, h6]); try dsimp only)
    (try (conv in (evC call _ c9_6 _ _) => unfold c9_6; simp [-y_Hnew, -y_Hput, g14, g17, h2, hle, gs, h5, h6]); try dsimp only)
    (try (conv in (evC call _ c9_7 _ _) => unfold c9_7; simp [-y_Hnew, -y_Hput, g14, g17, h2, hle, gs, h5, h6]); try dsimp only)
    (try (conv in (evC call _ c9_8 _ _) => unfold c9_8; simp [-y_Hnew, -y_Hput, g14, g17, h2, hle, gs, h5, h6]); try dsimp only)
    (try (conv in (evC call _ c9_9 _ _) => unfold c9_9; simp [-y_Hnew, -y_Hput, g14, g17, h2, hle, gs, h5, h6]); try dsimp only)
    (try (conv in (evC call _ c9_9 _ _) => unfold c9_9; simp [-y_Hnew, -y_Hput, g14, g17, h2, hle, gs, h5, h6]); try dsimp only)
    (try (conv in (evC call _ c9_8 _ _) => unfold c9_8; simp [-y_Hnew, -y_Hput, g14, g17, h2, hle, gs, h5, h6]); try dsimp only)
    (try (conv in (evC call _ c9_7 _ _) => unfold c9_7; simp [-y_Hnew, -y_Hput, g14, g17, h2, hle, gs, h5, h6]); try dsimp only)
    (try (conv in (evC call _ c9_6 _ _) => unfold c9_6; simp [-y_Hnew, -y_Hput, g14, g17, h2, hle, gs, h5, h6]); try dsimp only)
    (try (conv in (evC call _ c9_5 _ _) => unfold c9_5; simp [-y_Hnew, -y_Hput, g14, g17, h2, hle, gs, h5, h6]); try dsimp only)
    (try (conv in (evC call _ c9_4 _ _) => unfold c9_4; simp [-y_Hnew, -y_Hput, g14, g17, h2, hle, gs, h5, h6]); try dsimp only)
    (try (conv in (evC call _ c9_3 _ _) => unfold c9_3; simp [-y_Hnew, -y_Hput, g14, g17, h2, hle, gs, h5, h6]); try dsimp only)
    (try (conv in (evC call _ c9_2 _ _) => unfold c9_2; simp [-y_Hnew, -y_Hput, g14, g17, h2, hle, gs, h5, h6]); try dsimp only)
    (try (conv in (evC call _ c9_1 _ _) => unfold c9_1; simp [-y_Hnew, -y_Hput, g14, g17, h2, hle, gs, h5, h6]); try dsimp only)
    try simp [-y_Hnew, -y_Hput, g14, g17, h2, hle, gs, h5, h6]
theorem L9z {W : World} {x : Value} {l : List UInt8} (R : SlIn W x (l.map b8)) (hG : Sps W) : Calls Tryd.prog 9 #[x] W (fun e W' => e = .returned (.bool true) ∧ Go.RowKit.Below W.heap.size W W') := by
  obtain ⟨A, h, v, I, _, _, _, hx, hv⟩ := (Ins.start W).arg R
  exact calls_says14 (FL := LF9) (one_ok c9_ok) I (L9 hv 1000 (Nat.le_refl _)) (.cons hx .nil) hG
end Go.Proofs.Lx
