import Derived.Test.YtlbooinipoaapaaDoorLxRQ2
set_option linter.unusedSimpArgs false
set_option linter.unusedVariables false
set_option linter.unusedSectionVars false
namespace Go.Proofs.Lx
open Go.Ev
noncomputable def c15_7 : EC := (.seq (.steps [(.op Option.none (.look 8 (lLoad (.sl [.b, .a]) 5 Bool.true)) (Option.some [.b, .c, .a])), (.op Option.none (.pure 1 (vMove (.sl [.a]))) (Option.some [.c, .c, .a])), (.op Option.none (.pure 6 (vBuild [(.int .i64 (.ofNat 0)), (.str ⟨#[]⟩), (.int .i64 (.ofNat 0)), (.int .i64 (.ofNat 0)), (.bool Bool.false), (.int .i64 (.ofNat 0))] [(0, (5, (.sl [.b, .c, .a]))), (5, (1, (.sl [.c, .c, .a])))])) (Option.some [.d, .c, .a])), (.op Option.none (.eff (hStore (.sl [.d]) (.sl [.d, .c, .a]) 6)) Option.none)]) .ret)
noncomputable def c15_6 : EC := (.seq (.steps [(.op Option.none (.pure 18 (vFieldAddr (.sl [.b, .a]) 0)) (Option.some [.a, .c, .a])), (.op Option.none (.eff (hStore (.sl [.a, .c, .a]) (.k (.int .i64 (.ofNat 0))) 1)) Option.none)]) c15_7)
noncomputable def c15_5 : EC := (.cond (.sl [.d, .b, .a]) c15_6 .skip)
noncomputable def c15_12 : EC := (.seq (.steps [(.op Option.none (.pure 1 (vMove (.sl []))) (Option.some [.c, .a, .b])), (.op Option.none (.pure 1 (vMove (.sl [.a]))) (Option.some [.d, .a, .b])), (.op Option.none (.look 8 (lLoad (.sl [.b, .a]) 5 Bool.true)) (Option.some [.a, .b, .b])), (.op Option.none (.eff (hCall (.k (.fn 25 [] [])) [(.sl [.c, .a, .b]), (.sl [.d, .a, .b]), (.sl [.a, .b, .b])])) (Option.some [.b, .b, .b])), (.op Option.none (.eff (hStore (.sl [.d]) (.sl [.b, .b, .b]) 6)) Option.none)]) .ret)
noncomputable def c15_15 : EC := (.seq (.steps [(.op Option.none (.pure 1 (vMove (.sl []))) (Option.some [.b, .c, .b])), (.op Option.none (.pure 1 (vMove (.sl [.a]))) (Option.some [.c, .c, .b])), (.op Option.none (.look 8 (lLoad (.sl [.b, .a]) 5 Bool.true)) (Option.some [.d, .c, .b])), (.op Option.none (.eff (hCall (.k (.fn 26 [] [])) [(.sl [.b, .c, .b]), (.sl [.c, .c, .b]), (.sl [.d, .c, .b])])) (Option.some [.a, .d, .b])), (.op Option.none (.eff (hStore (.sl [.d]) (.sl [.a, .d, .b]) 6)) Option.none)]) .ret)
noncomputable def c15_22 : EC := (.cond (.sl [.a, .a, .d]) .skip (.exit 1))
noncomputable def c15_24 : EC := (.steps [(.op Option.none (.pure 1 (vMove (.sl [.d, .a]))) (Option.some [.b, .a, .d])), (.op Option.none (.pure 11 (vBin .no .add (.sl [.b, .a, .d]) (.k (.int .i64 (.ofNat 1))))) (Option.some [.c, .a, .d])), (.op Option.none (.pure 2 (vMove (.sl [.c, .a, .d]))) (Option.some [.d, .a]))])
noncomputable def c15_23 : EC := (.block 2 c15_24)
noncomputable def c15_21 : EC := (.seq (.seq (.steps [(.op Option.none (.pure 1 (vMove (.sl [.d, .a]))) (Option.some [.b, .a, .c])), (.op Option.none (.pure 1 (vMove (.sl []))) (Option.some [.c, .a, .c])), (.op Option.none (.pure 23 (vLenS (.sl [.c, .a, .c]))) (Option.some [.d, .a, .c])), (.op Option.none (.pure 11 (vBin .no .lss (.sl [.b, .a, .c]) (.sl [.d, .a, .c]))) (Option.some [.a, .b, .c])), (.op Option.none (.pure 1 (vMove (.sl [.a, .b, .c]))) (Option.some [.b, .b, .c])), (.op (Option.some ([.b, .b, .c], Bool.true)) (.pure 1 (vMove (.sl []))) (Option.some [.c, .b, .c])), (.op (Option.some ([.b, .b, .c], Bool.true)) (.pure 1 (vMove (.sl [.d, .a]))) (Option.some [.d, .b, .c])), (.op (Option.some ([.b, .b, .c], Bool.true)) (.pure 21 (vIndex (.sl [.c, .b, .c]) (.sl [.d, .b, .c]))) (Option.some [.a, .c, .c])), (.op (Option.some ([.b, .b, .c], Bool.true)) (.eff (hCall (.k (.fn 27 [] [])) [(.sl [.a, .c, .c])])) (Option.some [.b, .c, .c])), (.op (Option.some ([.b, .b, .c], Bool.true)) (.pure 1 (vMove (.sl [.b, .c, .c]))) (Option.some [.c, .c, .c])), (.op (Option.some ([.c, .c, .c], Bool.false)) (.pure 1 (vMove (.sl []))) (Option.some [.d, .c, .c])), (.op (Option.some ([.c, .c, .c], Bool.false)) (.pure 1 (vMove (.sl [.d, .a]))) (Option.some [.a, .d, .c])), (.op (Option.some ([.c, .c, .c], Bool.false)) (.pure 21 (vIndex (.sl [.d, .c, .c]) (.sl [.a, .d, .c]))) (Option.some [.b, .d, .c])), (.op (Option.some ([.c, .c, .c], Bool.false)) (.eff (hCall (.k (.fn 24 [] [])) [(.sl [.b, .d, .c])])) (Option.some [.c, .d, .c])), (.op (Option.some ([.b, .b, .c], Bool.true)) (.pure 3 (vPick (.sl [.c, .c, .c]) (.k (.bool Bool.true)) (.sl [.c, .d, .c]))) (Option.some [.d, .d, .c])), (.op Option.none (.pure 3 (vPick (.sl [.b, .b, .c]) (.sl [.d, .d, .c]) (.k (.bool Bool.false)))) (Option.some [.a, .a, .d]))]) c15_22) c15_23)
noncomputable def c15_20 : EC := (.loop c15_21)
noncomputable def c15_29 : EC := (.steps [(.op Option.none (.pure 18 (vFieldAddr (.sl [.b, .a]) 0)) (Option.some [.a, .d, .d])), (.op Option.none (.eff (hStore (.sl [.a, .d, .d]) (.k (.int .i64 (.ofNat 4))) 1)) Option.none)])
noncomputable def c15_28 : EC := (.cond (.sl [.d, .c, .d]) c15_29 .skip)
noncomputable def c15_30 : EC := (.seq (.steps [(.op Option.none (.look 8 (lLoad (.sl [.b, .a]) 5 Bool.true)) (Option.some [.b, .d, .d])), (.op Option.none (.pure 1 (vMove (.sl [.d, .a]))) (Option.some [.c, .d, .d])), (.op Option.none (.pure 6 (vBuild [(.int .i64 (.ofNat 0)), (.str ⟨#[]⟩), (.int .i64 (.ofNat 0)), (.int .i64 (.ofNat 0)), (.bool Bool.false), (.int .i64 (.ofNat 0))] [(0, (5, (.sl [.b, .d, .d]))), (5, (1, (.sl [.c, .d, .d])))])) (Option.some [.d, .d, .d])), (.op Option.none (.eff (hStore (.sl [.d]) (.sl [.d, .d, .d]) 6)) Option.none)]) .ret)
noncomputable def c15_27 : EC := (.seq (.seq (.steps [(.op Option.none (.pure 18 (vFieldAddr (.sl [.b, .a]) 1)) (Option.some [.b, .c, .d])), (.op Option.none (.look 8 (lLoad (.sl [.b, .c, .d]) 1 Bool.false)) (Option.some [.c, .c, .d])), (.op Option.none (.eff (hCall (.k (.fn 20 [] [])) [(.sl [.c, .c, .d])])) (Option.some [.d, .c, .d]))]) c15_28) c15_30)
noncomputable def c15_26 : EC := (.seq (.steps [(.op Option.none (.pure 18 (vFieldAddr (.sl [.b, .a]) 0)) (Option.some [.a, .c, .d])), (.op Option.none (.eff (hStore (.sl [.a, .c, .d]) (.k (.int .i64 (.ofNat 3))) 1)) Option.none)]) c15_27)
noncomputable def c15_25 : EC := (.seq (.steps [(.op Option.none (.pure 1 (vMove (.sl []))) (Option.some [.d, .a, .d])), (.op Option.none (.pure 1 (vMove (.sl [.a]))) (Option.some [.a, .b, .d])), (.op Option.none (.pure 1 (vMove (.sl [.d, .a]))) (Option.some [.b, .b, .d])), (.op Option.none (.pure 17 (vSliceS (.sl [.d, .a, .d]) (Option.some (.sl [.a, .b, .d])) (Option.some (.sl [.b, .b, .d])))) (Option.some [.c, .b, .d])), (.op Option.none (.pure 18 (vFieldAddr (.sl [.b, .a]) 1)) (Option.some [.d, .b, .d])), (.op Option.none (.eff (hStore (.sl [.d, .b, .d]) (.sl [.c, .b, .d]) 1)) Option.none)]) c15_26)
noncomputable def c15_19 : EC := (.seq (.block 1 c15_20) c15_25)
noncomputable def c15_18 : EC := (.seq (.steps [(.op Option.none (.pure 1 (vMove (.sl [.a]))) (Option.some [.a, .a, .c])), (.op Option.none (.pure 2 (vMove (.sl [.a, .a, .c]))) (Option.some [.d, .a]))]) c15_19)
noncomputable def c15_17 : EC := (.cond (.sl [.b, .d, .b]) c15_18 .skip)
noncomputable def c15_16 : EC := (.seq (.steps [(.op Option.none (.pure 1 (vMove (.sl [.c, .a]))) (Option.some [.c, .d, .b])), (.op Option.none (.eff (hCall (.k (.fn 27 [] [])) [(.sl [.c, .d, .b])])) (Option.some [.d, .d, .b])), (.op Option.none (.pure 2 (vMove (.sl [.d, .d, .b]))) (Option.some [.b, .d, .b]))]) c15_17)
noncomputable def c15_14 : EC := (.cond (.sl [.c, .b, .b]) c15_15 c15_16)
noncomputable def c15_13 : EC := (.seq (.steps [(.op Option.none (.pure 1 (vMove (.sl [.c, .a]))) (Option.some [.d, .b, .b])), (.op Option.none (.pure 11 (vBin .no .eql (.sl [.d, .b, .b]) (.k (.int .u8 (.ofNat 34))))) (Option.some [.a, .c, .b])), (.op Option.none (.pure 2 (vMove (.sl [.a, .c, .b]))) (Option.some [.c, .b, .b]))]) c15_14)
noncomputable def c15_11 : EC := (.cond (.sl [.d, .d, .a]) c15_12 c15_13)
noncomputable def c15_10 : EC := (.seq (.steps [(.op Option.none (.pure 1 (vMove (.sl [.c, .a]))) (Option.some [.a, .a, .b])), (.op Option.none (.eff (hCall (.k (.fn 24 [] [])) [(.sl [.a, .a, .b])])) (Option.some [.b, .a, .b])), (.op Option.none (.pure 2 (vMove (.sl [.b, .a, .b]))) (Option.some [.d, .d, .a]))]) c15_11)
noncomputable def c15_36 : EC := (.cond (.sl [.a, .b, .a, .a]) .skip (.exit 3))
noncomputable def c15_42 : EC := (.seq (.drawn [(.op Option.none (.look 8 (lLoad (.sl [.b, .a]) 5 Bool.true)) (Option.some [.a, .c, .c, .a])), (.op Option.none (.pure 1 (vMove (.sl [.a]))) (Option.some [.b, .c, .c, .a])), (.op Option.none (.pure 1 (vMove (.sl [.a, .b]))) (Option.some [.c, .c, .c, .a])), (.op Option.none (.pure 1 (vMove (.sl [.b, .b]))) (Option.some [.d, .c, .c, .a])), (.op Option.none (.pure 20 (vIndexAddr 1 (.sl [.c, .c, .c, .a]) (.sl [.d, .c, .c, .a]))) (Option.some [.a, .d, .c, .a])), (.op Option.none (.look 8 (lLoad (.sl [.a, .d, .c, .a]) 1 Bool.false)) (Option.some [.b, .d, .c, .a])), (.op Option.none (.pure 23 (vLenS (.sl [.b, .d, .c, .a]))) (Option.some [.c, .d, .c, .a])), (.op Option.none (.pure 11 (vBin .no .add (.sl [.b, .c, .c, .a]) (.sl [.c, .d, .c, .a]))) (Option.some [.d, .d, .c, .a])), (.op Option.none (.pure 6 (vBuild [(.int .i64 (.ofNat 0)), (.str ⟨#[]⟩), (.int .i64 (.ofNat 0)), (.int .i64 (.ofNat 0)), (.bool Bool.false), (.int .i64 (.ofNat 0))] [(0, (5, (.sl [.a, .c, .c, .a]))), (5, (1, (.sl [.d, .d, .c, .a])))])) (Option.some [.a, .a, .d, .a])), (.chk Option.none (.look 8 (lLoad (.sl [.b, .a]) 5 Bool.true)) (Option.some [.a, .c, .c, .a])), (.chk Option.none (.pure 1 (vMove (.sl [.a]))) (Option.some [.b, .c, .c, .a])), (.chk Option.none (.pure 1 (vMove (.sl [.a, .b]))) (Option.some [.c, .c, .c, .a])), (.chk Option.none (.pure 1 (vMove (.sl [.b, .b]))) (Option.some [.d, .c, .c, .a])), (.chk Option.none (.pure 20 (vIndexAddr 1 (.sl [.c, .c, .c, .a]) (.sl [.d, .c, .c, .a]))) (Option.some [.a, .d, .c, .a])), (.chk Option.none (.look 8 (lLoad (.sl [.a, .d, .c, .a]) 1 Bool.false)) (Option.some [.b, .d, .c, .a])), (.chk Option.none (.pure 23 (vLenS (.sl [.b, .d, .c, .a]))) (Option.some [.c, .d, .c, .a])), (.chk Option.none (.pure 11 (vBin .no .add (.sl [.b, .c, .c, .a]) (.sl [.c, .d, .c, .a]))) (Option.some [.d, .d, .c, .a])), (.chk Option.none (.pure 6 (vBuild [(.int .i64 (.ofNat 0)), (.str ⟨#[]⟩), (.int .i64 (.ofNat 0)), (.int .i64 (.ofNat 0)), (.bool Bool.false), (.int .i64 (.ofNat 0))] [(0, (5, (.sl [.a, .c, .c, .a]))), (5, (1, (.sl [.d, .d, .c, .a])))])) (Option.some [.a, .a, .d, .a])), (.op Option.none (.eff (hStore (.sl [.d]) (.sl [.a, .a, .d, .a]) 6)) Option.none)] [[.a, .c, .c, .a], [.b, .c, .c, .a], [.c, .c, .c, .a], [.d, .c, .c, .a], [.a, .d, .c, .a], [.b, .d, .c, .a], [.c, .d, .c, .a], [.d, .d, .c, .a], [.a, .a, .d, .a]]) .ret)
noncomputable def c15_41 : EC := (.seq (.steps [(.op Option.none (.pure 1 (vMove (.sl [.a, .b]))) (Option.some [.d, .a, .c, .a])), (.op Option.none (.pure 1 (vMove (.sl [.b, .b]))) (Option.some [.a, .b, .c, .a])), (.op Option.none (.pure 20 (vIndexAddr 1 (.sl [.d, .a, .c, .a]) (.sl [.a, .b, .c, .a]))) (Option.some [.b, .b, .c, .a])), (.op Option.none (.look 8 (lLoad (.sl [.b, .b, .c, .a]) 1 Bool.false)) (Option.some [.c, .b, .c, .a])), (.op Option.none (.pure 18 (vFieldAddr (.sl [.b, .a]) 1)) (Option.some [.d, .b, .c, .a])), (.op Option.none (.eff (hStore (.sl [.d, .b, .c, .a]) (.sl [.c, .b, .c, .a]) 1)) Option.none)]) c15_42)
noncomputable def c15_40 : EC := (.seq (.steps [(.op Option.none (.pure 18 (vFieldAddr (.sl [.b, .a]) 0)) (Option.some [.c, .a, .c, .a])), (.op Option.none (.eff (hStore (.sl [.c, .a, .c, .a]) (.k (.int .i64 (.ofNat 5))) 1)) Option.none)]) c15_41)
noncomputable def c15_39 : EC := (.cond (.sl [.b, .a, .c, .a]) c15_40 .skip)
noncomputable def c15_38 : EC := (.seq (.drawn [(.op Option.none (.pure 1 (vMove (.sl [.a]))) (Option.some [.d, .b, .a, .a])), (.op Option.none (.pure 1 (vMove (.sl [.a, .b]))) (Option.some [.a, .c, .a, .a])), (.op Option.none (.pure 1 (vMove (.sl [.b, .b]))) (Option.some [.b, .c, .a, .a])), (.op Option.none (.pure 20 (vIndexAddr 1 (.sl [.a, .c, .a, .a]) (.sl [.b, .c, .a, .a]))) (Option.some [.c, .c, .a, .a])), (.op Option.none (.look 8 (lLoad (.sl [.c, .c, .a, .a]) 1 Bool.false)) (Option.some [.d, .c, .a, .a])), (.op Option.none (.pure 23 (vLenS (.sl [.d, .c, .a, .a]))) (Option.some [.a, .d, .a, .a])), (.op Option.none (.pure 11 (vBin .no .add (.sl [.d, .b, .a, .a]) (.sl [.a, .d, .a, .a]))) (Option.some [.b, .d, .a, .a])), (.op Option.none (.pure 1 (vMove (.sl []))) (Option.some [.c, .d, .a, .a])), (.op Option.none (.pure 23 (vLenS (.sl [.c, .d, .a, .a]))) (Option.some [.d, .d, .a, .a])), (.op Option.none (.pure 11 (vBin .no .leq (.sl [.b, .d, .a, .a]) (.sl [.d, .d, .a, .a]))) (Option.some [.a, .a, .b, .a])), (.op Option.none (.pure 1 (vMove (.sl [.a, .a, .b, .a]))) (Option.some [.b, .a, .b, .a])), (.op (Option.some ([.b, .a, .b, .a], Bool.true)) (.pure 1 (vMove (.sl []))) (Option.some [.c, .a, .b, .a])), (.op (Option.some ([.b, .a, .b, .a], Bool.true)) (.pure 1 (vMove (.sl [.a]))) (Option.some [.d, .a, .b, .a])), (.op (Option.some ([.b, .a, .b, .a], Bool.true)) (.pure 1 (vMove (.sl [.a]))) (Option.some [.a, .b, .b, .a])), (.op (Option.some ([.b, .a, .b, .a], Bool.true)) (.pure 1 (vMove (.sl [.a, .b]))) (Option.some [.b, .b, .b, .a])), (.op (Option.some ([.b, .a, .b, .a], Bool.true)) (.pure 1 (vMove (.sl [.b, .b]))) (Option.some [.c, .b, .b, .a])), (.op (Option.some ([.b, .a, .b, .a], Bool.true)) (.pure 20 (vIndexAddr 1 (.sl [.b, .b, .b, .a]) (.sl [.c, .b, .b, .a]))) (Option.some [.d, .b, .b, .a])), (.op (Option.some ([.b, .a, .b, .a], Bool.true)) (.look 8 (lLoad (.sl [.d, .b, .b, .a]) 1 Bool.false)) (Option.some [.a, .c, .b, .a])), (.op (Option.some ([.b, .a, .b, .a], Bool.true)) (.pure 23 (vLenS (.sl [.a, .c, .b, .a]))) (Option.some [.b, .c, .b, .a])), (.op (Option.some ([.b, .a, .b, .a], Bool.true)) (.pure 11 (vBin .no .add (.sl [.a, .b, .b, .a]) (.sl [.b, .c, .b, .a]))) (Option.some [.c, .c, .b, .a])), (.op (Option.some ([.b, .a, .b, .a], Bool.true)) (.pure 17 (vSliceS (.sl [.c, .a, .b, .a]) (Option.some (.sl [.d, .a, .b, .a])) (Option.some (.sl [.c, .c, .b, .a])))) (Option.some [.d, .c, .b, .a])), (.op (Option.some ([.b, .a, .b, .a], Bool.true)) (.pure 1 (vMove (.sl [.a, .b]))) (Option.some [.a, .d, .b, .a])), (.op (Option.some ([.b, .a, .b, .a], Bool.true)) (.pure 1 (vMove (.sl [.b, .b]))) (Option.some [.b, .d, .b, .a])), (.op (Option.some ([.b, .a, .b, .a], Bool.true)) (.pure 20 (vIndexAddr 1 (.sl [.a, .d, .b, .a]) (.sl [.b, .d, .b, .a]))) (Option.some [.c, .d, .b, .a])), (.op (Option.some ([.b, .a, .b, .a], Bool.true)) (.look 8 (lLoad (.sl [.c, .d, .b, .a]) 1 Bool.false)) (Option.some [.d, .d, .b, .a])), (.op (Option.some ([.b, .a, .b, .a], Bool.true)) (.pure 11 (vBin .no .eql (.sl [.d, .c, .b, .a]) (.sl [.d, .d, .b, .a]))) (Option.some [.a, .a, .c, .a])), (.op Option.none (.pure 3 (vPick (.sl [.b, .a, .b, .a]) (.sl [.a, .a, .c, .a]) (.k (.bool Bool.false)))) (Option.some [.b, .a, .c, .a])), (.chk Option.none (.pure 1 (vMove (.sl [.a]))) (Option.some [.d, .b, .a, .a])), (.chk Option.none (.pure 1 (vMove (.sl [.a, .b]))) (Option.some [.a, .c, .a, .a])), (.chk Option.none (.pure 1 (vMove (.sl [.b, .b]))) (Option.some [.b, .c, .a, .a])), (.chk Option.none (.pure 20 (vIndexAddr 1 (.sl [.a, .c, .a, .a]) (.sl [.b, .c, .a, .a]))) (Option.some [.c, .c, .a, .a])), (.chk Option.none (.look 8 (lLoad (.sl [.c, .c, .a, .a]) 1 Bool.false)) (Option.some [.d, .c, .a, .a])), (.chk Option.none (.pure 23 (vLenS (.sl [.d, .c, .a, .a]))) (Option.some [.a, .d, .a, .a])), (.chk Option.none (.pure 11 (vBin .no .add (.sl [.d, .b, .a, .a]) (.sl [.a, .d, .a, .a]))) (Option.some [.b, .d, .a, .a])), (.chk Option.none (.pure 1 (vMove (.sl []))) (Option.some [.c, .d, .a, .a])), (.chk Option.none (.pure 23 (vLenS (.sl [.c, .d, .a, .a]))) (Option.some [.d, .d, .a, .a])), (.chk Option.none (.pure 11 (vBin .no .leq (.sl [.b, .d, .a, .a]) (.sl [.d, .d, .a, .a]))) (Option.some [.a, .a, .b, .a])), (.chk Option.none (.pure 1 (vMove (.sl [.a, .a, .b, .a]))) (Option.some [.b, .a, .b, .a])), (.chk (Option.some ([.b, .a, .b, .a], Bool.true)) (.pure 1 (vMove (.sl []))) (Option.some [.c, .a, .b, .a])), (.chk (Option.some ([.b, .a, .b, .a], Bool.true)) (.pure 1 (vMove (.sl [.a]))) (Option.some [.d, .a, .b, .a])), (.chk (Option.some ([.b, .a, .b, .a], Bool.true)) (.pure 1 (vMove (.sl [.a]))) (Option.some [.a, .b, .b, .a])), (.chk (Option.some ([.b, .a, .b, .a], Bool.true)) (.pure 1 (vMove (.sl [.a, .b]))) (Option.some [.b, .b, .b, .a])), (.chk (Option.some ([.b, .a, .b, .a], Bool.true)) (.pure 1 (vMove (.sl [.b, .b]))) (Option.some [.c, .b, .b, .a])), (.chk (Option.some ([.b, .a, .b, .a], Bool.true)) (.pure 20 (vIndexAddr 1 (.sl [.b, .b, .b, .a]) (.sl [.c, .b, .b, .a]))) (Option.some [.d, .b, .b, .a])), (.chk (Option.some ([.b, .a, .b, .a], Bool.true)) (.look 8 (lLoad (.sl [.d, .b, .b, .a]) 1 Bool.false)) (Option.some [.a, .c, .b, .a])), (.chk (Option.some ([.b, .a, .b, .a], Bool.true)) (.pure 23 (vLenS (.sl [.a, .c, .b, .a]))) (Option.some [.b, .c, .b, .a])), (.chk (Option.some ([.b, .a, .b, .a], Bool.true)) (.pure 11 (vBin .no .add (.sl [.a, .b, .b, .a]) (.sl [.b, .c, .b, .a]))) (Option.some [.c, .c, .b, .a])), (.chk (Option.some ([.b, .a, .b, .a], Bool.true)) (.pure 17 (vSliceS (.sl [.c, .a, .b, .a]) (Option.some (.sl [.d, .a, .b, .a])) (Option.some (.sl [.c, .c, .b, .a])))) (Option.some [.d, .c, .b, .a])), (.chk (Option.some ([.b, .a, .b, .a], Bool.true)) (.pure 1 (vMove (.sl [.a, .b]))) (Option.some [.a, .d, .b, .a])), (.chk (Option.some ([.b, .a, .b, .a], Bool.true)) (.pure 1 (vMove (.sl [.b, .b]))) (Option.some [.b, .d, .b, .a])), (.chk (Option.some ([.b, .a, .b, .a], Bool.true)) (.pure 20 (vIndexAddr 1 (.sl [.a, .d, .b, .a]) (.sl [.b, .d, .b, .a]))) (Option.some [.c, .d, .b, .a])), (.chk (Option.some ([.b, .a, .b, .a], Bool.true)) (.look 8 (lLoad (.sl [.c, .d, .b, .a]) 1 Bool.false)) (Option.some [.d, .d, .b, .a])), (.chk (Option.some ([.b, .a, .b, .a], Bool.true)) (.pure 11 (vBin .no .eql (.sl [.d, .c, .b, .a]) (.sl [.d, .d, .b, .a]))) (Option.some [.a, .a, .c, .a])), (.chk Option.none (.pure 3 (vPick (.sl [.b, .a, .b, .a]) (.sl [.a, .a, .c, .a]) (.k (.bool Bool.false)))) (Option.some [.b, .a, .c, .a]))] [[.d, .b, .a, .a], [.a, .c, .a, .a], [.b, .c, .a, .a], [.c, .c, .a, .a], [.d, .c, .a, .a], [.a, .d, .a, .a], [.b, .d, .a, .a], [.c, .d, .a, .a], [.d, .d, .a, .a], [.a, .a, .b, .a], [.b, .a, .b, .a], [.c, .a, .b, .a], [.d, .a, .b, .a], [.a, .b, .b, .a], [.b, .b, .b, .a], [.c, .b, .b, .a], [.d, .b, .b, .a], [.a, .c, .b, .a], [.b, .c, .b, .a], [.c, .c, .b, .a], [.d, .c, .b, .a], [.a, .d, .b, .a], [.b, .d, .b, .a], [.c, .d, .b, .a], [.d, .d, .b, .a], [.a, .a, .c, .a], [.b, .a, .c, .a]]) c15_39)
noncomputable def c15_43 : EC := (.steps [(.op Option.none (.pure 1 (vMove (.sl [.b, .b]))) (Option.some [.b, .b, .a, .a])), (.op Option.none (.pure 11 (vBin .no .add (.sl [.b, .b, .a, .a]) (.k (.int .i64 (.ofNat 1))))) (Option.some [.c, .b, .a, .a])), (.op Option.none (.pure 2 (vMove (.sl [.c, .b, .a, .a]))) (Option.some [.b, .b]))])
noncomputable def c15_37 : EC := (.seq (.block 4 c15_38) c15_43)
noncomputable def c15_35 : EC := (.seq (.seq (.steps [(.op Option.none (.pure 1 (vMove (.sl [.b, .b]))) (Option.some [.b, .a, .a, .a])), (.op Option.none (.pure 1 (vMove (.sl [.a, .b]))) (Option.some [.c, .a, .a, .a])), (.op Option.none (.pure 23 (vLen (.sl [.c, .a, .a, .a]))) (Option.some [.d, .a, .a, .a])), (.op Option.none (.pure 11 (vBin .no .lss (.sl [.b, .a, .a, .a]) (.sl [.d, .a, .a, .a]))) (Option.some [.a, .b, .a, .a]))]) c15_36) c15_37)
noncomputable def c15_34 : EC := (.loop c15_35)
noncomputable def c15_33 : EC := (.block 3 c15_34)
noncomputable def c15_45 : EC := (.seq (.steps [(.op Option.none (.look 8 (lLoad (.sl [.b, .a]) 5 Bool.true)) (Option.some [.c, .a, .d, .a])), (.op Option.none (.pure 1 (vMove (.sl [.a]))) (Option.some [.d, .a, .d, .a])), (.op Option.none (.pure 6 (vBuild [(.int .i64 (.ofNat 0)), (.str ⟨#[]⟩), (.int .i64 (.ofNat 0)), (.int .i64 (.ofNat 0)), (.bool Bool.false), (.int .i64 (.ofNat 0))] [(0, (5, (.sl [.c, .a, .d, .a]))), (5, (1, (.sl [.d, .a, .d, .a])))])) (Option.some [.a, .b, .d, .a])), (.op Option.none (.eff (hStore (.sl [.d]) (.sl [.a, .b, .d, .a]) 6)) Option.none)]) .ret)
noncomputable def c15_44 : EC := (.seq (.steps [(.op Option.none (.pure 18 (vFieldAddr (.sl [.b, .a]) 0)) (Option.some [.b, .a, .d, .a])), (.op Option.none (.eff (hStore (.sl [.b, .a, .d, .a]) (.k (.int .i64 (.ofNat 6))) 1)) Option.none)]) c15_45)
noncomputable def c15_32 : EC := (.seq (.seq (.steps [(.op Option.none (.pure 2 (vMove (.k (.int .i64 (.ofNat 0))))) (Option.some [.b, .b]))]) c15_33) c15_44)
noncomputable def c15_31 : EC := (.seq (.steps [(.op Option.none (.eff (hCall (.k (.fn 28 [] [])) [])) (Option.some [.a, .a, .a, .a])), (.op Option.none (.pure 2 (vMove (.sl [.a, .a, .a, .a]))) (Option.some [.a, .b]))]) c15_32)
noncomputable def c15_9 : EC := (.seq (.block 0 c15_10) c15_31)
noncomputable def c15_8 : EC := (.seq (.steps [(.op Option.none (.pure 1 (vMove (.sl []))) (Option.some [.a, .d, .a])), (.op Option.none (.pure 1 (vMove (.sl [.a]))) (Option.some [.b, .d, .a])), (.op Option.none (.pure 21 (vIndex (.sl [.a, .d, .a]) (.sl [.b, .d, .a]))) (Option.some [.c, .d, .a])), (.op Option.none (.pure 2 (vMove (.sl [.c, .d, .a]))) (Option.some [.c, .a]))]) c15_9)
noncomputable def c15_4 : EC := (.seq (.seq (.steps [(.op Option.none (.pure 1 (vMove (.sl [.a]))) (Option.some [.a, .b, .a])), (.op Option.none (.pure 1 (vMove (.sl []))) (Option.some [.b, .b, .a])), (.op Option.none (.pure 23 (vLenS (.sl [.b, .b, .a]))) (Option.some [.c, .b, .a])), (.op Option.none (.pure 11 (vBin .no .geq (.sl [.a, .b, .a]) (.sl [.c, .b, .a]))) (Option.some [.d, .b, .a]))]) c15_5) c15_8)
noncomputable def c15_3 : EC := (.seq (.steps [(.op Option.none (.pure 1 (vMove (.sl [.a]))) (Option.some [.b, .a, .a])), (.op Option.none (.pure 1 (vMove (.sl [.a, .a]))) (Option.some [.c, .a, .a])), (.op Option.none (.pure 6 (vBuild [(.int .i64 (.ofNat 0)), (.str ⟨#[]⟩), (.int .i64 (.ofNat 0)), (.int .i64 (.ofNat 0)), (.bool Bool.false)] [(3, (1, (.sl [.b, .a, .a]))), (4, (1, (.sl [.c, .a, .a])))])) (Option.some [.d, .a, .a])), (.op Option.none (.eff (bLoc [(.int .i64 (.ofNat 0)), (.str ⟨#[]⟩), (.int .i64 (.ofNat 0)), (.int .i64 (.ofNat 0)), (.bool Bool.false)] [.b, .a])) (Option.some [.b, .a])), (.op Option.none (.eff (hStore (.sl [.b, .a]) (.sl [.d, .a, .a]) 5)) Option.none)]) c15_4)
noncomputable def c15_2 : EC := (.seq (.steps [(.op Option.none (.pure 1 (vMove (.sl []))) (Option.some [.a, .d])), (.op Option.none (.pure 1 (vMove (.sl [.a]))) (Option.some [.b, .d])), (.op Option.none (.eff (hCall (.k (.fn 23 [] [])) [(.sl [.a, .d]), (.sl [.b, .d])])) (Option.some [.c, .d])), (.op Option.none (.pure 1 (vMove (.sl [.c, .d]))) (Option.some [.d, .c])), (.op Option.none (.pure 22 (vExtract (.sl [.d, .c]) 0)) (Option.some [.d, .d])), (.op Option.none (.pure 22 (vExtract (.sl [.d, .c]) 1)) (Option.some [.a, .a, .a])), (.op Option.none (.pure 2 (vMove (.sl [.d, .d]))) (Option.some [.a])), (.op Option.none (.pure 2 (vMove (.sl [.a, .a, .a]))) (Option.some [.a, .a]))]) c15_3)
noncomputable def c15_1 : EC := (.seq (.steps [(.op Option.none (.pure 1 (vMove (.sl [.a]))) (Option.some [.c, .b])), (.op Option.none (.pure 1 (vMove (.sl []))) (Option.some [.d, .b])), (.op Option.none (.pure 23 (vLenS (.sl [.d, .b]))) (Option.some [.a, .c])), (.op Option.none (.pure 25 (vMinMax Bool.false (.sl [.c, .b]) (.sl [.a, .c]))) (Option.some [.b, .c])), (.op Option.none (.pure 25 (vMinMax Bool.true (.k (.int .i64 (.ofNat 0))) (.sl [.b, .c]))) (Option.some [.c, .c])), (.op Option.none (.pure 2 (vMove (.sl [.c, .c]))) (Option.some [.a]))]) c15_2)
noncomputable def c15 : EF := ⟨(.seq (.steps [(.op Option.none (.eff (bLoc [(.int .i64 (.ofNat 0)), (.str ⟨#[]⟩), (.int .i64 (.ofNat 0)), (.int .i64 (.ofNat 0)), (.bool Bool.false), (.int .i64 (.ofNat 0))] [.d])) (Option.some [.d]))]) c15_1), [(.cell (.sl [.d]) 6 Bool.true)], Bool.false⟩
theorem c15_ok : compF Tryd.prog 15 = some c15 := by kernel_rfl
noncomputable def LF15 : FuncId → Option EF := lookF [(15, c15)]
theorem FF15 : LF15 15 = some c15 := rfl

section
variable {call : Calls'} (k24 : ∀ c h, call 24 [.int .u8 (UInt8.toNat c : Int)] h = .ret (.bool (digB c)) h) (k27 : ∀ c h, call 27 [.int .u8 (UInt8.toNat c : Int)] h = .ret (.bool (letB c)) h) {l : List UInt8} {a m g g' : Nat} {b : Bool} (hl : l.length ≤ 1000000)
include k24 k27 hl
theorem lt_one (fuel i : Nat) (h : H) (fr : FT) (hi : i < l.length) (hw : wordB l[i] = true) (e : Ev.get [] fr = some (.v (T l)) ∧ Ev.get [.a] fr = some (.v (.int .i64 (a : Int))) ∧ Ev.get [.b, .a] fr = some (.box g [.int .i64 0, .str ⟨#[]⟩, .int .i64 0, .int .i64 (m : Int), .bool b]) ∧ Ev.get [.d] fr = some (.box g' Z6)) (e2 : Ev.get [.d, .a] fr = some (.v (.int .i64 (i : Int)))) :
    ∃ fr', evC call fuel c15_21 fr h = .norm fr' h ∧ (Ev.get [] fr' = some (.v (T l)) ∧ Ev.get [.a] fr' = some (.v (.int .i64 (a : Int))) ∧ Ev.get [.b, .a] fr' = some (.box g [.int .i64 0, .str ⟨#[]⟩, .int .i64 0, .int .i64 (m : Int), .bool b]) ∧ Ev.get [.d] fr' = some (.box g' Z6)) ∧ Ev.get [.d, .a] fr' = some (.v (.int .i64 ((i + 1 : Nat) : Int))) := by
  obtain ⟨e0, e1, e3, e4⟩ := e
  have w : wrapF .i64 ((i : Int) + 1) = (i : Int) + 1 := wrap64 (by omega) (by omega)
  cases h1 : letB l[i]
  · have h2 : digB l[i] = true := by simpa [wordB, h1] using hw
    refine ⟨?fr, ?e, ⟨?_, ?_, ?_, ?_⟩, ?_⟩
    case e =>
      simp [c15_21, c15_22, c15_23, c15_24, gs, e0, e1, e2, e3, e4, hi, k24, k27, h1, h2, w]
      rfl
    all_goals simp [gs, e0, e1, e2, e3, e4]
  · refine ⟨?fr2, ?e2, ⟨?_, ?_, ?_, ?_⟩, ?_⟩
    case e2 =>
      simp [c15_21, c15_22, c15_23, c15_24, gs, e0, e1, e2, e3, e4, hi, k24, k27, h1, w]
      rfl
    all_goals simp [gs, e0, e1, e2, e3, e4]
theorem lt_end (fuel i : Nat) (h : H) (fr : FT) (hw : ∀ hi : i < l.length, wordB l[i] = false) (e : Ev.get [] fr = some (.v (T l)) ∧ Ev.get [.a] fr = some (.v (.int .i64 (a : Int))) ∧ Ev.get [.b, .a] fr = some (.box g [.int .i64 0, .str ⟨#[]⟩, .int .i64 0, .int .i64 (m : Int), .bool b]) ∧ Ev.get [.d] fr = some (.box g' Z6)) (e2 : Ev.get [.d, .a] fr = some (.v (.int .i64 (i : Int)))) :
    ∃ fr', evC call fuel c15_21 fr h = .exit 1 fr' h ∧ (Ev.get [] fr' = some (.v (T l)) ∧ Ev.get [.a] fr' = some (.v (.int .i64 (a : Int))) ∧ Ev.get [.b, .a] fr' = some (.box g [.int .i64 0, .str ⟨#[]⟩, .int .i64 0, .int .i64 (m : Int), .bool b]) ∧ Ev.get [.d] fr' = some (.box g' Z6)) ∧ Ev.get [.d, .a] fr' = some (.v (.int .i64 (i : Int))) := by
  obtain ⟨e0, e1, e3, e4⟩ := e
  by_cases hi : i < l.length
  · have hw := hw hi
    have h1 : letB l[i] = false := by cases h1 : letB l[i] <;> simp [wordB, h1] at hw ⊢
    have h2 : digB l[i] = false := by simpa [wordB, h1] using hw
    refine ⟨?fr, ?e, ⟨?_, ?_, ?_, ?_⟩, ?_⟩
    case e =>
      simp [c15_21, c15_22, c15_23, c15_24, gs, e0, e1, e2, e3, e4, hi, k24, k27, h1, h2]
      rfl
    all_goals simp [gs, e0, e1, e2, e3, e4]
  · refine ⟨?fr2, ?e2, ⟨?_, ?_, ?_, ?_⟩, ?_⟩
    case e2 =>
      simp [c15_21, c15_22, c15_23, c15_24, gs, e0, e1, e2, e3, e4, hi, k24, k27]
      rfl
    all_goals simp [gs, e0, e1, e2, e3, e4]
theorem lt_all (fuel : Nat) (h : H) : ∀ (k i : Nat) (fr : FT) (j : Nat), l.length = i + k → (Ev.get [] fr = some (.v (T l)) ∧ Ev.get [.a] fr = some (.v (.int .i64 (a : Int))) ∧ Ev.get [.b, .a] fr = some (.box g [.int .i64 0, .str ⟨#[]⟩, .int .i64 0, .int .i64 (m : Int), .bool b]) ∧ Ev.get [.d] fr = some (.box g' Z6)) → Ev.get [.d, .a] fr = some (.v (.int .i64 (i : Int))) →
    ∃ fr', loopF call fuel c15_21 (k + 1 + j) fr h = .exit 1 fr' h ∧ (Ev.get [] fr' = some (.v (T l)) ∧ Ev.get [.a] fr' = some (.v (.int .i64 (a : Int))) ∧ Ev.get [.b, .a] fr' = some (.box g [.int .i64 0, .str ⟨#[]⟩, .int .i64 0, .int .i64 (m : Int), .bool b]) ∧ Ev.get [.d] fr' = some (.box g' Z6)) ∧ Ev.get [.d, .a] fr' = some (.v (.int .i64 ((i + ((l.drop i).takeWhile wordB).length : Nat) : Int)))
  | 0, i, fr, j, hk, e, f0 => by
    obtain ⟨fr', h1, h2, h3⟩ := lt_end (call := call) k24 k27 hl fuel i h fr (fun hi => by omega) e f0
    refine ⟨fr', by rw [show 0 + 1 + j = j + 1 by omega, loopF_succ, h1], h2, ?_⟩
    rw [List.drop_eq_nil_of_le (by omega)]; exact h3
  | k + 1, i, fr, j, hk, e, f0 => by
    have hi : i < l.length := by omega
    have hdr : l.drop i = l[i] :: l.drop (i + 1) := List.drop_eq_getElem_cons hi
    rw [show k + 1 + 1 + j = (k + 1 + j) + 1 by omega, loopF_succ]
    cases hd : wordB l[i]
    · obtain ⟨fr', h1, h2, h3⟩ := lt_end (call := call) k24 k27 hl fuel i h fr (fun _ => hd) e f0
      refine ⟨fr', by rw [h1], h2, ?_⟩
      rw [hdr, List.takeWhile_cons, hd]; exact h3
    · obtain ⟨fr1, h1, a0, a1⟩ := lt_one (call := call) k24 k27 hl fuel i h fr hi hd e f0
      obtain ⟨fr', h2, h3, h4⟩ := lt_all fuel h k (i + 1) fr1 j (by omega) a0 a1
      refine ⟨fr', by rw [h1]; exact h2, h3, ?_⟩
      rw [hdr, List.takeWhile_cons, hd, h4]
      simp only [if_true, List.length_cons]
      congr 3; omega
end
section
variable {call : Calls'} {p : Path} {B : Blk} {L : List (List UInt8)} {l : List UInt8} {a m g g' : Nat} {b : Bool} {h : H} (hb : Ev.get p h.t = some B) (hm : B.map = false) (hk : B.k = 1) (hL : ∀ (j : Nat) (hj : j < L.length), Ev.get (pathOf j) B.rows = some [T L[j]]) (hl : L.length ≤ 1000000) (hx : ∀ x ∈ L, x.length ≤ 1000) (ha : a ≤ l.length) (hl' : l.length ≤ 1000000)
include hb hm hk hL hl hx ha hl'
theorem sg_one (fuel i : Nat) (fr : FT) (hi : i < L.length) (he : preB (l.drop a) L[i] = false) (e : Ev.get [] fr = some (.v (T l)) ∧ Ev.get [.a] fr = some (.v (.int .i64 (a : Int))) ∧ Ev.get [.b, .a] fr = some (.box g [.int .i64 0, .str ⟨#[]⟩, .int .i64 0, .int .i64 (m : Int), .bool b]) ∧ Ev.get [.d] fr = some (.box g' Z6)) (es : Ev.get [.a, .b] fr = some (.v (.sl p 1 0 L.length))) (e2 : Ev.get [.b, .b] fr = some (.v (.int .i64 (i : Int)))) :
    ∃ fr', evC call fuel c15_35 fr h = .norm fr' h ∧ (Ev.get [] fr' = some (.v (T l)) ∧ Ev.get [.a] fr' = some (.v (.int .i64 (a : Int))) ∧ Ev.get [.b, .a] fr' = some (.box g [.int .i64 0, .str ⟨#[]⟩, .int .i64 0, .int .i64 (m : Int), .bool b]) ∧ Ev.get [.d] fr' = some (.box g' Z6)) ∧ Ev.get [.a, .b] fr' = some (.v (.sl p 1 0 L.length)) ∧ Ev.get [.b, .b] fr' = some (.v (.int .i64 ((i + 1 : Nat) : Int))) := by
  obtain ⟨e0, e1, e3, e4⟩ := e
  have hr := hL i hi
  have hxi := hx _ (List.getElem_mem hi)
  have w : wrapF .i64 ((i : Int) + 1) = (i : Int) + 1 := wrap64 (by omega) (by omega)
  generalize L[i] = x at *
  obtain ⟨E, hE⟩ : ∃ E, E = a + x.length := ⟨_, rfl⟩
  have w2 : wrapF .i64 ((a : Int) + (x.length : Int)) = (E : Int) := by rw [hE]; exact wrap64 (by omega) (by omega)
  by_cases h1 : E ≤ l.length
  · have h1' : ¬ (l.length : Int) < (E : Int) := by omega
    have hEa : a ≤ E := by omega
    have hs : sEq ⟨((l.drop a).take (E - a)).toArray⟩ ⟨x.toArray⟩ = false := by
      have hp : x.length ≤ (l.drop a).length := by rw [List.length_drop]; omega
      rw [hE, Nat.add_sub_cancel_left]
      unfold preB at he
      rw [decide_eq_true hp, Bool.true_and] at he
      simpa [sEq] using he
    refine ⟨?fr, ?e, ⟨?_, ?_, ?_, ?_⟩, ?_, ?_⟩
    case e =>
      simp [c15_35, c15_36, c15_37, c15_38, c15_39, c15_40, c15_41, c15_42, c15_43, gs, e0, e1, e2, e3, e4, es, hi, hb, hm, hk, hr, w, w2, h1, h1', hEa, hs, vSliceS, gvo, sliceS, bnd, clrOut]
      rfl
    all_goals simp [gs, e0, e1, e2, e3, e4, es]
  · have h1' : (l.length : Int) < (E : Int) := by omega
    refine ⟨?fr2, ?e2, ⟨?_, ?_, ?_, ?_⟩, ?_, ?_⟩
    case e2 =>
      simp [c15_35, c15_36, c15_37, c15_38, c15_39, c15_40, c15_41, c15_42, c15_43, gs, e0, e1, e2, e3, e4, es, hi, hb, hm, hk, hr, w, w2, h1, h1', clrOut]
      rfl
    all_goals simp [gs, e0, e1, e2, e3, e4, es]
theorem sg_hit (fuel i : Nat) (fr : FT) (hi : i < L.length) (he : preB (l.drop a) L[i] = true) (e : Ev.get [] fr = some (.v (T l)) ∧ Ev.get [.a] fr = some (.v (.int .i64 (a : Int))) ∧ Ev.get [.b, .a] fr = some (.box g [.int .i64 0, .str ⟨#[]⟩, .int .i64 0, .int .i64 (m : Int), .bool b]) ∧ Ev.get [.d] fr = some (.box g' Z6)) (es : Ev.get [.a, .b] fr = some (.v (.sl p 1 0 L.length))) (e2 : Ev.get [.b, .b] fr = some (.v (.int .i64 (i : Int)))) :
    ∃ fr', evC call fuel c15_35 fr h = .ret fr' h ∧ Ev.get [.d] fr' = some (.box g' [.int .i64 5, T L[i], .int .i64 0, .int .i64 (m : Int), .bool b, .int .i64 ((a + (L[i]).length : Nat) : Int)]) := by
  obtain ⟨e0, e1, e3, e4⟩ := e
  have hr := hL i hi
  have hxi := hx _ (List.getElem_mem hi)
  have w : wrapF .i64 ((i : Int) + 1) = (i : Int) + 1 := wrap64 (by omega) (by omega)
  generalize L[i] = x at *
  obtain ⟨E, hE⟩ : ∃ E, E = a + x.length := ⟨_, rfl⟩
  have w2 : wrapF .i64 ((a : Int) + (x.length : Int)) = (E : Int) := by rw [hE]; exact wrap64 (by omega) (by omega)
  have hp : x.length ≤ (l.drop a).length := by
    unfold preB at he
    rw [Bool.and_eq_true, decide_eq_true_eq] at he
    exact he.1
  have hp' : x.length ≤ l.length - a := by simpa using hp
  have h1 : E ≤ l.length := by omega
  have h1' : ¬ (l.length : Int) < (E : Int) := by omega
  have hEa : a ≤ E := by omega
  have hs : sEq ⟨((l.drop a).take (E - a)).toArray⟩ ⟨x.toArray⟩ = true := by
    rw [hE, Nat.add_sub_cancel_left]
    unfold preB at he
    rw [decide_eq_true hp, Bool.true_and] at he
    simpa [sEq] using he
  cases b
  · refine ⟨?fr1, ?ee1, ?_⟩
    case ee1 =>
      simp [c15_35, c15_36, c15_37, c15_38, c15_39, c15_40, c15_41, c15_42, c15_43, gs, e0, e1, e2, e3, e4, es, hi, hb, hm, hk, hr, w, w2, h1, h1', hEa, hs, vSliceS, gvo, sliceS, bnd, clrOut]
      rfl
    simp [gs, e0, e1, e2, e3, e4, es]
    try omega
  · refine ⟨?fr2, ?ee2, ?_⟩
    case ee2 =>
      simp [c15_35, c15_36, c15_37, c15_38, c15_39, c15_40, c15_41, c15_42, c15_43, gs, e0, e1, e2, e3, e4, es, hi, hb, hm, hk, hr, w, w2, h1, h1', hEa, hs, vSliceS, gvo, sliceS, bnd, clrOut]
      rfl
    simp [gs, e0, e1, e2, e3, e4, es]
    try omega
theorem sg_end (fuel i : Nat) (fr : FT) (hi : ¬ i < L.length) (e : Ev.get [] fr = some (.v (T l)) ∧ Ev.get [.a] fr = some (.v (.int .i64 (a : Int))) ∧ Ev.get [.b, .a] fr = some (.box g [.int .i64 0, .str ⟨#[]⟩, .int .i64 0, .int .i64 (m : Int), .bool b]) ∧ Ev.get [.d] fr = some (.box g' Z6)) (es : Ev.get [.a, .b] fr = some (.v (.sl p 1 0 L.length))) (e2 : Ev.get [.b, .b] fr = some (.v (.int .i64 (i : Int)))) :
    ∃ fr', evC call fuel c15_35 fr h = .exit 3 fr' h ∧ (Ev.get [] fr' = some (.v (T l)) ∧ Ev.get [.a] fr' = some (.v (.int .i64 (a : Int))) ∧ Ev.get [.b, .a] fr' = some (.box g [.int .i64 0, .str ⟨#[]⟩, .int .i64 0, .int .i64 (m : Int), .bool b]) ∧ Ev.get [.d] fr' = some (.box g' Z6)) := by
  obtain ⟨e0, e1, e3, e4⟩ := e
  refine ⟨?fr, ?e, ⟨?_, ?_, ?_, ?_⟩⟩
  case e =>
    simp [c15_35, c15_36, c15_37, c15_38, c15_39, c15_40, c15_41, c15_42, c15_43, gs, e0, e1, e2, e3, e4, es, hi]
    rfl
  all_goals simp [gs, e0, e1, e2, e3, e4, es]
theorem sg_all (fuel : Nat) : ∀ (k i : Nat) (fr : FT) (j : Nat), L.length = i + k → (Ev.get [] fr = some (.v (T l)) ∧ Ev.get [.a] fr = some (.v (.int .i64 (a : Int))) ∧ Ev.get [.b, .a] fr = some (.box g [.int .i64 0, .str ⟨#[]⟩, .int .i64 0, .int .i64 (m : Int), .bool b]) ∧ Ev.get [.d] fr = some (.box g' Z6)) → Ev.get [.a, .b] fr = some (.v (.sl p 1 0 L.length)) → Ev.get [.b, .b] fr = some (.v (.int .i64 (i : Int))) →
    ∃ fr', (loopF call fuel c15_35 (k + 1 + j) fr h = .exit 3 fr' h ∧ (Ev.get [] fr' = some (.v (T l)) ∧ Ev.get [.a] fr' = some (.v (.int .i64 (a : Int))) ∧ Ev.get [.b, .a] fr' = some (.box g [.int .i64 0, .str ⟨#[]⟩, .int .i64 0, .int .i64 (m : Int), .bool b]) ∧ Ev.get [.d] fr' = some (.box g' Z6)) ∧ firstS (l.drop a) (L.drop i) = none) ∨
      (∃ x, loopF call fuel c15_35 (k + 1 + j) fr h = .ret fr' h ∧ firstS (l.drop a) (L.drop i) = some x ∧ Ev.get [.d] fr' = some (.box g' [.int .i64 5, T x, .int .i64 0, .int .i64 (m : Int), .bool b, .int .i64 ((a + x.length : Nat) : Int)]))
  | 0, i, fr, j, hk', e, es, e2 => by
    obtain ⟨fr', h1, h2⟩ := sg_end (call := call) hb hm hk hL hl hx ha hl' fuel i fr (by omega) e es e2
    refine ⟨fr', .inl ⟨by rw [show 0 + 1 + j = j + 1 by omega, loopF_succ, h1], h2, ?_⟩⟩
    have hd0 : L.drop i = [] := List.drop_eq_nil_of_le (by omega)
    rw [hd0]; rfl
  | k + 1, i, fr, j, hk', e, es, e2 => by
    have hi : i < L.length := by omega
    have hd : L.drop i = L[i] :: L.drop (i + 1) := List.drop_eq_getElem_cons hi
    rw [show k + 1 + 1 + j = (k + 1 + j) + 1 by omega, loopF_succ, hd, firstS_cons]
    cases he : preB (l.drop a) L[i]
    · obtain ⟨fr1, h1, a0, a1, a2⟩ := sg_one (call := call) hb hm hk hL hl hx ha hl' fuel i fr hi he e es e2
      obtain ⟨fr', h2⟩ := sg_all fuel k (i + 1) fr1 j (by omega) a0 a1 a2
      rw [h1]
      exact ⟨fr', h2⟩
    · obtain ⟨fr', h1, h2⟩ := sg_hit (call := call) hb hm hk hL hl hx ha hl' fuel i fr hi he e es e2
      exact ⟨fr', .inr ⟨L[i], by rw [h1], rfl, h2⟩⟩
end
end Go.Proofs.Lx
