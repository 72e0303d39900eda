import Derived.Test.YtfijbgpegfnlbaaDoorVaTop
set_option linter.unusedSimpArgs false
set_option linter.unusedVariables false
namespace Go.Proofs.Va
open Go.Ev
variable {call : Calls'} {h : H}
noncomputable def c8_2 : List St := [(.op Option.none (.pure 1 (vMove (.sl [.d, .d]))) (Option.some [.a, .a, .a])), (.op (Option.some ([.a, .a, .a], Bool.false)) (.pure 1 (vMove (.sl []))) (Option.some [.b, .a, .a])), (.op (Option.some ([.a, .a, .a], Bool.false)) (.pure 23 (vLenS (.sl [.b, .a, .a]))) (Option.some [.c, .a, .a])), (.op (Option.some ([.a, .a, .a], Bool.false)) (.pure 11 (vBin .no .gtr (.sl [.c, .a, .a]) (.k (.int .i64 (.ofNat 20))))) (Option.some [.d, .a, .a])), (.op Option.none (.pure 3 (vPick (.sl [.a, .a, .a]) (.k (.bool Bool.true)) (.sl [.d, .a, .a]))) (Option.some [.a, .b, .a]))]
noncomputable def c8_4 : EC := (.seq (.steps [(.op Option.none (.eff (hCall (.k (.fn 23 [] [])) [])) (Option.some [.b, .b, .a])), (.op Option.none (.pure 2 (vMove (.sl [.b, .b, .a]))) (Option.some [.b, .a]))]) .ret)
noncomputable def c8_3 : EC := (.cond (.sl [.a, .b, .a]) c8_4 .skip)
noncomputable def c8_6 : List St := [(.op Option.none (.pure 2 (vMove (.sl [.d, .c, .a]))) (Option.some [.d, .a]))]
noncomputable def c8_9 : List St := [(.op Option.none (.eff (hStore (.sl [.b, .b]) (.sl [.a, .b, .b]) 3)) Option.none), (.op Option.none (.pure 2 (vMove (.sl [.b, .b, .b]))) (Option.some [.c, .b]))]
noncomputable def c8_22 : List St := [(.chk (Option.some ([.d, .c, .c], Bool.true)) (.pure 11 (vBin .no .eql (.sl [.b, .d, .c]) (.sl [.d, .d, .c]))) (Option.some [.a, .a, .d])), (.chk Option.none (.pure 3 (vPick (.sl [.d, .c, .c]) (.sl [.a, .a, .d]) (.k (.bool Bool.false)))) (Option.some [.b, .a, .d])), (.chk Option.none (.pure 3 (vPick (.sl [.c, .a, .d]) (.sl [.d, .a, .d]) (.k (.bool Bool.false)))) (Option.some [.a, .b, .d])), (.op Option.none (.pure 2 (vMove (.sl [.a, .b, .d]))) (Option.some [.b, .a]))]
noncomputable def c8_21 : List St := ((.chk Option.none (.pure 1 (vMove (.sl [.a, .b, .c]))) (Option.some [.b, .b, .c])) :: (.chk (Option.some ([.b, .b, .c], Bool.true)) (.look 8 (lLoad (.sl [.b, .b]) 3 Bool.true)) (Option.some [.c, .b, .c])) :: (.chk (Option.some ([.b, .b, .c], Bool.true)) (.pure 18 (vFieldAddr (.sl [.d, .b]) 0)) (Option.some [.d, .b, .c])) :: (.chk (Option.some ([.b, .b, .c], Bool.true)) (.look 8 (lLoad (.sl [.d, .b, .c]) 3 Bool.true)) (Option.some [.a, .c, .c])) :: (.chk (Option.some ([.b, .b, .c], Bool.true)) (.pure 11 (vBin (.all [.int, .int, .str]) .eql (.sl [.c, .b, .c]) (.sl [.a, .c, .c]))) (Option.some [.b, .c, .c])) :: (.chk Option.none (.pure 3 (vPick (.sl [.b, .b, .c]) (.sl [.b, .c, .c]) (.k (.bool Bool.false)))) (Option.some [.c, .c, .c])) :: (.chk (Option.some ([.d, .c, .c], Bool.true)) (.pure 18 (vFieldAddr (.sl [.d, .b]) 3)) (Option.some [.c, .d, .c])) :: (.chk (Option.some ([.d, .c, .c], Bool.true)) (.look 8 (lLoad (.sl [.c, .d, .c]) 1 Bool.false)) (Option.some [.d, .d, .c])) :: c8_22)
noncomputable def c8_20 : List St := ((.chk Option.none (.look 8 (lLoad (.sl [.c, .a]) 3 Bool.true)) (Option.some [.c, .c, .b])) :: (.chk Option.none (.pure 18 (vFieldAddr (.sl [.a, .b]) 0)) (Option.some [.d, .c, .b])) :: (.chk Option.none (.look 8 (lLoad (.sl [.d, .c, .b]) 3 Bool.true)) (Option.some [.a, .d, .b])) :: (.chk Option.none (.pure 11 (vBin (.all [.int, .int, .str]) .eql (.sl [.c, .c, .b]) (.sl [.a, .d, .b]))) (Option.some [.b, .d, .b])) :: (.chk (Option.some ([.c, .d, .b], Bool.true)) (.pure 18 (vFieldAddr (.sl [.a, .b]) 3)) (Option.some [.b, .a, .c])) :: (.chk (Option.some ([.c, .d, .b], Bool.true)) (.look 8 (lLoad (.sl [.b, .a, .c]) 1 Bool.false)) (Option.some [.c, .a, .c])) :: (.chk (Option.some ([.c, .d, .b], Bool.true)) (.pure 11 (vBin .no .eql (.sl [.a, .a, .c]) (.sl [.c, .a, .c]))) (Option.some [.d, .a, .c])) :: (.chk Option.none (.pure 3 (vPick (.sl [.c, .d, .b]) (.sl [.d, .a, .c]) (.k (.bool Bool.false)))) (Option.some [.a, .b, .c])) :: c8_21)
noncomputable def c8_19 : List St := ((.chk Option.none (.pure 3 (vPick (.sl [.b, .b, .c]) (.sl [.b, .c, .c]) (.k (.bool Bool.false)))) (Option.some [.c, .c, .c])) :: (.chk (Option.some ([.d, .c, .c], Bool.true)) (.pure 18 (vFieldAddr (.sl [.d, .b]) 3)) (Option.some [.c, .d, .c])) :: (.chk (Option.some ([.d, .c, .c], Bool.true)) (.look 8 (lLoad (.sl [.c, .d, .c]) 1 Bool.false)) (Option.some [.d, .d, .c])) :: (.chk (Option.some ([.d, .c, .c], Bool.true)) (.pure 11 (vBin .no .eql (.sl [.b, .d, .c]) (.sl [.d, .d, .c]))) (Option.some [.a, .a, .d])) :: (.chk Option.none (.pure 3 (vPick (.sl [.d, .c, .c]) (.sl [.a, .a, .d]) (.k (.bool Bool.false)))) (Option.some [.b, .a, .d])) :: (.chk Option.none (.pure 1 (vMove (.sl [.b, .a, .d]))) (Option.some [.c, .a, .d])) :: (.op (Option.some ([.c, .a, .d], Bool.true)) (.eff (hCall (.k (.fn 23 [] [])) [])) (Option.some [.d, .a, .d])) :: (.op Option.none (.pure 3 (vPick (.sl [.c, .a, .d]) (.sl [.d, .a, .d]) (.k (.bool Bool.false)))) (Option.some [.a, .b, .d])) :: c8_20)
noncomputable def c8_18 : List St := ((.chk (Option.some ([.c, .d, .b], Bool.true)) (.look 8 (lLoad (.sl [.b, .a, .c]) 1 Bool.false)) (Option.some [.c, .a, .c])) :: (.chk (Option.some ([.c, .d, .b], Bool.true)) (.pure 11 (vBin .no .eql (.sl [.a, .a, .c]) (.sl [.c, .a, .c]))) (Option.some [.d, .a, .c])) :: (.chk Option.none (.pure 3 (vPick (.sl [.c, .d, .b]) (.sl [.d, .a, .c]) (.k (.bool Bool.false)))) (Option.some [.a, .b, .c])) :: (.chk Option.none (.pure 1 (vMove (.sl [.a, .b, .c]))) (Option.some [.b, .b, .c])) :: (.chk (Option.some ([.b, .b, .c], Bool.true)) (.look 8 (lLoad (.sl [.b, .b]) 3 Bool.true)) (Option.some [.c, .b, .c])) :: (.chk (Option.some ([.b, .b, .c], Bool.true)) (.pure 18 (vFieldAddr (.sl [.d, .b]) 0)) (Option.some [.d, .b, .c])) :: (.chk (Option.some ([.b, .b, .c], Bool.true)) (.look 8 (lLoad (.sl [.d, .b, .c]) 3 Bool.true)) (Option.some [.a, .c, .c])) :: (.chk (Option.some ([.b, .b, .c], Bool.true)) (.pure 11 (vBin (.all [.int, .int, .str]) .eql (.sl [.c, .b, .c]) (.sl [.a, .c, .c]))) (Option.some [.b, .c, .c])) :: c8_19)
noncomputable def c8_17 : List St := ((.op (Option.some ([.d, .c, .c], Bool.true)) (.pure 11 (vBin .no .eql (.sl [.b, .d, .c]) (.sl [.d, .d, .c]))) (Option.some [.a, .a, .d])) :: (.op Option.none (.pure 3 (vPick (.sl [.d, .c, .c]) (.sl [.a, .a, .d]) (.k (.bool Bool.false)))) (Option.some [.b, .a, .d])) :: (.op Option.none (.pure 1 (vMove (.sl [.b, .a, .d]))) (Option.some [.c, .a, .d])) :: (.chk Option.none (.look 8 (lLoad (.sl [.c, .a]) 3 Bool.true)) (Option.some [.c, .c, .b])) :: (.chk Option.none (.pure 18 (vFieldAddr (.sl [.a, .b]) 0)) (Option.some [.d, .c, .b])) :: (.chk Option.none (.look 8 (lLoad (.sl [.d, .c, .b]) 3 Bool.true)) (Option.some [.a, .d, .b])) :: (.chk Option.none (.pure 11 (vBin (.all [.int, .int, .str]) .eql (.sl [.c, .c, .b]) (.sl [.a, .d, .b]))) (Option.some [.b, .d, .b])) :: (.chk (Option.some ([.c, .d, .b], Bool.true)) (.pure 18 (vFieldAddr (.sl [.a, .b]) 3)) (Option.some [.b, .a, .c])) :: c8_18)
noncomputable def c8_16 : List St := ((.chk (Option.some ([.b, .b, .c], Bool.true)) (.look 8 (lLoad (.sl [.d, .b, .c]) 3 Bool.true)) (Option.some [.a, .c, .c])) :: (.chk (Option.some ([.b, .b, .c], Bool.true)) (.pure 11 (vBin (.all [.int, .int, .str]) .eql (.sl [.c, .b, .c]) (.sl [.a, .c, .c]))) (Option.some [.b, .c, .c])) :: (.chk Option.none (.pure 3 (vPick (.sl [.b, .b, .c]) (.sl [.b, .c, .c]) (.k (.bool Bool.false)))) (Option.some [.c, .c, .c])) :: (.chk Option.none (.pure 1 (vMove (.sl [.c, .c, .c]))) (Option.some [.d, .c, .c])) :: (.chk (Option.some ([.d, .c, .c], Bool.true)) (.pure 1 (vMove (.sl [.c, .b]))) (Option.some [.a, .d, .c])) :: (.chk (Option.some ([.d, .c, .c], Bool.true)) (.pure 18 (vFieldAddr (.sl [.d, .b]) 3)) (Option.some [.c, .d, .c])) :: (.chk (Option.some ([.d, .c, .c], Bool.true)) (.look 8 (lLoad (.sl [.c, .d, .c]) 1 Bool.false)) (Option.some [.d, .d, .c])) :: (.op (Option.some ([.d, .c, .c], Bool.true)) (.eff (hCall (.k (.fn 26 [] [])) [(.sl [.a, .d, .c])])) (Option.some [.b, .d, .c])) :: c8_17)
noncomputable def c8_15 : List St := ((.chk Option.none (.pure 11 (vBin (.all [.int, .int, .str]) .eql (.sl [.c, .c, .b]) (.sl [.a, .d, .b]))) (Option.some [.b, .d, .b])) :: (.chk (Option.some ([.c, .d, .b], Bool.true)) (.pure 18 (vFieldAddr (.sl [.a, .b]) 3)) (Option.some [.b, .a, .c])) :: (.chk (Option.some ([.c, .d, .b], Bool.true)) (.look 8 (lLoad (.sl [.b, .a, .c]) 1 Bool.false)) (Option.some [.c, .a, .c])) :: (.chk (Option.some ([.c, .d, .b], Bool.true)) (.pure 11 (vBin .no .eql (.sl [.a, .a, .c]) (.sl [.c, .a, .c]))) (Option.some [.d, .a, .c])) :: (.chk Option.none (.pure 3 (vPick (.sl [.c, .d, .b]) (.sl [.d, .a, .c]) (.k (.bool Bool.false)))) (Option.some [.a, .b, .c])) :: (.chk Option.none (.pure 1 (vMove (.sl [.a, .b, .c]))) (Option.some [.b, .b, .c])) :: (.chk (Option.some ([.b, .b, .c], Bool.true)) (.look 8 (lLoad (.sl [.b, .b]) 3 Bool.true)) (Option.some [.c, .b, .c])) :: (.chk (Option.some ([.b, .b, .c], Bool.true)) (.pure 18 (vFieldAddr (.sl [.d, .b]) 0)) (Option.some [.d, .b, .c])) :: c8_16)
noncomputable def c8_14 : List St := ((.op Option.none (.pure 3 (vPick (.sl [.b, .b, .c]) (.sl [.b, .c, .c]) (.k (.bool Bool.false)))) (Option.some [.c, .c, .c])) :: (.op Option.none (.pure 1 (vMove (.sl [.c, .c, .c]))) (Option.some [.d, .c, .c])) :: (.op (Option.some ([.d, .c, .c], Bool.true)) (.pure 1 (vMove (.sl [.c, .b]))) (Option.some [.a, .d, .c])) :: (.op (Option.some ([.d, .c, .c], Bool.true)) (.pure 18 (vFieldAddr (.sl [.d, .b]) 3)) (Option.some [.c, .d, .c])) :: (.op (Option.some ([.d, .c, .c], Bool.true)) (.look 8 (lLoad (.sl [.c, .d, .c]) 1 Bool.false)) (Option.some [.d, .d, .c])) :: (.chk Option.none (.look 8 (lLoad (.sl [.c, .a]) 3 Bool.true)) (Option.some [.c, .c, .b])) :: (.chk Option.none (.pure 18 (vFieldAddr (.sl [.a, .b]) 0)) (Option.some [.d, .c, .b])) :: (.chk Option.none (.look 8 (lLoad (.sl [.d, .c, .b]) 3 Bool.true)) (Option.some [.a, .d, .b])) :: c8_15)
noncomputable def c8_13 : List St := ((.op (Option.some ([.c, .d, .b], Bool.true)) (.eff (hCall (.k (.fn 26 [] [])) [(.sl [.d, .d, .b])])) (Option.some [.a, .a, .c])) :: (.op (Option.some ([.c, .d, .b], Bool.true)) (.pure 11 (vBin .no .eql (.sl [.a, .a, .c]) (.sl [.c, .a, .c]))) (Option.some [.d, .a, .c])) :: (.op Option.none (.pure 3 (vPick (.sl [.c, .d, .b]) (.sl [.d, .a, .c]) (.k (.bool Bool.false)))) (Option.some [.a, .b, .c])) :: (.op Option.none (.pure 1 (vMove (.sl [.a, .b, .c]))) (Option.some [.b, .b, .c])) :: (.op (Option.some ([.b, .b, .c], Bool.true)) (.look 8 (lLoad (.sl [.b, .b]) 3 Bool.true)) (Option.some [.c, .b, .c])) :: (.op (Option.some ([.b, .b, .c], Bool.true)) (.pure 18 (vFieldAddr (.sl [.d, .b]) 0)) (Option.some [.d, .b, .c])) :: (.op (Option.some ([.b, .b, .c], Bool.true)) (.look 8 (lLoad (.sl [.d, .b, .c]) 3 Bool.true)) (Option.some [.a, .c, .c])) :: (.op (Option.some ([.b, .b, .c], Bool.true)) (.pure 11 (vBin (.all [.int, .int, .str]) .eql (.sl [.c, .b, .c]) (.sl [.a, .c, .c]))) (Option.some [.b, .c, .c])) :: c8_14)
noncomputable def c8_12 : List St := ((.chk Option.none (.look 8 (lLoad (.sl [.c, .a]) 3 Bool.true)) (Option.some [.c, .c, .b])) :: (.chk Option.none (.pure 18 (vFieldAddr (.sl [.a, .b]) 0)) (Option.some [.d, .c, .b])) :: (.chk Option.none (.look 8 (lLoad (.sl [.d, .c, .b]) 3 Bool.true)) (Option.some [.a, .d, .b])) :: (.chk Option.none (.pure 11 (vBin (.all [.int, .int, .str]) .eql (.sl [.c, .c, .b]) (.sl [.a, .d, .b]))) (Option.some [.b, .d, .b])) :: (.chk Option.none (.pure 1 (vMove (.sl [.b, .d, .b]))) (Option.some [.c, .d, .b])) :: (.chk (Option.some ([.c, .d, .b], Bool.true)) (.pure 1 (vMove (.sl [.d, .a]))) (Option.some [.d, .d, .b])) :: (.chk (Option.some ([.c, .d, .b], Bool.true)) (.pure 18 (vFieldAddr (.sl [.a, .b]) 3)) (Option.some [.b, .a, .c])) :: (.chk (Option.some ([.c, .d, .b], Bool.true)) (.look 8 (lLoad (.sl [.b, .a, .c]) 1 Bool.false)) (Option.some [.c, .a, .c])) :: c8_13)
noncomputable def c8_11 : EC := (.seq (.drawn ((.op Option.none (.look 8 (lLoad (.sl [.c, .a]) 3 Bool.true)) (Option.some [.c, .c, .b])) :: (.op Option.none (.pure 18 (vFieldAddr (.sl [.a, .b]) 0)) (Option.some [.d, .c, .b])) :: (.op Option.none (.look 8 (lLoad (.sl [.d, .c, .b]) 3 Bool.true)) (Option.some [.a, .d, .b])) :: (.op Option.none (.pure 11 (vBin (.all [.int, .int, .str]) .eql (.sl [.c, .c, .b]) (.sl [.a, .d, .b]))) (Option.some [.b, .d, .b])) :: (.op Option.none (.pure 1 (vMove (.sl [.b, .d, .b]))) (Option.some [.c, .d, .b])) :: (.op (Option.some ([.c, .d, .b], Bool.true)) (.pure 1 (vMove (.sl [.d, .a]))) (Option.some [.d, .d, .b])) :: (.op (Option.some ([.c, .d, .b], Bool.true)) (.pure 18 (vFieldAddr (.sl [.a, .b]) 3)) (Option.some [.b, .a, .c])) :: (.op (Option.some ([.c, .d, .b], Bool.true)) (.look 8 (lLoad (.sl [.b, .a, .c]) 1 Bool.false)) (Option.some [.c, .a, .c])) :: c8_12) [[.c, .c, .b], [.d, .c, .b], [.a, .d, .b], [.b, .d, .b], [.c, .d, .b], [.d, .d, .b], [.a, .a, .c], [.b, .a, .c], [.c, .a, .c], [.d, .a, .c], [.a, .b, .c], [.b, .b, .c], [.c, .b, .c], [.d, .b, .c], [.a, .c, .c], [.b, .c, .c], [.c, .c, .c], [.d, .c, .c], [.a, .d, .c], [.b, .d, .c], [.c, .d, .c], [.d, .d, .c], [.a, .a, .d], [.b, .a, .d], [.c, .a, .d], [.d, .a, .d], [.a, .b, .d], [.b, .a]]) .ret)
noncomputable def c8_10 : EC := (.seq (.steps [(.op Option.none (.pure 1 (vMove (.sl []))) (Option.some [.c, .b, .b])), (.op Option.none (.look 8 (lLoad (.sl [.d]) 3 Bool.true)) (Option.some [.d, .b, .b])), (.op Option.none (.look 8 (lLoad (.sl [.a, .a]) 3 Bool.true)) (Option.some [.a, .c, .b])), (.op Option.none (.eff (hCall (.k (.fn 29 [] [])) [(.sl [.c, .b, .b]), (.sl [.d, .b, .b]), (.sl [.a, .c, .b])])) (Option.some [.b, .c, .b])), (.op Option.none (.eff (bLoc [(.int .i64 (.ofNat 0)), (.int .i64 (.ofNat 0)), (.str ⟨#[]⟩), (.int .i64 (.ofNat 0))] [.d, .b])) (Option.some [.d, .b])), (.op Option.none (.eff (hStore (.sl [.d, .b]) (.sl [.b, .c, .b]) 4)) Option.none)]) c8_11)
noncomputable def c8_8 : EC := (.seq (.steps ((.op Option.none (.pure 1 (vMove (.sl []))) (Option.some [.a, .a, .b])) :: (.op Option.none (.look 8 (lLoad (.sl [.d]) 3 Bool.true)) (Option.some [.b, .a, .b])) :: (.op Option.none (.look 8 (lLoad (.sl [.a, .a]) 3 Bool.true)) (Option.some [.c, .a, .b])) :: (.op Option.none (.eff (hCall (.k (.fn 25 [] [])) [(.sl [.a, .a, .b]), (.sl [.b, .a, .b]), (.sl [.c, .a, .b])])) (Option.some [.d, .a, .b])) :: (.op Option.none (.pure 1 (vMove (.sl [.d, .a, .b]))) (Option.some [.d, .d, .a])) :: (.op Option.none (.pure 22 (vExtract (.sl [.d, .d, .a]) 0)) (Option.some [.a, .b, .b])) :: (.op Option.none (.pure 22 (vExtract (.sl [.d, .d, .a]) 1)) (Option.some [.b, .b, .b])) :: (.op Option.none (.eff (bLoc [(.int .i64 (.ofNat 0)), (.int .i64 (.ofNat 0)), (.str ⟨#[]⟩)] [.b, .b])) (Option.some [.b, .b])) :: c8_9)) c8_10)
noncomputable def c8_7 : EC := (.seq (.steps [(.op Option.none (.pure 1 (vMove (.sl []))) (Option.some [.a, .d, .a])), (.op Option.none (.look 8 (lLoad (.sl [.d]) 3 Bool.true)) (Option.some [.b, .d, .a])), (.op Option.none (.eff (hCall (.k (.fn 28 [] [])) [(.sl [.a, .d, .a]), (.sl [.b, .d, .a])])) (Option.some [.c, .d, .a])), (.op Option.none (.eff (bLoc [(.int .i64 (.ofNat 0)), (.int .i64 (.ofNat 0)), (.str ⟨#[]⟩), (.int .i64 (.ofNat 0))] [.a, .b])) (Option.some [.a, .b])), (.op Option.none (.eff (hStore (.sl [.a, .b]) (.sl [.c, .d, .a]) 4)) Option.none)]) c8_8)
noncomputable def c8_5 : EC := (.seq (.steps ((.op Option.none (.pure 1 (vMove (.sl []))) (Option.some [.d, .b, .a])) :: (.op Option.none (.look 8 (lLoad (.sl [.d]) 3 Bool.true)) (Option.some [.a, .c, .a])) :: (.op Option.none (.eff (hCall (.k (.fn 27 [] [])) [(.sl [.d, .b, .a]), (.sl [.a, .c, .a])])) (Option.some [.b, .c, .a])) :: (.op Option.none (.pure 1 (vMove (.sl [.b, .c, .a]))) (Option.some [.c, .b, .a])) :: (.op Option.none (.pure 22 (vExtract (.sl [.c, .b, .a]) 0)) (Option.some [.c, .c, .a])) :: (.op Option.none (.pure 22 (vExtract (.sl [.c, .b, .a]) 1)) (Option.some [.d, .c, .a])) :: (.op Option.none (.eff (bLoc [(.int .i64 (.ofNat 0)), (.int .i64 (.ofNat 0)), (.str ⟨#[]⟩)] [.c, .a])) (Option.some [.c, .a])) :: (.op Option.none (.eff (hStore (.sl [.c, .a]) (.sl [.c, .c, .a]) 3)) Option.none) :: c8_6)) c8_7)
noncomputable def c8_1 : EC := (.seq (.seq (.steps ((.op Option.none (.look 8 (lLoad (.sl [.d]) 3 Bool.true)) (Option.some [.a, .c])) :: (.op Option.none (.eff (hCall (.k (.fn 14 [] [])) [(.sl [.a, .c])])) (Option.some [.b, .c])) :: (.op Option.none (.pure 12 (vUn .not (.sl [.b, .c]))) (Option.some [.c, .c])) :: (.op Option.none (.pure 1 (vMove (.sl [.c, .c]))) (Option.some [.d, .c])) :: (.op (Option.some ([.d, .c], Bool.false)) (.look 8 (lLoad (.sl [.a, .a]) 3 Bool.true)) (Option.some [.a, .d])) :: (.op (Option.some ([.d, .c], Bool.false)) (.eff (hCall (.k (.fn 14 [] [])) [(.sl [.a, .d])])) (Option.some [.b, .d])) :: (.op (Option.some ([.d, .c], Bool.false)) (.pure 12 (vUn .not (.sl [.b, .d]))) (Option.some [.c, .d])) :: (.op Option.none (.pure 3 (vPick (.sl [.d, .c]) (.k (.bool Bool.true)) (.sl [.c, .d]))) (Option.some [.d, .d])) :: c8_2)) c8_3) c8_5)
noncomputable def c8 : EF := ⟨(.seq (.steps [(.op Option.none (.eff (bLocV 3 (.sl [.a]) [.d])) (Option.some [.d])), (.op Option.none (.eff (bLocV 3 (.sl [.b]) [.a, .a])) (Option.some [.a, .a])), (.op Option.none (.pure 2 (vMove (.k (.bool Bool.false)))) (Option.some [.b, .a]))]) c8_1), [(.slot (.sl [.b, .a]))], Bool.false⟩
theorem c8_ok : compF Go.Proofs.Tryd.prog 8 = some c8 := by kernel_rfl
noncomputable def F8 : FuncId → Option EF := lookF [(8, c8)]
theorem FF8 : F8 8 = some c8 := rfl
theorem wz : wrapF .i64 0 = 0 := rfl
set_option maxRecDepth 100000 in
set_option maxHeartbeats 4000000 in
theorem L8 (g : ByteArray) (k n : Int) (s : ByteArray) (k' n' : Int) (s' : ByteArray)
    (h14 : ∀ k n s h, call 14 [.agg [.int .i64 k, .int .i64 n, .str s]] h = .ret (.bool (mayP k n s)) h)
    (h25 : ∀ g k n s k' n' s', mayP k n s = true → mayP k' n' s' = true → ∀ h, call 25 [.str g, .agg [.int .i64 k, .int .i64 n, .str s], .agg [.int .i64 k', .int .i64 n', .str s']] h = .ret (binV g k n s k' n' s') h)
    (h27 : ∀ g k n s, mayP k n s = true → ∀ h, call 27 [.str g, .agg [.int .i64 k, .int .i64 n, .str s]] h = .ret (unV g k n s) h)
    (h28 : ∀ g k n s, mayP k n s = true → ∀ h, call 28 [.str g, .agg [.int .i64 k, .int .i64 n, .str s]] h = .ret (flat (unV g k n s)) h)
    (h29 : ∀ g k n s k' n' s', mayP k n s = true → mayP k' n' s' = true → ∀ h, call 29 [.str g, .agg [.int .i64 k, .int .i64 n, .str s], .agg [.int .i64 k', .int .i64 n', .str s']] h = .ret (flat (binV g k n s k' n' s')) h)
    (h26 : ∀ n h, call 26 [.int .i64 n] h = .ret (.int .i64 n) h)
    (h23 : ∀ h, call 23 [] h = .ret (.bool true) h) :
    Tells (evFun F8 call 100 8 [.str g, V k n s, V k' n' s'] h) h (.bool true) := by
  cases ma : mayP k n s
  · simp [Tells, evFun, FF8, c8, -aeqs, -aeq, wz, V, h14, h23, ma]
    try (unfold c8_1; simp [-aeqs, -aeq, wz, V, h14, h23, ma])
    try (unfold c8_2; simp [-aeqs, -aeq, wz, V, h14, h23, ma])
    try (unfold c8_3; simp [-aeqs, -aeq, wz, V, h14, h23, ma])
    try (unfold c8_4; simp [-aeqs, -aeq, wz, V, h14, h23, ma])
    try (unfold c8_5; simp [-aeqs, -aeq, wz, V, h14, h23, ma])
    try (unfold c8_6; simp [-aeqs, -aeq, wz, V, h14, h23, ma])
    try (unfold c8_7; simp [-aeqs, -aeq, wz, V, h14, h23, ma])
    try (unfold c8_8; simp [-aeqs, -aeq, wz, V, h14, h23, ma])
    try (unfold c8_9; simp [-aeqs, -aeq, wz, V, h14, h23, ma])
    try (unfold c8_10; simp [-aeqs, -aeq, wz, V, h14, h23, ma])
    try (unfold c8_11; simp [-aeqs, -aeq, wz, V, h14, h23, ma])
    try (unfold c8_12; simp [-aeqs, -aeq, wz, V, h14, h23, ma])
    try (unfold c8_13; simp [-aeqs, -aeq, wz, V, h14, h23, ma])
    try (unfold c8_14; simp [-aeqs, -aeq, wz, V, h14, h23, ma])
    try (unfold c8_15; simp [-aeqs, -aeq, wz, V, h14, h23, ma])
    try (unfold c8_16; simp [-aeqs, -aeq, wz, V, h14, h23, ma])
    try (unfold c8_17; simp [-aeqs, -aeq, wz, V, h14, h23, ma])
    try (unfold c8_18; simp [-aeqs, -aeq, wz, V, h14, h23, ma])
    try (unfold c8_19; simp [-aeqs, -aeq, wz, V, h14, h23, ma])
    try (unfold c8_20; simp [-aeqs, -aeq, wz, V, h14, h23, ma])
    try (unfold c8_21; simp [-aeqs, -aeq, wz, V, h14, h23, ma])
    try (unfold c8_22; simp [-aeqs, -aeq, wz, V, h14, h23, ma])
  · cases mb : mayP k' n' s'
    · simp [Tells, evFun, FF8, c8, -aeqs, -aeq, wz, V, h14, h23, ma, mb]
      try (unfold c8_1; simp [-aeqs, -aeq, wz, V, h14, h23, ma, mb])
      try (unfold c8_2; simp [-aeqs, -aeq, wz, V, h14, h23, ma, mb])
      try (unfold c8_3; simp [-aeqs, -aeq, wz, V, h14, h23, ma, mb])
      try (unfold c8_4; simp [-aeqs, -aeq, wz, V, h14, h23, ma, mb])
      try (unfold c8_5; simp [-aeqs, -aeq, wz, V, h14, h23, ma, mb])
      try (unfold c8_6; simp [-aeqs, -aeq, wz, V, h14, h23, ma, mb])
      try (unfold c8_7; simp [-aeqs, -aeq, wz, V, h14, h23, ma, mb])
      try (unfold c8_8; simp [-aeqs, -aeq, wz, V, h14, h23, ma, mb])
      try (unfold c8_9; simp [-aeqs, -aeq, wz, V, h14, h23, ma, mb])
      try (unfold c8_10; simp [-aeqs, -aeq, wz, V, h14, h23, ma, mb])
      try (unfold c8_11; simp [-aeqs, -aeq, wz, V, h14, h23, ma, mb])
      try (unfold c8_12; simp [-aeqs, -aeq, wz, V, h14, h23, ma, mb])
      try (unfold c8_13; simp [-aeqs, -aeq, wz, V, h14, h23, ma, mb])
      try (unfold c8_14; simp [-aeqs, -aeq, wz, V, h14, h23, ma, mb])
      try (unfold c8_15; simp [-aeqs, -aeq, wz, V, h14, h23, ma, mb])
      try (unfold c8_16; simp [-aeqs, -aeq, wz, V, h14, h23, ma, mb])
      try (unfold c8_17; simp [-aeqs, -aeq, wz, V, h14, h23, ma, mb])
      try (unfold c8_18; simp [-aeqs, -aeq, wz, V, h14, h23, ma, mb])
      try (unfold c8_19; simp [-aeqs, -aeq, wz, V, h14, h23, ma, mb])
      try (unfold c8_20; simp [-aeqs, -aeq, wz, V, h14, h23, ma, mb])
      try (unfold c8_21; simp [-aeqs, -aeq, wz, V, h14, h23, ma, mb])
      try (unfold c8_22; simp [-aeqs, -aeq, wz, V, h14, h23, ma, mb])
    · rcases Decidable.em (20 < (g.size : Int)) with l1 | l1
      · simp [Tells, evFun, FF8, c8, -aeqs, -aeq, wz, V, h14, h23, ma, mb, l1]
        try (unfold c8_1; simp [-aeqs, -aeq, wz, V, h14, h23, ma, mb, l1])
        try (unfold c8_2; simp [-aeqs, -aeq, wz, V, h14, h23, ma, mb, l1])
        try (unfold c8_3; simp [-aeqs, -aeq, wz, V, h14, h23, ma, mb, l1])
        try (unfold c8_4; simp [-aeqs, -aeq, wz, V, h14, h23, ma, mb, l1])
        try (unfold c8_5; simp [-aeqs, -aeq, wz, V, h14, h23, ma, mb, l1])
        try (unfold c8_6; simp [-aeqs, -aeq, wz, V, h14, h23, ma, mb, l1])
        try (unfold c8_7; simp [-aeqs, -aeq, wz, V, h14, h23, ma, mb, l1])
        try (unfold c8_8; simp [-aeqs, -aeq, wz, V, h14, h23, ma, mb, l1])
        try (unfold c8_9; simp [-aeqs, -aeq, wz, V, h14, h23, ma, mb, l1])
        try (unfold c8_10; simp [-aeqs, -aeq, wz, V, h14, h23, ma, mb, l1])
        try (unfold c8_11; simp [-aeqs, -aeq, wz, V, h14, h23, ma, mb, l1])
        try (unfold c8_12; simp [-aeqs, -aeq, wz, V, h14, h23, ma, mb, l1])
        try (unfold c8_13; simp [-aeqs, -aeq, wz, V, h14, h23, ma, mb, l1])
        try (unfold c8_14; simp [-aeqs, -aeq, wz, V, h14, h23, ma, mb, l1])
        try (unfold c8_15; simp [-aeqs, -aeq, wz, V, h14, h23, ma, mb, l1])
        try (unfold c8_16; simp [-aeqs, -aeq, wz, V, h14, h23, ma, mb, l1])
        try (unfold c8_17; simp [-aeqs, -aeq, wz, V, h14, h23, ma, mb, l1])
        try (unfold c8_18; simp [-aeqs, -aeq, wz, V, h14, h23, ma, mb, l1])
        try (unfold c8_19; simp [-aeqs, -aeq, wz, V, h14, h23, ma, mb, l1])
        try (unfold c8_20; simp [-aeqs, -aeq, wz, V, h14, h23, ma, mb, l1])
        try (unfold c8_21; simp [-aeqs, -aeq, wz, V, h14, h23, ma, mb, l1])
        try (unfold c8_22; simp [-aeqs, -aeq, wz, V, h14, h23, ma, mb, l1])
      · have h25 := h25 g k n s k' n' s' ma mb
        have h27 := h27 g k n s ma
        have h28 := h28 g k n s ma
        have h29 := h29 g k n s k' n' s' ma mb
        obtain ⟨a1, a2, a3, a4, ea⟩ := unV_two g k n s
        obtain ⟨b1, b2, b3, b4, eb⟩ := binV_two g k n s k' n' s'
        rw [ea] at h27 h28
        rw [eb] at h25 h29
        simp [Tells, evFun, FF8, c8, -aeqs, -aeq, wz, V, h14, h23, h25, h26, h27, h28, h29, flat, ma, mb, l1]
        try (unfold c8_1; simp [-aeqs, -aeq, wz, V, h14, h23, h25, h26, h27, h28, h29, flat, ma, mb, l1])
        try (unfold c8_2; simp [-aeqs, -aeq, wz, V, h14, h23, h25, h26, h27, h28, h29, flat, ma, mb, l1])
        try (unfold c8_3; simp [-aeqs, -aeq, wz, V, h14, h23, h25, h26, h27, h28, h29, flat, ma, mb, l1])
        try (unfold c8_4; simp [-aeqs, -aeq, wz, V, h14, h23, h25, h26, h27, h28, h29, flat, ma, mb, l1])
        try (unfold c8_5; simp [-aeqs, -aeq, wz, V, h14, h23, h25, h26, h27, h28, h29, flat, ma, mb, l1])
        try (unfold c8_6; simp [-aeqs, -aeq, wz, V, h14, h23, h25, h26, h27, h28, h29, flat, ma, mb, l1])
        try (unfold c8_7; simp [-aeqs, -aeq, wz, V, h14, h23, h25, h26, h27, h28, h29, flat, ma, mb, l1])
        try (unfold c8_8; simp [-aeqs, -aeq, wz, V, h14, h23, h25, h26, h27, h28, h29, flat, ma, mb, l1])
        try (unfold c8_9; simp [-aeqs, -aeq, wz, V, h14, h23, h25, h26, h27, h28, h29, flat, ma, mb, l1])
        try (unfold c8_10; simp [-aeqs, -aeq, wz, V, h14, h23, h25, h26, h27, h28, h29, flat, ma, mb, l1])
        try (unfold c8_11; simp [-aeqs, -aeq, wz, V, h14, h23, h25, h26, h27, h28, h29, flat, ma, mb, l1])
        try (unfold c8_12; simp [-aeqs, -aeq, wz, V, h14, h23, h25, h26, h27, h28, h29, flat, ma, mb, l1])
        try (unfold c8_13; simp [-aeqs, -aeq, wz, V, h14, h23, h25, h26, h27, h28, h29, flat, ma, mb, l1])
        try (unfold c8_14; simp [-aeqs, -aeq, wz, V, h14, h23, h25, h26, h27, h28, h29, flat, ma, mb, l1])
        try (unfold c8_15; simp [-aeqs, -aeq, wz, V, h14, h23, h25, h26, h27, h28, h29, flat, ma, mb, l1])
        try (unfold c8_16; simp [-aeqs, -aeq, wz, V, h14, h23, h25, h26, h27, h28, h29, flat, ma, mb, l1])
        try (unfold c8_17; simp [-aeqs, -aeq, wz, V, h14, h23, h25, h26, h27, h28, h29, flat, ma, mb, l1])
        try (unfold c8_18; simp [-aeqs, -aeq, wz, V, h14, h23, h25, h26, h27, h28, h29, flat, ma, mb, l1])
        try (unfold c8_19; simp [-aeqs, -aeq, wz, V, h14, h23, h25, h26, h27, h28, h29, flat, ma, mb, l1])
        try (unfold c8_20; simp [-aeqs, -aeq, wz, V, h14, h23, h25, h26, h27, h28, h29, flat, ma, mb, l1])
        try (unfold c8_21; simp [-aeqs, -aeq, wz, V, h14, h23, h25, h26, h27, h28, h29, flat, ma, mb, l1])
        try (unfold c8_22; simp [-aeqs, -aeq, wz, V, h14, h23, h25, h26, h27, h28, h29, flat, ma, mb, l1])
end Go.Proofs.Va
