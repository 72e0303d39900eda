/- LexMade, told. -/
import Derived.Test.YtlbooinipoaapaaDoorLxTx
set_option linter.unusedSimpArgs false
set_option linter.unusedVariables false
set_option linter.unusedSectionVars false
namespace Go.Proofs.Lx
open Go.Ev
noncomputable def S22 : List AV → H → CR := fun xs h => match xs with
  | [] => .ret (.sl h.next 1 0 62) (h.new bitsB)
  | _ => .bad 0
noncomputable def k22 : Calls' := upd k16 22 S22
theorem ok22 : CallsOk Γ Tryd.prog k22 := ok16.add mixed (F := LF22) (one_ok c22_ok) fun xs h r e hb => by
  unfold S22 at e
  split at e
  · subst e; exact ⟨1, .inl (tb22 h)⟩
  · subst e; exact absurd rfl (hb 0)
noncomputable def S14 : List AV → H → CR := fun xs h => match xs with
  | [v] => evFun LF14 k22 61 14 [v] h
  | _ => .bad 0
noncomputable def k14 : Calls' := upd k22 14 S14
theorem ok14 : CallsOk Γ Tryd.prog k14 := ok22.add mixed (F := LF14) (one_ok c14_ok) fun xs h r e hb => by
  unfold S14 at e
  split at e
  · exact ⟨_, .inl e⟩
  · subst e; exact absurd rfl (hb 0)
theorem k14_14 {l : List UInt8} {h : H} {v : AV} (hv : InS h v (l.map b8)) : k14 14 [v] h = .ret (T (textOf l)) (h.new bitsB) := t14 hv (fun _ => rfl)
/-- A law's call, where slices came in. -/
theorem calls_says14 {FL : FuncId → Option EF} (hF : ∀ f e, FL f = some e → compF Tryd.prog f = some e) {f : FuncId} {xs : List AV} {fuel : Nat} {A : Asg} {h : H} {W : World} (I : Ins A h W) (t : Says (evFun FL k14 fuel f xs h) (.bool true)) {args : Array Value} (ha : VRs A.s xs args.toList) (hG : Sps W) :
    Calls Tryd.prog f args W (fun e W' => e = .returned (.bool true) ∧ Go.RowKit.Below W.heap.size W W') := by
  obtain ⟨h', hr⟩ := t.elim
  refine Calls.mono ((fun_sound hF ok14 (DrawnAll mixed) fuel).ret hr I.hr (I.met (sps_size hG) hG) ha) ?_
  rintro _ w' ⟨x, A', rfl, hx, J⟩
  have hx : x = .bool true := hx
  exact ⟨by rw [hx], I.below J⟩
noncomputable def c8_7 : List St := [(.op Option.none (.pure 2 (vMove (.sl [.c, .b, .a]))) (Option.some [.d]))]
noncomputable def c8_6 : List St := ((.op Option.none (.pure 3 (vPick (.sl [.b, .d]) (.sl [.c, .a, .a]) (.k (.bool Bool.false)))) (Option.some [.d, .a, .a])) :: (.op Option.none (.pure 1 (vMove (.sl [.d, .a, .a]))) (Option.some [.a, .b, .a])) :: (.op (Option.some ([.a, .b, .a], Bool.true)) (.eff (hCall (.k (.fn 10 [] [])) [])) (Option.some [.b, .b, .a])) :: (.op Option.none (.pure 3 (vPick (.sl [.a, .b, .a]) (.sl [.b, .b, .a]) (.k (.bool Bool.false)))) (Option.some [.c, .b, .a])) :: c8_7)
noncomputable def c8_5 : List St := ((.op (Option.some ([.b, .d], Bool.true)) (.eff (hCall (.k (.fn 17 [] [])) [(.sl [.c, .d])])) (Option.some [.d, .d])) :: (.op (Option.some ([.b, .d], Bool.true)) (.pure 1 (vMove (.sl [.a, .a]))) (Option.some [.a, .a, .a])) :: (.op (Option.some ([.b, .d], Bool.true)) (.eff (hCall (.k (.fn 18 [] [])) [(.sl [.a, .a, .a])])) (Option.some [.b, .a, .a])) :: (.op (Option.some ([.b, .d], Bool.true)) (.eff (hCall (.k (.fn 16 [] [])) [(.sl [.d, .d]), (.sl [.b, .a, .a])])) (Option.some [.c, .a, .a])) :: c8_6)
noncomputable def c8_4 : List St := ((.op Option.none (.pure 19 (vField (.sl [.c, .c]) 0 5 Bool.true)) (Option.some [.d, .c])) :: (.op Option.none (.pure 11 (vBin (.all [.int, .str, .int, .int, .bool]) .eql (.sl [.c, .b]) (.sl [.d, .c]))) (Option.some [.a, .d])) :: (.op Option.none (.pure 1 (vMove (.sl [.a, .d]))) (Option.some [.b, .d])) :: (.op (Option.some ([.b, .d], Bool.true)) (.pure 1 (vMove (.sl [.a, .a]))) (Option.some [.c, .d])) :: c8_5)
noncomputable def c8_3 : List St := ((.op Option.none (.pure 1 (vMove (.sl [.a, .a]))) (Option.some [.d, .b])) :: (.op Option.none (.pure 1 (vMove (.sl [.a]))) (Option.some [.a, .c])) :: (.op Option.none (.pure 13 (vConvInt .i64 (.sl [.a, .c]))) (Option.some [.b, .c])) :: (.op Option.none (.eff (hCall (.k (.fn 15 [] [])) [(.sl [.d, .b]), (.sl [.b, .c])])) (Option.some [.c, .c])) :: c8_4)
noncomputable def c8_2 : EC := (.seq (.steps ((.op Option.none (.pure 1 (vMove (.sl [.a, .a]))) (Option.some [.d, .a])) :: (.op Option.none (.pure 1 (vMove (.sl [.a]))) (Option.some [.a, .b])) :: (.op Option.none (.pure 13 (vConvInt .i64 (.sl [.a, .b]))) (Option.some [.b, .b])) :: (.op Option.none (.eff (hCall (.k (.fn 11 [] [])) [(.sl [.d, .a]), (.sl [.b, .b])])) (Option.some [.c, .b])) :: c8_3)) .ret)
noncomputable def c8_1 : EC := (.seq (.steps [(.op Option.none (.pure 1 (vMove (.sl []))) (Option.some [.b, .a])), (.op Option.none (.eff (hCall (.k (.fn 14 [] [])) [(.sl [.b, .a])])) (Option.some [.c, .a])), (.op Option.none (.pure 2 (vMove (.sl [.c, .a]))) (Option.some [.a, .a]))]) c8_2)
noncomputable def c8 : EF := ⟨(.seq (.steps [(.op Option.none (.pure 2 (vMove (.k (.bool Bool.false)))) (Option.some [.d]))]) c8_1), [(.slot (.sl [.d]))], Bool.false⟩
theorem c8_ok : compF Tryd.prog 8 = some c8 := by kernel_rfl
noncomputable def LF8 : FuncId → Option EF := lookF [(8, c8)]
theorem FF8 : LF8 8 = some c8 := rfl

set_option maxRecDepth 100000 in
set_option maxHeartbeats 4000000 in
theorem L8 {l : List UInt8} {h : H} {v : AV} (hv : InS h v (l.map b8)) (c : UInt8) : Says (evFun LF8 k14 20 8 [v, b8 c] h) (.bool true) := by
  have hl0 := textOf_len l
  have g14 := k14_14 hv
  generalize h.new bitsB = h1 at *
  generalize hs : textOf l = s at *
  have hl : s.length ≤ 1000000 := by omega
  have k10' : ∀ h, k14 10 [] h = .ret (.bool true) h := fun _ => rfl
  have k11' : ∀ h, k14 11 [T s, .int .i64 (c.toNat : Int)] h = .ret (.agg (rowA s (clampA s.length (c.toNat : Int)))) h := fun h => hk11_11 s _ h hl
  have k15' : ∀ h, k14 15 [T s, .int .i64 (c.toNat : Int)] h = .ret (.agg (rowA s (clampA s.length (c.toNat : Int)) ++ [.int .i64 ((refT s (nextM s (clampA s.length (c.toNat : Int)))).z : Int)])) h := fun h => (hk15_15 s _ h hl).trans (by rw [refA_row])
  obtain ⟨v1, H1, g17, o1, s1⟩ := all17 s h1 hl
  obtain ⟨v2, H2, g18, o2, s2⟩ := all18 s H1 hl
  have g16 := same16 s h1 H1 H2 v1 v2 hl o1 s1 o2 s2
  have g17 : k14 17 [T s] h1 = .ret v1 H1 := g17
  have g18 : k14 18 [T s] H1 = .ret v2 H2 := g18
  have g16 : k14 16 [v1, v2] H2 = .ret (.bool true) H2 := g16
  have w8 : wrapF .i64 ((c.toNat : Nat) : Int) = ((c.toNat : Nat) : Int) := wrap64 (by omega) (by have := c.toNat_lt; omega)
  generalize k14 = call at *
  unfold rowA at k11' k15'
  generalize (nextT s (clampA s.length (c.toNat : Int))).k = x1 at *
  generalize (nextT s (clampA s.length (c.toNat : Int))).s = x2 at *
  generalize (nextT s (clampA s.length (c.toNat : Int))).n = x3 at *
  generalize (refT s (nextM s (clampA s.length (c.toNat : Int)))).z = x6 at *
  generalize nextM s (clampA s.length (c.toNat : Int)) = x4 at *
  generalize (skipP (s.drop (clampA s.length (c.toNat : Int)))).2 = x5 at *
  simp [Says, evFun, FF8, c8]
  cases x5
  · (try (conv in (evC call _ c8_1 _ _) => unfold c8_1; simp [-y_Hnew, -y_Hput, gs, k10', k11', k15', g14, g17, g18, g16, vField, w8]); try dsimp only)
    (try (conv in (evC call _ c8_2 _ _) => unfold c8_2; simp [-y_Hnew, -y_Hput, gs, k10', k11', k15', g14, g17, g18, g16, vField, w8]); try dsimp only)
    (try (conv in (evSteps call c8_3 _ _) => unfold c8_3; simp [-y_Hnew, -y_Hput, gs, k10', k11', k15', g14, g17, g18, g16, vField, w8]); try dsimp only)
    (try (conv in (evSteps call c8_4 _ _) => unfold c8_4; simp [-y_Hnew, -y_Hput, gs, k10', k11', k15', g14, g17, g18, g16, vField, w8]); try dsimp only)
    (try (conv in (evSteps call c8_5 _ _) => unfold c8_5; simp [-y_Hnew, -y_Hput, gs, k10', k11', k15', g14, g17, g18, g16, vField, w8]); try dsimp only)
    (try (conv in (evSteps call c8_6 _ _) => unfold c8_6; simp [-y_Hnew, -y_Hput, gs, k10', k11', k15', g14, g17, g18, g16, vField, w8]); try dsimp only)
    (try (conv in (evSteps call c8_7 _ _) => unfold c8_7; simp [-y_Hnew, -y_Hput, gs, k10', k11', k15', g14, g17, g18, g16, vField, w8]); try dsimp only)
    try simp [-y_Hnew, -y_Hput, gs, k10', k11', k15', g14, g17, g18, g16, vField, w8]
  · (try (conv in (evC call _ c8_1 _ _) => unfold c8_1; simp [-y_Hnew, -y_Hput, gs, k10', k11', k15', g14, g17, g18, g16, vField, w8]); try dsimp only)
    (try (conv in (evC call _ c8_2 _ _) => unfold c8_2; simp [-y_Hnew, -y_Hput, gs, k10', k11', k15', g14, g17, g18, g16, vField, w8]); try dsimp only)
    (try (conv in (evSteps call c8_3 _ _) => unfold c8_3; simp [-y_Hnew, -y_Hput, gs, k10', k11', k15', g14, g17, g18, g16, vField, w8]); try dsimp only)
    (try (conv in (evSteps call c8_4 _ _) => unfold c8_4; simp [-y_Hnew, -y_Hput, gs, k10', k11', k15', g14, g17, g18, g16, vField, w8]); try dsimp only)
    (try (conv in (evSteps call c8_5 _ _) => unfold c8_5; simp [-y_Hnew, -y_Hput, gs, k10', k11', k15', g14, g17, g18, g16, vField, w8]); try dsimp only)
    (try (conv in (evSteps call c8_6 _ _) => unfold c8_6; simp [-y_Hnew, -y_Hput, gs, k10', k11', k15', g14, g17, g18, g16, vField, w8]); try dsimp only)
    (try (conv in (evSteps call c8_7 _ _) => unfold c8_7; simp [-y_Hnew, -y_Hput, gs, k10', k11', k15', g14, g17, g18, g16, vField, w8]); try dsimp only)
    try simp [-y_Hnew, -y_Hput, gs, k10', k11', k15', g14, g17, g18, g16, vField, w8]
theorem L8w {A : Asg} {h : H} {W : World} (I : Ins A h W) {v : AV} {x : Value} {l : List UInt8} (hv : InS h v (l.map b8)) (hx : VR A.s v x) (c : UInt8) (hG : Sps W) :
    Calls Tryd.prog 8 #[x, .int .u8 (c.toNat : Int)] W (fun e W' => e = .returned (.bool true) ∧ Go.RowKit.Below W.heap.size W W') :=
  calls_says14 (FL := LF8) (one_ok c8_ok) I (L8 hv c) (.cons hx (.cons rfl .nil)) hG
theorem L8z {W : World} {x : Value} {l : List UInt8} (R : SlIn W x (l.map b8)) (c : UInt8) (hG : Sps W) : Calls Tryd.prog 8 #[x, .int .u8 (c.toNat : Int)] W (fun e W' => e = .returned (.bool true) ∧ Go.RowKit.Below W.heap.size W W') := by
  obtain ⟨A, h, v, I, _, _, _, hx, hv⟩ := (Ins.start W).arg R
  exact L8w I hv hx c hG
end Go.Proofs.Lx
