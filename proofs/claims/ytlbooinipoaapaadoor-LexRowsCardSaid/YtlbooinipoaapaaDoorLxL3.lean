/- LexTexts, told. -/
import Derived.Test.YtlbooinipoaapaaDoorLxL3a
set_option linter.unusedSimpArgs false
set_option linter.unusedVariables false
namespace Go.Proofs.Lx
open Go.Ev
theorem clamp_in {n : Nat} {a : Nat} (h : a ≤ n) : clampA n (a : Int) = a := by
  unfold clampA
  rw [if_neg (by omega), if_neg (by omega)]; rfl
theorem next_front {s : List UInt8} (hs : ∀ c ∈ s, Fit c) (rest : List UInt8) : nextA (quoteP s ++ rest) 0 = .agg [.int .i64 2, T s, .int .i64 0, .int .i64 0, .bool false] := by
  have e : quoteP s ++ rest = 34 :: (s.flatMap escB ++ 34 :: rest) := quote_cons s rest
  have hm : nextM (quoteP s ++ rest) 0 = 0 := by
    unfold nextM
    rw [List.drop_zero, e, skip_quote]; rfl
  have ht := next_quote hs (quoteP s ++ rest) rest 0 0 hm (by rw [List.drop_zero])
  unfold nextA
  rw [ht, hm, List.drop_zero, e, skip_quote]
  rfl
theorem skip_two (r : List UInt8) : skipP (32 :: 10 :: 34 :: r) = (2, true) := by
  have b1 : blankB 32 = true := by decide
  have b2 : blankB 10 = true := by decide
  have b3 : blankB 34 = false := by decide
  unfold skipP
  rw [List.length_cons, List.length_cons, skipGo_cons, b1, if_pos rfl, skipGo_cons, b2, if_pos rfl, List.length_cons, skipGo_cons, b3, pre_ne (by decide)]
  rfl
theorem next_behind {s : List UInt8} (hs : ∀ c ∈ s, Fit c) : nextA (32 :: 32 :: 10 :: quoteP s) 1 = .agg [.int .i64 2, T s, .int .i64 0, .int .i64 3, .bool true] := by
  have e : quoteP s = 34 :: (s.flatMap escB ++ 34 :: []) := by
    have := quote_cons s []
    rwa [List.append_nil] at this
  have hm : nextM (32 :: 32 :: 10 :: quoteP s) 1 = 3 := by
    unfold nextM
    rw [List.drop_succ_cons, List.drop_zero, e, skip_two]; rfl
  have ht := next_quote hs (32 :: 32 :: 10 :: quoteP s) [] 1 3 hm (by simp)
  unfold nextA
  rw [ht, hm, List.drop_succ_cons, List.drop_zero, e, skip_two]
  rfl
set_option maxRecDepth 100000 in
set_option maxHeartbeats 4000000 in
theorem L3 (l B : List UInt8) {call : Calls'} (k10' : ∀ h, call 10 [] h = .ret (.bool true) h) (k11' : ∀ l a h, List.length l ≤ 1000000 → call 11 [T l, .int .i64 a] h = .ret (nextA l (clampA l.length a)) h) (k12' : ∀ l h, List.length l ≤ 400000 → call 12 [T l] h = .ret (T (quoteP l)) h) :
    Says (evFun LF3 call 202 3 [T l, T B] H.empty) (.bool true) := by
  rcases Decidable.em (200 < (l.length : Int)) with h1 | h1
  · simp [Says, evFun, FF3, c3, k10', h1]
    (try (conv in (evC call _ c3_1 _ _) => unfold c3_1; simp [k10', h1]); try dsimp only)
    (try (conv in (evSteps call c3_2 _ _) => unfold c3_2; simp [k10', h1]); try dsimp only)
    (try (conv in (evC call _ c3_3 _ _) => unfold c3_3; simp [k10', h1]); try dsimp only)
    (try (conv in (evC call _ c3_4 _ _) => unfold c3_4; simp [k10', h1]); try dsimp only)
    (try (conv in (evC call _ c3_5 _ _) => unfold c3_5; simp [k10', h1]); try dsimp only)
    (try (conv in (evC call _ c3_6 _ _) => unfold c3_6; simp [k10', h1]); try dsimp only)
    (try (conv in (evC call _ c3_7 _ _) => unfold c3_7; simp [k10', h1]); try dsimp only)
    try simp [k10', h1]
  rcases Decidable.em (50 < (B.length : Int)) with h2 | h2
  · simp [Says, evFun, FF3, c3, k10', h1, h2]
    (try (conv in (evC call _ c3_1 _ _) => unfold c3_1; simp [k10', h1, h2]); try dsimp only)
    (try (conv in (evSteps call c3_2 _ _) => unfold c3_2; simp [k10', h1, h2]); try dsimp only)
    (try (conv in (evC call _ c3_3 _ _) => unfold c3_3; simp [k10', h1, h2]); try dsimp only)
    (try (conv in (evC call _ c3_4 _ _) => unfold c3_4; simp [k10', h1, h2]); try dsimp only)
    (try (conv in (evC call _ c3_5 _ _) => unfold c3_5; simp [k10', h1, h2]); try dsimp only)
    (try (conv in (evC call _ c3_6 _ _) => unfold c3_6; simp [k10', h1, h2]); try dsimp only)
    (try (conv in (evC call _ c3_7 _ _) => unfold c3_7; simp [k10', h1, h2]); try dsimp only)
    try simp [k10', h1, h2]
  have hl : l.length ≤ 200 := by omega
  have hB : B.length ≤ 50 := by omega
  have hq : (quoteP l).length ≤ 402 := by
    have := flat_len l
    rw [quote_len]; omega
  simp [Says, evFun, FF3, c3, k10', h1, h2]
  (try (conv in (evC call _ c3_1 _ _) => unfold c3_1; simp [k10', h1, h2]); try dsimp only)
  (try (conv in (evSteps call c3_2 _ _) => unfold c3_2; simp [k10', h1, h2]); try dsimp only)
  (try (conv in (evC call _ c3_3 _ _) => unfold c3_3; simp [k10', h1, h2]); try dsimp only)
  (try (conv in (evC call _ c3_4 _ _) => unfold c3_4; simp [k10', h1, h2]); try dsimp only)
  (try (conv in (evC call _ c3_5 _ _) => unfold c3_5; simp [k10', h1, h2]); try dsimp only)
  (try (conv in (evC call _ c3_6 _ _) => unfold c3_6; simp [k10', h1, h2]); try dsimp only)
  (try (conv in (evC call _ c3_7 _ _) => unfold c3_7; simp [k10', h1, h2]); try dsimp only)
  rcases texts_all (call := call) k10' (B := B) hl 202 l.length 0 ⟨[], .nil, 0⟩ (.node (some (.v (T l))) (.node (some (.v (T B))) (.node (some (.v (.int .i64 0))) .nil .nil .nil .nil) (.node (some (.v (.int .i64 (l.length : Int)))) .nil .nil .nil .nil) (.node (some (.v (.int .i64 (B.length : Int)))) .nil .nil .nil .nil) .nil) (.node none .nil (.node (some (.v (.bool false))) .nil .nil .nil .nil) (.node (some (.v (.bool false))) .nil .nil .nil .nil) .nil) (.node none .nil (.node (some (.v (.bool false))) .nil .nil .nil .nil) (.node (some (.v (.bool false))) .nil .nil .nil .nil) .nil) (.node (some (.v (.bool false))) (.node (some (.v (T l))) .nil .nil .nil .nil) (.node (some (.v (T B))) .nil .nil .nil .nil) .nil .nil)) (201 - l.length) (by omega) rfl rfl rfl with ⟨fr', g1, g2⟩ | ⟨hs, fr', g1, f0, f1⟩
  · rw [show l.length + 1 + (201 - l.length) = 202 by omega] at g1
    have g1 : loopF call 202 c3_8 202 _ _ = _ := g1
    rw [g1]
    try dsimp only
    simp [g2]
  · rw [show l.length + 1 + (201 - l.length) = 202 by omega] at g1
    have g1 : loopF call 202 c3_8 202 _ _ = _ := g1
    rw [g1]
    try dsimp only
    (try (conv in (decide ((0 : Nat) = 0)) => simp)); try dsimp only
    rw [List.drop_zero] at hs
    have g12 : ∀ h, call 12 [T l] h = .ret (T (quoteP l)) h := fun h => k12' l h (by omega)
    have g11a : ∀ h, call 11 [T (quoteP l ++ B), .int .i64 0] h = .ret (.agg [.int .i64 2, T l, .int .i64 0, .int .i64 0, .bool false]) h := fun h => (k11' _ 0 h (by rw [List.length_append]; omega)).trans (by rw [clamp0, next_front hs])
    have g11b : ∀ h, call 11 [T (32 :: 32 :: 10 :: quoteP l), .int .i64 1] h = .ret (.agg [.int .i64 2, T l, .int .i64 0, .int .i64 3, .bool true]) h := fun h => (k11' _ 1 h (by simp; omega)).trans (by rw [show (1 : Int) = ((1 : Nat) : Int) from rfl, clamp_in (by simp), next_behind hs])
    have c0 : binStr .add ⟨(quoteP l).toArray⟩ ⟨B.toArray⟩ = some (T (quoteP l ++ B)) := by
      rw [cat_add (by simp; omega)]
      try simp [cat]
    have c1 : binStr .add ⟨#[32, 32, 10]⟩ ⟨(quoteP l).toArray⟩ = some (T (32 :: 32 :: 10 :: quoteP l)) := by
      rw [cat_add (by simp; omega)]
      try simp [cat]
    (try (conv in (evC call _ c3_18 _ _) => unfold c3_18; simp [-y_Hnew, -y_Hput, -aeqs, gs, k10', g12, g11a, g11b, c0, c1, f0, f1]); try dsimp only)
    (try (conv in (evSteps call c3_19 _ _) => unfold c3_19; simp [-y_Hnew, -y_Hput, -aeqs, gs, k10', g12, g11a, g11b, c0, c1, f0, f1]); try dsimp only)
    (try (conv in (evC call _ c3_20 _ _) => unfold c3_20; simp [-y_Hnew, -y_Hput, -aeqs, gs, k10', g12, g11a, g11b, c0, c1, f0, f1]); try dsimp only)
    (try (conv in (evSteps call c3_21 _ _) => unfold c3_21; simp [-y_Hnew, -y_Hput, -aeqs, gs, k10', g12, g11a, g11b, c0, c1, f0, f1]); try dsimp only)
    (try (conv in (evC call _ c3_22 _ _) => unfold c3_22; simp [-y_Hnew, -y_Hput, -aeqs, gs, k10', g12, g11a, g11b, c0, c1, f0, f1]); try dsimp only)
    (try (conv in (evSteps call c3_23 _ _) => unfold c3_23; simp [-y_Hnew, -y_Hput, -aeqs, gs, k10', g12, g11a, g11b, c0, c1, f0, f1]); try dsimp only)
    (try (conv in (evSteps call c3_24 _ _) => unfold c3_24; simp [-y_Hnew, -y_Hput, -aeqs, gs, k10', g12, g11a, g11b, c0, c1, f0, f1]); try dsimp only)
    (try (conv in (evSteps call c3_25 _ _) => unfold c3_25; simp [-y_Hnew, -y_Hput, -aeqs, gs, k10', g12, g11a, g11b, c0, c1, f0, f1]); try dsimp only)
    (try (conv in (evSteps call c3_26 _ _) => unfold c3_26; simp [-y_Hnew, -y_Hput, -aeqs, gs, k10', g12, g11a, g11b, c0, c1, f0, f1]); try dsimp only)
    (try (conv in (evSteps call c3_27 _ _) => unfold c3_27; simp [-y_Hnew, -y_Hput, -aeqs, gs, k10', g12, g11a, g11b, c0, c1, f0, f1]); try dsimp only)
    (try (conv in (evSteps call c3_28 _ _) => unfold c3_28; simp [-y_Hnew, -y_Hput, -aeqs, gs, k10', g12, g11a, g11b, c0, c1, f0, f1]); try dsimp only)
    (try (conv in (evSteps call c3_29 _ _) => unfold c3_29; simp [-y_Hnew, -y_Hput, -aeqs, gs, k10', g12, g11a, g11b, c0, c1, f0, f1]); try dsimp only)
    (try (conv in (evSteps call c3_30 _ _) => unfold c3_30; simp [-y_Hnew, -y_Hput, -aeqs, gs, k10', g12, g11a, g11b, c0, c1, f0, f1]); try dsimp only)
    (try (conv in (evSteps call c3_31 _ _) => unfold c3_31; simp [-y_Hnew, -y_Hput, -aeqs, gs, k10', g12, g11a, g11b, c0, c1, f0, f1]); try dsimp only)
    (try (conv in (evSteps call c3_32 _ _) => unfold c3_32; simp [-y_Hnew, -y_Hput, -aeqs, gs, k10', g12, g11a, g11b, c0, c1, f0, f1]); try dsimp only)
    try simp [-y_Hnew, -y_Hput, -aeqs, gs, k10', g12, g11a, g11b, c0, c1, f0, f1]
theorem hk12_11 (l : List UInt8) (a : Int) (h : H) (hl : l.length ≤ 1000000) : k12 11 [T l, .int .i64 a] h = .ret (nextA l (clampA l.length a)) h := hk11_11 l a h hl
theorem hk12_12 (l : List UInt8) (h : H) (hl : l.length ≤ 400000) : k12 12 [T l] h = .ret (T (quoteP l)) h := by
  show S12 [T l] h = _
  unfold S12
  simp only
  rw [if_pos (by simpa using hl)]
theorem L3w (s b : ByteArray) : Says (evFun LF3 k12 202 3 [.str s, .str b] H.empty) (.bool true) := by
  rw [T_of s, T_of b]
  exact L3 _ _ (fun _ => rfl) hk12_11 hk12_12
theorem calls_says3 {FL : FuncId → Option EF} (hF : ∀ f e, FL f = some e → compF Tryd.prog f = some e) {f : FuncId} {xs : List AV} {fuel : Nat} (t : Says (evFun FL k12 fuel f xs H.empty) (.bool true)) {args : Array Value} (ha : VRs (fun _ => none) xs args.toList) (W : World) (hG : Sps W) :
    Calls Tryd.prog f args W (fun e W' => e = .returned (.bool true) ∧ Go.RowKit.Below W.heap.size W W') := by
  obtain ⟨h', hr⟩ := t.elim
  refine Calls.mono ((fun_sound hF ok12 (DrawnAll mixed) fuel).ret hr (HR.empty W) (met W hG) ha) ?_
  rintro _ w' ⟨x, A', rfl, hx, J⟩
  have hx : x = .bool true := hx
  exact ⟨by rw [hx], ⟨J.os, J.tape, J.output, J.size, fun k hk => J.keep k hk (fun p r hp => by cases hp)⟩⟩
end Go.Proofs.Lx
