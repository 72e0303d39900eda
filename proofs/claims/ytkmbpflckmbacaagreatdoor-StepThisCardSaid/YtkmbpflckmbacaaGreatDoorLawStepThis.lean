/- The statement of StepThis is proved: the law returns true for all arguments, by the evaluator's cases. Conditions: none but the statement's own. -/
import Derived.Test.YtkmbpflckmbacaaGreatDoorRows
import Derived.Test.YtkmbpflckmbacaaGreatDoorEvStepThisx0
import Derived.Test.YtkmbpflckmbacaaGreatDoorEvStepThisx1
import Derived.Test.YtkmbpflckmbacaaGreatDoorEvStepThisx2
import Derived.Test.YtkmbpflckmbacaaGreatDoorEvStepThisx3
import Derived.Test.YtkmbpflckmbacaaGreatDoorEvStepThisx4
import Derived.Test.YtkmbpflckmbacaaGreatDoorEvStepThisx5
import Derived.Test.YtkmbpflckmbacaaGreatDoorEvStepThisx6
import Derived.Test.YtkmbpflckmbacaaGreatDoorEvStepThisx7
import Derived.Test.YtkmbpflckmbacaaGreatDoorEvStepThisx8
import Derived.Test.YtkmbpflckmbacaaGreatDoorEvStepThisx9
import Derived.Test.YtkmbpflckmbacaaGreatDoorEvStepThisx10
import Derived.Test.YtkmbpflckmbacaaGreatDoorEvStepThisx11
import Derived.Test.YtkmbpflckmbacaaGreatDoorEvStepThisx12
import Derived.Test.YtkmbpflckmbacaaGreatDoorEvStepThisx13
import Derived.Test.YtkmbpflckmbacaaGreatDoorEvStepThisx14
import Derived.Test.YtkmbpflckmbacaaGreatDoorEvStepThisx15
import Derived.Test.YtkmbpflckmbacaaGreatDoorCards
import Derived.Test.YtkmbpflckmbacaaGreatDoorTie
import Derived.WalkKit
import Derived.ProofKit
import Derived.OpenShut
import Derived.ShutString
import Derived.ChangeOld
import Derived.Below
import Derived.SizedLaws
import Derived.Lib.SmallJoins
import Derived.LaidMore
import Derived.Stop.LaidErr
import Derived.Lib.LaidTab
import Derived.Stop.Joined
import Derived.SevenTiedAt
namespace Go.Proofs.YtkmbpflckmbacaaGreatDoor.stepThis
open Go.ChangeShapes Go.WideShapes Go.ChangeAt Go.RowKit
set_option linter.unusedVariables false
theorem own : ownKnob Tryz.prog.godebug = none := by kernel_rfl
theorem mixed : Tryz.prog.follows .mixedOrders = true := by kernel_rfl
theorem cases : ∀ (r0 : Nat), r0 < 256 → Go.Ev.saysTrue (Go.Ev.ev Go.Proofs.Sy.lib (Go.Ev.compF Tryz.prog) 1000 150 6 [.int .u8 (.ofNat r0)] Go.Ev.H.empty) = true
  | 0, _ => c_0
  | 1, _ => c_1
  | 2, _ => c_2
  | 3, _ => c_3
  | 4, _ => c_4
  | 5, _ => c_5
  | 6, _ => c_6
  | 7, _ => c_7
  | 8, _ => c_8
  | 9, _ => c_9
  | 10, _ => c_10
  | 11, _ => c_11
  | 12, _ => c_12
  | 13, _ => c_13
  | 14, _ => c_14
  | 15, _ => c_15
  | 16, _ => c_16
  | 17, _ => c_17
  | 18, _ => c_18
  | 19, _ => c_19
  | 20, _ => c_20
  | 21, _ => c_21
  | 22, _ => c_22
  | 23, _ => c_23
  | 24, _ => c_24
  | 25, _ => c_25
  | 26, _ => c_26
  | 27, _ => c_27
  | 28, _ => c_28
  | 29, _ => c_29
  | 30, _ => c_30
  | 31, _ => c_31
  | 32, _ => c_32
  | 33, _ => c_33
  | 34, _ => c_34
  | 35, _ => c_35
  | 36, _ => c_36
  | 37, _ => c_37
  | 38, _ => c_38
  | 39, _ => c_39
  | 40, _ => c_40
  | 41, _ => c_41
  | 42, _ => c_42
  | 43, _ => c_43
  | 44, _ => c_44
  | 45, _ => c_45
  | 46, _ => c_46
  | 47, _ => c_47
  | 48, _ => c_48
  | 49, _ => c_49
  | 50, _ => c_50
  | 51, _ => c_51
  | 52, _ => c_52
  | 53, _ => c_53
  | 54, _ => c_54
  | 55, _ => c_55
  | 56, _ => c_56
  | 57, _ => c_57
  | 58, _ => c_58
  | 59, _ => c_59
  | 60, _ => c_60
  | 61, _ => c_61
  | 62, _ => c_62
  | 63, _ => c_63
  | 64, _ => c_64
  | 65, _ => c_65
  | 66, _ => c_66
  | 67, _ => c_67
  | 68, _ => c_68
  | 69, _ => c_69
  | 70, _ => c_70
  | 71, _ => c_71
  | 72, _ => c_72
  | 73, _ => c_73
  | 74, _ => c_74
  | 75, _ => c_75
  | 76, _ => c_76
  | 77, _ => c_77
  | 78, _ => c_78
  | 79, _ => c_79
  | 80, _ => c_80
  | 81, _ => c_81
  | 82, _ => c_82
  | 83, _ => c_83
  | 84, _ => c_84
  | 85, _ => c_85
  | 86, _ => c_86
  | 87, _ => c_87
  | 88, _ => c_88
  | 89, _ => c_89
  | 90, _ => c_90
  | 91, _ => c_91
  | 92, _ => c_92
  | 93, _ => c_93
  | 94, _ => c_94
  | 95, _ => c_95
  | 96, _ => c_96
  | 97, _ => c_97
  | 98, _ => c_98
  | 99, _ => c_99
  | 100, _ => c_100
  | 101, _ => c_101
  | 102, _ => c_102
  | 103, _ => c_103
  | 104, _ => c_104
  | 105, _ => c_105
  | 106, _ => c_106
  | 107, _ => c_107
  | 108, _ => c_108
  | 109, _ => c_109
  | 110, _ => c_110
  | 111, _ => c_111
  | 112, _ => c_112
  | 113, _ => c_113
  | 114, _ => c_114
  | 115, _ => c_115
  | 116, _ => c_116
  | 117, _ => c_117
  | 118, _ => c_118
  | 119, _ => c_119
  | 120, _ => c_120
  | 121, _ => c_121
  | 122, _ => c_122
  | 123, _ => c_123
  | 124, _ => c_124
  | 125, _ => c_125
  | 126, _ => c_126
  | 127, _ => c_127
  | 128, _ => c_128
  | 129, _ => c_129
  | 130, _ => c_130
  | 131, _ => c_131
  | 132, _ => c_132
  | 133, _ => c_133
  | 134, _ => c_134
  | 135, _ => c_135
  | 136, _ => c_136
  | 137, _ => c_137
  | 138, _ => c_138
  | 139, _ => c_139
  | 140, _ => c_140
  | 141, _ => c_141
  | 142, _ => c_142
  | 143, _ => c_143
  | 144, _ => c_144
  | 145, _ => c_145
  | 146, _ => c_146
  | 147, _ => c_147
  | 148, _ => c_148
  | 149, _ => c_149
  | 150, _ => c_150
  | 151, _ => c_151
  | 152, _ => c_152
  | 153, _ => c_153
  | 154, _ => c_154
  | 155, _ => c_155
  | 156, _ => c_156
  | 157, _ => c_157
  | 158, _ => c_158
  | 159, _ => c_159
  | 160, _ => c_160
  | 161, _ => c_161
  | 162, _ => c_162
  | 163, _ => c_163
  | 164, _ => c_164
  | 165, _ => c_165
  | 166, _ => c_166
  | 167, _ => c_167
  | 168, _ => c_168
  | 169, _ => c_169
  | 170, _ => c_170
  | 171, _ => c_171
  | 172, _ => c_172
  | 173, _ => c_173
  | 174, _ => c_174
  | 175, _ => c_175
  | 176, _ => c_176
  | 177, _ => c_177
  | 178, _ => c_178
  | 179, _ => c_179
  | 180, _ => c_180
  | 181, _ => c_181
  | 182, _ => c_182
  | 183, _ => c_183
  | 184, _ => c_184
  | 185, _ => c_185
  | 186, _ => c_186
  | 187, _ => c_187
  | 188, _ => c_188
  | 189, _ => c_189
  | 190, _ => c_190
  | 191, _ => c_191
  | 192, _ => c_192
  | 193, _ => c_193
  | 194, _ => c_194
  | 195, _ => c_195
  | 196, _ => c_196
  | 197, _ => c_197
  | 198, _ => c_198
  | 199, _ => c_199
  | 200, _ => c_200
  | 201, _ => c_201
  | 202, _ => c_202
  | 203, _ => c_203
  | 204, _ => c_204
  | 205, _ => c_205
  | 206, _ => c_206
  | 207, _ => c_207
  | 208, _ => c_208
  | 209, _ => c_209
  | 210, _ => c_210
  | 211, _ => c_211
  | 212, _ => c_212
  | 213, _ => c_213
  | 214, _ => c_214
  | 215, _ => c_215
  | 216, _ => c_216
  | 217, _ => c_217
  | 218, _ => c_218
  | 219, _ => c_219
  | 220, _ => c_220
  | 221, _ => c_221
  | 222, _ => c_222
  | 223, _ => c_223
  | 224, _ => c_224
  | 225, _ => c_225
  | 226, _ => c_226
  | 227, _ => c_227
  | 228, _ => c_228
  | 229, _ => c_229
  | 230, _ => c_230
  | 231, _ => c_231
  | 232, _ => c_232
  | 233, _ => c_233
  | 234, _ => c_234
  | 235, _ => c_235
  | 236, _ => c_236
  | 237, _ => c_237
  | 238, _ => c_238
  | 239, _ => c_239
  | 240, _ => c_240
  | 241, _ => c_241
  | 242, _ => c_242
  | 243, _ => c_243
  | 244, _ => c_244
  | 245, _ => c_245
  | 246, _ => c_246
  | 247, _ => c_247
  | 248, _ => c_248
  | 249, _ => c_249
  | 250, _ => c_250
  | 251, _ => c_251
  | 252, _ => c_252
  | 253, _ => c_253
  | 254, _ => c_254
  | 255, _ => c_255
  | (_ + 256), h => absurd h (by omega)
theorem nat_of {a : Int} (hw : (Lit.int .u8 a).wf = true) : ∃ r, r < 256 ∧ Go.Ev.VR (fun _ => none) (.int .u8 (.ofNat r)) (.int .u8 a) := by
  have h : 0 ≤ a ∧ a ≤ 255 := by
    simp [Lit.wf, IntKind.min, IntKind.max, IntKind.bits, IntKind.signed] at hw
    exact hw
  obtain ⟨n, rfl⟩ := Int.eq_ofNat_of_zero_le h.1
  exact ⟨n, by omega, rfl⟩
theorem walk (a0 : Int) (W : World) (w0 : (Lit.int .u8 a0).wf = true) (hG : Go.Proofs.Sy.Kn W) : Calls Tryz.prog 6 #[.int .u8 a0] W (fun e W' => e = .returned (.bool true) ∧ Below W.heap.size W W') := by
  obtain ⟨r0, h0, e0⟩ := nat_of w0
  exact Go.Ev.calls_true mixed Go.Proofs.Sy.lib_ok (fun _ _ h => h) (cases r0 h0) (args := #[.int .u8 a0]) (Go.Ev.VRs.cons e0 Go.Ev.VRs.nil) W (Go.Proofs.Sy.met W hG)
/-- What is listed. -/
def laidL : List (String × DataW Unit) := [("math/bits.deBruijn32tab", Rows.laid_math_bits_deBruijn32tab), ("math/bits.deBruijn64tab", Rows.laid_math_bits_deBruijn64tab), ("internal/strconv.uint64pow10", Rows.laid_internal_strconv_uint64pow10), ("unicode.White_Space", Rows.laid_unicode_White_Space), ("strings.asciiSpace", Rows.laid_strings_asciiSpace)]
theorem door_met (os : Os) (args : Array Value) : laidMetH Tryz.prog laidL ((World.doorLaid Tryz.prog 60 os).forCall (fun _ _ => 0) ⟨#[], args, []⟩).memory :=
  laidMetH_of_parts3 (fuel := 8) (laidMet_of_run' 8 (by kernel_rfl) (by kernel_rfl)) (by kernel_rfl) (by kernel_rfl)
set_option maxRecDepth 100000 in
theorem glob0 {W : World} (h : laidMetH Tryz.prog laidL W) : Go.Proofs.Sy.Sps W := by
  rw [MakeChecks.laidMetH_plain _ _ _ (by kernel_rfl)] at h
  have h2 := (laidMet.tail (laidMet.tail (laidMet.tail (laidMet.tail (show laidMet Tryz.prog (("math/bits.deBruijn32tab", Rows.laid_math_bits_deBruijn32tab) :: ("math/bits.deBruijn64tab", Rows.laid_math_bits_deBruijn64tab) :: ("internal/strconv.uint64pow10", Rows.laid_internal_strconv_uint64pow10) :: ("unicode.White_Space", Rows.laid_unicode_White_Space) :: ("strings.asciiSpace", Rows.laid_strings_asciiSpace) :: []) W from h)))))
  exact Lib.tabIs_of_head (g := 0) (t := 262) (e := 5) (n := 256) (by kernel_rfl) (by kernel_rfl) Tryz.underlying262 Tryz.underlying5 (by kernel_rfl) (by kernel_rfl) (show laidMet Tryz.prog (("strings.asciiSpace", Lib.tabData .u8 Lib.asciiSpaceTab) :: []) W from h2)
set_option maxRecDepth 100000 in
theorem glob1 {W : World} (h : laidMetH Tryz.prog laidL W) : Go.Proofs.Sy.Pow W := by
  rw [MakeChecks.laidMetH_plain _ _ _ (by kernel_rfl)] at h
  have h2 := (laidMet.tail (laidMet.tail (show laidMet Tryz.prog (("math/bits.deBruijn32tab", Rows.laid_math_bits_deBruijn32tab) :: ("math/bits.deBruijn64tab", Rows.laid_math_bits_deBruijn64tab) :: ("internal/strconv.uint64pow10", Rows.laid_internal_strconv_uint64pow10) :: ("unicode.White_Space", Rows.laid_unicode_White_Space) :: ("strings.asciiSpace", Rows.laid_strings_asciiSpace) :: []) W from h)))
  exact Lib.tabIs_of_head (g := 2) (t := 316) (e := 251) (n := 20) (by kernel_rfl) (by kernel_rfl) Tryz.underlying316 Tryz.underlying251 (by kernel_rfl) (by kernel_rfl) (show laidMet Tryz.prog (("internal/strconv.uint64pow10", Lib.tabData .u64 Lib.pow10Tab) :: ("unicode.White_Space", Rows.laid_unicode_White_Space) :: ("strings.asciiSpace", Rows.laid_strings_asciiSpace) :: []) W from h2)
theorem glob_of_laid {W : World} (h : laidMetH Tryz.prog laidL W) : Go.Proofs.Sy.Kn W := ⟨glob0 h, glob1 h⟩
set_option maxRecDepth 100000 in
theorem lifted (os : Os) (started : os.Started) (H : Type) (enc : TypeId × Value → H) :
    ReturnsInHanded {} Tryz.checked os 6 .any (fun w args => (Rows.stepThisSpec.pre enc Tryz.prog Tryz.f6 Rows.stepThisRow.domain false w args ∧ laidMetH Tryz.prog laidL w) ∧ sizedMet enc Tryz.prog Tryz.f6 (OpenSpec.ofChange Rows.stepThisSpec) false w args)
      (Rows.stepThisSpec.post enc Tryz.prog Tryz.f6 false true false false) := by
  refine returnsInHanded_of_change_and (C := Tryz.checked) (X := fun w _ => laidMetH Tryz.prog laidL w) (fun _ _ _ hh h => h.of_heap hh) own started (by kernel_rfl) Tryz.func6
    (ChangeSpec.witness_shaped (enc := enc) (C := Tryz.checked) (os := os) (X := fun w _ => laidMetH Tryz.prog laidL w) false (World.doorLaid Tryz.prog 60 os) #[.int .u8 0] 8 rfl (World.shaped_of_RefB (by kernel_rfl) (by kernel_rfl)) (by kernel_rfl) (by kernel_rfl) (by kernel_rfl) (door_met os _)) ?_
  intro W base args ds gs before hval0 hW _ hsz0 hL _
  have hG := glob_of_laid hL
  have hval : ∀ (j : Nat) t v, Tryz.f6.params[j]? = some t → args[j]? = some v → Value.okWide Tryz.prog W .any base t v := hval0
  have hW' := hW
  obtain ⟨p, q, hA0, hV, rfl, hfz, hnd⟩ := hW
  have hA : DataW.TrodAll enc Tryz.prog W 0 (fun _ => true) true Tryz.f6.params.toList args.toList ds p := hA0
  rw [Tryz.params6] at hA hval
  obtain ⟨v0, vs0, d0, ds0, p0, q0, hargs, rfl, rfl, h0, r0⟩ := trodAll_cons hA
  obtain ⟨rfl, rfl, rfl⟩ := trodAll_nil r0
  obtain rfl : args = #[v0] := by cases args; simp_all
  obtain ⟨rfl, rfl⟩ := trodVars_none hV
  obtain ⟨a0, rfl, rfl, rfl, w0⟩ := open_int Tryz.underlying5 (hval 0 5 v0 rfl rfl) h0
  refine (walk a0 W w0 hG).mono fun e W' ⟨he, bel⟩ => ?_
  subst he
  exact ⟨_, rfl, _, _, _, [], _, [], hW', trodAll_mk1 (shut_bool Tryz.underlying4 _), (trodAll_cons_mk (shut_int Tryz.underlying5 w0) trodAll_mk0), rfl, bel.frame _, fun h => by cases h⟩
theorem j2 : laidOutB Tryz.prog = true := by kernel_rfl
theorem j3 : mapsRowed Tryz.prog = true := by kernel_rfl
theorem j7 : (Tryz.prog.stops == []) = true := by kernel_rfl
theorem j9 : (Tryz.prog.stopKnobs == []) = true := by kernel_rfl
theorem j10 : (Rows.stepThisRow.inPlace == Tryz.prog.inPlace 6) = true := by kernel_rfl
theorem j11 : (Rows.stepThisRow.unfollowed == Tryz.prog.unfollowed 6) = true := by kernel_rfl
theorem j12 : (Rows.stepThisRow.recurses == Tryz.prog.recurses 6) = true := by kernel_rfl
theorem j13 : (Rows.stepThisRow.named == Tryz.prog.varsNamed 6) = true := by kernel_rfl
theorem j23 : (Rows.stepThisRow.plainKeys == Tryz.prog.plainKeys) = true := by kernel_rfl
theorem j25 : Tryz.prog.stopsHeard = true := by kernel_rfl
theorem j26 : Tryz.prog.mayEnter = true := by kernel_rfl
theorem j27 : (Rows.stepThisRow.lifted == Tryz.prog.liftsFinal) = true := by kernel_rfl
theorem j28 : (Tryz.prog.make == some Rows.stepThisRow.make) = true := by kernel_rfl
theorem jand {a b : Bool} (ha : a = true) (hb : b = true) : (a && b) = true := by rw [ha, hb]; rfl
theorem closed : joinedFacts Tryz.prog 6 Tryz.f6 Rows.stepThisSpec Rows.stepThisRow = true := by
  unfold joinedFacts
  refine jand (jand (jand (jand (jand (jand (jand (jand (jand (jand (jand (jand (jand (jand (jand (jand (jand (jand (jand (jand (jand (jand (jand (jand (jand (jand (jand (jand (jand (jand (jand (?_) j2) j3) ?_) ?_) ?_) j7) ?_) j9) j10) j11) j12) j13) ?_) ?_) ?_) ?_) ?_) ?_) ?_) ?_) ?_) j23) ?_) j25) j26) j27) j28) ?_) ?_) ?_) ?_
  all_goals kernel_rfl
theorem over : Rows.stepThisRow.holds Tryz.pinned (OpenSpec.ofChange Rows.stepThisSpec) :=
  OpenClaim.holds_of_wide 6 Tryz.f6 rfl rfl rfl rfl rfl rfl rfl ⟨rfl, rfl, rfl, rfl, rfl⟩ rfl rfl rfl rfl rfl (by kernel_rfl) Tryz.func6 closed
    (of_decide_eq_true (by kernel_rfl)) (by unfold Func.isWrapper; first | (rw [if_pos (by decide +kernel)]; kernel_rfl) | (rw [if_neg (by decide +kernel)]; exact ⟨rfl, rfl⟩))
    (fun os started H enc _ => lifted os started H enc)
theorem card_w : Rows.stepThisRow.wfByText (OpenSpec.ofChange Rows.stepThisSpec) = true := by kernel_rfl
theorem card_m : Tryz.prog.mainIs = some ((true, "5a3d00ba45e52054d04116efd7a3346baf621e17c49d919a0a4adbdc7180512d").1, (true, "5a3d00ba45e52054d04116efd7a3346baf621e17c49d919a0a4adbdc7180512d").2.toList) := by kernel_rfl
theorem card_l : true = Tryz.prog.looks [] := by kernel_rfl
theorem card_s : ([5].all fun u => !Tryz.prog.wantsStandIn u) = true := by kernel_rfl
theorem card_g : false = Rows.stepThisRow.goesBy Tryz.prog := by kernel_rfl
theorem card_n : Tryz.prog.funcNamed "boomerang/boomeranglaw19.StepThis" = some 6 := by kernel_rfl
theorem card : Rows.StepThisCardSaid :=
  Claim7.holds_tied_plain_at .later [] [.data, .data, .data, .listed, .data] true (true, "5a3d00ba45e52054d04116efd7a3346baf621e17c49d919a0a4adbdc7180512d") true
    over (fun _ h => by cases h) card_w (fun _ h => by cases h) stepThis_row_tie rfl ⟨rfl, rfl⟩ card_m rfl
    (fun f fn hf hfn => by
      obtain rfl : f = 6 := Option.some.inj (card_n.symm.trans hf) |>.symm
      obtain rfl : fn = Tryz.f6 := (Option.some.inj (Tryz.func6.symm.trans hfn)).symm
      exact ⟨card_l, fun j t ht => by
        rw [Tryz.params6] at ht
        have hm : t ∈ [5] := by simpa using Array.mem_of_getElem? ht
        exact (show Tryz.prog.wantsStandIn t = false by simpa using List.all_eq_true.1 card_s t hm)⟩)
    card_g
theorem proved : Rows.StepThisCardSaid := card
end Go.Proofs.YtkmbpflckmbacaaGreatDoor.stepThis
namespace Go.Proofs.YtkmbpflckmbacaaGreatDoor
/-- The statement, under a short name, for the claim. -/
theorem stepThis_holds : Rows.StepThisCardSaid := stepThis.proved
end Go.Proofs.YtkmbpflckmbacaaGreatDoor
