import Derived.Test.YtlbooinipoaapaaDoorLxSign
set_option linter.unusedSimpArgs false
set_option linter.unusedVariables false
set_option linter.unusedSectionVars false
namespace Go.Proofs.Lx
open Go.Ev
noncomputable def c36_3 : EC := (.seq (.steps [(.op Option.none (.pure 6 (vBuild [(.int .i64 (.ofNat 0)), (.str ⟨#[]⟩), (.int .i64 (.ofNat 0)), (.int .i64 (.ofNat 0)), (.bool Bool.false)] [])) (Option.some [.b, .c])), (.op Option.none (.eff (hStore (.sl [.b]) (.sl [.b, .c]) 5)) Option.none), (.op Option.none (.pure 2 (vMove (.k (.int .i64 (.ofNat 0))))) (Option.some [.c]))]) .ret)
noncomputable def c36_2 : EC := (.cond (.sl [.a, .c]) c36_3 .skip)
noncomputable def c36_8 : EC := (.steps [(.op Option.none (.pure 18 (vFieldAddr (.sl [.a, .a]) 0)) (Option.some [.d, .a, .a])), (.op Option.none (.eff (hStore (.sl [.d, .a, .a]) (.k (.int .i64 (.ofNat 4))) 1)) Option.none)])
noncomputable def c36_7 : EC := (.cond (.sl [.c, .a, .a]) c36_8 .skip)
noncomputable def c36_9 : EC := (.seq (.steps [(.op Option.none (.look 8 (lLoad (.sl [.a, .a]) 5 Bool.true)) (Option.some [.a, .b, .a])), (.op Option.none (.pure 1 (vMove (.sl [.d]))) (Option.some [.b, .b, .a])), (.op Option.none (.eff (hStore (.sl [.b]) (.sl [.a, .b, .a]) 5)) Option.none), (.op Option.none (.pure 2 (vMove (.sl [.b, .b, .a]))) (Option.some [.c]))]) .ret)
noncomputable def c36_6 : EC := (.seq (.seq (.steps [(.op Option.none (.pure 18 (vFieldAddr (.sl [.a, .a]) 1)) (Option.some [.a, .a, .a])), (.op Option.none (.look 8 (lLoad (.sl [.a, .a, .a]) 1 Bool.false)) (Option.some [.b, .a, .a])), (.op Option.none (.eff (hCall (.k (.fn 19 [] [])) [(.sl [.b, .a, .a])])) (Option.some [.c, .a, .a]))]) c36_7) c36_9)
noncomputable def c36_5 : EC := (.seq (.steps [(.op Option.none (.pure 1 (vMove (.sl []))) (Option.some [.a, .d])), (.op Option.none (.pure 1 (vMove (.sl [.d]))) (Option.some [.b, .d])), (.op Option.none (.pure 17 (vSliceS (.sl [.a, .d]) Option.none (Option.some (.sl [.b, .d])))) (Option.some [.c, .d])), (.op Option.none (.pure 6 (vBuild [(.int .i64 (.ofNat 0)), (.str ⟨#[]⟩), (.int .i64 (.ofNat 0)), (.int .i64 (.ofNat 0)), (.bool Bool.false)] [(0, (1, (.k (.int .i64 (.ofNat 3))))), (1, (1, (.sl [.c, .d])))])) (Option.some [.d, .d])), (.op Option.none (.eff (bLoc [(.int .i64 (.ofNat 0)), (.str ⟨#[]⟩), (.int .i64 (.ofNat 0)), (.int .i64 (.ofNat 0)), (.bool Bool.false)] [.a, .a])) (Option.some [.a, .a])), (.op Option.none (.eff (hStore (.sl [.a, .a]) (.sl [.d, .d]) 5)) Option.none)]) c36_6)
noncomputable def c36_4 : EC := (.seq (.steps [(.op Option.none (.pure 1 (vMove (.sl []))) (Option.some [.c, .c])), (.op Option.none (.eff (hCall (.k (.fn 43 [] [])) [(.sl [.c, .c]), (.k (.fn 48 [] []))])) (Option.some [.d, .c])), (.op Option.none (.pure 2 (vMove (.sl [.d, .c]))) (Option.some [.d]))]) c36_5)
noncomputable def c36_1 : EC := (.seq (.seq (.steps [(.op Option.none (.pure 1 (vMove (.sl []))) (Option.some [.b, .a])), (.op Option.none (.pure 11 (vBin .no .eql (.sl [.b, .a]) (.k (.str ⟨#[]⟩)))) (Option.some [.c, .a])), (.op Option.none (.pure 1 (vMove (.sl [.c, .a]))) (Option.some [.d, .a])), (.op (Option.some ([.d, .a], Bool.false)) (.pure 1 (vMove (.sl []))) (Option.some [.a, .b])), (.op (Option.some ([.d, .a], Bool.false)) (.pure 21 (vIndex (.sl [.a, .b]) (.k (.int .i64 (.ofNat 0))))) (Option.some [.b, .b])), (.op (Option.some ([.d, .a], Bool.false)) (.eff (hCall (.k (.fn 46 [] [])) [(.sl [.b, .b])])) (Option.some [.c, .b])), (.op (Option.some ([.d, .a], Bool.false)) (.pure 12 (vUn .not (.sl [.c, .b]))) (Option.some [.d, .b])), (.op Option.none (.pure 3 (vPick (.sl [.d, .a]) (.k (.bool Bool.true)) (.sl [.d, .b]))) (Option.some [.a, .c]))]) c36_2) c36_4)
noncomputable def c36 : EF := ⟨(.seq (.steps [(.op Option.none (.eff (bLoc [(.int .i64 (.ofNat 0)), (.str ⟨#[]⟩), (.int .i64 (.ofNat 0)), (.int .i64 (.ofNat 0)), (.bool Bool.false)] [.b])) (Option.some [.b])), (.op Option.none (.pure 2 (vMove (.k (.int .i64 (.ofNat 0))))) (Option.some [.c]))]) c36_1), [(.cell (.sl [.b]) 5 Bool.true), (.slot (.sl [.c]))], Bool.false⟩
theorem c36_ok : compF Tryd.prog 36 = some c36 := by kernel_rfl
noncomputable def LF36 : FuncId → Option EF := lookF [(36, c36)]
theorem FF36 : LF36 36 = some c36 := rfl

/-- Is a text a word? -/
def isW (s : ByteArray) : Bool := !decide (idxS s (wordsL.map fun x => ⟨x.toArray⟩) 0 < 0)
theorem t19 {call : Calls'} (s : ByteArray) (h : H) (k30 : ∀ h, call 30 [.str wordsS] h = retStrs wordsL h) (k29 : ∀ (p : Path) (h : H), Ev.get p h.t = some (strBlk wordsL) → call 29 [.sl p 1 0 19, .str s] h = .ret (.bool (isW s)) h) :
    Tells (evFun LF19 call 1 19 [.str s] h) h (.bool (isW s)) := by
  have hl : wordsL.length = 19 := by decide
  have ks := k30
  unfold wordsS retStrs at ks
  rw [hl] at ks
  have hb : Ev.get h.next (h.new (strBlk wordsL)).t = some (strBlk wordsL) := by
    unfold H.new; simp only; rw [get_set, if_pos rfl]
  have kb := k29 h.next (h.new (strBlk wordsL)) hb
  simp [-y_Hnew, Tells, evFun, FF19, c19, c19_1, ks, kb]
/-- A name's token, or a word's, and how many bytes it takes. -/
def nameP (l : List UInt8) : AV := match l with
  | [] => .tup [Tok 0 ⟨#[]⟩ 0 0 false, .int .i64 0]
  | c :: r => if letB c then .tup [Tok (if isW ⟨((c :: r).take ((c :: r).takeWhile wordB).length).toArray⟩ then 4 else 3) ⟨((c :: r).take ((c :: r).takeWhile wordB).length).toArray⟩ 0 0 false, .int .i64 (((c :: r).takeWhile wordB).length : Nat)]
    else .tup [Tok 0 ⟨#[]⟩ 0 0 false, .int .i64 0]
theorem t36 {call : Calls'} (k46 : ∀ c h, call 46 [.int .u8 (UInt8.toNat c : Int)] h = .ret (.bool (letB c)) h) (k43 : ∀ l h, List.length l ≤ 1000000 → call 43 [T l, .fn 48 [] []] h = .ret (.int .i64 ((l.takeWhile wordB).length : Nat)) h)
    (k19 : ∀ s h, call 19 [.str s] h = .ret (.bool (isW s)) h) (l : List UInt8) (h : H) (hl : l.length ≤ 1000000) : Tells (evFun LF36 call 1 36 [T l] h) h (nameP l) := by
  match l, hl with
  | [], _ => simp [Tells, evFun, FF36, c36, c36_1, c36_2, c36_3, c36_4, c36_5, c36_6, c36_7, c36_8, c36_9, nameP, sEq, bytesEq]
  | c :: r, hl =>
    have q43 := fun h => k43 (c :: r) h hl
    have hle : ((c :: r).takeWhile wordB).length ≤ (c :: r).length := (List.takeWhile_sublist _).length_le
    unfold nameP
    cases h1 : letB c
    · simp [Tells, evFun, FF36, c36, c36_1, c36_2, c36_3, c36_4, c36_5, c36_6, c36_7, c36_8, c36_9, sEq, bytesEq, k46, h1]
    · obtain ⟨k, hk⟩ : ∃ k, ((c :: r).takeWhile wordB).length = k := ⟨_, rfl⟩
      simp only [hk] at q43 hle ⊢
      have hle' : k ≤ r.length + 1 := by simpa using hle
      cases h2 : isW ⟨((c :: r).take k).toArray⟩
      · simp [Tells, evFun, FF36, c36, c36_1, c36_2, c36_3, c36_4, c36_5, c36_6, c36_7, c36_8, c36_9, sEq, bytesEq, k46, h1, q43, k19, h2, hle', vSliceS, gvo, sliceS, bnd]
      · simp [Tells, evFun, FF36, c36, c36_1, c36_2, c36_3, c36_4, c36_5, c36_6, c36_7, c36_8, c36_9, sEq, bytesEq, k46, h1, q43, k19, h2, hle', vSliceS, gvo, sliceS, bnd]
end Go.Proofs.Lx
