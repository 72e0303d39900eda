/- The third evaluator: functions turned; that they tell what the second one tells. -/
import Derived.Test.YtanjjmgoangmdaaGreatDoorFvM
noncomputable section
set_option linter.unusedSectionVars false
set_option linter.unusedVariables false
namespace Go.Ev
section
variable {α : Type}
def ga (f : Tr α → Option α) (t : Tr α) : Option α := Tr.rec none (fun _ u _ _ _ _ _ _ _ => f u) t
def gb (f : Tr α → Option α) (t : Tr α) : Option α := Tr.rec none (fun _ _ u _ _ _ _ _ _ => f u) t
def gc (f : Tr α → Option α) (t : Tr α) : Option α := Tr.rec none (fun _ _ _ u _ _ _ _ _ => f u) t
def gd (f : Tr α → Option α) (t : Tr α) : Option α := Tr.rec none (fun _ _ _ _ u _ _ _ _ => f u) t
def g0 (t : Tr α) : Option α := Tr.rec none (fun v _ _ _ _ _ _ _ _ => v) t
inductive PQ where | e | a (p : PQ) | b (p : PQ) | c (p : PQ) | d (p : PQ)
def toQ (p : Path) : PQ := List.rec .e (fun x _ ih => D.rec (.a ih) (.b ih) (.c ih) (.d ih) x) p
def getQ (p : PQ) : Tr α → Option α := PQ.rec g0 (fun _ ih => ga ih) (fun _ ih => gb ih) (fun _ ih => gc ih) (fun _ ih => gd ih) p
def getT (p : Path) (t : Tr α) : Option α := getQ (toQ p) t
theorem getT_eq : ∀ (p : Path) (t : Tr α), getT p t = get p t
  | [], t => by cases t <;> rfl
  | x :: p, t => by cases x <;> cases t <;> first | rfl | exact getT_eq p _
def mark {β : Type} (_ : Path) (x : β) : β := x
def s0 (v : Option α) (t : Tr α) : Tr α := Tr.rec (.node v .nil .nil .nil .nil) (fun _ a b c d _ _ _ _ => .node v a b c d) t
def sa (f : Tr α → Tr α) (t : Tr α) : Tr α := Tr.rec (.node none (f .nil) .nil .nil .nil) (fun w a b c d _ _ _ _ => .node w (f a) b c d) t
def sb (f : Tr α → Tr α) (t : Tr α) : Tr α := Tr.rec (.node none .nil (f .nil) .nil .nil) (fun w a b c d _ _ _ _ => .node w a (f b) c d) t
def sc' (f : Tr α → Tr α) (t : Tr α) : Tr α := Tr.rec (.node none .nil .nil (f .nil) .nil) (fun w a b c d _ _ _ _ => .node w a b (f c) d) t
def sd (f : Tr α → Tr α) (t : Tr α) : Tr α := Tr.rec (.node none .nil .nil .nil (f .nil)) (fun w a b c d _ _ _ _ => .node w a b c (f d)) t
def setQ (z : Path) (p : PQ) (v : Option α) : Tr α → Tr α := PQ.rec (mark z (s0 v)) (fun _ ih => sa ih) (fun _ ih => sb ih) (fun _ ih => sc' ih) (fun _ ih => sd ih) p
def setT (z p : Path) (v : Option α) (t : Tr α) : Tr α := setQ z (toQ p) v t
theorem setT_eq (z : Path) (v : Option α) : ∀ (p : Path) (t : Tr α), setT z p v t = set p v t
  | [], t => by cases t <;> rfl
  | x :: p, t => by
    have h := setT_eq z v p
    cases x <;> cases t <;> first
      | (rename_i w a b c d; first | exact congrArg (fun y => Tr.node w y b c d) (h a) | exact congrArg (fun y => Tr.node w a y c d) (h b) | exact congrArg (fun y => Tr.node w a b y d) (h c) | exact congrArg (fun y => Tr.node w a b c y) (h d))
      | first | exact congrArg (fun y => Tr.node none y .nil .nil .nil) (h .nil) | exact congrArg (fun y => Tr.node none .nil y .nil .nil) (h .nil) | exact congrArg (fun y => Tr.node none .nil .nil y .nil) (h .nil) | exact congrArg (fun y => Tr.node none .nil .nil .nil y) (h .nil)
end
def pathF (i : Nat) : Path := Nat.rec [] (fun m _ => pathOf (Nat.succ m)) i
theorem pathF_eq (i : Nat) : pathF i = pathOf i := by cases i <;> rfl
def rowT (i : Nat) (t : Tr (List AV)) : Option (List AV) := Nat.rec (Tr.rec none (fun v _ _ _ _ _ _ _ _ => v) t) (fun m _ => getT (pathOf (Nat.succ m)) t) i
theorem rowT_eq (i : Nat) (t : Tr (List AV)) : rowT i t = rowR i t := by
  cases i with
  | zero => rfl
  | succ m => show getT (pathOf (Nat.succ m)) t = get (pathOf (Nat.succ m)) t; exact getT_eq _ t
def loadL3 (n : Nat) (g : Bool) (o : Nat) (l : List AV) : Option AV := Bool.rec (nthR o l) (Bool.rec none (some (.agg (takeR n (dropR o l)))) (Nat.ble (o + n) (lenR l))) g
theorem loadL3_eq (n : Nat) (g : Bool) (o : Nat) (l : List AV) : loadL3 n g o l = loadL n g o l := by
  cases g with
  | false => rfl
  | true =>
    show Bool.rec (motive := fun _ => Option AV) none (some (.agg (takeR n (dropR o l)))) (Nat.ble (o + n) (lenR l)) = (match cut o n l with | some l => val true l | none => none)
    unfold cut
    rw [lenR_eq, takeR_eq, dropR_eq]
    cases Nat.ble (o + n) l.length <;> rfl
def loadM3 (n : Nat) (g : Bool) (b : Path) (o : Nat) (h : H) : Option AV := Option.rec none (fun k => Blk.rec (fun kk _ rows _ _ mp _ => Bool.rec (Option.rec none (fun r => loadL3 n g (o % kk) r) (rowT (o / kk) rows)) none mp) k) (getT b h.t)
theorem loadM3_eq (n : Nat) (g : Bool) (b : Path) (o : Nat) (h : H) : loadM3 n g b o h = loadM n g b o h := by
  unfold loadM3 loadM getC
  rw [getT_eq]
  cases get b h.t with
  | none => rfl
  | some k =>
    obtain ⟨kk, m, rows, gr, ro, mp, ty⟩ := k
    cases mp with
    | true => rfl
    | false =>
      show Option.rec (motive := fun _ => Option AV) none (fun r => loadL3 n g (o % kk) r) (rowT (o / kk) rows) = Option.rec (motive := fun _ => Option AV) none (fun r => loadL n g (o % kk) r) (rowR (o / kk) rows)
      rw [rowT_eq]
      cases rowR (o / kk) rows with
      | none => rfl
      | some r => exact loadL3_eq n g _ r
def patch3 (o n : Nat) (c l : List AV) : Option (List AV) := Nat.rec (patchR o 0 c l) (fun m _ => Nat.rec (patchR o 1 c l) (fun _ _ => Bool.rec none (some (appR (takeR o l) (appR c (dropR (o + lenR c) l)))) (Nat.ble (o + lenR c) (lenR l))) m) n
theorem patch3_eq (o n : Nat) (c l : List AV) : patch3 o n c l = patchR o n c l := by
  match n with
  | 0 => rfl
  | 1 => rfl
  | n + 2 =>
    show Bool.rec (motive := fun _ => Option (List AV)) none (some (appR (takeR o l) (appR c (dropR (o + lenR c) l)))) (Nat.ble (o + lenR c) (lenR l)) = patch o c l
    unfold patch
    rw [lenR_eq, lenR_eq, appR_eq, appR_eq, takeR_eq, dropR_eq]
    cases Nat.ble (o + c.length) l.length <;> rfl
def putT (h : H) (b : Path) (x : Option Blk) : H := H.rec (fun nx t g => ⟨nx, setT b b x t, g⟩) h
theorem putT_eq (h : H) (b : Path) (x : Option Blk) : putT h b x = h.put b x := by
  obtain ⟨nx, t, g⟩ := h
  show H.mk nx (setT b b x t) g = H.mk nx (set b x t) g
  rw [setT_eq]
def storeM3 (n : Nat) (b : Path) (o : Nat) (c : List AV) (h : H) : Option H := Option.rec none (fun k => Blk.rec (fun kk m rows gr ro mp ty => Bool.rec (Bool.rec (Option.rec none (fun r => Option.rec none (fun r => some (putT h b (some ⟨kk, m, setT b (pathF (o / kk)) (some r) rows, gr, false, false, ty⟩))) (patch3 (o % kk) n c r)) (rowT (o / kk) rows)) none ro) none mp) k) (getT b h.t)
theorem storeM3_eq (n : Nat) (b : Path) (o : Nat) (c : List AV) (h : H) : storeM3 n b o c h = storeM n b o c h := by
  unfold storeM3 storeM getC
  rw [getT_eq]
  cases get b h.t with
  | none => rfl
  | some k =>
    obtain ⟨kk, m, rows, gr, ro, mp, ty⟩ := k
    cases mp with
    | true => rfl
    | false =>
      cases ro with
      | true => rfl
      | false =>
        show Option.rec (motive := fun _ => Option H) none (fun r => Option.rec (motive := fun _ => Option H) none (fun r => some (putT h b (some ⟨kk, m, setT b (pathF (o / kk)) (some r) rows, gr, false, false, ty⟩))) (patch3 (o % kk) n c r)) (rowT (o / kk) rows) = Option.rec (motive := fun _ => Option H) none (fun r => Option.rec (motive := fun _ => Option H) none (fun r => some (h.put b (some ⟨kk, m, set (pathOf (o / kk)) (some r) rows, gr, false, false, ty⟩))) (patchR (o % kk) n c r)) (rowR (o / kk) rows)
        rw [rowT_eq]
        cases rowR (o / kk) rows with
        | none => rfl
        | some r =>
          show Option.rec (motive := fun _ => Option H) none _ (patch3 (o % kk) n c r) = Option.rec (motive := fun _ => Option H) none _ (patchR (o % kk) n c r)
          rw [patch3_eq]
          cases patchR (o % kk) n c r with
          | none => rfl
          | some r =>
            show some (putT h b (some ⟨kk, m, setT b (pathF (o / kk)) (some r) rows, gr, false, false, ty⟩)) = some (h.put b (some ⟨kk, m, set (pathOf (o / kk)) (some r) rows, gr, false, false, ty⟩))
            rw [putT_eq, setT_eq, pathF_eq]
def loadB3 (n : Nat) (g : Bool) (g0 o : Nat) (s : S2) : Option AV := S2.rec none (fun _ => none) (fun _ => none) (fun _ => none) (fun _ => none) none (fun g' l => Bool.rec none (loadL3 n g o l) (Nat.beq g' g0)) (fun _ _ _ => none) s
theorem loadB3_eq (n : Nat) (g : Bool) (g0 o : Nat) (s : S2) : loadB3 n g g0 o s = loadB n g g0 o s := by
  cases s with
  | box g' l =>
    show Bool.rec (motive := fun _ => Option AV) none (loadL3 n g o l) (Nat.beq g' g0) = Bool.rec (motive := fun _ => Option AV) none (loadL n g o l) (Nat.beq g' g0)
    rw [loadL3_eq]
  | _ => rfl
def ldV (n : Nat) (g : Bool) (a : AV) (h : H) : Option AV := OP.rec (fun b o => loadM3 n g b o h) none (avP a)
def loadP3 (A : Fam) (n : Nat) (g : Bool) (s : S2) (fr : A.F) (h : H) : Option AV :=
  S2.rec none (fun _ => none) (fun _ => none) (fun _ => none) (fun a => ldV n g a h) none (fun _ l => loadL3 n g 0 l) (fun m g' o => loadB3 n g g' o ((A.acc m).get fr)) s
theorem loadP3_eq (A : Fam) (n : Nat) (g : Bool) (s : S2) (fr : A.F) (h : H) : loadP3 A n g s fr h = loadP A n g s fr h := by
  cases s with
  | v a =>
    show OP.rec (motive := fun _ => Option AV) (fun b o => loadM3 n g b o h) none (avP a) = OP.rec (motive := fun _ => Option AV) (fun b o => loadM n g b o h) none (avP a)
    cases avP a with
    | mem b o => exact loadM3_eq n g b o h
    | no => rfl
  | box g' l => exact loadL3_eq n g 0 l
  | lp m g' o => exact loadB3_eq n g g' o _
  | _ => rfl
def avG (a : AV) : Option (List AV) := AV.rec (motive_1 := fun _ => Option (List AV)) (motive_2 := fun _ => Unit) (fun _ => none) (fun _ _ => none) (fun _ _ _ => none) (fun _ => none) (fun _ _ => none) none (fun _ _ _ _ => none) none none (fun _ _ _ _ _ => none) none (fun _ _ _ => none) none (fun _ => none) none (fun l _ => some l) (fun _ _ => none) (fun _ _ _ _ => none) (fun _ => none) () (fun _ _ _ _ => ()) a
def field3 (off n : Nat) (g : Bool) (a : Option AV) : Option AV := Option.rec none (fun a => Option.rec none (fun l => loadL3 n g off l) (avG a)) a
theorem field3_eq (off n : Nat) (g : Bool) (a : Option AV) : field3 off n g a = field2 off n g a := by
  cases a with
  | none => rfl
  | some a => cases a <;> first | rfl | exact loadL3_eq n g off _
def newH (h : H) (b : Blk) : H := H.rec (fun nx t g => ⟨inc nx, setT nx nx (some b) t, g⟩) h
theorem newH_eq (h : H) (b : Blk) : newH h b = h.new b := by
  obtain ⟨nx, t, g⟩ := h
  show H.mk (inc nx) (setT nx nx (some b) t) g = H.mk (inc nx) (set nx (some b) t) g
  rw [setT_eq]
def genC {α : Type} (h : H) (k : Nat → H → α) : α := H.rec (fun nx t g => k g ⟨nx, t, Nat.succ g⟩) h
def rowsOf3 (z : Path) (k : Nat) (n : Nat) : Nat → List AV → Tr (List AV) → Tr (List AV) :=
  Nat.rec (fun _ _ t => t) (fun _ ih i l t => ih (Nat.add i 1) (dropR k l) (setT z (pathF i) (some (takeR k l)) t)) n
theorem rowsOf3_eq (z : Path) (k : Nat) : ∀ (n i : Nat) (l : List AV) (t : Tr (List AV)), rowsOf3 z k n i l t = rowsOf k n i l t
  | 0, _, _, _ => rfl
  | n + 1, i, l, t => by
    show rowsOf3 z k n (i + 1) (dropR k l) (setT z (pathF i) (some (takeR k l)) t) = rowsOf k n (i + 1) (l.drop k) (set (pathOf i) (some (l.take k)) t)
    rw [setT_eq, pathF_eq, takeR_eq, dropR_eq]
    exact rowsOf3_eq z k n _ _ _
def repRows3 (y : Path) (z : List AV) (n : Nat) : Nat → Tr (List AV) → Tr (List AV) :=
  Nat.rec (fun _ t => t) (fun _ ih i t => ih (Nat.add i 1) (setT y (pathF i) (some z) t)) n
theorem repRows3_eq (y : Path) (z : List AV) : ∀ (n i : Nat) (t : Tr (List AV)), repRows3 y z n i t = repRows z n i t
  | 0, _, _ => rfl
  | n + 1, i, t => by
    show repRows3 y z n (i + 1) (setT y (pathF i) (some z) t) = repRows z n (i + 1) (set (pathOf i) (some z) t)
    rw [setT_eq, pathF_eq]
    exact repRows3_eq y z n _ _
def byteRows3 (z : Path) (l : List UInt8) : Nat → Tr (List AV) → Tr (List AV) :=
  List.rec (fun _ t => t) (fun c _ ih i t => ih (Nat.add i 1) (setT z (pathF i) (some [AV.int .u8 (.ofNat c.toNat)]) t)) l
theorem byteRows3_eq (z : Path) : ∀ (l : List UInt8) (i : Nat) (t : Tr (List AV)), byteRows3 z l i t = byteRows l i t
  | [], _, _ => rfl
  | c :: l, i, t => by
    show byteRows3 z l (i + 1) (setT z (pathF i) (some [AV.int .u8 (.ofNat c.toNat)]) t) = byteRows l (i + 1) (set (pathOf i) (some [AV.int .u8 (.ofNat c.toNat)]) t)
    rw [setT_eq, pathF_eq]
    exact byteRows3_eq z l _ _
def nSlice3 (z : Path) (k n : Nat) (r : Option (List AV)) : Option (Blk × Option Nat) := Option.rec none (fun l => some (⟨k, n, rowsOf3 z k n 0 l .nil, false, false, false, 0⟩, some n)) r
theorem nSlice3_eq (z : Path) (k n : Nat) (r : Option (List AV)) : nSlice3 z k n r = nSlice2 k n r := by
  cases r with
  | none => rfl
  | some l => show some ((⟨k, n, rowsOf3 z k n 0 l .nil, false, false, false, 0⟩ : Blk), some n) = some (⟨k, n, rowsOf k n 0 l .nil, false, false, false, 0⟩, some n); rw [rowsOf3_eq]
def nBytes3 (z : Path) (a : Option AV) : Option (Blk × Option Nat) := match a with
  | some (.str s) => some (⟨1, lenR s.data.toList, byteRows3 z s.data.toList 0 .nil, true, true, false, 0⟩, some (lenR s.data.toList))
  | some (.ss l) => some (⟨1, l.length, sbRows l 0 .nil, true, true, false, 0⟩, some l.length)
  | _ => none
theorem nBytes3_eq (z : Path) (a : Option AV) : nBytes3 z a = nBytes2 a := by
  cases a with
  | none => rfl
  | some a => cases a <;> first | rfl | (unfold nBytes3 nBytes2; simp only [byteRows3_eq, lenR_eq])
def nMake3 (y : Path) (k : Nat) (z : List AV) (l c : Option AV) : Option (Blk × Option Nat) := match l with
  | some l => match c with
    | some c => match natOf l, natOf c with
      | some l, some c => match Nat.ble l c, Nat.ble c most with
        | true, true => some (⟨k, c, repRows3 y z c 0 .nil, false, false, false, 0⟩, some l)
        | _, _ => none
      | _, _ => none
    | none => none
  | none => none
theorem nMake3_eq (y : Path) (k : Nat) (z : List AV) (l c : Option AV) : nMake3 y k z l c = nMake2 k z l c := by
  unfold nMake3 nMake2
  simp only [repRows3_eq]
  rfl
def copyRows3 (z : Path) (src : Tr (List AV)) (n : Nat) : Nat → Nat → Tr (List AV) → Option (Tr (List AV)) :=
  Nat.rec (fun _ _ t => some t) (fun _ ih i j t => Option.rec none (fun r => ih (Nat.add i 1) (Nat.add j 1) (setT z (pathF j) (some r) t)) (rowT i src)) n
theorem copyRows3_eq (z : Path) (src : Tr (List AV)) : ∀ (n i j : Nat) (t : Tr (List AV)), copyRows3 z src n i j t = copyRows src n i j t
  | 0, _, _, _ => rfl
  | n + 1, i, j, t => by
    show Option.rec (motive := fun _ => Option (Tr (List AV))) none (fun r => copyRows3 z src n (i + 1) (j + 1) (setT z (pathF j) (some r) t)) (rowT i src) = Option.rec (motive := fun _ => Option (Tr (List AV))) none (fun r => copyRows src n (i + 1) (j + 1) (set (pathOf j) (some r) t)) (get (pathOf i) src)
    rw [rowT_eq, rowR_eq]
    cases get (pathOf i) src with
    | none => rfl
    | some r =>
      show copyRows3 z src n (i + 1) (j + 1) (setT z (pathF j) (some r) t) = copyRows src n (i + 1) (j + 1) (set (pathOf j) (some r) t)
      rw [setT_eq, pathF_eq]
      exact copyRows3_eq z src n _ _ _
def oldRows3 (z : Path) (rows : Tr (List AV)) (n i : Nat) : Option (Tr (List AV)) := Nat.rec (some rows) (fun m _ => copyRows3 z rows n (Nat.succ m) 0 .nil) i
theorem oldRows3_eq (z : Path) (rows : Tr (List AV)) (n i : Nat) : oldRows3 z rows n i = oldRows rows n i := by
  cases i with
  | zero => rfl
  | succ m => exact copyRows3_eq z rows n _ _ _
def tyR (t ty i : Nat) : Nat := Bool.rec 0 (Nat.rec t (fun _ _ => 0) i) (Nat.beq ty t)
theorem tyR_eq (t : Nat) (b : Blk) (i : Nat) : tyR t b.ty i = newTy t b i := by
  unfold tyR newTy
  cases Nat.beq b.ty t with
  | false => rfl
  | true => cases i <;> rfl
def rowsA (h : H) (t k : Nat) (b : Path) (i n m : Nat) (src : Tr (List AV)) (i0 : Nat) (bk bn : Nat) (br : Tr (List AV)) (bg : Bool) (bt : Nat) : Option (AV × H) :=
  Bool.rec (Bool.rec none (Option.rec none (fun r => Option.rec none (fun r => some (.sl h.next k 0 (n + m), newH (Bool.rec h (putT h b none) bg) ⟨k, n + m, r, true, false, false, tyR t bt i⟩)) (copyRows3 h.next src m i0 n r)) (oldRows3 h.next br n i)) (Nat.beq (i + n) bn))
    (Option.rec none (fun r => some (.sl b k i (n + m), putT h b (some ⟨bk, bn, r, bg, false, false, bt⟩))) (copyRows3 b src m i0 (i + n) br)) (Nat.ble (i + n + m) bn)
def appendRows3 (h : H) (t k : Nat) (s : AV) (m : Nat) (src : Tr (List AV)) (i0 : Nat) : Option (AV × H) := match s with
  | .nils => Nat.rec (some (.nils, h)) (fun _ _ => Option.rec none (fun r => some (.sl h.next k 0 m, newH h ⟨k, m, r, true, false, false, t⟩)) (copyRows3 h.next src m i0 0 .nil)) m
  | .sl b _ i n => Option.rec none (fun bl => Blk.rec (fun bk bn br bg bo bm bt => Bool.rec (Bool.rec (Bool.rec none (rowsA h t k b i n m src i0 bk bn br bg bt) (Nat.beq bk k)) none bo) none bm) bl) (getT b h.t)
  | _ => none
theorem appendRows3_eq (h : H) (t k : Nat) (s : AV) (m : Nat) (src : Tr (List AV)) (i0 : Nat) : appendRows3 h t k s m src i0 = appendRows h t k s m src i0 := by
  cases s with
  | nils =>
    cases m with
    | zero => rfl
    | succ m =>
      show Option.rec (motive := fun _ => Option (AV × H)) none (fun r => some (AV.sl h.next k 0 (m + 1), newH h ⟨k, m + 1, r, true, false, false, t⟩)) (copyRows3 h.next src (m + 1) i0 0 .nil) = (match copyRows src (m + 1) i0 0 .nil with | some r => some (AV.sl h.next k 0 (m + 1), h.new ⟨k, m + 1, r, true, false, false, t⟩) | none => none)
      rw [copyRows3_eq]
      cases copyRows src (m + 1) i0 0 .nil with
      | none => rfl
      | some r => show some (AV.sl h.next k 0 (m + 1), newH h ⟨k, m + 1, r, true, false, false, t⟩) = _; rw [newH_eq]
  | sl b z i n =>
    unfold appendRows3 appendRows getC
    simp only
    rw [getT_eq]
    cases get b h.t with
    | none => rfl
    | some bl =>
      obtain ⟨bk, bn, br, bg, bo, bm, bt⟩ := bl
      cases bm with
      | true => rfl
      | false =>
        cases bo with
        | true => rfl
        | false =>
          simp only
          cases Nat.beq bk k with
          | false => rfl
          | true =>
            simp only
            show rowsA h t k b i n m src i0 bk bn br bg bt = _
            unfold rowsA
            cases Nat.ble (i + n + m) bn with
            | true =>
              simp only [copyRows3_eq]
              cases copyRows src m i0 (i + n) br with
              | none => rfl
              | some r => simp only [putT_eq]
            | false =>
              simp only
              cases Nat.beq (i + n) bn with
              | false => rfl
              | true =>
                simp only [oldRows3_eq, copyRows3_eq]
                cases oldRows br n i with
                | none => rfl
                | some r =>
                  simp only
                  cases copyRows src m i0 n r with
                  | none => rfl
                  | some r =>
                    simp only [newH_eq]
                    rw [show tyR t bt i = newTy t ⟨bk, bn, br, bg, false, false, bt⟩ i from tyR_eq t ⟨bk, bn, br, bg, false, false, bt⟩ i]
                    cases bg <;> simp only [putT_eq]
  | _ => rfl
def appendV3 (h : H) (t k : Nat) (s x : AV) : Option (AV × H) := match x with
  | .nils => appendRows3 h t k s 0 .nil 0
  | .sle => appendRows3 h t k s 0 .nil 0
  | .sl b _ i n => Option.rec none (fun bl => Blk.rec (fun bk _ br _ _ bm _ => Bool.rec (Bool.rec none (appendRows3 h t k s n br i) (Nat.beq bk k)) none bm) bl) (getT b h.t)
  | _ => none
theorem appendV3_eq (h : H) (t k : Nat) (s x : AV) : appendV3 h t k s x = appendV h t k s x := by
  cases x with
  | nils => exact appendRows3_eq h t k s 0 .nil 0
  | sle => exact appendRows3_eq h t k s 0 .nil 0
  | sl b z i n =>
    unfold appendV3 appendV getC
    simp only
    rw [getT_eq]
    cases get b h.t with
    | none => rfl
    | some bl =>
      obtain ⟨bk, bn, br, bg, bo, bm, bt⟩ := bl
      cases bm with
      | true => rfl
      | false =>
        simp only
        cases Nat.beq bk k with
        | false => rfl
        | true => exact appendRows3_eq h t k s n br i
  | _ => rfl
def appendS3 (h : H) (t k : Nat) (s x : AV) : Option (AV × H) := match x with
  | .str y => match Nat.beq k 1 with | true => appendRows3 h t k s (lenR y.data.toList) (byteRows3 h.next y.data.toList 0 .nil) 0 | false => none
  | .ss l => match Nat.beq k 1 with | true => appendRows3 h t k s l.length (sbRows l 0 .nil) 0 | false => none
  | _ => none
theorem appendS3_eq (h : H) (t k : Nat) (s x : AV) : appendS3 h t k s x = appendS h t k s x := by
  cases x with
  | str y =>
    unfold appendS3 appendS
    simp only [appendRows3_eq, lenR_eq, byteRows3_eq]
    cases Nat.beq k 1 <;> rfl
  | ss l =>
    unfold appendS3 appendS
    simp only [appendRows3_eq]
    cases Nat.beq k 1 <;> rfl
  | _ => rfl
def keyI (k : IntKind) (a : Int) (v : AV) : Option Bool := AV.rec (motive_1 := fun _ => Option Bool) (motive_2 := fun _ => Unit) (fun _ => none) (fun j b => Bool.rec none (some (eqF a b)) (keq k j)) (fun _ _ _ => none) (fun _ => none) (fun _ _ => none) none (fun _ _ _ _ => none) none none (fun _ _ _ _ _ => none) none (fun _ _ _ => none) none (fun _ => none) none (fun _ _ => none) (fun _ _ => none) (fun _ _ _ _ => none) (fun _ => none) () (fun _ _ _ _ => ()) v
def keyS (x : List UInt8) (v : AV) : Option Bool := AV.rec (motive_1 := fun _ => Option Bool) (motive_2 := fun _ => Unit) (fun _ => none) (fun _ _ => none) (fun _ _ _ => none) (fun y => some (bytesR x y.data.toList)) (fun _ _ => none) none (fun _ _ _ _ => none) none none (fun _ _ _ _ _ => none) none (fun _ _ _ => none) none (fun _ => none) none (fun _ _ => none) (fun _ _ => none) (fun _ _ _ _ => none) (fun _ => none) () (fun _ _ _ _ => ()) v
theorem keyI_eq (k : IntKind) (a : Int) (v : AV) : keyI k a v = keyEq (.int k a) v := by
  cases v with
  | int j b =>
    show Bool.rec (motive := fun _ => Option Bool) none (some (eqF a b)) (keq k j) = (match keq k j with | true => some (ieq a b) | false => none)
    rw [eqF_eq]
    cases keq k j <;> rfl
  | _ => rfl
theorem keyS_eq (x : ByteArray) (v : AV) : keyS x.data.toList v = keyEq (.str x) v := by
  cases v with
  | str y => show some (bytesR x.data.toList y.data.toList) = some (bytesEq x.data.toList y.data.toList); rw [bytesR_eq]
  | _ => rfl
def findWith (e : AV → Option Bool) (rows : Tr (List AV)) (n : Nat) : Nat → Option (Option (Nat × AV)) :=
  Nat.rec (fun _ => some none) (fun _ ih i => Option.rec none (fun r => List.rec none (fun ka l1 _ => List.rec none (fun va l2 _ => List.rec (Option.rec none (fun b => Bool.rec (ih (Nat.add i 1)) (some (some (i, va))) b) (e ka)) (fun _ _ _ => none) l2) l1) r) (rowT i rows)) n
theorem findWith_eq {e : AV → Option Bool} {key : AV} (he : ∀ v, e v = keyEq key v) (rows : Tr (List AV)) : ∀ (n i : Nat), findWith e rows n i = findRow key rows n i
  | 0, _ => rfl
  | n + 1, i => by
    show Option.rec (motive := fun _ => Option (Option (Nat × AV))) none (fun r => List.rec (motive := fun _ => Option (Option (Nat × AV))) none (fun ka l1 _ => List.rec (motive := fun _ => Option (Option (Nat × AV))) none (fun va l2 _ => List.rec (motive := fun _ => Option (Option (Nat × AV))) (Option.rec (motive := fun _ => Option (Option (Nat × AV))) none (fun b => Bool.rec (motive := fun _ => Option (Option (Nat × AV))) (findWith e rows n (i + 1)) (some (some (i, va))) b) (e ka)) (fun _ _ _ => none) l2) l1) r) (rowT i rows)
      = (match get (pathOf i) rows with
        | some [ka, va] => match keyEq key ka with
          | some true => some (some (i, va))
          | some false => findRow key rows n (i + 1)
          | none => none
        | _ => none)
    rw [rowT_eq, rowR_eq, findWith_eq he rows n (i + 1)]
    cases get (pathOf i) rows with
    | none => rfl
    | some r =>
      match r with
      | [] => rfl
      | [_] => rfl
      | _ :: _ :: _ :: _ => rfl
      | [ka, va] =>
        show Option.rec (motive := fun _ => Option (Option (Nat × AV))) none (fun b => Bool.rec (motive := fun _ => Option (Option (Nat × AV))) (findRow key rows n (i + 1)) (some (some (i, va))) b) (e ka) = (match keyEq key ka with | some true => some (some (i, va)) | some false => findRow key rows n (i + 1) | none => none)
        rw [he]
        cases keyEq key ka with
        | none => rfl
        | some b => cases b <;> rfl
def findRow3 (key : AV) (rows : Tr (List AV)) (n i : Nat) : Option (Option (Nat × AV)) := match key with
  | .int k a => findWith (keyI k a) rows n i
  | .str x => findWith (keyS x.data.toList) rows n i
  | key => findRow key rows n i
theorem findRow3_eq (key : AV) (rows : Tr (List AV)) (n i : Nat) : findRow3 key rows n i = findRow key rows n i := by
  cases key with
  | int k a => exact findWith_eq (keyI_eq k a) rows n i
  | str x => exact findWith_eq (keyS_eq x) rows n i
  | _ => rfl
def mapLk (z : AV) (comma : Bool) (ka : AV) (b : Option Blk) : Option AV := Option.rec none (fun b => Blk.rec (fun _ n rows _ _ m _ => Bool.rec none (Option.rec none (fun r => Option.rec (some (found2 comma z false)) (fun q => Prod.rec (fun _ va => some (found2 comma va true)) q) r) (findRow3 ka rows n 0)) m) b) b
def lookup3 (kt : KT) (z : AV) (comma : Bool) (x k : Option AV) (h : H) : Option AV := Option.rec none (fun ka => Bool.rec none (match x with
      | some .nilm => some (found2 comma z false)
      | some (.mp p) => mapLk z comma ka (getT p h.t)
      | _ => none) (isKey kt ka)) k
theorem lookup3_eq (kt : KT) (z : AV) (comma : Bool) (x k : Option AV) (h : H) : lookup3 kt z comma x k h = lookup2 kt z comma x k h := by
  cases k with
  | none => rfl
  | some ka =>
    show Bool.rec (motive := fun _ => Option AV) none _ (isKey kt ka) = (match isKey kt ka with | true => _ | false => none)
    cases isKey kt ka with
    | false => rfl
    | true =>
      cases x with
      | none => rfl
      | some x =>
        cases x with
        | mp p =>
          show mapLk z comma ka (getT p h.t) = (match mapAt p h with
            | some b => match findRow ka b.rows b.n 0 with
              | some (some (_, va)) => some (found2 comma va true)
              | some none => some (found2 comma z false)
              | none => none
            | none => none)
          rw [getT_eq]
          unfold mapAt mapLk
          cases get p h.t with
          | none => rfl
          | some bl =>
            obtain ⟨bk, bn, br, bg, bo, bm, bt⟩ := bl
            cases bm with
            | false => rfl
            | true =>
              simp only [findRow3_eq]
              cases findRow ka br bn 0 with
              | none => rfl
              | some r => cases r <;> rfl
        | _ => rfl
def insB (kt : KT) (p : Path) (x v : AV) (h : H) (bk bn : Nat) (br : Tr (List AV)) (bg bo : Bool) (bt : Nat) : Option H := Bool.rec none
  (Option.rec none (fun r => Option.rec (some (putT h p (some ⟨bk, bn + 1, setT p (pathF bn) (some [x, v]) br, bg, bo, true, bt⟩))) (fun q => Prod.rec (fun j _ => some (putT h p (some ⟨bk, bn, setT p (pathF j) (some [x, v]) br, bg, bo, true, bt⟩))) q) r) (findRow3 x br bn 0)) (isKey kt x)
def insH3 (kt : KT) (m x v : AV) (h : H) : Option H := match m with
  | .mp p => Option.rec none (fun b => Blk.rec (fun bk bn br bg bo bm bt => Bool.rec none (insB kt p x v h bk bn br bg bo bt) bm) b) (getT p h.t)
  | _ => none
def insH (kt : KT) (m x v : AV) (h : H) : Option H := match m with
  | .mp p => match mapAt p h with
    | some b => match isKey kt x with
      | true => match findRow x b.rows b.n 0 with
        | some (some (j, _)) => some (h.put p (some { b with rows := set (pathOf j) (some [x, v]) b.rows }))
        | some none => some (h.put p (some { b with n := b.n + 1, rows := set (pathOf b.n) (some [x, v]) b.rows }))
        | none => none
      | false => none
    | none => none
  | _ => none
theorem insH3_eq (kt : KT) (m x v : AV) (h : H) : insH3 kt m x v h = insH kt m x v h := by
  cases m with
  | mp p =>
    unfold insH3 insH mapAt
    simp only
    rw [getT_eq]
    cases get p h.t with
    | none => rfl
    | some bl =>
      obtain ⟨bk, bn, br, bg, bo, bm, bt⟩ := bl
      cases bm with
      | false => rfl
      | true =>
        show insB kt p x v h bk bn br bg bo bt = _
        unfold insB
        simp only
        cases isKey kt x with
        | false => rfl
        | true =>
          simp only [findRow3_eq]
          cases findRow x br bn 0 with
          | none => rfl
          | some r =>
            cases r with
            | none => simp only [putT_eq, setT_eq, pathF_eq]
            | some q => obtain ⟨j, y⟩ := q; simp only [putT_eq, setT_eq, pathF_eq]
  | _ => rfl
end Go.Ev
namespace Go.Ev

inductive Kd where
  | i | u | b | s | v | raw | box
  | lp (d off : Nat)
abbrev K3 (F : Type) := F → H → CR
structure DClo (F : Type) where
  run : Calls' → F → H → K3 F → CR
def bd {α : Type} (a : α) (k : α → CR) : CR := k a

def avI (a : AV) : Option Int := AV.rec (motive_1 := fun _ => Option Int) (motive_2 := fun _ => Unit) (fun _ => none) (fun k n => IntKind.rec none none none (some n) none none none none k) (fun _ _ _ => none) (fun _ => none) (fun _ _ => none) none (fun _ _ _ _ => none) none none (fun _ _ _ _ _ => none) none (fun _ _ _ => none) none (fun _ => none) none (fun _ _ => none) (fun _ _ => none) (fun _ _ _ _ => none) (fun _ => none) () (fun _ _ _ _ => ()) a
def avU (a : AV) : Option Nat := AV.rec (motive_1 := fun _ => Option Nat) (motive_2 := fun _ => Unit) (fun _ => none) (fun k n => IntKind.rec none none none none (Int.rec some (fun _ => none) n) none none none k) (fun _ _ _ => none) (fun _ => none) (fun _ _ => none) none (fun _ _ _ _ => none) none none (fun _ _ _ _ _ => none) none (fun _ _ _ => none) none (fun _ => none) none (fun _ _ => none) (fun _ _ => none) (fun _ _ _ _ => none) (fun _ => none) () (fun _ _ _ _ => ()) a
def avBo (a : AV) : Option Bool := AV.rec (motive_1 := fun _ => Option Bool) (motive_2 := fun _ => Unit) some (fun _ _ => none) (fun _ _ _ => none) (fun _ => none) (fun _ _ => none) none (fun _ _ _ _ => none) none none (fun _ _ _ _ _ => none) none (fun _ _ _ => none) none (fun _ => none) none (fun _ _ => none) (fun _ _ => none) (fun _ _ _ _ => none) (fun _ => none) () (fun _ _ _ _ => ()) a
def avS (a : AV) : Option ByteArray := AV.rec (motive_1 := fun _ => Option ByteArray) (motive_2 := fun _ => Unit) (fun _ => none) (fun _ _ => none) (fun _ _ _ => none) some (fun _ _ => none) none (fun _ _ _ _ => none) none none (fun _ _ _ _ _ => none) none (fun _ _ _ => none) none (fun _ => none) none (fun _ _ => none) (fun _ _ => none) (fun _ _ _ _ => none) (fun _ => none) () (fun _ _ _ _ => ()) a
def sI (s : S2) : Option Int := S2.rec none some (fun _ => none) (fun _ => none) avI none (fun _ _ => none) (fun _ _ _ => none) s
def sU (s : S2) : Option Nat := S2.rec none (fun _ => none) some (fun _ => none) avU none (fun _ _ => none) (fun _ _ _ => none) s
def sBo (s : S2) : Option Bool := S2.rec none (fun _ => none) (fun _ => none) some avBo none (fun _ _ => none) (fun _ _ _ => none) s
def sS (s : S2) : Option ByteArray := S2.rec none (fun _ => none) (fun _ => none) (fun _ => none) avS none (fun _ _ => none) (fun _ _ _ => none) s

section
variable (A : Fam) (d : Option Nat) (kd : Kd)
def putK (w : Nat) (a : AV) (fr : A.F) (h : H) (k : K3 A.F) : CR := Kd.rec
  (Option.rec (.bad w) (fun n => k ((putC A d).put (.i64 n) fr) h) (avI a))
  (Option.rec (.bad w) (fun n => k ((putC A d).put (.u8 n) fr) h) (avU a))
  (Option.rec (.bad w) (fun x => k ((putC A d).put (.b x) fr) h) (avBo a))
  (Option.rec (.bad w) (fun x => k ((putC A d).put (.v (.str x)) fr) h) (avS a))
  (k ((putC A d).put (.v a) fr) h) (k ((putC A d).put (.v a) fr) h) (k ((putC A d).put (.v a) fr) h) (fun _ _ => k ((putC A d).put (.v a) fr) h) kd
def dV (w : Nat) (g : A.F → Option AV) : DClo A.F := ⟨fun _ fr h k => Option.rec (.bad w) (fun a => putK A d kd w a fr h k) (g fr)⟩
def dVH (w : Nat) (g : A.F → H → Option AV) : DClo A.F := ⟨fun _ fr h k => Option.rec (.bad w) (fun a => putK A d kd w a fr h k) (g fr h)⟩
def dN (w : Nat) (g : Path → A.F → Option (Blk × Option Nat)) : DClo A.F := ⟨fun _ fr h k => Option.rec (.bad w) (fun x => bd (newH h x.1) fun h' => k ((putC A d).put (newS2 h.next x.1.k x.2) fr) h') (g h.next fr)⟩
def dMv (w : Nat) (x : A.F → S2) : DClo A.F := ⟨fun _ fr h k => Kd.rec
  (Option.rec (.bad w) (fun n => k ((putC A d).put (.i64 n) fr) h) (sI (x fr)))
  (Option.rec (.bad w) (fun n => k ((putC A d).put (.u8 n) fr) h) (sU (x fr)))
  (Option.rec (.bad w) (fun n => k ((putC A d).put (.b n) fr) h) (sBo (x fr)))
  (Option.rec (.bad w) (fun n => k ((putC A d).put (.v (.str n)) fr) h) (sS (x fr)))
  (Option.rec (.bad w) (fun n => k ((putC A d).put (.v n) fr) h) (vS (x fr)))
  (Option.rec (.bad w) (fun n => k ((putC A d).put (.v n) fr) h) (vS (x fr)))
  (Option.rec (.bad w) (fun n => k ((putC A d).put (.v n) fr) h) (vS (x fr)))
  (fun _ _ => Option.rec (.bad w) (fun n => k ((putC A d).put (.v n) fr) h) (vS (x fr))) kd⟩
def dPick (c a b : A.F → S2) : DClo A.F := ⟨fun _ fr h k => Option.rec (.bad 3) (fun x => Kd.rec
  (Option.rec (.bad 3) (fun n => k ((putC A d).put (.i64 n) fr) h) (Bool.rec (sI (b fr)) (sI (a fr)) x))
  (Option.rec (.bad 3) (fun n => k ((putC A d).put (.u8 n) fr) h) (Bool.rec (sU (b fr)) (sU (a fr)) x))
  (Option.rec (.bad 3) (fun n => k ((putC A d).put (.b n) fr) h) (Bool.rec (sBo (b fr)) (sBo (a fr)) x))
  (Option.rec (.bad 3) (fun n => k ((putC A d).put (.v (.str n)) fr) h) (Bool.rec (sS (b fr)) (sS (a fr)) x))
  (Option.rec (.bad 3) (fun n => k ((putC A d).put (.v n) fr) h) (Bool.rec (vS (b fr)) (vS (a fr)) x))
  (Option.rec (.bad 3) (fun n => k ((putC A d).put (.v n) fr) h) (Bool.rec (vS (b fr)) (vS (a fr)) x))
  (Option.rec (.bad 3) (fun n => k ((putC A d).put (.v n) fr) h) (Bool.rec (vS (b fr)) (vS (a fr)) x))
  (fun _ _ => Option.rec (.bad 3) (fun n => k ((putC A d).put (.v n) fr) h) (Bool.rec (vS (b fr)) (vS (a fr)) x)) kd) (sBo (c fr))⟩
end
inductive R1 where
  | i (n : Int)
  | b (x : Bool)
  | o (a : Option AV)
def i1 (op : BinOp) (x y : Int) : R1 := match op with
  | .add => .i (addF x y)
  | .sub => .i (subF x y)
  | .eql => .b (eqF x y)
  | .neq => .b (nb (eqF x y))
  | .lss => .b (ltF x y)
  | .leq => .b (nb (ltF y x))
  | .gtr => .b (ltF y x)
  | .geq => .b (nb (ltF x y))
  | op => .o (binInt op .i64 x y)
def u1 (op : BinOp) (x y : Nat) : R1 := match op with
  | .eql => .b (Nat.beq x y)
  | .neq => .b (nb (Nat.beq x y))
  | .lss => .b (Nat.ble (Nat.succ x) y)
  | .leq => .b (nb (Nat.ble (Nat.succ y) x))
  | .gtr => .b (Nat.ble (Nat.succ y) x)
  | .geq => .b (nb (Nat.ble (Nat.succ x) y))
  | op => .o (binInt op .u8 (.ofNat x) (.ofNat y))
def t1 (op : BinOp) (x y : ByteArray) : R1 := match op with
  | .eql => .b (bytesR x.data.toList y.data.toList)
  | .neq => .b (nb (bytesR x.data.toList y.data.toList))
  | .add => .o (Bool.rec none (fullR (appR x.data.toList y.data.toList) fun l => some (.str ⟨⟨l⟩⟩)) (Nat.ble (Nat.add (lenR x.data.toList) (lenR y.data.toList)) 9223372036854775807))
  | op => .o (binStr op x y)
section
variable (A : Fam) (d : Option Nat) (kd : Kd)
def putR (w : Nat) (r : R1) (fr : A.F) (h : H) (k : K3 A.F) : CR := R1.rec
  (fun n => bd n fun n => k ((putC A d).put (.i64 n) fr) h) (fun n => bd n fun n => k ((putC A d).put (.b n) fr) h) (fun r => Option.rec (.bad w) (fun a => putK A d kd w a fr h k) r) r
end
def kdR (kds : Nat → Kd) : RD → Kd
  | .sl n => kds n
  | .k (.int .i64 _) => .i
  | .k (.int .u8 _) => .u
  | .k (.bool _) => .b
  | .k (.str _) => .s
  | _ => .v
inductive K4 where | i | u | s | o
def k4 : Kd → Kd → K4
  | .i, .i => .i
  | .u, .u => .u
  | .s, .s => .s
  | _, _ => .o
section
variable (A : Fam) (kds : Nat → Kd) (d : Option Nat) (kd : Kd)
def dBin (q : EQ) (op : BinOp) (x y : RD) : DClo A.F := ⟨fun _ fr h k => K4.rec
  (Option.rec (.bad 11) (fun a => Option.rec (.bad 11) (fun b => putR A d kd 11 (i1 op a b) fr h k) (sI ((rdC A y).get fr))) (sI ((rdC A x).get fr)))
  (Option.rec (.bad 11) (fun a => Option.rec (.bad 11) (fun b => putR A d kd 11 (u1 op a b) fr h k) (sU ((rdC A y).get fr))) (sU ((rdC A x).get fr)))
  (Option.rec (.bad 11) (fun a => Option.rec (.bad 11) (fun b => putR A d kd 11 (t1 op a b) fr h k) (sS ((rdC A y).get fr))) (sS ((rdC A x).get fr)))
  (Option.rec (.bad 11) (fun a => Option.rec (.bad 11) (fun b => Option.rec (.bad 11) (fun r => putK A d kd 11 r fr h k) (bin q op a b)) (rv A y fr)) (rv A x fr)) (k4 (kdR kds x) (kdR kds y))⟩
def dUn (op : UnOp) (x : RD) : DClo A.F := ⟨fun _ fr h k => UnOp.rec
  (Option.rec (.bad 12) (fun a => Option.rec (.bad 12) (fun r => putK A d kd 12 r fr h k) (un .neg a)) (rv A x fr))
  (.bad 12)
  (Option.rec (.bad 12) (fun b => bd (nb b) fun b => k ((putC A d).put (.b b) fr) h) (sBo ((rdC A x).get fr)))
  (.bad 12) op⟩
def dConvInt (m : IntKind) (x : RD) : DClo A.F := ⟨fun _ fr h k =>
  IntKind.rec (motive := fun _ => CR) (Option.rec (.bad 13) (fun a => Option.rec (.bad 13) (fun r => putK A d kd 13 r fr h k) (conv .i8 a)) (rv A x fr)) (Option.rec (.bad 13) (fun a => Option.rec (.bad 13) (fun r => putK A d kd 13 r fr h k) (conv .i16 a)) (rv A x fr)) (Option.rec (.bad 13) (fun a => Option.rec (.bad 13) (fun r => putK A d kd 13 r fr h k) (conv .i32 a)) (rv A x fr))
  (K4.rec (Option.rec (.bad 13) (fun a => bd (wrapF .i64 a) fun n => k ((putC A d).put (.i64 n) fr) h) (sI ((rdC A x).get fr)))
    (Option.rec (.bad 13) (fun a => Bool.rec (.bad 13) (bd (Int.ofNat a) fun n => k ((putC A d).put (.i64 n) fr) h) (Nat.ble a 9223372036854775807)) (sU ((rdC A x).get fr)))
    (.bad 13) (Option.rec (.bad 13) (fun a => Option.rec (.bad 13) (fun r => putK A d kd 13 r fr h k) (conv .i64 a)) (rv A x fr)) (k4 (kdR kds x) (kdR kds x)))
  (Option.rec (.bad 13) (fun a => Option.rec (.bad 13) (fun r => putK A d kd 13 r fr h k) (conv .u8 a)) (rv A x fr)) (Option.rec (.bad 13) (fun a => Option.rec (.bad 13) (fun r => putK A d kd 13 r fr h k) (conv .u16 a)) (rv A x fr)) (Option.rec (.bad 13) (fun a => Option.rec (.bad 13) (fun r => putK A d kd 13 r fr h k) (conv .u32 a)) (rv A x fr)) (Option.rec (.bad 13) (fun a => Option.rec (.bad 13) (fun r => putK A d kd 13 r fr h k) (conv .u64 a)) (rv A x fr)) m⟩
def idx3 (s : ByteArray) (i : Option Nat) : Option Nat := Option.rec none (fun j => Option.rec none (fun c => some c.toNat) (nthR j s.data.toList)) i
def dIndex (x ix : RD) : DClo A.F := match kdR kds x with
  | .s => ⟨fun _ fr h k => Option.rec (.bad 21) (fun s => Option.rec (.bad 21) (fun c => k ((putC A d).put (.u8 c) fr) h) (idx3 s (natS ((rdC A ix).get fr)))) (sS ((rdC A x).get fr))⟩
  | _ => ⟨fun _ fr h k => Option.rec (.bad 21) (fun a => Option.rec (.bad 21) (fun r => putK A d kd 21 r fr h k) (idxA a (natS ((rdC A ix).get fr)))) (rv A x fr)⟩
def lenSA (a : AV) : Option Nat := match a with
  | .str s => some (lenR s.data.toList)
  | .ss l => some (lenR l)
  | _ => none
def dLenS (x : RD) : DClo A.F := match kdR kds x with
  | .s => ⟨fun _ fr h k => Option.rec (.bad 23) (fun s => bd (Int.ofNat (lenR s.data.toList)) fun n => k ((putC A d).put (.i64 n) fr) h) (sS ((rdC A x).get fr))⟩
  | _ => ⟨fun _ fr h k => Option.rec (.bad 23) (fun a => Option.rec (.bad 23) (fun m => bd (Int.ofNat m) fun n => k ((putC A d).put (.i64 n) fr) h) (lenSA a)) (rv A x fr)⟩
def lenA (a : AV) : Option Nat := AV.rec (motive_1 := fun _ => Option Nat) (motive_2 := fun _ => Unit) (fun _ => none) (fun _ _ => none) (fun _ _ _ => none) (fun _ => none) (fun _ _ => none) none (fun _ _ _ n => some n) (some 0) (some 0) (fun _ _ _ _ _ => none) none (fun _ _ _ => none) none (fun _ => none) none (fun _ _ => none) (fun _ _ => none) (fun _ _ _ _ => none) (fun _ => none) () (fun _ _ _ _ => ()) a
def dLen (x : RD) : DClo A.F := ⟨fun _ fr h k => Option.rec (.bad 23) (fun a => Option.rec (.bad 23) (fun m => bd (Int.ofNat m) fun n => k ((putC A d).put (.i64 n) fr) h) (lenA a)) (rv A x fr)⟩
def dLocA (z : List AV) (d : Nat) : DClo A.F := ⟨fun _ fr h k => genC h fun g h' => k ((A.acc d).set (.box g z) fr) h'⟩
def dLocV (n d : Nat) (x : RD) : DClo A.F := ⟨fun _ fr h k => Option.rec (.bad 5) (fun a => Option.rec (.bad 5) (fun c => Bool.rec (.bad 5) (genC h fun g h' => k ((A.acc d).set (.box g c) fr) h') (Nat.beq (lenR c) n)) (cellsR a)) (rv A x fr)⟩
def fAddr (off : Nat) (a : AV) : Option AV := OP.rec (fun b o => some (.ptr b (Nat.add o off))) none (avP a)
def dFieldAddr (x : RD) (off : Nat) : DClo A.F := ⟨fun _ fr h k => S2.rec (.bad 18) (fun _ => .bad 18) (fun _ => .bad 18) (fun _ => .bad 18) (fun a => Option.rec (.bad 18) (fun p => k ((putC A d).put (.v p) fr) h) (fAddr off a)) (.bad 18) (fun g _ => k ((putC A d).put (.lp (rdN x) g off) fr) h) (fun m g o => k ((putC A d).put (.lp m g (Nat.add o off)) fr) h) ((rdP A x).get fr)⟩
def nilA (a : AV) : Option AV := AV.rec (motive_1 := fun _ => Option AV) (motive_2 := fun _ => Unit) (fun _ => none) (fun _ _ => none) (fun _ _ _ => none) (fun _ => none) (fun b o => some (.ptr b o)) none (fun _ _ _ _ => none) none none (fun f a c _ _ => some (.fn f a c)) none (fun _ _ _ => none) none (fun _ => none) none (fun _ _ => none) (fun _ _ => none) (fun _ _ _ _ => none) (fun _ => none) () (fun _ _ _ _ => ()) a
def dNil (x : RD) : DClo A.F := ⟨fun _ fr h k => S2.rec (.bad 10) (fun _ => .bad 10) (fun _ => .bad 10) (fun _ => .bad 10) (fun a => Option.rec (.bad 10) (fun p => k ((putC A d).put (.v p) fr) h) (nilA a)) (.bad 10) (fun g _ => k ((putC A d).put (.lp (rdN x) g 0) fr) h) (fun m g o => k ((putC A d).put (.lp m g o) fr) h) ((rdP A x).get fr)⟩
def stoB (A : Fam) (n m g0 o : Nat) (c : List AV) (fr : A.F) (h : H) (k : K3 A.F) (s : S2) : CR := S2.rec (.bad 9) (fun _ => .bad 9) (fun _ => .bad 9) (fun _ => .bad 9) (fun _ => .bad 9) (.bad 9) (fun g' l => Bool.rec (.bad 9) (Option.rec (.bad 9) (fun l => k ((A.acc m).set (.box g' l) fr) h) (patch3 o n c l)) (Nat.beq g' g0)) (fun _ _ _ => .bad 9) s
def stoP (A : Fam) (n m : Nat) (c : List AV) (s : S2) (fr : A.F) (h : H) (k : K3 A.F) : CR := S2.rec (.bad 9) (fun _ => .bad 9) (fun _ => .bad 9) (fun _ => .bad 9)
  (fun a => OP.rec (fun b o => Option.rec (.bad 9) (fun h => k fr h) (storeM3 n b o c h)) (.bad 9) (avP a)) (.bad 9)
  (fun g l => Option.rec (.bad 9) (fun l => k ((A.acc m).set (.box g l) fr) h) (patch3 0 n c l)) (fun m g' o => stoB A n m g' o c fr h k ((A.acc m).get fr)) s
def dStore (x y : RD) (n : Nat) : DClo A.F := ⟨fun _ fr h k => Option.rec (.bad 9) (fun a => Option.rec (.bad 9) (fun c => Bool.rec (.bad 9) (stoP A n (rdN x) c ((rdP A x).get fr) fr h k) (Nat.beq (lenR c) n)) (cellsR a)) (rv A y fr)⟩
def apD (r : Option (AV × H)) (fr : A.F) (k : K3 A.F) : CR := Option.rec (.bad 24) (fun p => Prod.rec (fun a h => Option.rec (.bad 24) (fun n => Bool.rec (.bad 24) (k ((putC A d).put (.v a) fr) h) (Nat.ble n most)) (lenOf a)) p) r
def dAppend (t m : Nat) (s x : RD) : DClo A.F := ⟨fun _ fr h k => Option.rec (.bad 24) (fun s => Option.rec (.bad 24) (fun x => apD A d (appendV3 h t m s x) fr k) (rv A x fr)) (rv A s fr)⟩
def dAppendS (t m : Nat) (s x : RD) : DClo A.F := ⟨fun _ fr h k => Option.rec (.bad 24) (fun s => Option.rec (.bad 24) (fun x => apD A d (appendS3 h t m s x) fr k) (rv A x fr)) (rv A s fr)⟩
def dCopy (m : Nat) (s x : RD) : DClo A.F := ⟨fun _ fr h k => Option.rec (.bad 32) (fun s => Option.rec (.bad 32) (fun x => Option.rec (.bad 32) (fun p => Prod.rec (fun n h => k ((putC A d).put (.i64 (.ofNat n)) fr) h) p) (copyV h m s x)) (rv A x fr)) (rv A s fr)⟩
def callD (r : CR) (fr : A.F) (k : K3 A.F) : CR := CR.rec (fun v h => putK A d kd 26 v fr h k) .pan .bad r
def dCall (f : RD) (as : List RD) : DClo A.F := ⟨fun c fr h k => Option.rec (.bad 26) (fun as => Option.rec (.bad 26) (fun f => OF.rec (fun f a cs => callD A d kd (c f (appR a (appR as cs)) h) fr k) (.bad 26) (avF f)) (rv A f fr)) (gvs2 A as fr)⟩
def dInsert (kt : KT) (m x v : RD) : DClo A.F := ⟨fun _ fr h k => Option.rec (.bad 31) (fun m => Option.rec (.bad 31) (fun x => Option.rec (.bad 31) (fun v => Option.rec (.bad 31) (fun h => k fr h) (insH3 kt m x v h)) (rv A v fr)) (rv A x fr)) (rv A m fr)⟩
def dMakeMap : DClo A.F := ⟨fun _ fr h k => bd (newH h ⟨2, 0, .nil, true, false, true, 0⟩) fun h' => k ((putC A d).put (.v (.mp h.next)) fr) h'⟩
def panD (a : AV) (h : H) : CR := match a with
  | .ifc t v => .pan (.ifc t v) h
  | _ => .bad 27
def dPanic (x : RD) : DClo A.F := ⟨fun _ fr h _ => Option.rec (.bad 27) (fun a => panD a h) (rv A x fr)⟩
def kRd (kds : Nat → Kd) : RD → Kd
  | .sl n => kds n
  | _ => .v
def lpS (d off : Nat) (k : Nat → Option AV) (s : S2) : Option AV := S2.rec none (fun _ => none) (fun _ => none) (fun _ => none) (fun _ => none) none (fun _ _ => none) (fun m g o => Bool.rec none (Bool.rec none (k g) (Nat.beq o off)) (Nat.beq m d)) s
def loadK (A : Fam) (kd : Kd) (n : Nat) (g : Bool) (s : S2) (fr : A.F) (h : H) : Option AV := Kd.rec (loadP3 A n g s fr h) (loadP3 A n g s fr h) (loadP3 A n g s fr h) (loadP3 A n g s fr h) (loadP3 A n g s fr h) (Option.rec none (fun a => ldV n g a h) (vS s)) (loadP3 A n g s fr h) (fun d off => lpS d off (fun g' => loadB3 n g g' off ((A.acc d).get fr)) s) kd
def oD (f : FO) : DClo A.F := match f with
  | .mv w x => dMv A d kd w (rdC A x).get
  | .pick c a b => dPick A d kd (rdC A c).get (rdC A a).get (rdC A b).get
  | .locA z d => dLocA A z d
  | .nBox t z => dN A d 4 (fun _ _ => some (boxRow t z, none))
  | .locV n x d => dLocV A n d x
  | .nBoxV t n x => dN A d 5 (fun _ fr => boxV2 t n (rv A x fr))
  | .build z ps => dV A d kd 6 (fun fr => agg2 (fill2 A ps fr z))
  | .nSlice m n z ps => dN A d 7 (fun y fr => nSlice3 y m n (fill2 A ps fr z))
  | .load x n g => dVH A d kd 8 (fun fr h => loadK A (kRd kds x) n g ((rdP A x).get fr) fr h)
  | .store x y n => dStore A x y n
  | .nilCheck x => dNil A d x
  | .bin q op x y => dBin A kds d kd q op x y
  | .un op x => dUn A d kd op x
  | .convInt m x => dConvInt A kds d kd m x
  | .convStr x => dV A d kd 13 (fun fr => convS (rv A x fr))
  | .bytes x => dVH A d kd 13 (fun fr h => lBytes2 (rv A x fr) h)
  | .nBytes x => dN A d 13 (fun y fr => nBytes3 y (rv A x fr))
  | .iface t x => dV A d kd 14 (fun fr => iface2 t (rv A x fr))
  | .func f a c => dV A d kd 15 (fun fr => func2 f (gvs2 A a fr) (gvs2 A c fr))
  | .nMake m z l c => dN A d 16 (fun y fr => nMake3 y m z (rv A l fr) (rv A c fr))
  | .sliceS x lo hi => dV A d kd 17 (fun fr => slS2 (rv A x fr) (gvo2 A lo fr) (gvo2 A hi fr))
  | .slice z x lo hi => dV A d kd 17 (fun fr => sl2 z (rv A x fr) (gvo2 A lo fr) (gvo2 A hi fr))
  | .fieldAddr x off => dFieldAddr A d x off
  | .field x off n g => dV A d kd 19 (fun fr => field3 off n g (rv A x fr))
  | .indexAddr m x ix => dV A d kd 20 (fun fr => iaddr2 m (rv A x fr) (natS ((rdC A ix).get fr)))
  | .indexArr m n x ix => dV A d kd 20 (fun fr => iaddrA m n (rv A x fr) (natS ((rdC A ix).get fr)))
  | .index x ix => dIndex A kds d kd x ix
  | .extract x i => dV A d kd 22 (fun fr => extract2 i (rv A x fr))
  | .lenS x => dLenS A kds d x
  | .len x => dLen A d x
  | .append t m s x => dAppend A d t m s x
  | .appendS t m s x => dAppendS A d t m s x
  | .copy m s x => dCopy A d m s x
  | .minMax mx x y => dV A d kd 25 (fun fr => minMax2 mx (rv A x fr) (rv A y fr))
  | .call f as => dCall A d kd f as
  | .lookup kt z comma x y => dVH A d kd 29 (fun fr h => lookup3 kt z comma (rv A x fr) (rv A y fr) h)
  | .insert kt m x v => dInsert A kt m x v
  | .makeMap => dMakeMap A d
  | .assert t z x => dV A d kd 28 (fun fr => assert2 t z (rv A x fr))
  | .panic x => dPanic A x
end
end Go.Ev
namespace Go.Ev
abbrev Jn := List (Nat × Kd)
def FnJ (j : Jn) : Type := List.rec (H → CR) (fun p _ ih => Kd.rec (Int → ih) (Nat → ih) (Bool → ih) (ByteArray → ih) (AV → ih) (S2 → ih) (Nat → List AV → ih) (fun _ _ => Nat → ih) p.2) j
section
variable (A : Fam)
def absJ (k : A.F → H → CR) (j : Jn) : A.F → FnJ j := List.rec (motive := fun j => A.F → FnJ j) (fun fr => k fr)
  (fun p l ih fr => Kd.rec (motive := fun d => FnJ ((p.1, d) :: l)) (fun x => ih ((A.acc p.1).set (.i64 x) fr)) (fun x => ih ((A.acc p.1).set (.u8 x) fr)) (fun x => ih ((A.acc p.1).set (.b x) fr)) (fun x => ih ((A.acc p.1).set (.v (.str x)) fr)) (fun x => ih ((A.acc p.1).set (.v x) fr)) (fun x => ih ((A.acc p.1).set x fr)) (fun g x => ih ((A.acc p.1).set (.box g x) fr)) (fun d o g => ih ((A.acc p.1).set (.lp d g o) fr)) p.2) j
def appJ (fr : A.F) (h : H) (j : Jn) : FnJ j → CR := List.rec (motive := fun j => FnJ j → CR) (fun K => K h)
  (fun p l ih => Kd.rec (motive := fun d => FnJ ((p.1, d) :: l) → CR) (fun K => Option.rec (.bad 70) (fun x => ih (K x)) (sI ((A.acc p.1).get fr))) (fun K => Option.rec (.bad 70) (fun x => ih (K x)) (sU ((A.acc p.1).get fr))) (fun K => Option.rec (.bad 70) (fun x => ih (K x)) (sBo ((A.acc p.1).get fr))) (fun K => Option.rec (.bad 70) (fun x => ih (K x)) (sS ((A.acc p.1).get fr))) (fun K => Option.rec (.bad 70) (fun x => ih (K x)) (vS ((A.acc p.1).get fr)))
    (fun K => ih (K ((A.acc p.1).get fr)))
    (fun K => S2.rec (.bad 70) (fun _ => .bad 70) (fun _ => .bad 70) (fun _ => .bad 70) (fun _ => .bad 70) (.bad 70) (fun g x => ih (K g x)) (fun _ _ _ => .bad 70) ((A.acc p.1).get fr))
    (fun d o K => S2.rec (.bad 70) (fun _ => .bad 70) (fun _ => .bad 70) (fun _ => .bad 70) (fun _ => .bad 70) (.bad 70) (fun _ _ => .bad 70) (fun d' g o' => Bool.rec (.bad 70) (Bool.rec (.bad 70) (ih (K g)) (Nat.beq o' o)) (Nat.beq d' d)) ((A.acc p.1).get fr)) p.2) j
def okJ (N : Nat) (j : Jn) : Bool := List.rec true (fun p _ ih => Bool.rec false (Kd.rec ih ih ih ih ih ih ih (fun d _ => Bool.rec false ih (Nat.blt d N)) p.2) (Nat.blt p.1 N)) j
end
inductive U1 where
  | op (f : FO) (d : Option Nat)
  | chk (f : FO) (d : Option Nat)
  | no
abbrev Gd := Option (Nat × Bool)
def gdOf : FS → Gd
  | .op g _ _ => g
  | .chk g _ _ => g
  | .no => none
def u1Of : FS → U1
  | .op _ f d => .op f d
  | .chk _ f d => .chk f d
  | .no => .no
def gdEq : Gd → Gd → Bool
  | none, none => true
  | some (n, a), some (m, b) => Bool.rec false (Bool.rec (nb b) b a) (Nat.beq n m)
  | _, _ => false
def addS (g : Gd) (u : U1) (r : List (Gd × List U1)) : List (Gd × List U1) := match r with
  | [] => [(g, [u])]
  | (g', l) :: r => match gdEq g g' with | true => (g', u :: l) :: r | false => (g, [u]) :: (g', l) :: r
def segs (l : List FS) : List (Gd × List U1) := List.rec [] (fun s _ ih => addS (gdOf s) (u1Of s) ih) l
inductive AT where
  | leaf
  | steps (l : List (List (Nat × Jn)))
  | seq (j : Option Jn) (a b : AT)
  | cond (ja jb : Option Jn) (a b : AT)
  | block (j : Option Jn) (a : AT)
  | loop (j : Jn) (a : AT)
section
variable (A : Fam) (kds : Nat → Kd)
def kdD (d : Option Nat) : Kd := match d with | some d => kds d | none => .v
def lRun (f : FO) (l : LClo A.F) (fr : A.F) (h : H) : Option AV := match f with
  | .load x n g => loadK A (kRd kds x) n g ((rdP A x).get fr) fr h
  | .lookup kt z comma x y => lookup3 kt z comma (rv A x fr) (rv A y fr) h
  | _ => l.run fr h
def dU1 (u : U1) : DClo A.F := match u with
  | .op f d => match small A.N d, smallO A.N f with | true, true => oD A kds d (kdD kds d) f | _, _ => ⟨fun _ _ _ _ => .bad 42⟩
  | .chk f d => match small A.N d, smallO A.N f with
    | true, true => match lClo A f, d with
      | some l, some d => ⟨fun _ fr h k => Option.rec (.bad 101) (fun a => Option.rec (.bad 102) (fun b => Bool.rec (.bad 100) (k fr h) (aveq a b)) (vS ((A.acc d).get fr))) (lRun A kds f l fr h)⟩
      | none, _ => ⟨fun _ fr h k => k fr h⟩
      | _, _ => ⟨fun _ _ _ _ => .bad 43⟩
    | _, _ => ⟨fun _ _ _ _ => .bad 43⟩
  | .no => ⟨fun _ _ _ _ => .bad 41⟩
def dUs (c : Calls') (l : List U1) (k : K3 A.F) : K3 A.F := List.rec k (fun u _ ih fr h => (dU1 A kds u).run c fr h ih) l
def gB (b : Bool) (s : S2) : OB := match b with | true => gS s | false => gS' s
def dGs (c : Calls') (n : Nat) (b : Bool) (l : List U1) (k : K3 A.F) : K3 A.F := List.rec k (fun u _ ih fr h => OB.rec ((dU1 A kds u).run c fr h ih) (.bad 40) (.bad 40) (gB b ((A.acc n).get fr))) l
def outU (u : U1) (fr : A.F) : A.F := match u with
  | .op _ d => (putC A d).put .und fr
  | _ => fr
def outUs (l : List U1) : A.F → A.F := List.rec (fun fr => fr) (fun u _ ih fr => ih (outU A u fr)) l
def smallU (N : Nat) : List U1 → Bool := List.rec true (fun u _ ih => match u with | .op _ d => Bool.rec false ih (small N d) | .chk _ _ => ih | .no => false)
def viaJ (j : Option Jn) (k : K3 A.F) : K3 A.F := Option.rec k (fun j fr h => Bool.rec (.bad 48) (bd (absJ A k j A.zero) fun K => appJ A fr h j K) (okJ A.N j)) j
def dCut (c : Calls') (cs : List (Nat × Jn)) : List U1 → K3 A.F → K3 A.F := List.rec (fun l k => dUs A kds c l k) (fun p _ ih l k => dUs A kds c (takeR p.1 l) (viaJ A (some p.2) (ih (dropR p.1 l) k))) cs
def dSegs (c : Calls') (l : List (Gd × List U1)) : List (List (Nat × Jn)) → K3 A.F → K3 A.F := List.rec (fun _ k => k)
  (fun p _ ih js k fr h => List.rec (.bad 45) (fun cs js _ => match p.1 with
    | none => dCut A kds c cs p.2 (ih js k) fr h
    | some (n, b) => match cs with
      | [(_, j)] => match Nat.blt n A.N, okJ A.N j, smallU A.N p.2 with
        | true, true, true => bd (absJ A (ih js k) j A.zero) fun K => OB.rec (dGs A kds c n b p.2 (fun fr h => appJ A fr h j K) ((A.acc n).set (.b b) fr) h) (appJ A (outUs A p.2 fr) h j K) (.bad 40) (gB b ((A.acc n).get fr))
        | _, _, _ => .bad 44
      | _ => .bad 45) js) l
abbrev Ex (F : Type) := List (Nat × K3 F)
def lookX {F : Type} (id : Nat) (l : Ex F) (fr : F) (h : H) : CR := List.rec (.bad 46) (fun p _ ih => Bool.rec ih (p.2 fr h) (Nat.beq p.1 id)) l
def dC (fuel : Nat) (cc : Calls') (ρ : K3 A.F) (c : FC) : AT → Ex A.F → K3 A.F → K3 A.F := FC.rec (motive := fun _ => AT → Ex A.F → K3 A.F → K3 A.F)
  (fun _ _ k => k)
  (fun l t _ k => AT.rec (motive := fun _ => K3 A.F) (fun _ _ => .bad 47) (fun js => dSegs A kds cc (segs l) js k) (fun _ _ _ _ _ _ _ => .bad 47) (fun _ _ _ _ _ _ _ _ => .bad 47) (fun _ _ _ _ _ => .bad 47) (fun _ _ _ _ _ => .bad 47) t)
  (fun l _ t _ k => AT.rec (motive := fun _ => K3 A.F) (fun _ _ => .bad 47) (fun js => dSegs A kds cc (segs l) js k) (fun _ _ _ _ _ _ _ => .bad 47) (fun _ _ _ _ _ _ _ _ => .bad 47) (fun _ _ _ _ _ => .bad 47) (fun _ _ _ _ _ => .bad 47) t)
  (fun _ _ a b t xs k => AT.rec (motive := fun _ => K3 A.F) (fun _ _ => .bad 47) (fun _ _ _ => .bad 47)
    (fun j ta tb _ _ fr h => Option.rec (motive := fun _ => CR) (a ta xs (b tb xs k) fr h) (fun j => Bool.rec (.bad 48) (bd (absJ A (b tb xs k) j A.zero) fun K => a ta xs (fun fr h => appJ A fr h j K) fr h) (okJ A.N j)) j)
    (fun _ _ _ _ _ _ _ _ => .bad 47) (fun _ _ _ _ _ => .bad 47) (fun _ _ _ _ _ => .bad 47) t)
  (fun x _ _ a b t xs k => AT.rec (motive := fun _ => K3 A.F) (fun _ _ => .bad 47) (fun _ _ _ => .bad 47) (fun _ _ _ _ _ _ _ => .bad 47)
    (fun ja jb ta tb _ _ fr h => Option.rec (motive := fun _ => CR) (.bad 50) (fun v => Bool.rec (viaJ A jb (b tb xs k) fr h) (viaJ A ja (a ta xs k) fr h) v) (sBo ((rdC A x).get fr)))
    (fun _ _ _ _ _ => .bad 47) (fun _ _ _ _ _ => .bad 47) t)
  (fun id _ a t xs k => AT.rec (motive := fun _ => K3 A.F) (fun _ _ => .bad 47) (fun _ _ _ => .bad 47) (fun _ _ _ _ _ _ _ => .bad 47) (fun _ _ _ _ _ _ _ _ => .bad 47)
    (fun j ta _ fr h => Option.rec (motive := fun _ => CR) (a ta ((id, k) :: xs) k fr h) (fun j => Bool.rec (.bad 48) (bd (absJ A k j A.zero) fun K => a ta ((id, fun fr h => appJ A fr h j K) :: xs) (fun fr h => appJ A fr h j K) fr h) (okJ A.N j)) j)
    (fun _ _ _ _ _ => .bad 47) t)
  (fun _ a t xs _ => AT.rec (motive := fun _ => K3 A.F) (fun _ _ => .bad 47) (fun _ _ _ => .bad 47) (fun _ _ _ _ _ _ _ => .bad 47) (fun _ _ _ _ _ _ _ _ => .bad 47) (fun _ _ _ _ _ => .bad 47)
    (fun j ta _ fr h => Bool.rec (.bad 48) (appJ A fr h j (Nat.rec (motive := fun _ => FnJ j) (absJ A (fun _ _ => .bad 51) j A.zero) (fun _ ih => absJ A (fun fr h => a ta xs (fun fr h => appJ A fr h j ih) fr h) j A.zero) fuel)) (okJ A.N j)) t)
  (fun id _ xs _ fr h => lookX id xs fr h)
  (fun _ _ _ => ρ)
  (fun _ _ _ _ _ => .bad 52) c
def dIn (kds : Nat → Kd) (k : K3 A.F) (n : Nat) : Nat → List AV → K3 A.F := Nat.rec (motive := fun _ => Nat → List AV → K3 A.F) (fun _ as fr h => List.rec (k fr h) (fun _ _ _ => .bad 63) as)
  (fun _ ih i as fr h => List.rec (motive := fun _ => CR) (.bad 63) (fun a r _ => putK A (some i) (kds i) 63 a fr h (fun fr h => ih (Nat.succ i) r fr h)) as) n
end
def dFun (A : Fam) (kds : Nat → Kd) (fuel n : Nat) (t : AT) (e : FE) (c : Calls') (as : List AV) (h : H) : CR :=
  Bool.rec (.bad 63) (dIn A kds (dC A kds fuel c (finC A e.res).run e.code t [] (finC A e.res).run) n 0 as A.zero h) (Nat.ble n A.N)
def kdL (l : List (Nat × Kd)) (n : Nat) : Kd := List.rec .v (fun p _ ih => Bool.rec ih p.2 (Nat.beq p.1 n)) l
end Go.Ev
set_option linter.unusedSectionVars false
set_option linter.unusedVariables false
namespace Go.Ev
variable {A : Fam}
theorem avI_some {a : AV} {n : Int} (h : avI a = some n) : a = .int .i64 n := by
  cases a with
  | int k m => cases k <;> first | (cases h; rfl) | cases h
  | _ => cases h
theorem avU_some {a : AV} {n : Nat} (h : avU a = some n) : a = .int .u8 (.ofNat n) := by
  cases a with
  | int k m => cases k <;> first | (cases m <;> first | (cases h; rfl) | cases h) | cases h
  | _ => cases h
theorem avBo_some {a : AV} {n : Bool} (h : avBo a = some n) : a = .bool n := by cases a <;> first | (cases h; rfl) | cases h
theorem avS_some {a : AV} {n : ByteArray} (h : avS a = some n) : a = .str n := by cases a <;> first | (cases h; rfl) | cases h
theorem sI_vS {s : S2} {n : Int} (h : sI s = some n) : vS s = some (.int .i64 n) := by
  cases s with
  | i64 m => cases h; rfl
  | v a => rw [avI_some (a := a) h]; rfl
  | _ => cases h
theorem sU_vS {s : S2} {n : Nat} (h : sU s = some n) : vS s = some (.int .u8 (.ofNat n)) := by
  cases s with
  | u8 m => cases h; rfl
  | v a => rw [avU_some (a := a) h]; rfl
  | _ => cases h
theorem sBo_vS {s : S2} {n : Bool} (h : sBo s = some n) : vS s = some (.bool n) := by
  cases s with
  | b m => cases h; rfl
  | v a => rw [avBo_some (a := a) h]; rfl
  | _ => cases h
theorem sS_vS {s : S2} {n : ByteArray} (h : sS s = some n) : vS s = some (.str n) := by
  cases s with
  | v a => rw [avS_some (a := a) h]; rfl
  | _ => cases h
theorem loadK_some {kd : Kd} {n : Nat} {g : Bool} {s : S2} {fr : A.F} {h : H} {a : AV} (e : loadK A kd n g s fr h = some a) : loadP A n g s fr h = some a := by
  cases kd with
  | raw =>
    rw [← loadP3_eq]
    cases s <;> first | exact e | cases e
  | lp d off =>
    have e : lpS d off (fun g' => loadB3 n g g' off ((A.acc d).get fr)) s = some a := e
    cases s with
    | lp m g' o =>
      have e : Bool.rec (motive := fun _ => Option AV) none (Bool.rec none (loadB3 n g g' off ((A.acc d).get fr)) (Nat.beq o off)) (Nat.beq m d) = some a := e
      cases h1 : Nat.beq m d with
      | false => rw [h1] at e; cases e
      | true =>
        rw [h1] at e
        cases h2 : Nat.beq o off with
        | false => rw [h2] at e; cases e
        | true =>
          rw [h2] at e
          show loadB n g g' o ((A.acc m).get fr) = some a
          rw [Nat.eq_of_beq_eq_true h1, Nat.eq_of_beq_eq_true h2, ← loadB3_eq]
          exact e
    | _ => cases e
  | _ => exact (loadP3_eq A n g s fr h).symm.trans e
structure SameF (A : Fam) (ff ff' : A.F) : Prop where
  slot : ∀ n, n < A.N → ∀ s, cS ((A.acc n).get ff') = some s → cS ((A.acc n).get ff) = some s
  lp : ∀ n, n < A.N → ∀ d g o, (A.acc n).get ff' = .lp d g o → (A.acc n).get ff = .lp d g o
theorem SameF.refl (ff : A.F) : SameF A ff ff := ⟨fun _ _ _ h => h, fun _ _ _ _ _ h => h⟩
theorem RF.same {ff ff' : A.F} {fr : FT} (R : RF A ff fr) (S : SameF A ff ff') : RF A ff' fr := ⟨fun n hn s h => R.slot n hn s (S.slot n hn s h), fun n hn d g o h => R.lp n hn d g o (S.lp n hn d g o h)⟩
theorem same_set (ok : A.Ok) {n : Nat} (hn : n < A.N) {s s' : S2} (hs : cS s' = cS s) (hl : ∀ d g o, s' = .lp d g o → s = .lp d g o) (ff : A.F) : SameF A ((A.acc n).set s ff) ((A.acc n).set s' ff) where
  slot := fun m hm t h => by
    by_cases e : m = n
    · subst e; rw [ok.same m _ ff hm] at h ⊢; rw [← hs]; exact h
    · rw [ok.other m n _ ff hm hn e] at h ⊢; exact h
  lp := fun m hm d g o h => by
    by_cases e : m = n
    · subst e; rw [ok.same m _ ff hm] at h ⊢; exact hl d g o h
    · rw [ok.other m n _ ff hm hn e] at h ⊢; exact h
theorem same_put (ok : A.Ok) {d : Option Nat} (hd : small A.N d = true) {s s' : S2} (hs : cS s' = cS s) (hl : ∀ d g o, s' = .lp d g o → s = .lp d g o) (ff : A.F) : SameF A ((putC A d).put s ff) ((putC A d).put s' ff) := by
  cases d with
  | none => exact .refl _
  | some n => exact same_set ok (small_lt hd) hs hl ff
def Foll (A : Fam) (o : OClo A.F) (p : DClo A.F) : Prop := ∀ c ff h k r, p.run c ff h k = r → (∀ w, r ≠ .bad w) →
  (∃ ff' ff'' h', o.run c ff h .norm = .norm ff' h' ∧ SameF A ff' ff'' ∧ r = k ff'' h') ∨ (∃ v h', o.run c ff h .norm = .pan v h' ∧ r = .pan v h')
section
variable (ok : A.Ok) {d : Option Nat} (hd : small A.N d = true) {kd : Kd} {w : Nat}
include ok hd
theorem putK_ok {a : AV} {ff : A.F} {h : H} {k : K3 A.F} {r : CR} (e : putK A d kd w a ff h k = r) (hb : ∀ w, r ≠ .bad w) : ∃ s, cS s = some (.v a) ∧ r = k ((putC A d).put s ff) h := by
  unfold putK at e
  cases kd with
  | i =>
    cases ha : avI a with
    | none => simp only [ha] at e; exact absurd e.symm (hb _)
    | some n => simp only [ha] at e; exact ⟨.i64 n, by rw [avI_some ha]; rfl, e.symm⟩
  | u =>
    cases ha : avU a with
    | none => simp only [ha] at e; exact absurd e.symm (hb _)
    | some n => simp only [ha] at e; exact ⟨.u8 n, by rw [avU_some ha]; rfl, e.symm⟩
  | b =>
    cases ha : avBo a with
    | none => simp only [ha] at e; exact absurd e.symm (hb _)
    | some n => simp only [ha] at e; exact ⟨.b n, by rw [avBo_some ha]; rfl, e.symm⟩
  | s =>
    cases ha : avS a with
    | none => simp only [ha] at e; exact absurd e.symm (hb _)
    | some n => simp only [ha] at e; exact ⟨.v (.str n), by rw [avS_some ha]; rfl, e.symm⟩
  | v => exact ⟨.v a, rfl, e.symm⟩
  | raw => exact ⟨.v a, rfl, e.symm⟩
  | box => exact ⟨.v a, rfl, e.symm⟩
  | lp _ _ => exact ⟨.v a, rfl, e.symm⟩
theorem cS_lp {s : S2} {a : AV} (h : cS s = some (.v a)) : ∀ d g o, s ≠ .lp d g o := fun d g o e => by subst e; cases h
theorem foll_val {g : A.F → H → Option AV} {o : OClo A.F} (ho : ∀ c ff h a, g ff h = some a → ∃ s, cS s = some (.v a) ∧ o.run c ff h .norm = .norm ((putC A d).put s ff) h) : Foll A o ⟨fun _ fr h k => Option.rec (.bad w) (fun a => putK A d kd w a fr h k) (g fr h)⟩ := by
  intro c ff h k r e hb
  have e : Option.rec (motive := fun _ => CR) (.bad w) (fun a => putK A d kd w a ff h k) (g ff h) = r := e
  cases hg : g ff h with
  | none => rw [hg] at e; exact absurd e.symm (hb _)
  | some a =>
    rw [hg] at e
    obtain ⟨s, h1, h2⟩ := putK_ok ok hd e hb
    obtain ⟨s0, h3, h4⟩ := ho c ff h a hg
    exact .inl ⟨_, _, h, h4, same_put ok hd (h1.trans h3.symm) (fun d g o e => absurd e (cS_lp ok hd h1 d g o)) ff, h2⟩
theorem foll_dV {g : A.F → Option AV} : Foll A ⟨fun _ fr h k => putV w (putC A d) (g fr) fr h k⟩ (dV A d kd w g) :=
  foll_val ok hd (g := fun ff _ => g ff) fun c ff h a hg => ⟨.v a, rfl, by show putV w (putC A d) (g ff) ff h .norm = _; rw [show g ff = some a from hg]; rfl⟩
theorem foll_dVH {g : A.F → H → Option AV} : Foll A ⟨fun _ fr h k => putV w (putC A d) (g fr h) fr h k⟩ (dVH A d kd w g) :=
  foll_val ok hd (g := g) fun c ff h a hg => ⟨.v a, rfl, by show putV w (putC A d) (g ff h) ff h .norm = _; rw [hg]; rfl⟩
theorem foll_dVH3 {g g3 : A.F → H → Option AV} (he : ∀ fr h, g3 fr h = g fr h) : Foll A ⟨fun _ fr h k => putV w (putC A d) (g fr h) fr h k⟩ (dVH A d kd w g3) := by
  have e : g3 = g := funext fun fr => funext fun h => he fr h
  rw [e]; exact foll_dVH ok hd
theorem foll_dN {g : A.F → Option (Blk × Option Nat)} {g3 : Path → A.F → Option (Blk × Option Nat)} (he : ∀ y fr, g3 y fr = g fr) : Foll A ⟨fun _ fr h k => putN w (putC A d) (g fr) fr h k⟩ (dN A d w g3) := by
  intro c ff h k r e hb
  have e : Option.rec (motive := fun _ => CR) (.bad w) (fun x => bd (newH h x.1) fun h' => k ((putC A d).put (newS2 h.next x.1.k x.2) ff) h') (g3 h.next ff) = r := e
  rw [he] at e
  cases hg : g ff with
  | none => rw [hg] at e; exact absurd e.symm (hb _)
  | some x =>
    rw [hg] at e
    have e : bd (newH h x.1) (fun h' => k ((putC A d).put (newS2 h.next x.1.k x.2) ff) h') = r := e
    rw [newH_eq] at e
    exact .inl ⟨_, _, h.new x.1, by show putN w (putC A d) (g ff) ff h .norm = _; rw [hg]; rfl, .refl _, e.symm⟩
end
theorem gate_some {F : Type} {w : Nat} {p : PutC F} {s : S2} {a : AV} (h : vS s = some a) {fr : F} {hh : H} {k : K2 F} : gate w p s fr hh k = k (p.put s fr) hh := by
  cases s <;> first | rfl | cases h
section
variable (ok : A.Ok) {d : Option Nat} (hd : small A.N d = true) {kd : Kd} {w : Nat}
include ok hd
theorem foll_gate {x : A.F → S2} {o : DClo A.F} (ho : ∀ c ff h k r, o.run c ff h k = r → (∀ w, r ≠ .bad w) → ∃ s a, cS s = some (.v a) ∧ vS (x ff) = some a ∧ r = k ((putC A d).put s ff) h) : Foll A ⟨fun _ fr h k => gate w (putC A d) (x fr) fr h k⟩ o := by
  intro c ff h k r e hb
  obtain ⟨s, a, h1, h2, h3⟩ := ho c ff h k r e hb
  refine .inl ⟨_, _, h, gate_some h2, same_put ok hd (h1.trans (cS_of_vS h2).symm) (fun d g o e => absurd e (cS_lp ok hd h1 d g o)) ff, h3⟩
theorem foll_mv {x : A.F → S2} : Foll A ⟨fun _ fr h k => gate w (putC A d) (x fr) fr h k⟩ (dMv A d kd w x) := by
  refine foll_gate ok hd fun c ff h k r e hb => ?_
  unfold dMv at e
  have opt : ∀ {α : Type} {v : Option α} {f : α → CR}, Option.rec (motive := fun _ => CR) (.bad w) f v = r → ∃ n, v = some n ∧ f n = r := fun {α v f} e => by
    cases v with
    | none => exact absurd e.symm (hb _)
    | some n => exact ⟨n, rfl, e⟩
  cases kd with
  | i => obtain ⟨n, h1, h2⟩ := opt e; exact ⟨.i64 n, _, rfl, sI_vS h1, h2.symm⟩
  | u => obtain ⟨n, h1, h2⟩ := opt e; exact ⟨.u8 n, _, rfl, sU_vS h1, h2.symm⟩
  | b => obtain ⟨n, h1, h2⟩ := opt e; exact ⟨.b n, _, rfl, sBo_vS h1, h2.symm⟩
  | s => obtain ⟨n, h1, h2⟩ := opt e; exact ⟨.v (.str n), _, rfl, sS_vS h1, h2.symm⟩
  | v => obtain ⟨n, h1, h2⟩ := opt e; exact ⟨.v n, _, rfl, h1, h2.symm⟩
  | raw => obtain ⟨n, h1, h2⟩ := opt e; exact ⟨.v n, _, rfl, h1, h2.symm⟩
  | box => obtain ⟨n, h1, h2⟩ := opt e; exact ⟨.v n, _, rfl, h1, h2.symm⟩
  | lp _ _ => obtain ⟨n, h1, h2⟩ := opt e; exact ⟨.v n, _, rfl, h1, h2.symm⟩
end
theorem sB_of {s : S2} {x : Bool} (h : sBo s = some x) : sB s = bO x := by
  cases s with
  | b m => cases h; rfl
  | v a => rw [avBo_some (a := a) h]; rfl
  | _ => cases h
section
variable (ok : A.Ok) {d : Option Nat} (hd : small A.N d = true) {kd : Kd} {w : Nat}
include ok hd
theorem foll_pick {c a b : A.F → S2} : Foll A ⟨fun _ fr h k => gate 3 (putC A d) (pickS (c fr) (a fr) (b fr)) fr h k⟩ (dPick A d kd c a b) := by
  refine foll_gate ok hd (x := fun fr => pickS (c fr) (a fr) (b fr)) fun cc ff h k r e hb => ?_
  unfold dPick at e
  have opt : ∀ {α : Type} {v : Option α} {f : α → CR}, Option.rec (motive := fun _ => CR) (.bad 3) f v = r → ∃ n, v = some n ∧ f n = r := fun {α v f} e => by
    cases v with
    | none => exact absurd e.symm (hb _)
    | some n => exact ⟨n, rfl, e⟩
  obtain ⟨x, hx, e⟩ := opt e
  have hp : pickS (c ff) (a ff) (b ff) = Bool.rec (b ff) (a ff) x := by unfold pickS; rw [sB_of hx]; cases x <;> rfl
  rw [hp]
  cases x with
  | false =>
    cases kd with
    | i => obtain ⟨n, h1, h2⟩ := opt e; exact ⟨.i64 n, _, rfl, sI_vS h1, h2.symm⟩
    | u => obtain ⟨n, h1, h2⟩ := opt e; exact ⟨.u8 n, _, rfl, sU_vS h1, h2.symm⟩
    | b => obtain ⟨n, h1, h2⟩ := opt e; exact ⟨.b n, _, rfl, sBo_vS h1, h2.symm⟩
    | s => obtain ⟨n, h1, h2⟩ := opt e; exact ⟨.v (.str n), _, rfl, sS_vS h1, h2.symm⟩
    | v => obtain ⟨n, h1, h2⟩ := opt e; exact ⟨.v n, _, rfl, h1, h2.symm⟩
    | raw => obtain ⟨n, h1, h2⟩ := opt e; exact ⟨.v n, _, rfl, h1, h2.symm⟩
    | box => obtain ⟨n, h1, h2⟩ := opt e; exact ⟨.v n, _, rfl, h1, h2.symm⟩
    | lp _ _ => obtain ⟨n, h1, h2⟩ := opt e; exact ⟨.v n, _, rfl, h1, h2.symm⟩
  | true =>
    cases kd with
    | i => obtain ⟨n, h1, h2⟩ := opt e; exact ⟨.i64 n, _, rfl, sI_vS h1, h2.symm⟩
    | u => obtain ⟨n, h1, h2⟩ := opt e; exact ⟨.u8 n, _, rfl, sU_vS h1, h2.symm⟩
    | b => obtain ⟨n, h1, h2⟩ := opt e; exact ⟨.b n, _, rfl, sBo_vS h1, h2.symm⟩
    | s => obtain ⟨n, h1, h2⟩ := opt e; exact ⟨.v (.str n), _, rfl, sS_vS h1, h2.symm⟩
    | v => obtain ⟨n, h1, h2⟩ := opt e; exact ⟨.v n, _, rfl, h1, h2.symm⟩
    | raw => obtain ⟨n, h1, h2⟩ := opt e; exact ⟨.v n, _, rfl, h1, h2.symm⟩
    | box => obtain ⟨n, h1, h2⟩ := opt e; exact ⟨.v n, _, rfl, h1, h2.symm⟩
    | lp _ _ => obtain ⟨n, h1, h2⟩ := opt e; exact ⟨.v n, _, rfl, h1, h2.symm⟩
end
def RefR (r r' : CR) : Prop := (∀ w, r ≠ .bad w) → r' = r
def DSim (A : Fam) (o : DClo A.F) (s : St) : Prop := ∀ (c c' : Calls'), Le c c' → ∀ {ff : A.F} {fr : FT}, RF A ff fr → ∀ (h : H) {k : K3 A.F} {Ψ : Out → CR}, (∀ ff' fr' h', RF A ff' fr' → RefR (k ff' h') (Ψ (.norm fr' h'))) → (∀ v fr' h', Ψ (.pan v fr' h') = .pan v h') → RefR (o.run c ff h k) (Ψ (evStep c' s fr h))
theorem okO_norm (o : Out) : okO o .norm = o := by cases o <;> rfl
theorem dsim_of {o : OClo A.F} {p : DClo A.F} {s : St} (hs : OSim A o s) (hf : Foll A o p) : DSim A p s := by
  intro c c' hc ff fr R h k Ψ hk hp hb
  rcases hf c ff h k _ rfl hb with ⟨ff', ff'', h', h1, h2, h3⟩ | ⟨v, h', h1, h3⟩
  · have := hs c c' hc R h (k := .norm) (K := .norm) (fun ff' fr' h' R' => ⟨fr', rfl, R'⟩)
    rw [h1, okO_norm] at this
    obtain ⟨fr', e, R'⟩ := this
    rw [e, h3]
    rw [h3] at hb
    exact hk ff'' fr' h' (R'.same h2) hb
  · have := hs c c' hc R h (k := .norm) (K := .norm) (fun ff' fr' h' R' => ⟨fr', rfl, R'⟩)
    rw [h1, okO_norm] at this
    obtain ⟨fr', e⟩ := this
    rw [e, h3]
    exact hp v fr' h'
section
variable (ok : A.Ok) {d : Option Nat} (hd : small A.N d = true)
include ok hd
theorem dsim_pure {w : Nat} {val : FT → Option Sl} {o : DClo A.F} (ho : ∀ {ff fr}, RF A ff fr → ∀ {c h k r}, o.run c ff h k = r → (∀ w, r ≠ .bad w) → ∃ s s', okS A s ∧ cS s = some s' ∧ val fr = some s' ∧ r = k ((putC A d).put s ff) h) : DSim A o (.op none (.pure w val) (oDst d)) := by
  intro c c' hc ff fr R h k Ψ hk hp hb
  obtain ⟨s, s', h0, h1, h2, h3⟩ := ho R rfl hb
  simp only [evStep, wantedF, h2]
  have R' := put_ok ok R hd h0
  rw [h1] at R'
  rw [h3]
  rw [h3] at hb
  exact hk _ _ _ R' hb
end
theorem okS_of {s : S2} {a : AV} (h : cS s = some (.v a)) : okS A s := by cases s <;> first | trivial | cases h
theorem opt_some {α : Type} {w : Nat} {v : Option α} {f : α → CR} {r : CR} (hb : ∀ w, r ≠ .bad w) (e : Option.rec (motive := fun _ => CR) (.bad w) f v = r) : ∃ n, v = some n ∧ f n = r := by
  cases v with
  | none => exact absurd e.symm (hb _)
  | some n => exact ⟨n, rfl, e⟩
def resA : R1 → Option AV
  | .i n => some (.int .i64 n)
  | .b x => some (.bool x)
  | .o r => r
theorem i1_bin {q : EQ} {op : BinOp} {x y : Int} {a : AV} (h : resA (i1 op x y) = some a) : bin q op (.int .i64 x) (.int .i64 y) = some a := by
  refine i2_ok ?_
  cases op <;> first | exact h | (simp only [i1, resA] at h; simp only [i2, h]; rfl)
theorem u1_bin {q : EQ} {op : BinOp} {x y : Nat} {a : AV} (h : resA (u1 op x y) = some a) : bin q op (.int .u8 (.ofNat x)) (.int .u8 (.ofNat y)) = some a := by
  refine u2_ok ?_
  cases op <;> first | exact h | (simp only [u1, resA] at h; simp only [u2, h]; rfl)
theorem t1_bin {q : EQ} {op : BinOp} {x y : ByteArray} {a : AV} (h : resA (t1 op x y) = some a) : bin q op (.str x) (.str y) = some a := by
  show binStr op x y = some a
  refine t2_ok ?_
  cases op <;> exact h
section
variable (ok : A.Ok) {d : Option Nat} (hd : small A.N d = true) {kd : Kd}
include ok hd
theorem putR_ok {w : Nat} {v : R1} {ff : A.F} {h : H} {k : K3 A.F} {r : CR} (e : putR A d kd w v ff h k = r) (hb : ∀ w, r ≠ .bad w) : ∃ s a, resA v = some a ∧ cS s = some (.v a) ∧ r = k ((putC A d).put s ff) h := by
  cases v with
  | i n => exact ⟨.i64 n, _, rfl, rfl, e.symm⟩
  | b n => exact ⟨.b n, _, rfl, rfl, e.symm⟩
  | o v =>
    have e : Option.rec (motive := fun _ => CR) (.bad w) (fun a => putK A d kd w a ff h k) v = r := e
    obtain ⟨a, h1, h2⟩ := opt_some hb e
    obtain ⟨s, h3, h4⟩ := putK_ok ok hd h2 hb
    exact ⟨s, a, h1, h3, h4⟩
theorem d_bin {kds : Nat → Kd} {q : EQ} {op : BinOp} {x y : RD} : DSim A (dBin A kds d kd q op x y) (.op none (.pure 11 (vBin q op (oRd x) (oRd y))) (oDst d)) := by
  refine dsim_pure ok hd fun {ff fr} R {c h k r} e hb => ?_
  have fin : ∀ {a b v : AV} {s : S2}, gv (oRd x) fr = some a → gv (oRd y) fr = some b → bin q op a b = some v → cS s = some (.v v) → r = k ((putC A d).put s ff) h → ∃ s s', okS A s ∧ cS s = some s' ∧ vBin q op (oRd x) (oRd y) fr = some s' ∧ r = k ((putC A d).put s ff) h := by
    intro a b v s h1 h2 h3 h4 h5
    refine ⟨s, _, okS_of h4, h4, ?_, h5⟩
    unfold vBin
    rw [h1, h2]
    show retV (bin q op a b) = _
    rw [h3]; rfl
  unfold dBin at e
  simp only at e
  cases hk : k4 (kdR kds x) (kdR kds y) with
  | i =>
    rw [hk] at e
    obtain ⟨a, h1, e⟩ := opt_some hb e
    obtain ⟨b, h2, e⟩ := opt_some hb e
    obtain ⟨s, v, h3, h4, h5⟩ := putR_ok ok hd e hb
    exact fin (rs_ok R (cS_of_vS (sI_vS h1))) (rs_ok R (cS_of_vS (sI_vS h2))) (i1_bin h3) h4 h5
  | u =>
    rw [hk] at e
    obtain ⟨a, h1, e⟩ := opt_some hb e
    obtain ⟨b, h2, e⟩ := opt_some hb e
    obtain ⟨s, v, h3, h4, h5⟩ := putR_ok ok hd e hb
    exact fin (rs_ok R (cS_of_vS (sU_vS h1))) (rs_ok R (cS_of_vS (sU_vS h2))) (u1_bin h3) h4 h5
  | s =>
    rw [hk] at e
    obtain ⟨a, h1, e⟩ := opt_some hb e
    obtain ⟨b, h2, e⟩ := opt_some hb e
    obtain ⟨s, v, h3, h4, h5⟩ := putR_ok ok hd e hb
    exact fin (rs_ok R (cS_of_vS (sS_vS h1))) (rs_ok R (cS_of_vS (sS_vS h2))) (t1_bin h3) h4 h5
  | o =>
    rw [hk] at e
    obtain ⟨a, h1, e⟩ := opt_some hb e
    obtain ⟨b, h2, e⟩ := opt_some hb e
    obtain ⟨v, h3, e⟩ := opt_some hb e
    obtain ⟨s, h4, h5⟩ := putK_ok ok hd e hb
    exact fin (rd_ok R h1) (rd_ok R h2) h3 h4 h5
theorem d_un {op : UnOp} {x : RD} : DSim A (dUn A d kd op x) (.op none (.pure 12 (vUn op (oRd x))) (oDst d)) := by
  refine dsim_pure ok hd fun {ff fr} R {c h k r} e hb => ?_
  unfold dUn at e
  cases op with
  | neg =>
    obtain ⟨a, h1, e⟩ := opt_some hb e
    obtain ⟨v, h3, e⟩ := opt_some hb e
    obtain ⟨s, h4, h5⟩ := putK_ok ok hd e hb
    exact ⟨s, _, okS_of h4, h4, by unfold vUn; rw [rd_ok R h1]; show retV (un .neg a) = _; rw [h3]; rfl, h5⟩
  | not =>
    obtain ⟨a, h1, e⟩ := opt_some hb e
    exact ⟨.b (nb a), _, trivial, rfl, by unfold vUn; rw [rs_ok R (cS_of_vS (sBo_vS h1))]; show retV (un .not (.bool a)) = _; rw [nb_eq]; rfl, e.symm⟩
  | xor => exact absurd e.symm (hb _)
  | plus => exact absurd e.symm (hb _)
theorem d_convInt {kds : Nat → Kd} {m : IntKind} {x : RD} : DSim A (dConvInt A kds d kd m x) (.op none (.pure 13 (vConvInt m (oRd x))) (oDst d)) := by
  refine dsim_pure ok hd fun {ff fr} R {c h k r} e hb => ?_
  have fin : ∀ {a v : AV} {s : S2}, gv (oRd x) fr = some a → conv m a = some v → cS s = some (.v v) → r = k ((putC A d).put s ff) h → ∃ s s', okS A s ∧ cS s = some s' ∧ vConvInt m (oRd x) fr = some s' ∧ r = k ((putC A d).put s ff) h := by
    intro a v s h1 h3 h4 h5
    refine ⟨s, _, okS_of h4, h4, ?_, h5⟩
    unfold vConvInt
    rw [h1]
    show retV (conv m a) = _
    rw [h3]; rfl
  have gen : ∀ {m'}, m' = m → Option.rec (motive := fun _ => CR) (.bad 13) (fun a => Option.rec (motive := fun _ => CR) (.bad 13) (fun r => putK A d kd 13 r ff h k) (conv m' a)) (rv A x ff) = r → ∃ s s', okS A s ∧ cS s = some s' ∧ vConvInt m (oRd x) fr = some s' ∧ r = k ((putC A d).put s ff) h := by
    intro m' em e0
    obtain ⟨a, h1, e0⟩ := opt_some hb e0
    obtain ⟨v, h3, e0⟩ := opt_some hb e0
    obtain ⟨s, h4, h5⟩ := putK_ok ok hd e0 hb
    rw [em] at h3
    exact fin (rd_ok R h1) h3 h4 h5
  unfold dConvInt at e
  simp only at e
  cases m with
  | i64 =>
    simp only at e
    cases hk : k4 (kdR kds x) (kdR kds x) with
    | i =>
      rw [hk] at e
      obtain ⟨a, h1, e⟩ := opt_some hb e
      exact fin (s := .i64 (wrapF .i64 a)) (rs_ok R (cS_of_vS (sI_vS h1))) rfl rfl e.symm
    | u =>
      rw [hk] at e
      obtain ⟨a, h1, e⟩ := opt_some hb e
      cases hl : Nat.ble a 9223372036854775807 with
      | false => rw [hl] at e; exact absurd e.symm (hb _)
      | true =>
        rw [hl] at e
        exact fin (s := .i64 (.ofNat a)) (rs_ok R (cS_of_vS (sU_vS h1))) (by show some (AV.int .i64 (wrapF .i64 (.ofNat a))) = _; rw [wrap_small hl]) rfl e.symm
    | s => rw [hk] at e; exact absurd e.symm (hb _)
    | o => rw [hk] at e; exact gen rfl e
  | i8 => exact gen rfl e
  | i16 => exact gen rfl e
  | i32 => exact gen rfl e
  | u8 => exact gen rfl e
  | u16 => exact gen rfl e
  | u32 => exact gen rfl e
  | u64 => exact gen rfl e
theorem idxA_ok {a r : AV} {i : Option Nat} {j : Nat} {y : AV} (hi : i = some j) (hj : natOf y = some j) (h : idxA a i = some r) {ix : Rd} {x : Rd} {fr : FT} (h1 : gv x fr = some a) (h2 : gv ix fr = some y) : vIndex x ix fr = some (.v r) := by
  subst hi
  unfold vIndex
  rw [h1]
  cases a with
  | str s =>
    have h : Option.rec (motive := fun _ => Option AV) none (fun c => some (.int .u8 (.ofNat c.toNat))) (nthR j s.data.toList) = some r := h
    rw [nthR_eq] at h
    simp only [h2, hj]
    cases hc : s.data.toList[j]? with
    | none => rw [hc] at h; cases h
    | some c => rw [hc] at h; cases h; rfl
  | ss l =>
    have h : Option.rec (motive := fun _ => Option AV) none (fun c => some (sbAV c)) (nthR j l) = some r := h
    rw [nthR_eq] at h
    simp only [h2, hj]
    cases hc : l[j]? with
    | none => rw [hc] at h; cases h
    | some c => rw [hc] at h; cases h; rfl
  | _ => cases h
theorem idxA_some {a r : AV} {i : Option Nat} (h : idxA a i = some r) : ∃ j, i = some j := by
  cases i with
  | some j => exact ⟨j, rfl⟩
  | none => cases a <;> cases h
theorem d_index {kds : Nat → Kd} {x ix : RD} : DSim A (dIndex A kds d kd x ix) (.op none (.pure 21 (vIndex (oRd x) (oRd ix))) (oDst d)) := by
  refine dsim_pure ok hd fun {ff fr} R {c h k r} e hb => ?_
  have gen : Option.rec (motive := fun _ => CR) (.bad 21) (fun a => Option.rec (motive := fun _ => CR) (.bad 21) (fun r => putK A d kd 21 r ff h k) (idxA a (natS ((rdC A ix).get ff)))) (rv A x ff) = r → ∃ s s', okS A s ∧ cS s = some s' ∧ vIndex (oRd x) (oRd ix) fr = some s' ∧ r = k ((putC A d).put s ff) h := by
    intro e
    obtain ⟨a, h1, e⟩ := opt_some hb e
    obtain ⟨v, h2, e⟩ := opt_some hb e
    obtain ⟨s, h4, h5⟩ := putK_ok ok hd e hb
    obtain ⟨j, hj⟩ := idxA_some ok hd h2
    obtain ⟨y, hy, hj2⟩ := natS_ok hj
    exact ⟨s, _, okS_of h4, h4, idxA_ok ok hd hj hj2 h2 (rd_ok R h1) (rs_ok R hy), h5⟩
  unfold dIndex at e
  cases hk : kdR kds x with
  | s =>
    rw [hk] at e
    obtain ⟨s, h1, e⟩ := opt_some hb e
    obtain ⟨n, h2, e⟩ := opt_some hb e
    unfold idx3 at h2
    cases hi : natS ((rdC A ix).get ff) with
    | none => rw [hi] at h2; cases h2
    | some j =>
      rw [hi] at h2
      obtain ⟨y, hy, hj⟩ := natS_ok hi
      refine ⟨.u8 n, _, trivial, rfl, ?_, e.symm⟩
      unfold vIndex
      rw [rs_ok R (cS_of_vS (sS_vS h1)), rs_ok R hy]
      simp only
      rw [hj]; simp only
      have h2 : Option.rec (motive := fun _ => Option Nat) none (fun c => some c.toNat) (nthR j s.data.toList) = some n := h2
      rw [nthR_eq] at h2
      cases hc : s.data.toList[j]? with
      | none => rw [hc] at h2; cases h2
      | some c => rw [hc] at h2; cases h2; rfl
  | _ => rw [hk] at e; exact gen e
theorem d_lenS {kds : Nat → Kd} {x : RD} : DSim A (dLenS A kds d x) (.op none (.pure 23 (vLenS (oRd x))) (oDst d)) := by
  refine dsim_pure ok hd fun {ff fr} R {c h k r} e hb => ?_
  have gen : Option.rec (motive := fun _ => CR) (.bad 23) (fun a => Option.rec (motive := fun _ => CR) (.bad 23) (fun m => bd (Int.ofNat m) fun n => k ((putC A d).put (.i64 n) ff) h) (lenSA a)) (rv A x ff) = r → ∃ s s', okS A s ∧ cS s = some s' ∧ vLenS (oRd x) fr = some s' ∧ r = k ((putC A d).put s ff) h := by
    intro e
    obtain ⟨a, h1, e⟩ := opt_some hb e
    obtain ⟨m, h2, e⟩ := opt_some hb e
    refine ⟨.i64 (.ofNat m), _, trivial, rfl, ?_, e.symm⟩
    unfold vLenS
    rw [rd_ok R h1]
    cases a <;> first
      | (simp only [lenSA, lenR_eq, Option.some.injEq] at h2; subst h2; rfl)
      | cases h2
  unfold dLenS at e
  cases hk : kdR kds x with
  | s =>
    rw [hk] at e
    obtain ⟨s, h1, e⟩ := opt_some hb e
    refine ⟨.i64 (.ofNat (lenR s.data.toList)), _, trivial, rfl, ?_, e.symm⟩
    unfold vLenS
    rw [rs_ok R (cS_of_vS (sS_vS h1)), lenR_eq]; rfl
  | _ => rw [hk] at e; exact gen e
theorem lenA_eq {a : AV} {n : Nat} (h : lenA a = some n) : lenOf a = some n := by cases a <;> first | exact h | cases h
theorem d_len {x : RD} : DSim A (dLen A d x) (.op none (.pure 23 (vLen (oRd x))) (oDst d)) := by
  refine dsim_pure ok hd fun {ff fr} R {c h k r} e hb => ?_
  obtain ⟨a, h1, e⟩ := opt_some hb e
  obtain ⟨n, h2, e⟩ := opt_some hb e
  refine ⟨.i64 (.ofNat n), _, trivial, rfl, ?_, e.symm⟩
  unfold vLen
  rw [rd_ok R h1]; simp only
  rw [lenA_eq ok hd h2]
theorem d_fieldAddr {x : RD} {off : Nat} : DSim A (dFieldAddr A d x off) (.op none (.pure 18 (vFieldAddr (oRd x) off)) (oDst d)) := by
  refine dsim_of (fieldAddr_sim ok hd) ?_
  intro c ff h k r e hb
  unfold dFieldAddr at e
  simp only at e
  cases hs : (rdP A x).get ff with
  | v a =>
    rw [hs] at e
    obtain ⟨p, h1, e⟩ := opt_some hb e
    refine .inl ⟨_, _, h, ?_, .refl _, e.symm⟩
    show putS 18 (putC A d) (faddrS (rdN x) off ((rdP A x).get ff)) ff h .norm = _
    rw [hs]
    unfold fAddr at h1
    show putS 18 (putC A d) (OP.rec (motive := fun _ => Option S2) (fun b o => some (.v (.ptr b (Nat.add o off)))) none (avP a)) ff h .norm = _
    cases ha : avP a with
    | no => rw [ha] at h1; cases h1
    | mem b o => rw [ha] at h1; cases h1; rfl
  | box g l => rw [hs] at e; refine .inl ⟨_, _, h, ?_, .refl _, e.symm⟩; show putS 18 (putC A d) (faddrS (rdN x) off ((rdP A x).get ff)) ff h .norm = _; rw [hs]; rfl
  | lp m g o => rw [hs] at e; refine .inl ⟨_, _, h, ?_, .refl _, e.symm⟩; show putS 18 (putC A d) (faddrS (rdN x) off ((rdP A x).get ff)) ff h .norm = _; rw [hs]; rfl
  | none => rw [hs] at e; exact absurd e.symm (hb _)
  | i64 n => rw [hs] at e; exact absurd e.symm (hb _)
  | u8 n => rw [hs] at e; exact absurd e.symm (hb _)
  | b n => rw [hs] at e; exact absurd e.symm (hb _)
  | und => rw [hs] at e; exact absurd e.symm (hb _)
theorem d_nil {x : RD} : DSim A (dNil A d x) (.op none (.pure 10 (vNilCheck (oRd x))) (oDst d)) := by
  refine dsim_of (nilCheck_sim ok hd) ?_
  intro c ff h k r e hb
  unfold dNil at e
  simp only at e
  cases hs : (rdP A x).get ff with
  | v a =>
    rw [hs] at e
    obtain ⟨p, h1, e⟩ := opt_some hb e
    refine .inl ⟨_, _, h, ?_, .refl _, e.symm⟩
    show putS 10 (putC A d) (nilS (rdN x) ((rdP A x).get ff)) ff h .norm = _
    rw [hs]
    cases a with
    | ptr b o => cases h1; rfl
    | fn f a c => cases h1; rfl
    | _ => cases h1
  | box g l => rw [hs] at e; refine .inl ⟨_, _, h, ?_, .refl _, e.symm⟩; show putS 10 (putC A d) (nilS (rdN x) ((rdP A x).get ff)) ff h .norm = _; rw [hs]; rfl
  | lp m g o => rw [hs] at e; refine .inl ⟨_, _, h, ?_, .refl _, e.symm⟩; show putS 10 (putC A d) (nilS (rdN x) ((rdP A x).get ff)) ff h .norm = _; rw [hs]; rfl
  | none => rw [hs] at e; exact absurd e.symm (hb _)
  | i64 n => rw [hs] at e; exact absurd e.symm (hb _)
  | u8 n => rw [hs] at e; exact absurd e.symm (hb _)
  | b n => rw [hs] at e; exact absurd e.symm (hb _)
  | und => rw [hs] at e; exact absurd e.symm (hb _)
end
end Go.Ev
set_option linter.unusedSectionVars false
set_option linter.unusedVariables false
namespace Go.Ev
variable {A : Fam}
section
variable (ok : A.Ok) {d : Option Nat} (hd : small A.N d = true) {kd : Kd}
include ok hd
theorem d_locA {z : List AV} {n : Nat} (hn : n < A.N) {e : Option Path} : DSim A (dLocA A z n) (.op none (.eff (bLoc z (pathOf n))) e) := by
  refine dsim_of (locA_sim ok hn) ?_
  intro c ff h k r e hb
  obtain ⟨nx, t, g⟩ := h
  exact .inl ⟨_, _, _, rfl, .refl _, e.symm⟩
theorem d_locV {m n : Nat} (hn : n < A.N) {x : RD} {e : Option Path} : DSim A (dLocV A m n x) (.op none (.eff (bLocV m (oRd x) (pathOf n))) e) := by
  refine dsim_of (locV_sim ok hn) ?_
  intro c ff h k r e hb
  obtain ⟨nx, t, g⟩ := h
  obtain ⟨a, h1, e⟩ := opt_some hb e
  obtain ⟨cs, h2, e⟩ := opt_some hb e
  cases hl : Nat.beq (lenR cs) m with
  | false => rw [hl] at e; exact absurd e.symm (hb _)
  | true =>
    rw [hl] at e
    refine .inl ⟨_, _, _, ?_, .refl _, e.symm⟩
    show locV2 A m n (rv A x ff) ff ⟨nx, t, g⟩ .norm = _
    rw [h1]
    show Option.rec (motive := fun _ => O2 A.F) (.bad 5) (fun c => Bool.rec (motive := fun _ => O2 A.F) (.bad 5) (.norm ((A.acc n).set (.box g c) ff) ⟨nx, t, g + 1⟩) (Nat.beq (lenR c) m)) (cellsR a) = _
    rw [h2]
    show Bool.rec (motive := fun _ => O2 A.F) (.bad 5) (.norm ((A.acc n).set (.box g cs) ff) ⟨nx, t, g + 1⟩) (Nat.beq (lenR cs) m) = _
    rw [hl]
theorem d_store {x y : RD} {n : Nat} {e : Option Path} : DSim A (dStore A x y n) (.op none (.eff (hStore (oRd x) (oRd y) n)) e) := by
  refine dsim_of (store_sim ok) ?_
  intro c ff h k r e hb
  obtain ⟨a, h1, e⟩ := opt_some hb e
  obtain ⟨cs, h2, e⟩ := opt_some hb e
  cases hl : Nat.beq (lenR cs) n with
  | false => rw [hl] at e; exact absurd e.symm (hb _)
  | true =>
    rw [hl] at e
    have e : stoP A n (rdN x) cs ((rdP A x).get ff) ff h k = r := e
    have old : ∀ {o : O2 A.F}, storeP A n (rdN x) cs ((rdP A x).get ff) ff h .norm = o → (c_store A x y n).run c ff h .norm = o := by
      intro o ho
      show storeO A (rdN x) n ((rdP A x).get ff) (rv A y ff) ff h .norm = _
      rw [h1]
      show Option.rec (motive := fun _ => O2 A.F) (.bad 9) (fun c => Bool.rec (motive := fun _ => O2 A.F) (.bad 9) (storeP A n (rdN x) c ((rdP A x).get ff) ff h .norm) (Nat.beq (lenR c) n)) (cellsR a) = _
      rw [h2]
      show Bool.rec (motive := fun _ => O2 A.F) (.bad 9) (storeP A n (rdN x) cs ((rdP A x).get ff) ff h .norm) (Nat.beq (lenR cs) n) = _
      rw [hl]; exact ho
    cases hs : (rdP A x).get ff with
    | v a' =>
      rw [hs] at e old
      have e : OP.rec (motive := fun _ => CR) (fun b o => Option.rec (motive := fun _ => CR) (.bad 9) (fun h => k ff h) (storeM3 n b o cs h)) (.bad 9) (avP a') = r := e
      have old : ∀ {o : O2 A.F}, OP.rec (motive := fun _ => O2 A.F) (fun b o => Option.rec (motive := fun _ => O2 A.F) (.bad 9) (fun h => .norm ff h) (storeM n b o cs h)) (.bad 9) (avP a') = o → (c_store A x y n).run c ff h .norm = o := fun {o} => old (o := o)
      cases ha : avP a' with
      | no => rw [ha] at e; exact absurd e.symm (hb _)
      | mem b o =>
        rw [ha] at e old
        obtain ⟨h', h3, e⟩ := opt_some hb e
        rw [storeM3_eq] at h3
        refine .inl ⟨ff, ff, h', old ?_, .refl _, e.symm⟩
        show Option.rec (motive := fun _ => O2 A.F) (.bad 9) (fun h => .norm ff h) (storeM n b o cs h) = _
        rw [h3]
    | box g l =>
      rw [hs] at e old
      obtain ⟨l', h3, e⟩ := opt_some hb (show Option.rec (motive := fun _ => CR) (.bad 9) (fun l => k ((A.acc (rdN x)).set (.box g l) ff) h) (patch3 0 n cs l) = r from e)
      rw [patch3_eq] at h3
      refine .inl ⟨_, _, h, old ?_, .refl _, e.symm⟩
      show Option.rec (motive := fun _ => O2 A.F) (.bad 9) (fun l => .norm ((A.acc (rdN x)).set (.box g l) ff) h) (patchR 0 n cs l) = _
      rw [h3]
    | lp m g' o =>
      rw [hs] at e old
      have e : stoB A n m g' o cs ff h k ((A.acc m).get ff) = r := e
      have old : ∀ {u : O2 A.F}, Option.rec (motive := fun _ => O2 A.F) (.bad 9) (fun fr => .norm fr h) (storeB A n m g' o cs ff ((A.acc m).get ff)) = u → (c_store A x y n).run c ff h .norm = u := fun {u} => old (o := u)
      cases hm : (A.acc m).get ff with
      | box g2 l =>
        rw [hm] at e old
        have e : Bool.rec (motive := fun _ => CR) (.bad 9) (Option.rec (motive := fun _ => CR) (.bad 9) (fun l => k ((A.acc m).set (.box g2 l) ff) h) (patch3 o n cs l)) (Nat.beq g2 g') = r := e
        have old : ∀ {u : O2 A.F}, Option.rec (motive := fun _ => O2 A.F) (.bad 9) (fun fr => .norm fr h) (Bool.rec (motive := fun _ => Option A.F) none (Option.rec (motive := fun _ => Option A.F) none (fun l => some ((A.acc m).set (.box g2 l) ff)) (patchR o n cs l)) (Nat.beq g2 g')) = u → (c_store A x y n).run c ff h .norm = u := fun {u} => old (u := u)
        cases hg : Nat.beq g2 g' with
        | false => rw [hg] at e; exact absurd e.symm (hb _)
        | true =>
          rw [hg] at e old
          obtain ⟨l', h3, e⟩ := opt_some hb e
          rw [patch3_eq] at h3
          refine .inl ⟨_, _, h, old ?_, .refl _, e.symm⟩
          show Option.rec (motive := fun _ => O2 A.F) (.bad 9) (fun fr => .norm fr h) (Option.rec (motive := fun _ => Option A.F) none (fun l => some ((A.acc m).set (.box g2 l) ff)) (patchR o n cs l)) = _
          rw [h3]
      | none => rw [hm] at e; exact absurd e.symm (hb _)
      | i64 n => rw [hm] at e; exact absurd e.symm (hb _)
      | u8 n => rw [hm] at e; exact absurd e.symm (hb _)
      | b n => rw [hm] at e; exact absurd e.symm (hb _)
      | v n => rw [hm] at e; exact absurd e.symm (hb _)
      | und => rw [hm] at e; exact absurd e.symm (hb _)
      | lp _ _ _ => rw [hm] at e; exact absurd e.symm (hb _)
    | none => rw [hs] at e; exact absurd e.symm (hb _)
    | i64 n => rw [hs] at e; exact absurd e.symm (hb _)
    | u8 n => rw [hs] at e; exact absurd e.symm (hb _)
    | b n => rw [hs] at e; exact absurd e.symm (hb _)
    | und => rw [hs] at e; exact absurd e.symm (hb _)
theorem apD_ok {v : Option (AV × H)} {ff : A.F} {k : K3 A.F} {r : CR} (e : apD A d v ff k = r) (hb : ∀ w, r ≠ .bad w) : ∃ a h', ap2 (putC A d) v ff .norm = .norm ((putC A d).put (.v a) ff) h' ∧ r = k ((putC A d).put (.v a) ff) h' := by
  unfold apD at e
  obtain ⟨⟨a, h'⟩, rfl, e⟩ := opt_some hb e
  obtain ⟨n, h2, e⟩ := opt_some hb (show Option.rec (motive := fun _ => CR) (.bad 24) (fun n => Bool.rec (motive := fun _ => CR) (.bad 24) (k ((putC A d).put (.v a) ff) h') (Nat.ble n most)) (lenOf a) = r from e)
  cases hn : Nat.ble n most with
  | false => rw [hn] at e; exact absurd e.symm (hb _)
  | true =>
    rw [hn] at e
    refine ⟨a, h', ?_, e.symm⟩
    unfold ap2
    simp only [h2, hn]
theorem d_append {t m : Nat} {s x : RD} : DSim A (dAppend A d t m s x) (.op none (.eff (hAppend t m (oRd s) (oRd x) (oDst d))) (oDst d)) := by
  refine dsim_of (append_sim ok hd) ?_
  intro c ff h k r e hb
  obtain ⟨a, h1, e⟩ := opt_some hb e
  obtain ⟨b, h2, e⟩ := opt_some hb e
  have e : apD A d (appendV3 h t m a b) ff k = r := e
  rw [appendV3_eq] at e
  obtain ⟨v, h', h3, h4⟩ := apD_ok ok hd e hb
  refine .inl ⟨_, _, h', ?_, .refl _, h4⟩
  show append2 t m (putC A d) (rv A s ff) (rv A x ff) ff h .norm = _
  rw [h1, h2]; exact h3
theorem d_appendS {t m : Nat} {s x : RD} : DSim A (dAppendS A d t m s x) (.op none (.eff (hAppendS t m (oRd s) (oRd x) (oDst d))) (oDst d)) := by
  refine dsim_of (appendS_sim ok hd) ?_
  intro c ff h k r e hb
  obtain ⟨a, h1, e⟩ := opt_some hb e
  obtain ⟨b, h2, e⟩ := opt_some hb e
  have e : apD A d (appendS3 h t m a b) ff k = r := e
  rw [appendS3_eq] at e
  obtain ⟨v, h', h3, h4⟩ := apD_ok ok hd e hb
  refine .inl ⟨_, _, h', ?_, .refl _, h4⟩
  show appendS2 t m (putC A d) (rv A s ff) (rv A x ff) ff h .norm = _
  rw [h1, h2]; exact h3
theorem d_copy {m : Nat} {s x : RD} : DSim A (dCopy A d m s x) (.op none (.eff (hCopy m (oRd s) (oRd x) (oDst d))) (oDst d)) := by
  refine dsim_of (copy_sim ok hd) ?_
  intro c ff h k r e hb
  obtain ⟨a, h1, e⟩ := opt_some hb e
  obtain ⟨b, h2, e⟩ := opt_some hb e
  obtain ⟨⟨n, h'⟩, h3, e⟩ := opt_some hb e
  refine .inl ⟨_, _, h', ?_, .refl _, e.symm⟩
  show copy2 m (putC A d) (rv A s ff) (rv A x ff) ff h .norm = _
  rw [h1, h2]
  unfold copy2
  simp only [h3]
theorem d_insert {kt : KT} {m x v : RD} {e : Option Path} : DSim A (dInsert A kt m x v) (.op none (.eff (hInsert kt (oRd m) (oRd x) (oRd v))) e) := by
  refine dsim_of insert_sim ?_
  intro c ff h k r e hb
  obtain ⟨a, h1, e⟩ := opt_some hb e
  obtain ⟨b, h2, e⟩ := opt_some hb e
  obtain ⟨w, h3, e⟩ := opt_some hb e
  obtain ⟨h', h4, e⟩ := opt_some hb e
  refine .inl ⟨_, _, h', ?_, .refl _, e.symm⟩
  show insert2 kt (rv A m ff) (rv A x ff) (rv A v ff) ff h .norm = _
  rw [h1, h2, h3]
  rw [insH3_eq] at h4
  unfold insH at h4
  unfold insert2
  split at h4
  · rename_i p
    simp only
    split at h4
    · rename_i bl hbl
      simp only [hbl]
      split at h4
      · rename_i hk
        simp only [hk]
        split at h4
        · rename_i j va hf; cases h4; simp only [hf]
        · rename_i hf; cases h4; simp only [hf]
        · cases h4
      · cases h4
    · cases h4
  · cases h4
theorem d_makeMap : DSim A (dMakeMap A d) (.op none (.eff (hMakeMap (oDst d))) (oDst d)) := by
  refine dsim_of (makeMap_sim ok hd) ?_
  intro c ff h k r e hb
  have e : bd (newH h ⟨2, 0, .nil, true, false, true, 0⟩) (fun h' => k ((putC A d).put (.v (.mp h.next)) ff) h') = r := e
  rw [newH_eq] at e
  exact .inl ⟨_, _, _, rfl, .refl _, e.symm⟩
theorem d_panic {x : RD} {e : Option Path} : DSim A (dPanic A x) (.op none (.eff (hPanic (oRd x))) e) := by
  refine dsim_of panic_sim ?_
  intro c ff h k r e hb
  obtain ⟨a, h1, e⟩ := opt_some hb e
  refine .inr ?_
  show ∃ v h', panic2 (rv A x ff) h = .pan v h' ∧ _
  rw [h1]
  unfold panD at e
  split at e
  · exact ⟨_, h, rfl, e.symm⟩
  · exact absurd e.symm (hb _)
theorem d_call {f : RD} {as : List RD} : DSim A (dCall A d kd f as) (.op none (.eff (hCall (oRd f) (as.map oRd))) (oDst d)) := by
  refine dsim_of (call_sim ok hd) ?_
  intro c ff h k r e hb
  obtain ⟨l, h1, e⟩ := opt_some hb e
  obtain ⟨g, h2, e⟩ := opt_some hb e
  have old : ∀ {o : O2 A.F}, OF.rec (motive := fun _ => O2 A.F) (fun f a cs => callR (putC A d) ff .norm (c f (appR a (appR l cs)) h)) (.bad 26) (avF g) = o → (c_call A d f as).run c ff h .norm = o := by
    intro o ho
    show call2 (putC A d) (rv A f ff) (gvs2 A as ff) c ff h .norm = o
    rw [h1, h2]; exact ho
  have e : OF.rec (motive := fun _ => CR) (fun f a cs => callD A d kd (c f (appR a (appR l cs)) h) ff k) (.bad 26) (avF g) = r := e
  cases hg : avF g with
  | no => rw [hg] at e; exact absurd e.symm (hb _)
  | fn f a cs =>
    rw [hg] at e old
    have e : callD A d kd (c f (appR a (appR l cs)) h) ff k = r := e
    have old : ∀ {o : O2 A.F}, callR (putC A d) ff .norm (c f (appR a (appR l cs)) h) = o → _ := fun {o} => old (o := o)
    cases hc : c f (appR a (appR l cs)) h with
    | ret v h' =>
      rw [hc] at e old
      obtain ⟨s, h3, h4⟩ := putK_ok ok hd (show putK A d kd 26 v ff h' k = r from e) hb
      exact .inl ⟨_, _, h', old rfl, same_put ok hd (h3.trans (cS_toS v).symm) (fun d' g' o' e' => absurd e' (cS_lp ok hd h3 d' g' o')) ff, h4⟩
    | pan v h' => rw [hc] at e old; exact .inr ⟨v, h', old rfl, e.symm⟩
    | bad w => rw [hc] at e; exact absurd e.symm (hb _)
theorem op_d {kds : Nat → Kd} {f : FO} (hf : smallO A.N f = true) : DSim A (oD A kds d kd f) (.op none (oOp (oDst d) f) (oDst d)) := by
  cases f with
  | mv w x => exact dsim_of (mv_sim ok hd) (foll_mv ok hd)
  | pick c a b => exact dsim_of (pick_sim ok hd) (foll_pick ok hd)
  | locA z n => exact d_locA ok hd (blt_lt hf)
  | nBox t z => exact dsim_of (nBox_sim ok hd) (foll_dN ok hd (fun _ _ => rfl))
  | locV n x m => exact d_locV ok hd (blt_lt hf)
  | nBoxV t n x => exact dsim_of (nBoxV_sim ok hd) (foll_dN ok hd (g := fun fr => boxV2 t n (rv A x fr)) (fun _ _ => rfl))
  | build z ps => exact dsim_of (build_sim ok hd) (foll_dV ok hd)
  | nSlice k n z ps => exact dsim_of (nSlice_sim ok hd) (foll_dN ok hd (g := fun fr => nSlice2 k n (fill2 A ps fr z)) (fun y _ => nSlice3_eq y _ _ _))
  | load x n g => exact dsim_of (load_sim ok hd hf) (foll_val ok hd (g := fun ff h => loadK A (kRd kds x) n g ((rdP A x).get ff) ff h) fun c ff h a hg => ⟨.v a, rfl, by show putV 8 (putC A d) (loadP A n g ((rdP A x).get ff) ff h) ff h .norm = _; rw [loadK_some hg]; rfl⟩)
  | store x y n => exact d_store ok hd
  | nilCheck x => exact d_nil ok hd
  | bin q op x y => exact d_bin ok hd
  | un op x => exact d_un ok hd
  | convInt k x => exact d_convInt ok hd
  | convStr x => exact dsim_of (convStr_sim ok hd) (foll_dV ok hd)
  | bytes x => exact dsim_of (bytes_sim ok hd) (foll_dVH ok hd)
  | nBytes x => exact dsim_of (nBytes_sim ok hd) (foll_dN ok hd (g := fun fr => nBytes2 (rv A x fr)) (fun y _ => nBytes3_eq y _))
  | iface t x => exact dsim_of (iface_sim ok hd) (foll_dV ok hd)
  | func f a c => exact dsim_of (func_sim ok hd) (foll_dV ok hd)
  | nMake k z l c => exact dsim_of (nMake_sim ok hd) (foll_dN ok hd (g := fun fr => nMake2 k z (rv A l fr) (rv A c fr)) (fun y _ => nMake3_eq y _ _ _ _))
  | sliceS x lo hi => exact dsim_of (sliceS_sim ok hd) (foll_dV ok hd)
  | slice z x lo hi => exact dsim_of (slice_sim ok hd) (foll_dV ok hd)
  | fieldAddr x off => exact d_fieldAddr ok hd
  | field x off n g =>
    refine dsim_of (field_sim ok hd hf) ?_
    show Foll A _ (dV A d kd 19 fun fr => field3 off n g (rv A x fr))
    simp only [field3_eq]
    exact foll_dV ok hd
  | indexAddr k x ix => exact dsim_of (indexAddr_sim ok hd) (foll_dV ok hd)
  | indexArr m k x ix => exact dsim_of (indexArr_sim ok hd) (foll_dV ok hd)
  | index x ix => exact d_index ok hd
  | extract x i => exact dsim_of (extract_sim ok hd) (foll_dV ok hd)
  | lenS x => exact d_lenS ok hd
  | len x => exact d_len ok hd
  | append t k s x => exact d_append ok hd
  | appendS t k s x => exact d_appendS ok hd
  | copy k s x => exact d_copy ok hd
  | minMax mx x y => exact dsim_of (minMax_sim ok hd) (foll_dV ok hd)
  | call f as => exact d_call ok hd
  | lookup kt z comma x k => exact dsim_of (lookup_sim ok hd) (by have h3 := fun (fr : A.F) (h : H) => lookup3_eq kt z comma (rv A x fr) (rv A k fr) h; exact foll_dVH3 ok hd h3)
  | insert kt m k v => exact d_insert ok hd
  | makeMap => exact d_makeMap ok hd
  | assert t z x => exact dsim_of (assert_sim ok hd) (foll_dV ok hd)
  | panic x => exact d_panic ok hd
end
end Go.Ev
set_option linter.unusedSectionVars false
set_option linter.unusedVariables false
namespace Go.Ev
variable {A : Fam}
theorem RF.none (ok : A.Ok) (fr : FT) : RF A A.zero fr := ⟨fun n _ s h => (by rw [ok.zero] at h; cases h), fun n _ d g o h => by rw [ok.zero] at h; cases h⟩
theorem RF.add (ok : A.Ok) {ff : A.F} {fr : FT} (R : RF A ff fr) {n : Nat} (hn : n < A.N) {s : S2} (hs : ∀ t, cS s = some t → get (pathOf n) fr = some t) (hl : okS A s) : RF A ((A.acc n).set s ff) fr where
  slot := fun m hm t h => by
    by_cases e : m = n
    · subst e; rw [ok.same m _ ff hm] at h; exact hs t h
    · rw [ok.other m n _ ff hm hn e] at h; exact R.slot m hm t h
  lp := fun m hm d g o h => by
    by_cases e : m = n
    · subst e; rw [ok.same m _ ff hm] at h; subst h; exact hl
    · rw [ok.other m n _ ff hm hn e] at h; exact R.lp m hm d g o h
theorem appJ_ok (ok : A.Ok) {k : K3 A.F} {ff : A.F} {fr : FT} (R : RF A ff fr) {h : H} {r : CR} (hb : ∀ w, r ≠ .bad w) : ∀ (j : Jn) {ff0 : A.F}, okJ A.N j = true → RF A ff0 fr → appJ A ff h j (absJ A k j ff0) = r → ∃ ff', RF A ff' fr ∧ k ff' h = r
  | [], ff0, _, R0, e => ⟨ff0, R0, e⟩
  | (n, d) :: l, ff0, hj, R0, e => by
    have hj : Bool.rec (motive := fun _ => Bool) false (Kd.rec (motive := fun _ => Bool) (okJ A.N l) (okJ A.N l) (okJ A.N l) (okJ A.N l) (okJ A.N l) (okJ A.N l) (okJ A.N l) (fun d _ => Bool.rec (motive := fun _ => Bool) false (okJ A.N l) (Nat.blt d A.N)) d) (Nat.blt n A.N) = true := hj
    cases hn : Nat.blt n A.N with
    | false => rw [hn] at hj; cases hj
    | true =>
      rw [hn] at hj
      have hn := blt_lt hn
      have val : ∀ {s : S2} {a : AV}, vS ((A.acc n).get ff) = some a → cS s = some (.v a) → RF A ((A.acc n).set s ff0) fr := by
        intro s a h1 h2
        refine R0.add ok hn (fun t ht => ?_) (okS_of h2)
        rw [h2] at ht; cases ht
        exact R.slot n hn _ (cS_of_vS h1)
      cases d with
      | i =>
        obtain ⟨x, h1, e⟩ := opt_some hb (show Option.rec (motive := fun _ => CR) (.bad 70) (fun x => appJ A ff h l (absJ A k l ((A.acc n).set (.i64 x) ff0))) (sI ((A.acc n).get ff)) = r from e)
        exact appJ_ok ok R hb l hj (val (sI_vS h1) rfl) e
      | u =>
        obtain ⟨x, h1, e⟩ := opt_some hb (show Option.rec (motive := fun _ => CR) (.bad 70) (fun x => appJ A ff h l (absJ A k l ((A.acc n).set (.u8 x) ff0))) (sU ((A.acc n).get ff)) = r from e)
        exact appJ_ok ok R hb l hj (val (sU_vS h1) rfl) e
      | b =>
        obtain ⟨x, h1, e⟩ := opt_some hb (show Option.rec (motive := fun _ => CR) (.bad 70) (fun x => appJ A ff h l (absJ A k l ((A.acc n).set (.b x) ff0))) (sBo ((A.acc n).get ff)) = r from e)
        exact appJ_ok ok R hb l hj (val (sBo_vS h1) rfl) e
      | s =>
        obtain ⟨x, h1, e⟩ := opt_some hb (show Option.rec (motive := fun _ => CR) (.bad 70) (fun x => appJ A ff h l (absJ A k l ((A.acc n).set (.v (.str x)) ff0))) (sS ((A.acc n).get ff)) = r from e)
        exact appJ_ok ok R hb l hj (val (sS_vS h1) rfl) e
      | v =>
        obtain ⟨x, h1, e⟩ := opt_some hb (show Option.rec (motive := fun _ => CR) (.bad 70) (fun x => appJ A ff h l (absJ A k l ((A.acc n).set (.v x) ff0))) (vS ((A.acc n).get ff)) = r from e)
        exact appJ_ok ok R hb l hj (val h1 rfl) e
      | raw =>
        refine appJ_ok ok R hb l hj (R0.add ok hn (fun t ht => R.slot n hn t ht) ?_) e
        cases hs : (A.acc n).get ff with
        | lp d g o => exact R.lp n hn d g o hs
        | _ => trivial
      | box =>
        have e : S2.rec (motive := fun _ => CR) (.bad 70) (fun _ => .bad 70) (fun _ => .bad 70) (fun _ => .bad 70) (fun _ => .bad 70) (.bad 70) (fun g x => appJ A ff h l (absJ A k l ((A.acc n).set (.box g x) ff0))) (fun _ _ _ => .bad 70) ((A.acc n).get ff) = r := e
        cases hs : (A.acc n).get ff with
        | box g x => rw [hs] at e; exact appJ_ok ok R hb l hj (R0.add ok hn (s := .box g x) (fun t ht => R.slot n hn t (by rw [hs]; exact ht)) trivial) e
        | none => rw [hs] at e; exact absurd e.symm (hb _)
        | i64 _ => rw [hs] at e; exact absurd e.symm (hb _)
        | u8 _ => rw [hs] at e; exact absurd e.symm (hb _)
        | b _ => rw [hs] at e; exact absurd e.symm (hb _)
        | v _ => rw [hs] at e; exact absurd e.symm (hb _)
        | und => rw [hs] at e; exact absurd e.symm (hb _)
        | lp _ _ _ => rw [hs] at e; exact absurd e.symm (hb _)
      | lp m o =>
        have hj : Bool.rec (motive := fun _ => Bool) false (okJ A.N l) (Nat.blt m A.N) = true := hj
        cases hm : Nat.blt m A.N with
        | false => rw [hm] at hj; cases hj
        | true =>
          rw [hm] at hj
          have e : S2.rec (motive := fun _ => CR) (.bad 70) (fun _ => .bad 70) (fun _ => .bad 70) (fun _ => .bad 70) (fun _ => .bad 70) (.bad 70) (fun _ _ => .bad 70) (fun d' g o' => Bool.rec (motive := fun _ => CR) (.bad 70) (Bool.rec (motive := fun _ => CR) (.bad 70) (appJ A ff h l (absJ A k l ((A.acc n).set (.lp m g o) ff0))) (Nat.beq o' o)) (Nat.beq d' m)) ((A.acc n).get ff) = r := e
          cases hs : (A.acc n).get ff with
          | lp d' g o' =>
            rw [hs] at e
            have e : Bool.rec (motive := fun _ => CR) (.bad 70) (Bool.rec (motive := fun _ => CR) (.bad 70) (appJ A ff h l (absJ A k l ((A.acc n).set (.lp m g o) ff0))) (Nat.beq o' o)) (Nat.beq d' m) = r := e
            cases h1 : Nat.beq d' m with
            | false => rw [h1] at e; exact absurd e.symm (hb _)
            | true =>
              rw [h1] at e
              have e : Bool.rec (motive := fun _ => CR) (.bad 70) (appJ A ff h l (absJ A k l ((A.acc n).set (.lp m g o) ff0))) (Nat.beq o' o) = r := e
              cases h2 : Nat.beq o' o with
              | false => rw [h2] at e; exact absurd e.symm (hb _)
              | true =>
                rw [h2] at e
                have e4 : appJ A ff h l (absJ A k l ((A.acc n).set (.lp m g o) ff0)) = r := e
                rw [Nat.eq_of_beq_eq_true h1, Nat.eq_of_beq_eq_true h2] at hs
                exact appJ_ok ok R hb l hj (R0.add ok hn (s := .lp m g o) (fun t ht => R.slot n hn t (by rw [hs]; exact ht)) (blt_lt hm)) e4
          | none => rw [hs] at e; exact absurd e.symm (hb _)
          | i64 _ => rw [hs] at e; exact absurd e.symm (hb _)
          | u8 _ => rw [hs] at e; exact absurd e.symm (hb _)
          | b _ => rw [hs] at e; exact absurd e.symm (hb _)
          | v _ => rw [hs] at e; exact absurd e.symm (hb _)
          | und => rw [hs] at e; exact absurd e.symm (hb _)
          | box _ _ => rw [hs] at e; exact absurd e.symm (hb _)
def reG (g : Gd) : U1 → FS
  | .op f d => .op g f d
  | .chk f d => .chk g f d
  | .no => .no
theorem gdEq_eq {a b : Gd} (h : gdEq a b = true) : a = b := by
  match a, b, h with
  | none, none, _ => rfl
  | some (n, x), some (m, y), h =>
    have h : Bool.rec (motive := fun _ => Bool) false (Bool.rec (motive := fun _ => Bool) (nb y) y x) (Nat.beq n m) = true := h
    cases hn : Nat.beq n m with
    | false => rw [hn] at h; cases h
    | true =>
      rw [hn] at h
      have h2 : Bool.rec (motive := fun _ => Bool) (nb y) y x = true := h
      rw [Nat.eq_of_beq_eq_true hn]
      cases x <;> cases y <;> first | rfl | cases h2
theorem reG_of (s : FS) : reG (gdOf s) (u1Of s) = s := by cases s <;> rfl
def unseg (l : List (Gd × List U1)) : List FS := l.flatMap fun p => p.2.map (reG p.1)
theorem unseg_addS (g : Gd) (u : U1) (r : List (Gd × List U1)) : unseg (addS g u r) = reG g u :: unseg r := by
  cases r with
  | nil => rfl
  | cons p r =>
    obtain ⟨g', l⟩ := p
    unfold addS
    simp only
    cases h : gdEq g g' with
    | true => rw [gdEq_eq h]; rfl
    | false => rfl
theorem unseg_segs : ∀ l : List FS, unseg (segs l) = l
  | [] => rfl
  | s :: l => by
    show unseg (addS (gdOf s) (u1Of s) (segs l)) = _
    rw [unseg_addS, reG_of, unseg_segs l]
theorem evS_app (c : Calls') : ∀ (a b : List St) (fr : FT) (h : H), evSteps c (a ++ b) fr h = okO (evSteps c a fr h) (evSteps c b)
  | [], b, fr, h => rfl
  | s :: a, b, fr, h => by
    show (match evStep c s fr h with | .norm fr h => evSteps c (a ++ b) fr h | x => x) = okO (match evStep c s fr h with | .norm fr h => evSteps c a fr h | x => x) (evSteps c b)
    cases evStep c s fr h with
    | norm fr h => exact evS_app c a b fr h
    | exit _ _ _ => rfl
    | ret _ _ => rfl
    | pan _ _ _ => rfl
    | bad _ => rfl
theorem evS_cons (c : Calls') (s : St) (l : List St) (fr : FT) (h : H) : evSteps c (s :: l) fr h = okO (evStep c s fr h) (evSteps c l) := by
  show (match evStep c s fr h with | .norm fr h => evSteps c l fr h | x => x) = _
  cases evStep c s fr h <;> rfl
section
variable (ok : A.Ok) {kds : Nat → Kd}
include ok
theorem lRun_some {f : FO} {l : LClo A.F} (hl : lClo A f = some l) {ff : A.F} {h : H} {a : AV} (e : lRun A kds f l ff h = some a) : l.run ff h = some a := by
  cases f <;> first | exact e | (cases hl; exact loadK_some e) | (cases hl; exact (lookup3_eq _ _ _ _ _ _).symm.trans e)
theorem dU1_ok (u : U1) : DSim A (dU1 A kds u) (oS (reG none u)) := by
  cases u with
  | op f d =>
    unfold dU1
    simp only
    split
    · rename_i h1 h2; exact op_d ok h1 h2
    · intro c c' hc ff fr R h k Ψ hk hp hb; exact absurd rfl (hb 42)
  | chk f d =>
    refine dsim_of (step_sim ok (.chk none f d)) ?_
    intro c ff h k r e hb
    unfold dU1 at e
    simp only at e
    unfold sClo
    simp only
    split at e
    · rename_i h1 h2
      rw [h1, h2]
      simp only [smallG]
      split at e
      · rename_i l d hl
        simp only [hl]
        obtain ⟨a, h3, e⟩ := opt_some hb e
        obtain ⟨b, h4, e⟩ := opt_some hb e
        cases hv : aveq a b with
        | false => rw [hv] at e; exact absurd e.symm (hb _)
        | true =>
          rw [hv] at e
          refine .inl ⟨ff, ff, h, ?_, .refl _, e.symm⟩
          show chk2 (l.run ff h) (vS ((A.acc d).get ff)) ff h .norm = _
          rw [lRun_some ok hl h3, h4]
          unfold chk2
          simp only [hv]
      · rename_i hl
        simp only [hl]
        exact .inl ⟨ff, ff, h, rfl, .refl _, e.symm⟩
      · exact absurd e.symm (hb _)
    · exact absurd e.symm (hb _)
  | no => intro c c' hc ff fr R h k Ψ hk hp hb; exact absurd rfl (hb 41)
theorem dUs_ok {c c' : Calls'} (hc : Le c c') : ∀ (l : List U1) {ff : A.F} {fr : FT}, RF A ff fr → ∀ (h : H) {k : K3 A.F} {Ψ : Out → CR}, (∀ ff' fr' h', RF A ff' fr' → RefR (k ff' h') (Ψ (.norm fr' h'))) → (∀ v fr' h', Ψ (.pan v fr' h') = .pan v h') → RefR (dUs A kds c l k ff h) (Ψ (evSteps c' (l.map fun u => oS (reG none u)) fr h))
  | [], ff, fr, R, h, k, Ψ, hk, hp => hk ff fr h R
  | u :: l, ff, fr, R, h, k, Ψ, hk, hp => by
    rw [List.map_cons, evS_cons]
    exact dU1_ok ok u c c' hc R h (Ψ := fun o => Ψ (okO o (evSteps c' (l.map fun u => oS (reG none u))))) (fun ff' fr' h' R' => dUs_ok hc l R' h' hk hp) hp
theorem gB_t {ff : A.F} {fr : FT} (R : RF A ff fr) {n : Nat} (hn : n < A.N) {b : Bool} (h : gB b ((A.acc n).get ff) = .t) : wantedF (some (pathOf n, b)) fr = some true := by
  cases b with
  | true => exact wanted_t R hn h
  | false => exact wanted_t' R hn h
theorem gB_f {ff : A.F} {fr : FT} (R : RF A ff fr) {n : Nat} (hn : n < A.N) {b : Bool} (h : gB b ((A.acc n).get ff) = .f) : wantedF (some (pathOf n, b)) fr = some false := by
  cases b with
  | true => exact wanted_f R hn h
  | false => exact wanted_f' R hn h
theorem dGs_ok {c c' : Calls'} (hc : Le c c') {n : Nat} (hn : n < A.N) {b : Bool} : ∀ (l : List U1) {ff : A.F} {fr : FT}, RF A ff fr → ∀ (h : H) {k : K3 A.F} {Ψ : Out → CR}, (∀ ff' fr' h', RF A ff' fr' → RefR (k ff' h') (Ψ (.norm fr' h'))) → (∀ v fr' h', Ψ (.pan v fr' h') = .pan v h') → RefR (dGs A kds c n b l k ff h) (Ψ (evSteps c' (l.map fun u => oS (reG (some (n, b)) u)) fr h))
  | [], ff, fr, R, h, k, Ψ, hk, hp => hk ff fr h R
  | u :: l, ff, fr, R, h, k, Ψ, hk, hp => by
    rw [List.map_cons, evS_cons]
    show RefR (OB.rec (motive := fun _ => CR) ((dU1 A kds u).run c ff h (dGs A kds c n b l k)) (.bad 40) (.bad 40) (gB b ((A.acc n).get ff))) _
    cases hg : gB b ((A.acc n).get ff) with
    | t =>
      have hw := gB_t ok R hn hg
      have e : evStep c' (oS (reG (some (n, b)) u)) fr h = evStep c' (oS (reG none u)) fr h := by
        cases u with
        | op f d => exact wanted_op hw
        | chk f d => exact wanted_chk hw
        | no => rfl
      rw [e]
      exact dU1_ok ok u c c' hc R h (Ψ := fun o => Ψ (okO o (evSteps c' (l.map fun u => oS (reG (some (n, b)) u))))) (fun ff' fr' h' R' => dGs_ok hc hn l R' h' hk hp) hp
    | f => intro hb; exact absurd rfl (hb 40)
    | no => intro hb; exact absurd rfl (hb 40)
theorem wanted_und {fr : FT} {n : Nat} {b : Bool} (h : wantedF (some (pathOf n, b)) fr = some false) (d : Option Nat) : wantedF (some (pathOf n, b)) (pt (oDst d) (some .und) fr) = some false := by
  cases d with
  | none => exact h
  | some m =>
    show wantedF (some (pathOf n, b)) (set (pathOf m) (some .und) fr) = some false
    unfold wantedF at h ⊢
    by_cases e : pathOf n = pathOf m
    · simp only [e, get_set_same]
    · simp only [get_set_other _ _ _ _ e]; exact h
theorem out_ok {c' : Calls'} {n : Nat} {b : Bool} : ∀ (l : List U1) {ff : A.F} {fr : FT}, smallU A.N l = true → RF A ff fr → wantedF (some (pathOf n, b)) fr = some false → ∀ (h : H), ∃ fr', evSteps c' (l.map fun u => oS (reG (some (n, b)) u)) fr h = .norm fr' h ∧ RF A (outUs A l ff) fr'
  | [], ff, fr, _, R, _, h => ⟨fr, rfl, R⟩
  | u :: l, ff, fr, hs, R, hw, h => by
    rw [List.map_cons, evS_cons]
    cases u with
    | op f d =>
      have hs : Bool.rec (motive := fun _ => Bool) false (smallU A.N l) (small A.N d) = true := hs
      cases hd : small A.N d with
      | false => rw [hd] at hs; cases hs
      | true =>
        rw [hd] at hs
        rw [show oS (reG (some (n, b)) (.op f d)) = .op (some (pathOf n, b)) (oOp (oDst d) f) (oDst d) from rfl, unwanted_op hw]
        exact out_ok l hs (put_ok ok R hd (s := .und) trivial) (wanted_und ok hw d) h
    | chk f d =>
      rw [show oS (reG (some (n, b)) (.chk f d)) = .chk (some (pathOf n, b)) (oOp (oDst d) f) (oDst d) from rfl, unwanted_chk (by rw [hw]; simp)]
      exact out_ok l hs R hw h
    | no => cases hs
theorem joins {k : K3 A.F} {j : Jn} (hj : okJ A.N j = true) {Ψ : FT → H → CR} (hk : ∀ ff' fr' h', RF A ff' fr' → RefR (k ff' h') (Ψ fr' h')) : ∀ ff' fr' h', RF A ff' fr' → RefR (appJ A ff' h' j (absJ A k j A.zero)) (Ψ fr' h') := by
  intro ff' fr' h' R' hb
  obtain ⟨ff'', R'', e⟩ := appJ_ok ok R' hb j hj (RF.none ok fr') rfl
  rw [← e] at hb ⊢
  exact hk ff'' fr' h' R'' hb
theorem viaJ_ok {k : K3 A.F} {j : Option Jn} {Ψ : FT → H → CR} (hk : ∀ ff' fr' h', RF A ff' fr' → RefR (k ff' h') (Ψ fr' h')) : ∀ ff' fr' h', RF A ff' fr' → RefR (viaJ A j k ff' h') (Ψ fr' h') := by
  cases j with
  | none => exact hk
  | some j =>
    intro ff' fr' h' R' hb
    have e : viaJ A (some j) k ff' h' = Bool.rec (motive := fun _ => CR) (.bad 48) (appJ A ff' h' j (absJ A k j A.zero)) (okJ A.N j) := rfl
    cases hj : okJ A.N j with
    | false => rw [e, hj] at hb; exact absurd rfl (hb 48)
    | true => rw [e, hj] at hb ⊢; exact joins ok hj hk ff' fr' h' R' hb
theorem dCut_ok {c c' : Calls'} (hc : Le c c') : ∀ (cs : List (Nat × Jn)) (l : List U1) {ff : A.F} {fr : FT}, RF A ff fr → ∀ (h : H) {k : K3 A.F} {Ψ : Out → CR}, (∀ ff' fr' h', RF A ff' fr' → RefR (k ff' h') (Ψ (.norm fr' h'))) → (∀ v fr' h', Ψ (.pan v fr' h') = .pan v h') → RefR (dCut A kds c cs l k ff h) (Ψ (evSteps c' (l.map fun u => oS (reG none u)) fr h))
  | [], l, ff, fr, R, h, k, Ψ, hk, hp => dUs_ok ok hc l R h hk hp
  | (n, j) :: cs, l, ff, fr, R, h, k, Ψ, hk, hp => by
    have e : (l.map fun u => oS (reG none u)) = ((takeR n l).map fun u => oS (reG none u)) ++ ((dropR n l).map fun u => oS (reG none u)) := by
      rw [← List.map_append, takeR_eq, dropR_eq, List.take_append_drop]
    rw [e, evS_app]
    exact dUs_ok ok hc (takeR n l) R h (Ψ := fun o => Ψ (okO o (evSteps c' ((dropR n l).map fun u => oS (reG none u))))) (viaJ_ok ok (j := some j) (Ψ := fun fr' h' => Ψ (evSteps c' ((dropR n l).map fun u => oS (reG none u)) fr' h')) (fun ff' fr' h' R' => dCut_ok hc cs (dropR n l) R' h' hk hp)) hp
theorem dSegs_ok {c c' : Calls'} (hc : Le c c') : ∀ (l : List (Gd × List U1)) (js : List (List (Nat × Jn))) {ff : A.F} {fr : FT}, RF A ff fr → ∀ (h : H) {k : K3 A.F} {Ψ : Out → CR}, (∀ ff' fr' h', RF A ff' fr' → RefR (k ff' h') (Ψ (.norm fr' h'))) → (∀ v fr' h', Ψ (.pan v fr' h') = .pan v h') → RefR (dSegs A kds c l js k ff h) (Ψ (evSteps c' ((unseg l).map oS) fr h))
  | [], js, ff, fr, R, h, k, Ψ, hk, hp => hk ff fr h R
  | _ :: _, [], ff, fr, R, h, k, Ψ, hk, hp => fun hb => absurd rfl (hb 45)
  | (none, us) :: l, cs :: js, ff, fr, R, h, k, Ψ, hk, hp => by
    have e : (unseg ((none, us) :: l)).map oS = (us.map fun u => oS (reG none u)) ++ (unseg l).map oS := by simp [unseg, Function.comp_def]
    rw [e, evS_app]
    exact dCut_ok ok hc cs us R h (Ψ := fun o => Ψ (okO o (evSteps c' ((unseg l).map oS)))) (fun ff' fr' h' R' => dSegs_ok hc l js R' h' hk hp) hp
  | (some (n, b), us) :: l, [] :: js, ff, fr, R, h, k, Ψ, hk, hp => fun hb => absurd rfl (hb 45)
  | (some (n, b), us) :: l, (_ :: _ :: _) :: js, ff, fr, R, h, k, Ψ, hk, hp => fun hb => absurd rfl (hb 45)
  | (some (n, b), us) :: l, [(n0, j)] :: js, ff, fr, R, h, k, Ψ, hk, hp => by
    have e : (unseg ((some (n, b), us) :: l)).map oS = (us.map fun u => oS (reG (some (n, b)) u)) ++ (unseg l).map oS := by simp [unseg, Function.comp_def]
    rw [e, evS_app]
    intro hb
    have key : ∀ r, dSegs A kds c ((some (n, b), us) :: l) ([(n0, j)] :: js) k ff h = r → (∀ w, r ≠ .bad w) → Ψ (okO (evSteps c' (us.map fun u => oS (reG (some (n, b)) u)) fr h) (evSteps c' ((unseg l).map oS))) = r := by
      intro r er hb
      have er : (match Nat.blt n A.N, okJ A.N j, smallU A.N us with
        | true, true, true => bd (absJ A (dSegs A kds c l js k) j A.zero) fun K => OB.rec (motive := fun _ => CR) (dGs A kds c n b us (fun fr h => appJ A fr h j K) ((A.acc n).set (.b b) ff) h) (appJ A (outUs A us ff) h j K) (.bad 40) (gB b ((A.acc n).get ff))
        | _, _, _ => .bad 44) = r := er
      split at er
      · rename_i h1 h2 h3
        have hn := blt_lt h1
        have er : OB.rec (motive := fun _ => CR) (dGs A kds c n b us (fun fr h => appJ A fr h j (absJ A (dSegs A kds c l js k) j A.zero)) ((A.acc n).set (.b b) ff) h) (appJ A (outUs A us ff) h j (absJ A (dSegs A kds c l js k) j A.zero)) (.bad 40) (gB b ((A.acc n).get ff)) = r := er
        have join := joins ok h2 (k := dSegs A kds c l js k) (Ψ := fun fr' h' => Ψ (evSteps c' ((unseg l).map oS) fr' h')) (fun ff' fr' h' R' => dSegs_ok hc l js R' h' hk hp)
        cases hg : gB b ((A.acc n).get ff) with
        | t =>
          rw [hg] at er
          have hw := gB_t ok R hn hg
          have R1 : RF A ((A.acc n).set (.b b) ff) fr := by
            refine R.add ok hn (s := .b b) (fun t ht => ?_) trivial
            cases ht
            refine R.slot n hn _ ?_
            cases b with
            | true => exact gS_t hg
            | false => exact gS'_t hg
          have := dGs_ok ok (kds := kds) (b := b) hc hn us R1 h (Ψ := fun o => Ψ (okO o (evSteps c' ((unseg l).map oS)))) join hp
          have er2 : dGs A kds c n b us (fun fr h => appJ A fr h j (absJ A (dSegs A kds c l js k) j A.zero)) ((A.acc n).set (.b b) ff) h = r := er
          rw [er2] at this
          exact this hb
        | f =>
          rw [hg] at er
          have hw := gB_f ok R hn hg
          obtain ⟨fr', e, R'⟩ := out_ok ok (c' := c') us h3 R hw h
          rw [e]
          have := join _ _ h R'
          rw [show appJ A (outUs A us ff) h j (absJ A (dSegs A kds c l js k) j A.zero) = r from er] at this
          exact this hb
        | no => rw [hg] at er; exact absurd er.symm (hb _)
      · exact absurd er.symm (hb _)
    exact key _ rfl hb
theorem beq_comm (a b : Nat) : Nat.beq a b = Nat.beq b a := by
  cases h : Nat.beq a b with
  | true => rw [Nat.eq_of_beq_eq_true h, Nat.beq_refl]
  | false =>
    cases h2 : Nat.beq b a with
    | false => rfl
    | true => rw [Nat.eq_of_beq_eq_true h2, Nat.beq_refl] at h; cases h
theorem dC_ok (fuel : Nat) : ∀ (c : FC) (t : AT) {cc cc' : Calls'}, Le cc cc' → ∀ {ρ : K3 A.F} {xs : Ex A.F} {k : K3 A.F} {ff : A.F} {fr : FT}, RF A ff fr → ∀ (h : H) {Ψ : Out → CR}, (∀ ff' fr' h', RF A ff' fr' → RefR (k ff' h') (Ψ (.norm fr' h'))) → (∀ id ff' fr' h', RF A ff' fr' → RefR (lookX id xs ff' h') (Ψ (.exit id fr' h'))) →
    (∀ ff' fr' h', RF A ff' fr' → RefR (ρ ff' h') (Ψ (.ret fr' h'))) → (∀ v fr' h', Ψ (.pan v fr' h') = .pan v h') → RefR (dC A kds fuel cc ρ c t xs k ff h) (Ψ (evC cc' fuel (oC c) fr h))
  | .skip, t, cc, cc', hc, ρ, xs, k, ff, fr, R, h, Ψ, hn, hx, hr, hp => hn ff fr h R
  | .steps l, t, cc, cc', hc, ρ, xs, k, ff, fr, R, h, Ψ, hn, hx, hr, hp => by
    cases t with
    | steps js =>
      have := dSegs_ok ok (kds := kds) hc (segs l) js R h (Ψ := Ψ) hn hp
      rw [unseg_segs] at this
      exact this
    | _ => exact fun hb => absurd rfl (hb 47)
  | .drawn l ds, t, cc, cc', hc, ρ, xs, k, ff, fr, R, h, Ψ, hn, hx, hr, hp => by
    cases t with
    | steps js =>
      have := dSegs_ok ok (kds := kds) hc (segs l) js R h (Ψ := fun o => Ψ (clrOut (ds.map pathOf) o)) hn (fun v fr' h' => hp v _ h')
      rw [unseg_segs] at this
      exact this
    | _ => exact fun hb => absurd rfl (hb 47)
  | .seq a b, t, cc, cc', hc, ρ, xs, k, ff, fr, R, h, Ψ, hn, hx, hr, hp => by
    cases t with
    | seq j ta tb =>
      have hb' : ∀ ff' fr' h', RF A ff' fr' → RefR (dC A kds fuel cc ρ b tb xs k ff' h') (Ψ (evC cc' fuel (oC b) fr' h')) := fun ff' fr' h' R' => dC_ok fuel b tb hc R' h' hn hx hr hp
      cases j with
      | none => exact dC_ok fuel a ta hc R h (Ψ := fun o => Ψ (match o with | .norm fr h => evC cc' fuel (oC b) fr h | x => x)) hb' hx hr hp
      | some j =>
        intro hb
        have e : dC A kds fuel cc ρ (.seq a b) (.seq (some j) ta tb) xs k ff h = Bool.rec (motive := fun _ => CR) (.bad 48) (dC A kds fuel cc ρ a ta xs (fun fr h => appJ A fr h j (absJ A (dC A kds fuel cc ρ b tb xs k) j A.zero)) ff h) (okJ A.N j) := rfl
        cases hj : okJ A.N j with
        | false => rw [e, hj] at hb; exact absurd rfl (hb 48)
        | true =>
          rw [e, hj] at hb ⊢
          exact dC_ok fuel a ta hc R h (Ψ := fun o => Ψ (match o with | .norm fr h => evC cc' fuel (oC b) fr h | x => x)) (joins ok hj hb') hx hr hp hb
    | _ => exact fun hb => absurd rfl (hb 47)
  | .cond x a b, t, cc, cc', hc, ρ, xs, k, ff, fr, R, h, Ψ, hn, hx, hr, hp => by
    cases t with
    | cond ja jb ta tb =>
      intro hb
      obtain ⟨v, h1, e⟩ := opt_some hb (show Option.rec (motive := fun _ => CR) (.bad 50) (fun v => Bool.rec (motive := fun _ => CR) (viaJ A jb (dC A kds fuel cc ρ b tb xs k) ff h) (viaJ A ja (dC A kds fuel cc ρ a ta xs k) ff h) v) (sBo ((rdC A x).get ff)) = _ from rfl)
      have hg := rs_ok R (cS_of_vS (sBo_vS h1))
      have e2 : evC cc' fuel (oC (.cond x a b)) fr h = match gv (oRd x) fr with | some (.bool true) => evC cc' fuel (oC a) fr h | some (.bool false) => evC cc' fuel (oC b) fr h | _ => .bad 50 := rfl
      rw [e2, hg]
      rw [← e] at hb ⊢
      cases v with
      | true => exact viaJ_ok ok (Ψ := fun fr' h' => Ψ (evC cc' fuel (oC a) fr' h')) (fun ff' fr' h' R' => dC_ok fuel a ta hc R' h' hn hx hr hp) ff fr h R hb
      | false => exact viaJ_ok ok (Ψ := fun fr' h' => Ψ (evC cc' fuel (oC b) fr' h')) (fun ff' fr' h' R' => dC_ok fuel b tb hc R' h' hn hx hr hp) ff fr h R hb
    | _ => exact fun hb => absurd rfl (hb 47)
  | .block id a, t, cc, cc', hc, ρ, xs, k, ff, fr, R, h, Ψ, hn, hx, hr, hp => by
    cases t with
    | block j ta =>
      have go : ∀ {k' : K3 A.F}, (∀ ff' fr' h', RF A ff' fr' → RefR (k' ff' h') (Ψ (.norm fr' h'))) → RefR (dC A kds fuel cc ρ a ta ((id, k') :: xs) k' ff h) (Ψ (evC cc' fuel (oC (.block id a)) fr h)) := by
        intro k' hk'
        refine dC_ok fuel a ta hc R h (Ψ := fun o => Ψ (match o with | .exit id' fr h => (match Nat.beq id' id with | true => .norm fr h | false => .exit id' fr h) | x => x)) hk' (fun id' ff' fr' h' R' => ?_) hr hp
        show RefR (Bool.rec (motive := fun _ => CR) (lookX id' xs ff' h') (k' ff' h') (Nat.beq id id')) (Ψ (match Nat.beq id' id with | true => .norm fr' h' | false => .exit id' fr' h'))
        rw [beq_comm ok id' id]
        cases Nat.beq id id' with
        | true => exact hk' ff' fr' h' R'
        | false => exact hx id' ff' fr' h' R'
      cases j with
      | none => exact go hn
      | some j =>
        intro hb
        have e : dC A kds fuel cc ρ (.block id a) (.block (some j) ta) xs k ff h = Bool.rec (motive := fun _ => CR) (.bad 48) (dC A kds fuel cc ρ a ta ((id, fun fr h => appJ A fr h j (absJ A k j A.zero)) :: xs) (fun fr h => appJ A fr h j (absJ A k j A.zero)) ff h) (okJ A.N j) := rfl
        cases hj : okJ A.N j with
        | false => rw [e, hj] at hb; exact absurd rfl (hb 48)
        | true =>
          rw [e, hj] at hb ⊢
          exact go (joins ok hj (Ψ := fun fr' h' => Ψ (.norm fr' h')) hn) hb
    | _ => exact fun hb => absurd rfl (hb 47)
  | .loop a, t, cc, cc', hc, ρ, xs, k, ff, fr, R, h, Ψ, hn, hx, hr, hp => by
    cases t with
    | loop j ta =>
      intro hb
      have e : dC A kds fuel cc ρ (.loop a) (.loop j ta) xs k ff h = Bool.rec (motive := fun _ => CR) (.bad 48) (appJ A ff h j (Nat.rec (motive := fun _ => FnJ j) (absJ A (fun _ _ => .bad 51) j A.zero) (fun _ ih => absJ A (fun fr h => dC A kds fuel cc ρ a ta xs (fun fr h => appJ A fr h j ih) fr h) j A.zero) fuel)) (okJ A.N j) := rfl
      cases hj : okJ A.N j with
      | false => rw [e, hj] at hb; exact absurd rfl (hb 48)
      | true =>
        rw [e, hj] at hb ⊢
        have key : ∀ (m : Nat) {ff : A.F} {fr : FT}, RF A ff fr → ∀ (h : H), RefR (appJ A ff h j (Nat.rec (motive := fun _ => FnJ j) (absJ A (fun _ _ => .bad 51) j A.zero) (fun _ ih => absJ A (fun fr h => dC A kds fuel cc ρ a ta xs (fun fr h => appJ A fr h j ih) fr h) j A.zero) m))
            (Ψ (Nat.rec (motive := fun _ => FT → H → Out) (fun _ _ => Out.bad 51) (fun _ ih fr h => match evC cc' fuel (oC a) fr h with | .norm fr h => ih fr h | x => x) m fr h)) := by
          intro m
          induction m with
          | zero =>
            intro ff fr R h hb
            obtain ⟨ff', R', e⟩ := appJ_ok ok R hb j hj (RF.none ok fr) rfl
            exact absurd e.symm (hb 51)
          | succ m ih =>
            intro ff fr R h hb
            obtain ⟨ff', R', e⟩ := appJ_ok ok R hb j hj (RF.none ok fr) rfl
            rw [← e] at hb ⊢
            exact dC_ok fuel a ta hc R' h (Ψ := fun o => Ψ (match o with | .norm fr h => Nat.rec (motive := fun _ => FT → H → Out) (fun _ _ => Out.bad 51) (fun _ ih fr h => match evC cc' fuel (oC a) fr h with | .norm fr h => ih fr h | x => x) m fr h | x => x)) (fun ff' fr' h' R' => ih R' h') hx hr hp hb
        exact key fuel R h hb
    | _ => exact fun hb => absurd rfl (hb 47)
  | .exit id, t, cc, cc', hc, ρ, xs, k, ff, fr, R, h, Ψ, hn, hx, hr, hp => hx id ff fr h R
  | .ret, t, cc, cc', hc, ρ, xs, k, ff, fr, R, h, Ψ, hn, hx, hr, hp => hr ff fr h R
  | .no, t, cc, cc', hc, ρ, xs, k, ff, fr, R, h, Ψ, hn, hx, hr, hp => fun hb => absurd rfl (hb 52)
theorem dIn_ok {k : K3 A.F} {Ψ : FT → H → CR} (hk : ∀ ff' fr' h', RF A ff' fr' → RefR (k ff' h') (Ψ fr' h')) : ∀ (n i : Nat) (as : List AV) {ff : A.F} {fr : FT}, RF A ff fr → i + n ≤ A.N → ∀ (h : H), RefR (dIn A kds k n i as ff h) (Ψ (initFr as i fr) h)
  | 0, i, as, ff, fr, R, hi, h => by
    cases as with
    | nil => exact hk ff fr h R
    | cons a l => exact fun hb => absurd rfl (hb 63)
  | n + 1, i, as, ff, fr, R, hi, h => by
    cases as with
    | nil => exact fun hb => absurd rfl (hb 63)
    | cons a l =>
      intro hb
      have hd : small A.N (some i) = true := Nat.ble_eq_true_of_le (show i + 1 ≤ A.N by omega)
      obtain ⟨s, h1, h2⟩ := putK_ok ok hd (kd := kds i) (w := 63) (a := a) (ff := ff) (h := h) (k := fun fr h => dIn A kds k n (i + 1) l fr h) rfl hb
      have R' := R.set ok (show i < A.N by omega) (okS_of h1)
      rw [h1] at R'
      have e : dIn A kds k (n + 1) i (a :: l) ff h = putK A (some i) (kds i) 63 a ff h (fun fr h => dIn A kds k n (i + 1) l fr h) := rfl
      rw [e, h2] at hb ⊢
      exact dIn_ok hk n (i + 1) l R' (by omega) h hb
theorem dFun_ok {fuel n : Nat} {t : AT} {f : FuncId} {e : FE} {c c' : Calls'} (hc : Le c c') {as : List AV} {h : H} : RefR (dFun A kds fuel n t e c as h) (finF f (e.res.map oR) (evC c' fuel (oC e.code) (initFr as 0 .nil) h)) := by
  intro hb
  have e1 : dFun A kds fuel n t e c as h = Bool.rec (motive := fun _ => CR) (.bad 63) (dIn A kds (dC A kds fuel c (finC A e.res).run e.code t [] (finC A e.res).run) n 0 as A.zero h) (Nat.ble n A.N) := rfl
  cases hl : Nat.ble n A.N with
  | false => rw [e1, hl] at hb; exact absurd rfl (hb 63)
  | true =>
    rw [e1, hl] at hb ⊢
    have fin : ∀ ff' fr' h', RF A ff' fr' → RefR ((finC A e.res).run ff' h') (finF f (e.res.map oR) (.norm fr' h')) := fun ff' fr' h' R' hb => finC_ok R' rfl hb
    refine dIn_ok ok (Ψ := fun fr h => finF f (e.res.map oR) (evC c' fuel (oC e.code) fr h)) (fun ff' fr' h' R' => ?_) n 0 as (RF.start ok) (by have := Nat.le_of_ble_eq_true hl; omega) h hb
    exact dC_ok ok fuel e.code t hc R' h' fin (fun id ff' fr' h' R' hb => absurd (show lookX id [] ff' h' = .bad 46 from rfl) (hb 46)) fin (fun _ _ _ => rfl)
end
structure Turned (F : FuncId → Option EF) (fuel : Nat) (f : FuncId) (g : Calls' → List AV → H → CR) : Prop where
  ok : ∃ e : FE, F f = some (oE e) ∧ ∀ {c c' : Calls'}, Le c c' → ∀ as h, RefR (g c as h) (finF f (e.res.map oR) (evC c' fuel (oC e.code) (initFr as 0 .nil) h))
theorem turned_fun {F : FuncId → Option EF} {fuel : Nat} {f : FuncId} {g : Calls' → List AV → H → CR} (T : Turned F fuel f g) {c c' : Calls'} (hc : Le c c') (as : List AV) (h : H) : RefR (g c as h) (evFun F c' fuel f as h) := by
  obtain ⟨e, h1, h2⟩ := T.ok
  intro hb
  have := h2 hc as h hb
  have e0 : evFun F c' fuel f as h = finF f (e.res.map oR) (evC c' fuel (oC e.code) (initFr as 0 .nil) h) := by
    unfold evFun
    rw [h1]
    rfl
  rw [e0]; exact this
end Go.Ev
set_option linter.unusedSectionVars false
set_option linter.unusedVariables false
namespace Go.Ev
theorem turned_of {A : Fam} (ok : A.Ok) {P : Program} {f : FuncId} {kds : Nat → Kd} {fuel n : Nat} {t : AT} {g : Calls' → List AV → H → CR} (e : (fcompF P f).map (dFun A kds fuel n t) = some g) : Turned (compF P) fuel f g := by
  cases hf : fcompF P f with
  | none => rw [hf] at e; cases e
  | some x =>
    rw [hf] at e
    have e : dFun A kds fuel n t x = g := Option.some.inj e
    subst e
    exact ⟨x, compF_of_data hf, fun hc as h => dFun_ok ok hc⟩
inductive BT where
  | nil
  | one (n : Nat) (g : FClo)
  | fork (n : Nat) (l r : BT)
def lookB (t : BT) : Nat → Option FClo := BT.rec (fun _ => none) (fun n g f => Bool.rec none (some g) (Nat.beq f n)) (fun n _ _ l r f => Bool.rec (r f) (l f) (Nat.ble (Nat.succ f) n)) t
def AllT (F : FuncId → Option EF) (fuel : Nat) : BT → Prop
  | .nil => True
  | .one n g => Turned F fuel n g.run
  | .fork _ l r => AllT F fuel l ∧ AllT F fuel r
def apartB (lib : Lib) (t : BT) : Bool := BT.rec true (fun n _ => Option.rec true (fun _ => false) (lib n)) (fun _ _ _ a b => Bool.rec false b a) t
theorem lookB_ok {F : FuncId → Option EF} {fuel : Nat} {lib : Lib} : ∀ {t : BT}, AllT F fuel t → apartB lib t = true → ∀ {f : Nat} {g : FClo}, lookB t f = some g → Turned F fuel f g.run ∧ lib f = none
  | .nil, _, _, f, g, e => by cases e
  | .one n g0, ha, hl, f, g, e => by
    have e : Bool.rec (motive := fun _ => Option FClo) none (some g0) (Nat.beq f n) = some g := e
    cases hn : Nat.beq f n with
    | false => rw [hn] at e; cases e
    | true =>
      rw [hn] at e
      cases e
      rw [Nat.eq_of_beq_eq_true hn]
      refine ⟨ha, ?_⟩
      have hl : Option.rec (motive := fun _ => Bool) true (fun _ => false) (lib n) = true := hl
      cases hx : lib n with
      | none => rfl
      | some x => rw [hx] at hl; cases hl
  | .fork n l r, ha, hl, f, g, e => by
    have e : Bool.rec (motive := fun _ => Option FClo) (lookB r f) (lookB l f) (Nat.ble (Nat.succ f) n) = some g := e
    have hl : Bool.rec (motive := fun _ => Bool) false (apartB lib r) (apartB lib l) = true := hl
    cases h1 : apartB lib l with
    | false => rw [h1] at hl; cases hl
    | true =>
      rw [h1] at hl
      cases hn : Nat.ble (Nat.succ f) n with
      | false => rw [hn] at e; exact lookB_ok ha.2 hl e
      | true => rw [hn] at e; exact lookB_ok ha.1 h1 e
def sev (lib : Lib) (S : Nat → Option FClo) (F : FuncId → Option EF) (fuel : Nat) (d : Nat) : Calls' := Nat.rec (libC lib) (fun _ ih f args h => Option.rec ((eClo lib (fun _ => none) F fuel f).run ih args h) (fun g => g.run ih args h) (S f)) d
theorem sev_le {lib : Lib} {F : FuncId → Option EF} {fuel : Nat} {t : BT} (ha : AllT F fuel t) (hl : apartB lib t = true) : ∀ d, Le (sev lib (lookB t) F fuel d) (ev lib F fuel d)
  | 0 => fun _ _ _ _ h _ => h
  | d + 1 => by
    intro f as h r e hb
    have e : Option.rec (motive := fun _ => CR) ((eClo lib (fun _ => none) F fuel f).run (sev lib (lookB t) F fuel d) as h) (fun g => g.run (sev lib (lookB t) F fuel d) as h) (lookB t f) = r := e
    show (match lib f with | some g => g as h | none => evFun F (ev lib F fuel d) fuel f as h) = r
    cases hs : lookB t f with
    | none =>
      rw [hs] at e
      have e : (eClo lib (fun _ => none) F fuel f).run (sev lib (lookB t) F fuel d) as h = r := e
      unfold eClo at e
      cases hg : lib f with
      | some g => rw [hg] at e; exact e
      | none => rw [hg] at e; exact fun_ok (fun f e h => by cases h) (sev_le ha hl d) e hb
    | some g =>
      rw [hs] at e
      obtain ⟨h1, h2⟩ := lookB_ok ha hl hs
      rw [h2]
      have e : g.run (sev lib (lookB t) F fuel d) as h = r := e
      have := turned_fun h1 (sev_le ha hl d) as h
      rw [e] at this
      exact this hb
theorem scalls_true {P : Program} {lib : Lib} {fuel d : Nat} {t : BT} (ha : AllT (compF P) fuel t) (hl : apartB lib t = true) {f : FuncId} {as : List AV} {h : H} (e : saysTrue (sev lib (lookB t) (compF P) fuel d f as h) = true) : saysTrue (ev lib (compF P) fuel d f as h) = true := by
  unfold saysTrue at e
  split at e
  · rename_i h' hr
    have := sev_le (lib := lib) ha hl d f as h _ hr (fun _ => by simp)
    rw [this]; rfl
  · cases e
end Go.Ev
namespace Go.Ev
def o1 {α : Type} (w : Nat) (m : Option α) (k : α → CR) : CR := Option.rec (.bad w) k m
def cB (b : Bool) (t e : CR) : CR := Bool.rec e t b
def oB (b : OB) (t e : CR) : CR := OB.rec t e (.bad 40) b
def pB {α : Type} (b : Bool) (t e : Option α) : Option α := Bool.rec e t b
def cR (r : CR) (k : AV → H → CR) : CR := CR.rec k .pan .bad r
def oF (a : AV) (k : FuncId → List AV → List AV → CR) : CR := OF.rec k (.bad 26) (avF a)
def aP (r : Option (AV × H)) (k : AV → H → CR) : CR := Option.rec (.bad 24) (fun p => Prod.rec (fun a h => Option.rec (.bad 24) (fun n => Bool.rec (.bad 24) (k a h) (Nat.ble n most)) (lenOf a)) p) r
def cP (r : Option (Nat × H)) (k : Nat → H → CR) : CR := Option.rec (.bad 32) (fun p => Prod.rec k p) r
def ldS (n : Nat) (g : Bool) (s : Option AV) (h : H) : Option AV := Option.rec none (fun a => ldV n g a h) s
def ldV0 (n : Nat) (g : Bool) (a : AV) (h : H) : Option AV := OP.rec (fun b o => loadM n g b o h) none (avP a)
def lpL (g g0 : Nat) (m : Option AV) : Option AV := Bool.rec none m (Nat.beq g g0)
def stV (n : Nat) (c : List AV) (a : AV) (h : H) (k : H → CR) : CR := OP.rec (fun b o => Option.rec (.bad 9) k (storeM3 n b o c h)) (.bad 9) (avP a)
def fl1 (o n : Nat) (a : Option AV) (x : List AV) (ih : List AV → Option (List AV)) : Option (List AV) := Option.rec none (fun a => Option.rec none (fun c => Bool.rec none (Option.rec none ih (patchR o n c x)) (Nat.beq (lenR c) n)) (cellsR a)) a
def ovR (a : Option AV) : Option (Option AV) := match a with | some a => some (some a) | none => none
def eqB (x y : ByteArray) : Bool := bytesR x.data.toList y.data.toList
def catT (x y : ByteArray) : Option AV := Bool.rec none (fullR (appR x.data.toList y.data.toList) fun l => some (.str ⟨⟨l⟩⟩)) (Nat.ble (Nat.add (lenR x.data.toList) (lenR y.data.toList)) 9223372036854775807)
def aL (as : List AV) (k : AV → List AV → CR) : CR := List.rec (.bad 63) (fun a r _ => k a r) as
def aE (as : List AV) (b : CR) : CR := List.rec b (fun _ _ _ => .bad 63) as
def okF (P : Program) (f : FuncId) (A : Fam) (ks : List (Nat × Kd)) (n : Nat) (t : AT) (g : Nat → Calls' → List AV → H → CR) : Prop := ∀ F, (fcompF P f).map (dFun A (kdL ks) F n t) = some (g F)
theorem set_set {α : Type} : ∀ (p : Path) (u v : Option α) (t : Tr α), set p u (set p v t) = set p u t
  | [], u, v, t => by cases t <;> rfl
  | x :: p, u, v, t => by
    have h := set_set p u v
    cases x <;> cases t <;> first
      | (rename_i w a b c d; first | exact congrArg (fun y => Tr.node w y b c d) (h a) | exact congrArg (fun y => Tr.node w a y c d) (h b) | exact congrArg (fun y => Tr.node w a b y d) (h c) | exact congrArg (fun y => Tr.node w a b c y) (h d))
      | first | exact congrArg (fun y => Tr.node none y .nil .nil .nil) (h .nil) | exact congrArg (fun y => Tr.node none .nil y .nil .nil) (h .nil) | exact congrArg (fun y => Tr.node none .nil .nil y .nil) (h .nil) | exact congrArg (fun y => Tr.node none .nil .nil .nil y) (h .nil)
def insK (kt : KT) (x v : AV) (b : Blk) : Option Blk := match b.map with
  | true => match isKey kt x with
    | true => match findRow x b.rows b.n 0 with
      | some (some (j, _)) => some { b with rows := set (pathOf j) (some [x, v]) b.rows }
      | some none => some { b with n := b.n + 1, rows := set (pathOf b.n) (some [x, v]) b.rows }
      | none => none
    | false => none
  | false => none
theorem put_new (h : H) (b b' : Blk) : (h.new b).put h.next (some b') = h.new b' := by
  show H.mk (inc h.next) (set h.next (some b') (set h.next (some b) h.t)) h.gen = H.mk (inc h.next) (set h.next (some b') h.t) h.gen
  rw [set_set]
theorem insH3_new (kt : KT) (x v : AV) (h : H) (b : Blk) : insH3 kt (.mp h.next) x v (newH h b) = (insK kt x v b).map (newH h) := by
  rw [insH3_eq, newH_eq]
  unfold insH insK mapAt
  simp only [show get h.next (h.new b).t = some b from get_set_same _ _ _]
  obtain ⟨bk, bn, br, bg, bo, bm, bt⟩ := b
  cases bm with
  | false => rfl
  | true =>
    simp only
    cases isKey kt x with
    | false => rfl
    | true =>
      simp only
      cases findRow x br bn 0 with
      | none => rfl
      | some r =>
        cases r with
        | none => simp only [Option.map_some, put_new, newH_eq]
        | some q => obtain ⟨j, y⟩ := q; simp only [Option.map_some, put_new, newH_eq]
def insAll (kt : KT) (l : List (AV × AV)) : Blk → Option Blk := List.rec (fun b => some b) (fun p _ ih b => match insK kt p.1 p.2 b with | some b => ih b | none => none) l
def mapAll (kt : KT) (m : AV) (l : List (AV × AV)) : H → (H → CR) → CR := List.rec (fun h K => K h) (fun p _ ih h K => o1 31 (insH3 kt m p.1 p.2 h) fun h => ih h K) l
theorem mapAll_new (kt : KT) (h : H) (K : H → CR) : ∀ (l : List (AV × AV)) (b b' : Blk), insAll kt l b = some b' → mapAll kt (.mp h.next) l (newH h b) K = K (newH h b')
  | [], b, b', e => by cases e; rfl
  | p :: l, b, b', e => by
    have e : (match insK kt p.1 p.2 b with | some b => insAll kt l b | none => none) = some b' := e
    show o1 31 (insH3 kt (.mp h.next) p.1 p.2 (newH h b)) (fun h' => mapAll kt (.mp h.next) l h' K) = K (newH h b')
    rw [insH3_new]
    cases hi : insK kt p.1 p.2 b with
    | none => rw [hi] at e; cases e
    | some b1 => rw [hi] at e; exact mapAll_new kt h K l b1 b' e
end Go.Ev
end
