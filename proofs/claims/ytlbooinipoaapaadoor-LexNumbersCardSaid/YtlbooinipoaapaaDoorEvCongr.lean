/- Operations of slots alone tell the same where their slots hold the same. -/
import Derived.Test.YtlbooinipoaapaaDoorEvFun
namespace Go.Ev
variable {P : Program} {fr fr' : FT}

/-- A slot holds the same, but for what lies in its block. -/
def Same (fr fr' : FT) (x : Operand) : Prop := gv (rd x) fr' = gv (rd x) fr ∧ place (rd x) fr' = place (rd x) fr
theorem same_of {x : Operand} (hx : ∀ t, x = .tmp t → sh (get (pathOf t) fr') = sh (get (pathOf t) fr)) : Same fr fr' x := by
  cases x with
  | tmp t =>
    have h := hx t rfl
    unfold Same
    simp only [rd, gv, place]
    cases h1 : get (pathOf t) fr' with
    | none => cases h2 : get (pathOf t) fr with
      | none => exact ⟨rfl, rfl⟩
      | some b => rw [h1, h2] at h; cases b <;> simp [sh] at h
    | some a => cases h2 : get (pathOf t) fr with
      | none => rw [h1, h2] at h; cases a <;> simp [sh] at h
      | some b =>
        rw [h1, h2] at h
        cases a <;> cases b <;> simp [sh] at h <;> first | (subst h; exact ⟨rfl, rfl⟩) | exact ⟨rfl, rfl⟩ | (obtain ⟨h3, h4, h5⟩ := h; subst h3; subst h4; subst h5; exact ⟨rfl, rfl⟩)
  | const v =>
    unfold Same
    simp only [rd]
    split <;> exact ⟨rfl, rfl⟩
  | func f => exact ⟨rfl, rfl⟩
  | global g => exact ⟨rfl, rfl⟩
theorem gvs_congr : ∀ {xs : List Operand}, (∀ x ∈ xs, Same fr fr' x) → gvs (xs.map rd) fr' = gvs (xs.map rd) fr
  | [], _ => rfl
  | x :: xs, h => by
    simp only [List.map_cons, gvs]
    rw [(h x (by simp)).1, gvs_congr (xs := xs) (fun y hy => h y (by simp [hy]))]
theorem gvo_congr {x : Option Operand} (h : ∀ y, x = some y → Same fr fr' y) : gvo (rdo x) fr' = gvo (rdo x) fr := by
  cases x with
  | none => rfl
  | some y => simp only [rdo, gvo]; rw [(h y rfl).1]
theorem fill_congr : ∀ {qs : List (Nat × Nat × Rd)}, (∀ q ∈ qs, gv q.2.2 fr' = gv q.2.2 fr) → ∀ z, fill qs fr' z = fill qs fr z
  | [], _, _ => rfl
  | (off, m, r) :: qs, h, z => by
    simp only [fill]
    have h0 : gv r fr' = gv r fr := h (off, m, r) (by simp)
    rw [h0]
    split
    · split
      · split
        · split
          · exact fill_congr (fun q hq => h q (by simp [hq])) _
          · rfl
        · rfl
      · rfl
    · rfl
theorem partsL_rd {places : List (Nat × Nat)} : ∀ {ps : List (Nat × Operand)} {qs : List (Nat × Nat × Rd)}, partsL places ps = some qs → ∀ q ∈ qs, ∃ x ∈ ps.map (·.2), q.2.2 = rd x
  | [], qs, h => by simp [partsL] at h; subst h; intro q hq; simp at hq
  | (i, x) :: ps, qs, h => by
    simp only [partsL] at h
    split at h
    · rename_i off m r ho hr
      cases h
      intro q hq
      simp at hq
      rcases hq with rfl | hq
      · exact ⟨x, by simp, rfl⟩
      · obtain ⟨y, hy, e⟩ := partsL_rd hr q hq
        exact ⟨y, by simp at hy ⊢; exact .inr hy, e⟩
    · cases h

theorem pure_congr {loc : List Tmp} {o : Oper} {why : Nat} {f : FT → Option Sl} (hc : comp P loc o = some (.pure why f)) (hs : ∀ x ∈ o.op.operands, Same fr fr' x) : f fr' = f fr := by
  obtain ⟨dst, op, type, pos, after, guard⟩ := o
  unfold comp at hc
  cases op <;> simp only at hc
  all_goals try (cases hc; done)
  case move x => cases hc; simp only [vMove, (hs x (by simp [Op.operands])).1]
  case assign x => cases hc; simp only [vMove, (hs x (by simp [Op.operands])).1]
  case pick c x y => cases hc; simp only [vPick, (hs c (by simp [Op.operands])).1, (hs x (by simp [Op.operands])).1, (hs y (by simp [Op.operands])).1]
  case alloc t =>
    split at hc
    · split at hc
      · split at hc <;> cases hc
      · cases hc
    · cases hc
  case box t x =>
    split at hc
    · split at hc
      · split at hc <;> cases hc
      · cases hc
    · cases hc
  case build t ps =>
    split at hc
    · split at hc
      · split at hc
        · rename_i qs hq
          cases hc
          simp only [vBuild]
          rw [fill_congr (fun q hqq => ?_)]
          obtain ⟨x, hx, e⟩ := partsL_rd hq q hqq
          rw [e]
          exact (hs x (by simp only [Op.operands]; exact List.mem_toArray.2 hx)).1
        · cases hc
      · cases hc
    · cases hc
  case buildSlice t m ps =>
    split at hc
    · split at hc
      · split at hc <;> cases hc
      · cases hc
    · cases hc
  case load t x =>
    split at hc
    · split at hc <;> cases hc
    · cases hc
  case store t x y =>
    split at hc
    · split at hc <;> cases hc
    · cases hc
  case nilCheck x => cases hc; simp only [vNilCheck, (hs x (by simp [Op.operands])).1, (hs x (by simp [Op.operands])).2]
  case binOp op t x y yt =>
    split at hc <;> first | cases hc | skip
    simp only [vBin, (hs x (by simp [Op.operands])).1, (hs y (by simp [Op.operands])).1]
  case unOp op t x => cases hc; simp only [vUn, (hs x (by simp [Op.operands])).1]
  case convert s0 t x =>
    split at hc
    · cases hc; simp only [vConvInt, (hs x (by simp [Op.operands])).1]
    · cases hc; simp only [vConvStr, (hs x (by simp [Op.operands])).1]
    · split at hc <;> cases hc
    · split at hc <;> cases hc
    · cases hc
  case typeAssert x xt t ok =>
    cases ok <;> simp only at hc
    · cases hc
    · split at hc
      · cases hc
      · split at hc
        · cases hc; simp only [vAssert, (hs x (by simp [Op.operands])).1]
        · cases hc
      · cases hc
  case lookup t x k comma =>
    split at hc
    · split at hc <;> cases hc
    · cases hc
  case makeMap t r => cases r <;> simp only at hc <;> cases hc
  case insert t m k v =>
    split at hc
    · split at hc <;> cases hc
    · cases hc
  case mapUpdate t m k v =>
    split at hc
    · split at hc <;> cases hc
    · cases hc
  case makeInterface t x =>
    split at hc
    · cases hc
    · cases hc; simp only [vIface, (hs x (by simp [Op.operands])).1]
    · cases hc
  case makeFunc g a c =>
    cases g <;> simp only at hc
    all_goals try (cases hc; done)
    cases hc
    simp only [vFunc]
    rw [gvs_congr (xs := a.toList) (fun x hx => hs x (by simp only [Op.operands, Array.mem_append]; exact .inl (by simpa using hx))), gvs_congr (xs := c.toList) (fun x hx => hs x (by simp only [Op.operands, Array.mem_append]; exact .inr (by simpa using hx)))]
  case makeSlice t l c =>
    split at hc
    · split at hc <;> cases hc
    · cases hc
  case slice t x lo hi mx =>
    cases mx with
    | some _ => simp only at hc; cases hc
    | none =>
      simp only at hc
      have hx := hs x (by simp [Op.operands])
      have hlo := gvo_congr (fr := fr) (fr' := fr') (x := lo) (fun y e => hs y (by subst e; cases hi <;> simp [Op.operands]))
      have hhi := gvo_congr (fr := fr) (fr' := fr') (x := hi) (fun y e => hs y (by subst e; cases lo <;> simp [Op.operands]))
      split at hc
      · cases hc; simp only [vSliceS, hx.1, hlo, hhi]
      · split at hc
        · split at hc
          · cases hc; simp only [vSlice, hx.1, hlo, hhi]
          · cases hc
        · cases hc
      · cases hc
  case fieldAddr t x i =>
    split at hc
    · split at hc
      · cases hc; simp only [vFieldAddr, (hs x (by simp [Op.operands])).2]
      · cases hc
    · cases hc
  case field t x i =>
    split at hc
    · split at hc <;> first | cases hc | skip
      simp only [vField, (hs x (by simp [Op.operands])).1]
    · cases hc
  case indexAddr t x ix =>
    split at hc
    · split at hc
      · cases hc; simp only [vIndexAddr, (hs x (by simp [Op.operands])).1, (hs ix (by simp [Op.operands])).1]
      · cases hc
    · cases hc
  case index t x ix =>
    split at hc
    · cases hc; simp only [vIndex, (hs x (by simp [Op.operands])).1, (hs ix (by simp [Op.operands])).1]
    · cases hc
  case extract x i => cases hc; simp only [vExtract, (hs x (by simp [Op.operands])).1]
  case call c =>
    obtain ⟨callee, args, argTypes⟩ := c
    cases callee <;> simp only at hc
    case value g => cases hc
    case invoke r m => cases hc
    case builtin b =>
      cases b <;> simp only at hc
      all_goals try (cases hc; done)
      case append =>
        split at hc
        · split at hc
          · split at hc <;> cases hc
          · split at hc <;> cases hc
          · cases hc
        · cases hc
      case len =>
        split at hc
        · rename_i x t ha ht0
          have ha' : args = #[x] := by rw [← Array.toList_inj]; exact ha
          subst ha'
          split at hc
          · cases hc; simp only [vLenS, (hs x (by simp [Op.operands, Call.operands])).1]
          · cases hc; simp only [vLen, (hs x (by simp [Op.operands, Call.operands])).1]
          · cases hc
        · cases hc
      case min =>
        split at hc
        · rename_i x y ha
          have ha' : args = #[x, y] := by rw [← Array.toList_inj]; exact ha
          subst ha'
          cases hc; simp only [vMinMax, (hs x (by simp [Op.operands, Call.operands])).1, (hs y (by simp [Op.operands, Call.operands])).1]
        · cases hc
      case max =>
        split at hc
        · rename_i x y ha
          have ha' : args = #[x, y] := by rw [← Array.toList_inj]; exact ha
          subst ha'
          cases hc; simp only [vMinMax, (hs x (by simp [Op.operands, Call.operands])).1, (hs y (by simp [Op.operands, Call.operands])).1]
        · cases hc
theorem new_congr {loc : List Tmp} {o : Oper} {why : Nat} {f : FT → Option (Blk × Option Nat)} (hc : comp P loc o = some (.new why f)) (hs : ∀ x ∈ o.op.operands, Same fr fr' x) : f fr' = f fr := by
  obtain ⟨dst, op, type, pos, after, guard⟩ := o
  unfold comp at hc
  cases op <;> simp only at hc
  all_goals try (cases hc; done)
  case alloc t =>
    split at hc
    · split at hc
      · split at hc
        · cases hc
        · cases hc; rfl
      · cases hc
    · cases hc
  case box t x =>
    split at hc
    · split at hc
      · split at hc
        · cases hc
        · cases hc; simp only [nBoxV, (hs x (by simp [Op.operands])).1]
      · cases hc
    · cases hc
  case build t ps =>
    split at hc
    · split at hc
      · split at hc <;> cases hc
      · cases hc
    · cases hc
  case buildSlice t m ps =>
    split at hc
    · split at hc
      · split at hc
        · cases hc
          simp only [nSlice]
          rw [fill_congr (fun q hqq => ?_)]
          obtain ⟨p, hp, rfl⟩ := List.mem_map.1 hqq
          exact (hs p.2 (by simp only [Op.operands]; exact List.mem_toArray.2 (List.mem_map.2 ⟨p, hp, rfl⟩))).1
        · cases hc
      · cases hc
    · cases hc
  case load t x =>
    split at hc
    · split at hc <;> cases hc
    · cases hc
  case store t x y =>
    split at hc
    · split at hc <;> cases hc
    · cases hc
  case binOp op t x y yt =>
    split at hc <;> cases hc
  case convert s0 t x =>
    split at hc
    · cases hc
    · cases hc
    · split at hc <;> cases hc
    · split at hc
      · cases hc; simp only [nBytes, (hs x (by simp [Op.operands])).1]
      · cases hc
    · cases hc
  case typeAssert x xt t ok =>
    cases ok <;> simp only at hc
    · cases hc
    · split at hc
      · cases hc
      · split at hc <;> cases hc
      · cases hc
  case lookup t x k comma =>
    split at hc
    · split at hc <;> cases hc
    · cases hc
  case makeMap t r => cases r <;> simp only at hc <;> cases hc
  case insert t m k v =>
    split at hc
    · split at hc <;> cases hc
    · cases hc
  case mapUpdate t m k v =>
    split at hc
    · split at hc <;> cases hc
    · cases hc
  case makeInterface t x =>
    split at hc <;> cases hc
  case makeFunc g a c =>
    cases g <;> simp only at hc
    all_goals cases hc
  case makeSlice t l c =>
    split at hc
    · split at hc
      · cases hc; simp only [nMake, (hs l (by simp [Op.operands])).1, (hs c (by simp [Op.operands])).1]
      · cases hc
    · cases hc
  case slice t x lo hi mx =>
    cases mx with
    | some _ => simp only at hc; cases hc
    | none =>
      simp only at hc
      split at hc
      · cases hc
      · split at hc
        · split at hc <;> cases hc
        · cases hc
      · cases hc
  case fieldAddr t x i =>
    split at hc
    · split at hc <;> cases hc
    · cases hc
  case field t x i =>
    split at hc
    · split at hc <;> cases hc
    · cases hc
  case indexAddr t x ix =>
    split at hc
    · split at hc <;> cases hc
    · cases hc
  case index t x ix =>
    split at hc <;> cases hc
  case call c =>
    obtain ⟨callee, args, argTypes⟩ := c
    cases callee <;> simp only at hc
    case value g => cases hc
    case invoke r m => cases hc
    case builtin b =>
      cases b <;> simp only at hc
      all_goals try (cases hc; done)
      case append =>
        split at hc
        · split at hc
          · split at hc <;> cases hc
          · split at hc <;> cases hc
          · cases hc
        · cases hc
      case len =>
        split at hc
        · split at hc <;> cases hc
        · cases hc
      case min =>
        split at hc <;> cases hc
      case max =>
        split at hc <;> cases hc
end Go.Ev
