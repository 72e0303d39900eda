/- What a call tells from nothing it tells anywhere, if it was given, and tells, nothing but plain values: such calls as a table. -/
import Derived.Test.YtgccmndndgbmkaaDoorEvTop
import Derived.Test.YtgccmndndgbmkaaDoorEvLib
import Derived.Test.YtgccmndndgbmkaaDoorEvSpec
namespace Go.Ev
open Go.RowKit
variable {P : Program}
/-- Does a call return this value? -/
def saysV (r : CR) (v : AV) : Bool := match r with | .ret v' _ => aveq v' v | _ => false
theorem plain_told {Γ : Glob} (hm : P.follows .mixedOrders = true) {lib : Lib} (hlib : CallsOk Γ P (libC lib)) {F : FuncId → Option EF} (hF : ∀ f e, F f = some e → compF P f = some e) {fuel d : Nat} {f : FuncId} {xs : List AV} {v : AV}
    (e : saysV (ev lib F fuel d f xs H.empty) v = true) (hp : plainV v = true) (hx : plainVs xs = true) {A : Asg} {h : H} {w : World} {args : Array Value} (hh : HR A h w) (hg : Γ.Met A w) (ha : VRs A.s xs args.toList) : Calls P f args w (Told ⟨A, h, w⟩ (.ret v h)) := by
  unfold saysV at e
  split at e
  · rename_i v' h' hr
    have := aveq_eq e
    subst this
    have g0 : Γ.Met A0 w := ⟨hg.size, fun _ _ h => (by cases h), fun _ _ h => (by cases h), hg.g⟩
    refine Calls.mono ((ev_ok hm hlib hF fuel d).ret hr (HR.empty w) g0 (VRs.plain hx ha)) ?_
    rintro _ w' ⟨x, A', rfl, hv, J⟩
    exact ⟨x, A, rfl, VR.plain hp hv, Inv.below hh ⟨J.os, J.tape, J.output, J.size, fun k hk => J.keep k hk (fun p r hp => by cases hp)⟩⟩
  · cases e
/-- A table of texts, and what each tells. -/
noncomputable def lookS (T : List (ByteArray × AV)) (t : List UInt8) : Option AV := match T with
  | [] => none
  | (s, v) :: l => match bytesEq t s.data.toList with | true => some v | false => lookS l t
theorem lookS_mem : ∀ {T : List (ByteArray × AV)} {t : ByteArray} {v : AV}, lookS T t.data.toList = some v → (t, v) ∈ T
  | [], _, _, h => by cases h
  | (s, u) :: l, t, v, h => by
    unfold lookS at h
    split at h
    · rename_i he
      have := str_eq he
      subst this
      cases h
      exact List.mem_cons_self
    · exact List.mem_cons_of_mem _ (lookS_mem h)
/-- A function of one text: by the table, else by another way. -/
noncomputable def tabG (T : List (ByteArray × AV)) (g : List AV → H → CR) : List AV → H → CR := fun xs h => match xs with
  | [.str s] => match lookS T s.data.toList with | some v => .ret v h | none => g xs h
  | _ => g xs h
theorem tab_entry {Γ : Glob} (hm : P.follows .mixedOrders = true) {lib : Lib} (hlib : CallsOk Γ P (libC lib)) {F : FuncId → Option EF} (hF : ∀ f e, F f = some e → compF P f = some e) {fuel d : Nat} {f : FuncId} (body : Callable P f) {T : List (ByteArray × AV)}
    (hT : ∀ p ∈ T, saysV (ev lib F fuel d f [.str p.1] H.empty) p.2 = true ∧ plainV p.2 = true) : Entry Γ P f (tabG T (ev lib F fuel d f)) := ⟨body, fun {xs h r} e hb {A w args} hh hg ha => by
  have other : ev lib F fuel d f xs h = r → Calls P f args w (Told ⟨A, h, w⟩ r) := fun e => ((ev_ok hm hlib hF fuel d).spec e hb).2 hh hg ha
  unfold tabG at e
  split at e
  · rename_i s
    split at e
    · rename_i v hv
      subst e
      have := hT _ (lookS_mem hv)
      exact plain_told hm hlib hF this.1 this.2 rfl hh hg ha
    · exact other e
  · exact other e⟩
/-- A number of one byte. -/
theorem nat_of {a : Int} (hw : (Lit.int .u8 a).wf = true) : ∃ r, r < 256 ∧ VR (fun _ => none) (.int .u8 (.ofNat r)) (.int .u8 a) := by
  have h : 0 ≤ a ∧ a ≤ 255 := by
    simp [Lit.wf, IntKind.min, IntKind.max, IntKind.bits, IntKind.signed] at hw
    exact hw
  obtain ⟨n, rfl⟩ := Int.eq_ofNat_of_zero_le h.1
  exact ⟨n, by omega, rfl⟩
end Go.Ev
