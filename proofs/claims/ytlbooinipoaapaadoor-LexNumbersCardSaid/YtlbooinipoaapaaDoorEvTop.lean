/- A call from nothing: what the evaluator tells by itself is what the program returns. -/
import Derived.Test.YtlbooinipoaapaaDoorEvDefer
import Derived.Below
namespace Go.Ev
open Go.RowKit

/-- No block of ours as yet. -/
def A0 : Asg := ⟨fun _ => none, fun _ => none⟩
theorem HR.empty (w : World) : HR A0 H.empty w where
  fresh := fun _ _ h => by cases h
  live := fun p b h => by
    have h : get p (.nil : Tr Blk) = some b := h
    rw [get_nil] at h; cases h
  bfresh := fun _ _ h => by cases h
  blk := fun p b r h => by
    have h : get p (.nil : Tr Blk) = some b := h
    rw [get_nil] at h; cases h
  sfresh := fun _ _ h => by cases h
  apart := fun p _ b _ _ _ _ h => by
    have h : get p (.nil : Tr Blk) = some b := h
    rw [get_nil] at h; cases h
  binj := fun _ _ _ h => by cases h
  bs := fun _ _ _ _ h => by cases h
/-- Does a call return true? -/
def saysTrue : CR → Bool
  | .ret (.bool true) _ => true
  | _ => false
/-- Nothing is known besides. -/
def noGlob : Glob := ⟨0, fun _ => True, fun _ _ _ h => h⟩
theorem noGlob_met (w : World) : noGlob.Met A0 w := ⟨Nat.zero_le _, fun _ _ h => (by cases h), fun _ _ h => (by cases h), trivial⟩
def noLib : Lib := fun _ => none
theorem noLib_ok {P : Program} : CallsOk noGlob P (libC noLib) := ⟨fun h => (by cases h), fun h => (by cases h), fun h hb => absurd h.symm (hb _)⟩
theorem calls_true {P : Program} {Γ : Glob} (hm : P.follows .mixedOrders = true) {lib : Lib} (hlib : CallsOk Γ P (libC lib)) {F : FuncId → Option EF} (hF : ∀ f e, F f = some e → compF P f = some e) {fuel d : Nat} {f : FuncId} {as : List AV} (e : saysTrue (ev lib F fuel d f as H.empty) = true) {args : Array Value} (ha : VRs (fun _ => none) as args.toList) (w : World) (hg : Γ.Met A0 w) :
    Calls P f args w (fun e w' => e = .returned (.bool true) ∧ Below w.heap.size w w') := by
  unfold saysTrue at e
  split at e
  · rename_i h' hr
    refine Calls.mono ((ev_ok hm hlib hF fuel d).ret hr (HR.empty w) hg ha) ?_
    rintro _ w' ⟨x, A', rfl, hx, J⟩
    simp only [VR] at hx
    exact ⟨by rw [hx], ⟨J.os, J.tape, J.output, J.size, fun k hk => J.keep k hk (fun p r hp => by cases hp)⟩⟩
  · cases e
theorem andl {a b : Bool} (h : (match a with | true => b | false => false) = true) : a = true := by cases a; exact h; rfl
theorem andr {a b : Bool} (h : (match a with | true => b | false => false) = true) : b = true := by cases a; cases h; exact h
/-- Both. -/
def both (a b : Bool) : Bool := match a with | true => b | false => false
theorem both_l {a b : Bool} (h : both a b = true) : a = true := andl h
theorem both_r {a b : Bool} (h : both a b = true) : b = true := andr h
/-- A number of one byte, by its rest. -/
theorem res_of {a : Int} (hw : (Lit.int .u8 a).wf = true) {m : Nat} (hm : 0 < m) : ∃ r, r < m ∧ VR (fun _ => none) (.res .u8 m r) (.int .u8 a) := by
  have h : 0 ≤ a ∧ a ≤ 255 := by
    simp [Lit.wf, IntKind.min, IntKind.max, IntKind.bits, IntKind.signed] at hw
    exact hw
  obtain ⟨n, rfl⟩ := Int.eq_ofNat_of_zero_le h.1
  exact ⟨n % m, Nat.mod_lt _ hm, n, rfl, rfl, by omega⟩
end Go.Ev
