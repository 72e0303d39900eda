/- A call from nothing: what the evaluator tells by itself is what the program returns. -/
import Derived.Test.YtophpelggceknaaDoorEvDrawn3
import Derived.Below
namespace Go.Ev
open Go.RowKit

/-- No block of ours as yet. -/
def A0 : Asg := ⟨fun _ => none, fun _ => none⟩
theorem HR.empty (w : World) : HR A0 H.empty w where
  fresh := fun _ _ h => by cases h
  live := fun p b h => by
    have h : get p (.nil : Tr Blk) = some b := h
    rw [get_nil] at h; cases h
  bfresh := fun _ _ h => by cases h
  blk := fun p b r h => by
    have h : get p (.nil : Tr Blk) = some b := h
    rw [get_nil] at h; cases h
  sfresh := fun _ _ h => by cases h
  apart := fun p _ b _ _ _ _ h => by
    have h : get p (.nil : Tr Blk) = some b := h
    rw [get_nil] at h; cases h
  binj := fun _ _ _ h => by cases h
  bs := fun _ _ _ _ h => by cases h
/-- Does a call return true? -/
def saysTrue : CR → Bool
  | .ret (.bool true) _ => true
  | _ => false
theorem calls_true {P : Program} (hm : P.follows .mixedOrders = true) {fuel d : Nat} {f : FuncId} {as : List AV} (e : saysTrue (ev (compF P) fuel d f as H.empty) = true) {args : Array Value} (ha : VRs (fun _ => none) as args.toList) (w : World) :
    Calls P f args w (fun e w' => e = .returned (.bool true) ∧ Below w.heap.size w w') := by
  unfold saysTrue at e
  split at e
  · rename_i h' hr
    refine Calls.mono ((ev_ok hm fuel d).ret hr (HR.empty w) ha) ?_
    rintro _ w' ⟨x, A', rfl, hx, J⟩
    simp only [VR] at hx
    exact ⟨by rw [hx], ⟨J.os, J.tape, J.output, J.size, fun k hk => J.keep k hk (fun p r hp => by cases hp)⟩⟩
  · cases e
/-- A number of one byte, by its rest. -/
theorem res_of {a : Int} (hw : (Lit.int .u8 a).wf = true) {m : Nat} (hm : 0 < m) : ∃ r, r < m ∧ VR (fun _ => none) (.res .u8 m r) (.int .u8 a) := by
  have h : 0 ≤ a ∧ a ≤ 255 := by
    simp [Lit.wf, IntKind.min, IntKind.max, IntKind.bits, IntKind.signed] at hw
    exact hw
  obtain ⟨n, rfl⟩ := Int.eq_ofNat_of_zero_le h.1
  exact ⟨n % m, Nat.mod_lt _ hm, n, rfl, rfl, by omega⟩
end Go.Ev
