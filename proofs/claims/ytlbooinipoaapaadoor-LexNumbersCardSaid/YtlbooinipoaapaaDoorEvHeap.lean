/- Rules for blocks that are all known: a law's own call. -/
import Derived.Test.YtlbooinipoaapaaDoorEvSym
namespace Go.Ev
/-- What a call told, of blocks that nobody asks for. -/
def Says (r : CR) (v : AV) : Prop := match r with | .ret v' _ => v' = v | _ => False
theorem Says.elim {r : CR} {v : AV} (t : Says r v) : ∃ h', r = .ret v h' := by
  unfold Says at t
  split at t
  · exact ⟨_, by rw [t]⟩
  · exact t.elim
@[simp] theorem y_inc0 : inc [] = [.a] := rfl
@[simp] theorem y_incA (l : Path) : inc (.a :: l) = .b :: l := rfl
@[simp] theorem y_incB (l : Path) : inc (.b :: l) = .c :: l := rfl
@[simp] theorem y_incC (l : Path) : inc (.c :: l) = .d :: l := rfl
@[simp] theorem y_incD (l : Path) : inc (.d :: l) = .a :: inc l := rfl
@[simp] theorem y_Hnew (nx : Path) (t : Tr Blk) (g : Nat) (b : Blk) : H.new ⟨nx, t, g⟩ b = ⟨inc nx, set nx (some b) t, g⟩ := rfl
@[simp] theorem y_Hput (nx : Path) (t : Tr Blk) (g : Nat) (p : Path) (b : Option Blk) : H.put ⟨nx, t, g⟩ p b = ⟨nx, set p b t, g⟩ := rfl
@[simp] theorem y_getC (p : Path) (t : Tr Blk) : getC p t = match get p t with | some b => (match b.map with | true => none | false => some b) | none => none := rfl
@[simp] theorem y_nat (k : IntKind) (n : Nat) : natOf (.int k (n : Int)) = some n := rfl
attribute [simp] nBox oneRow H.empty Nat.mod_one
/-- The loop goes round once more. -/
theorem y_loopS (call : Calls') (fuel : Nat) (c : EC) (i : Nat) (fr : FT) (h : H) : loopF call fuel c (i + 1) fr h = match evC call fuel c fr h with | .norm fr h => loopF call fuel c i fr h | x => x := rfl
end Go.Ev
