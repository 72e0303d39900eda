/- The evaluator's trees and paths: plain facts. -/
import Derived.Test.YtlbooinipoaapaaDoorEvDefs
namespace Go.Ev

def D.val : D → Nat
  | .a => 0 | .b => 1 | .c => 2 | .d => 3
/-- The number of a path. -/
def num : Path → Nat
  | [] => 0
  | x :: l => 4 * num l + x.val + 1

theorem D.val_lt (x : D) : x.val < 4 := by cases x <;> decide
theorem D.val_inj {x y : D} (h : x.val = y.val) : x = y := by cases x <;> cases y <;> first | rfl | exact absurd h (by decide)
theorem num_inj : ∀ {p q : Path}, num p = num q → p = q
  | [], [], _ => rfl
  | [], y :: q, h => by simp [num] at h
  | x :: p, [], h => by simp [num] at h
  | x :: p, y :: q, h => by
    simp only [num] at h
    have h1 := x.val_lt
    have h2 := y.val_lt
    have e1 : x.val = y.val := by omega
    have e2 : num p = num q := by omega
    rw [D.val_inj e1, num_inj e2]

theorem num_inc : ∀ p, num (inc p) = num p + 1
  | [] => rfl
  | x :: l => by
    have ih := num_inc l
    cases x
    · show num (D.b :: l) = _; simp [num, D.val]
    · show num (D.c :: l) = _; simp [num, D.val]
    · show num (D.d :: l) = _; simp [num, D.val]
    · show num (D.a :: inc l) = _; simp only [num, D.val, ih]; omega

theorem val_digitOf {k : Nat} (h : k < 4) : (digitOf k).val = k := by
  match k, h with
  | 0, _ => rfl
  | 1, _ => rfl
  | 2, _ => rfl
  | 3, _ => rfl
theorem pathGo_succ (f m : Nat) : pathGo (f + 1) m = match m with | 0 => [] | k + 1 => digitOf (k % 4) :: pathGo f (k / 4) := by cases m <;> rfl
theorem num_pathGo : ∀ (f m : Nat), m < f → num (pathGo f m) = m
  | 0, m, h => absurd h (by omega)
  | f + 1, 0, _ => rfl
  | f + 1, k + 1, h => by
    rw [pathGo_succ]
    simp only [num]
    rw [num_pathGo f (k / 4) (by omega), val_digitOf (by omega)]
    omega
theorem num_pathOf (n : Nat) : num (pathOf n) = n := num_pathGo (n + 1) n (by omega)
theorem pathOf_inj {m n : Nat} (h : pathOf m = pathOf n) : m = n := by rw [← num_pathOf m, ← num_pathOf n, h]
theorem pathOf_eq_iff {m n : Nat} : pathOf m = pathOf n ↔ m = n := ⟨pathOf_inj, fun h => by rw [h]⟩
theorem pathOf_zero : pathOf 0 = [] := rfl

section
variable {α : Type}
theorem get_nil (p : Path) : get p (.nil : Tr α) = none := by cases p <;> rfl
theorem get_node (v : Option α) (t0 t1 t2 t3 : Tr α) : get [] (.node v t0 t1 t2 t3) = v := rfl
theorem get_cons (x : D) (p : Path) (v : Option α) (t0 t1 t2 t3 : Tr α) :
    get (x :: p) (.node v t0 t1 t2 t3) = match x with | .a => get p t0 | .b => get p t1 | .c => get p t2 | .d => get p t3 := by cases x <;> rfl
theorem set_nil_nil (v : Option α) : set [] v (.nil : Tr α) = .node v .nil .nil .nil .nil := rfl
theorem set_nil_node (v w : Option α) (t0 t1 t2 t3 : Tr α) : set [] v (.node w t0 t1 t2 t3) = .node v t0 t1 t2 t3 := rfl
theorem set_cons_nil (x : D) (p : Path) (v : Option α) : set (x :: p) v (.nil : Tr α) =
    match x with | .a => .node none (set p v .nil) .nil .nil .nil | .b => .node none .nil (set p v .nil) .nil .nil | .c => .node none .nil .nil (set p v .nil) .nil | .d => .node none .nil .nil .nil (set p v .nil) := by cases x <;> rfl
theorem set_cons_node (x : D) (p : Path) (v w : Option α) (t0 t1 t2 t3 : Tr α) : set (x :: p) v (.node w t0 t1 t2 t3) =
    match x with | .a => .node w (set p v t0) t1 t2 t3 | .b => .node w t0 (set p v t1) t2 t3 | .c => .node w t0 t1 (set p v t2) t3 | .d => .node w t0 t1 t2 (set p v t3) := by cases x <;> rfl

theorem get_set_same : ∀ (p : Path) (v : Option α) (t : Tr α), get p (set p v t) = v
  | [], v, .nil => rfl
  | [], v, .node .. => rfl
  | x :: p, v, .nil => by rw [set_cons_nil]; cases x <;> simp only [get_cons] <;> exact get_set_same p v .nil
  | x :: p, v, .node w t0 t1 t2 t3 => by rw [set_cons_node]; cases x <;> simp only [get_cons] <;> exact get_set_same p v _
theorem get_set_other : ∀ (p q : Path) (v : Option α) (t : Tr α), p ≠ q → get p (set q v t) = get p t
  | [], [], _, _, h => absurd rfl h
  | [], y :: q, v, .nil, _ => by rw [set_cons_nil]; cases y <;> rfl
  | [], y :: q, v, .node .., _ => by rw [set_cons_node]; cases y <;> rfl
  | x :: p, [], v, .nil, _ => by rw [set_nil_nil, get_cons, get_nil (x :: p)]; cases x <;> exact get_nil p
  | x :: p, [], v, .node .., _ => by rw [set_nil_node, get_cons, get_cons]
  | x :: p, y :: q, v, .nil, h => by
    rw [set_cons_nil, get_nil]
    cases x <;> cases y <;> simp only [get_cons] <;> first | exact get_nil p | (rw [get_set_other p q v .nil (fun e => h (by rw [e]))]; exact get_nil p)
  | x :: p, y :: q, v, .node w t0 t1 t2 t3, h => by
    rw [set_cons_node]
    cases x <;> cases y <;> simp only [get_cons] <;> exact get_set_other p q v _ (fun e => h (by rw [e]))
theorem get_set (p q : Path) (v : Option α) (t : Tr α) : get p (set q v t) = if p = q then v else get p t := by
  by_cases h : p = q
  · subst h; rw [if_pos rfl, get_set_same]
  · rw [if_neg h, get_set_other _ _ _ _ h]
end
end Go.Ev
