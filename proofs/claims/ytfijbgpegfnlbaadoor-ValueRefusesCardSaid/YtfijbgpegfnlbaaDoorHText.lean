/- value.Text, walked by hand (its table is a slice literal with gaps), in the printed contracts' form. -/
import Derived.Test.YtfijbgpegfnlbaaDoorHItoa
import Derived.Test.YtfijbgpegfnlbaaDoorWLast
import Derived.Test.YtfijbgpegfnlbaaDoorWMore
import Derived.WalkKit
import Derived.OwnWalk
namespace Go.Proofs.YtfijbgpegfnlbaaDoorH
open Go.RowKit Go.Proofs.YtfijbgpegfnlbaaDoorW.PrintWords

def tTrue : ByteArray := ⟨#[116, 114, 117, 101]⟩
def tFalse : ByteArray := ⟨#[102, 97, 108, 115, 101]⟩
def tUndef : ByteArray := ⟨#[117, 110, 100, 101, 102, 105, 110, 101, 100]⟩
def tNull : ByteArray := ⟨#[110, 117, 108, 108]⟩
def tObject : ByteArray := ⟨#[91, 111, 98, 106, 101, 99, 116, 93]⟩
def tFunction : ByteArray := ⟨#[91, 102, 117, 110, 99, 116, 105, 111, 110, 93]⟩

/-- What stands in the table of texts. -/
def textTab (k : Int) : ByteArray :=
  if k = 0 then tUndef else if k = 1 then tNull else if k = 5 then tObject else if k = 6 then tFunction else if k = 7 then tUndef else ⟨#[]⟩

def value_Text.f (k n : Int) (s : ByteArray) : Option ByteArray :=
  if k = 2 then some (if n = 0 then tFalse else tTrue) else if k = 3 then strconv_Itoa.f n else if k = 4 then some s else some (textTab k)

set_option maxHeartbeats 1000000 in
theorem text_bool (n : Int) (s : ByteArray) (w : World) :
    Calls Tryd.prog 17 #[.agg #[.int .i64 2, .int .i64 n, .string s]] w fun e w' => e = .returned (.string (if n = 0 then tFalse else tTrue)) ∧ Below w.heap.size w w' := by
  have hb : Below w.heap.size w w := Below.refl _ _
  by_cases h0 : n = 0
  · subst h0
    go_enter Tryd.func17, Tryd.ntmps17
    go_wp2
    go_ret
    exact ⟨rfl, below_alloc hb _⟩
  · have h1 : (n != 0) = true := by simpa using h0
    go_enter Tryd.func17, Tryd.ntmps17
    go_wp2
    go_ret
    exact ⟨rfl, below_alloc hb _⟩

set_option maxHeartbeats 1000000 in
theorem text_num (n : Int) (s : ByteArray) (r : ByteArray) (w : World) (hG : GlobOK w) (h : strconv_Itoa.f n = some r) :
    Calls Tryd.prog 17 #[.agg #[.int .i64 3, .int .i64 n, .string s]] w fun e w' => e = .returned (.string r) ∧ Below w.heap.size w w' := by
  have hb : Below w.heap.size w w := Below.refl _ _
  have H := Aside0.mk h
  clear h
  go_enter Tryd.func17, Tryd.ntmps17
  go_wp2_with (go_at_call 34; (with_reducible refine (strconv_Itoa.calls n r _ ?hg H.out).mono ?_); (case hg => exact hG.alloc _); rintro e w1 ⟨rfl, hb1⟩)
  go_ret
  exact ⟨rfl, below_then (below_alloc hb _) (by simp) hb1⟩

set_option maxHeartbeats 1000000 in
theorem text_str (n : Int) (s : ByteArray) (w : World) :
    Calls Tryd.prog 17 #[.agg #[.int .i64 4, .int .i64 n, .string s]] w fun e w' => e = .returned (.string s) ∧ Below w.heap.size w w' := by
  have hb : Below w.heap.size w w := Below.refl _ _
  go_enter Tryd.func17, Tryd.ntmps17
  go_wp2
  go_ret
  exact ⟨rfl, below_alloc hb _⟩

set_option maxHeartbeats 4000000 in
theorem text_tab (k n : Int) (s : ByteArray) (w : World) (hk : k = 0 ∨ k = 1 ∨ k = 5 ∨ k = 6 ∨ k = 7) :
    Calls Tryd.prog 17 #[.agg #[.int .i64 k, .int .i64 n, .string s]] w fun e w' => e = .returned (.string (textTab k)) ∧ Below w.heap.size w w' := by
  have hb : Below w.heap.size w w := Below.refl _ _
  rcases hk with rfl | rfl | rfl | rfl | rfl
  all_goals
    go_enter Tryd.func17, Tryd.ntmps17
    go_wp2
    go_ret
    exact ⟨rfl, below_alloc (below_alloc hb _) _⟩

set_option maxHeartbeats 4000000 in
theorem text_out (k n : Int) (s : ByteArray) (w : World) (h2 : k ≠ 2) (h3 : k ≠ 3) (h4 : k ≠ 4) (hk : k < 0 ∨ 8 ≤ k) :
    Calls Tryd.prog 17 #[.agg #[.int .i64 k, .int .i64 n, .string s]] w fun e w' => e = .returned (.string ⟨#[]⟩) ∧ Below w.heap.size w w' := by
  have hb : Below w.heap.size w w := Below.refl _ _
  have e2 : (k == 2) = false := beq_eq_false_iff_ne.2 h2
  have e3 : (k == 3) = false := beq_eq_false_iff_ne.2 h3
  have e4 : (k == 4) = false := beq_eq_false_iff_ne.2 h4
  rcases hk with hk | hk
  · have hd : ¬ 0 ≤ k := by omega
    go_enter Tryd.func17, Tryd.ntmps17
    go_wp2
    go_ret
    exact ⟨rfl, below_alloc (below_alloc hb _) _⟩
  · have hd : 0 ≤ k := by omega
    have hd' : ¬ k < 8 := by omega
    go_enter Tryd.func17, Tryd.ntmps17
    go_wp2
    go_ret
    exact ⟨rfl, below_alloc (below_alloc hb _) _⟩

theorem value_Text.calls (a0_0 : Int) (a0_1 : Int) (a0_2 : ByteArray) (r : ByteArray) (w : World) (hG : GlobOK w) (h : value_Text.f a0_0 a0_1 a0_2 = some r) :
    Calls Tryd.prog 17 #[.agg #[.int .i64 a0_0, .int .i64 a0_1, .string a0_2]] w fun e w' => e = .returned (.string r) ∧ Below w.heap.size w w' := by
  unfold value_Text.f at h
  by_cases h2 : a0_0 = 2
  · subst h2
    rw [if_pos rfl] at h
    cases h
    exact text_bool _ _ _
  rw [if_neg h2] at h
  by_cases h3 : a0_0 = 3
  · subst h3
    rw [if_pos rfl] at h
    exact text_num _ _ _ _ hG h
  rw [if_neg h3] at h
  by_cases h4 : a0_0 = 4
  · subst h4
    rw [if_pos rfl] at h
    cases h
    exact text_str _ _ _
  rw [if_neg h4] at h
  cases h
  by_cases hk : a0_0 < 0 ∨ 8 ≤ a0_0
  · have e : textTab a0_0 = ⟨#[]⟩ := by
      unfold textTab
      rw [if_neg (by omega), if_neg (by omega), if_neg (by omega), if_neg (by omega), if_neg (by omega)]
    rw [e]
    exact text_out _ _ _ _ h2 h3 h4 hk
  · exact text_tab _ _ _ _ (by omega)
end Go.Proofs.YtfijbgpegfnlbaaDoorH
