/- The examples of the two layers; and the calls from nothing. -/
import Derived.Test.YtfijbgpegfnlbaaDoorVaChain
set_option linter.unusedSimpArgs false
set_option linter.unusedVariables false
namespace Go.Proofs.Va
open Go.Ev
@[simp high] theorem y_eq3 (a b a' b' : Int) (s s' : ByteArray) : aeqs [.int, .int, .str] [.int .i64 a, .int .i64 b, .str s] [.int .i64 a', .int .i64 b', .str s'] = some (decide (a = a') && decide (b = b') && sEq s s') := by
  by_cases h1 : a = a' <;> by_cases h2 : b = b' <;> cases h3 : sEq s s' <;> simp [h1, h2, h3, keq]
@[simp high] theorem y_eqb (a b : Bool) : aeq .bool (.bool a) (.bool b) = some (a == b) := by
  cases a <;> cases b <;> rfl
theorem F_13 : F 13 = some c13 := rfl
theorem F_23 : F 23 = some c23 := rfl
theorem t13 {call : Calls'} {h : H} (h15 : ∀ k n s h, call 15 [.agg [.int .i64 k, .int .i64 n, .str s]] h = .ret (.bool (truthP k n s)) h) (h17 : ∀ h, call 17 [.agg [.int .i64 3, .int .i64 (-3), .str ⟨#[]⟩]] h = .ret (.str (textP 3 (-3) ⟨#[]⟩)) h) :
    Tells (evFun F call 100 13 [] h) h (.bool true) := by
  have e1 : truthP 4 0 ⟨#[]⟩ = false := by decide
  have e2 : truthP 3 3 ⟨#[]⟩ = true := by decide
  have e3 : sEq (textP 3 (-3) ⟨#[]⟩) ⟨#[45, 51]⟩ = true := by decide +kernel
  simp [Tells, evFun, F_13, c13, h15, h17, e1, e2, e3]
theorem t23 {call : Calls'} {h : H} (h25 : ∀ h, call 25 [.str ⟨#[47]⟩, .agg [.int .i64 3, .int .i64 (-7), .str ⟨#[]⟩], .agg [.int .i64 3, .int .i64 2, .str ⟨#[]⟩]] h = .ret (binV ⟨#[47]⟩ 3 (-7) ⟨#[]⟩ 3 2 ⟨#[]⟩) h) (h26 : ∀ n h, call 26 [.int .i64 n] h = .ret (.int .i64 n) h) :
    Tells (evFun F call 100 23 [] h) h (.bool true) := by
  have e1 : binV ⟨#[47]⟩ 3 (-7) ⟨#[]⟩ 3 2 ⟨#[]⟩ = .tup [.agg [.int .i64 3, .int .i64 (-3), .str ⟨#[]⟩], .int .i64 0] := by rfl
  simp [Tells, evFun, F_23, c23, h25, h26, e1]
theorem hit17 {k n : Int} {s : ByteArray} {h : H} (hc : mayP k n s = true) : k29 17 [.agg [.int .i64 k, .int .i64 n, .str s]] h = .ret (.str (textP k n s)) h := if_pos hc
noncomputable def S13 : List AV → H → CR := fun xs h => match xs with
  | [] => .ret (.bool true) h
  | _ => .bad 0
noncomputable def k13 : Calls' := upd k29 13 S13
theorem hit25 {g : ByteArray} {k n : Int} {s : ByteArray} {k' n' : Int} {s' : ByteArray} {h : H} (hc : mayP k n s = true ∧ mayP k' n' s' = true) : k13 25 [.str g, .agg [.int .i64 k, .int .i64 n, .str s], .agg [.int .i64 k', .int .i64 n', .str s']] h = .ret (binV g k n s k' n' s') h := if_pos hc
noncomputable def k23 : Calls' := upd k13 23 S13
variable {Γ : Glob} (ok0 : CallsOk Γ Go.Proofs.Tryd.prog k0)
include ok0
theorem ok13 : CallsOk Γ Go.Proofs.Tryd.prog k13 := (ok29 ok0).add mixed F_ok fun xs h r e hb => by
  unfold S13 at e
  split at e
  · subst e
    exact ⟨100, comes_tells (t13 (fun _ _ _ _ => rfl) (fun _ => hit17 (by decide))) rfl⟩
  · subst e; exact absurd rfl (hb 0)
theorem ok23 : CallsOk Γ Go.Proofs.Tryd.prog k23 := (ok13 ok0).add mixed F_ok fun xs h r e hb => by
  unfold S13 at e
  split at e
  · subst e
    exact ⟨100, comes_tells (t23 (fun _ => hit25 (by decide)) (fun _ _ => rfl)) rfl⟩
  · subst e; exact absurd rfl (hb 0)
end Go.Proofs.Va
