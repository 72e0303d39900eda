/- Values and signs: what the program's start lays, Itoa by its contract, and a law's call from nothing. -/
import Derived.Test.YtfijbgpegfnlbaaDoorVaTop
import Derived.Test.YtfijbgpegfnlbaaDoorEvHeap
import Derived.Test.YtfijbgpegfnlbaaDoorEvTop
import Derived.Test.YtfijbgpegfnlbaaDoorEvLib
import Derived.Test.YtfijbgpegfnlbaaDoorShelf
import Derived.Below
set_option linter.unusedSimpArgs false
set_option linter.unusedVariables false
namespace Go.Proofs.Va
open Go.Ev Go.RowKit
/-- The table of the powers of ten. -/
def Pow (w : World) : Prop := Lib.TabIs Tryd.prog w "internal/strconv.uint64pow10" .u64 Lib.pow10Tab
theorem pow_named : Tryd.prog.globalNamed "internal/strconv.uint64pow10" = some 0 := by kernel_rfl
theorem tabIs_same {P : Program} {w W : World} {name : String} {k : IntKind} {zs : List Int} {g n : Nat} (hn : P.globalNamed name = some g) (hg : g < n) (hb : ∀ x, x < n → W.heap[x]? = w.heap[x]?) (h : Lib.TabIs P w name k zs) : Lib.TabIs P W name k zs := by
  unfold Lib.TabIs World.var? at *
  simp only [hn, Option.bind_some] at h ⊢
  rw [hb g hg]
  exact h
def Γ : Glob := ⟨1, Pow, fun _ _ hb h => tabIs_same pow_named Nat.one_pos hb h⟩
theorem pow_size {w : World} (h : Pow w) : 1 ≤ w.heap.size := by
  have h' : w.var? Tryd.prog "internal/strconv.uint64pow10" = some _ := h
  unfold World.var? at h'
  simp only [pow_named, Option.bind_some] at h'
  rcases Nat.lt_or_ge 0 w.heap.size with hlt | hge
  · exact hlt
  · rw [Array.getElem?_eq_none hge] at h'; simp at h'
theorem below_grown (w : World) (k : Nat) (os : Array Obj) : Below w.heap.size w (Sort.grow (w.drewN k) os) :=
  ⟨rfl, rfl, rfl, by show w.heap.size ≤ (w.heap ++ os).size; rw [Array.size_append]; omega, fun _ hj => Array.getElem?_append_left hj⟩
theorem bad_ok : CallsOk Γ Tryd.prog (fun _ _ _ => CR.bad 0) := ⟨fun e => (by cases e), fun e => (by cases e), fun e hb => absurd e.symm (hb _)⟩
theorem met34 : Callable Tryd.prog 34 := ⟨_, Tryd.func34, by decide, rfl⟩
theorem ok0 : CallsOk Γ Tryd.prog k0 := bad_ok.upd_of fun xs h r e hb => by
  unfold S34 at e
  split at e
  · rename_i n
    split at e
    · rename_i hi
      subst e
      refine ⟨met34, fun {A w args} hh hg ha => ?_⟩
      obtain ⟨y, ys, e1, h1, h2⟩ := ha
      have h1 : y = .int .i64 n := h1
      have h2 : ys = [] := by simpa [VRs] using h2
      subst h1 h2
      obtain rfl : args = #[.int .i64 n] := by cases args; simp_all
      refine told_pure (x := .string ⟨(Lib.itoa n).toArray⟩) hh rfl ?_
      refine (Tryd.strconv_Itoa n hi.1 hi.2 w hg.g).mono ?_
      rintro e w' ⟨rfl, k, os, rfl⟩
      exact ⟨rfl, below_grown _ _ _⟩
    · subst e; exact absurd rfl (hb 0)
  · subst e; exact absurd rfl (hb 0)
theorem calls_tells {FL : FuncId → Option EF} (hF : ∀ f e, FL f = some e → compF Tryd.prog f = some e) {f : FuncId} {xs : List AV} (t : Tells (evFun FL k23 100 f xs H.empty) H.empty (.bool true)) {args : Array Value} (ha : VRs (fun _ => none) xs args.toList) (W : World) (hG : Pow W) :
    Calls Tryd.prog f args W (fun e W' => e = .returned (.bool true) ∧ Below W.heap.size W W') := by
  obtain ⟨h', hr, _⟩ := t.elim
  have hg : Γ.Met A0 W := ⟨pow_size hG, fun _ _ h => (by cases h), fun _ _ h => (by cases h), hG⟩
  refine Calls.mono ((fun_sound hF (ok23 ok0) (DrawnAll mixed) 100).ret hr (HR.empty W) hg ha) ?_
  rintro _ w' ⟨x, A', rfl, hx, J⟩
  have hx : x = .bool true := hx
  exact ⟨by rw [hx], ⟨J.os, J.tape, J.output, J.size, fun k hk => J.keep k hk (fun p r hp => by cases hp)⟩⟩
theorem calls_says {FL : FuncId → Option EF} (hF : ∀ f e, FL f = some e → compF Tryd.prog f = some e) {f : FuncId} {xs : List AV} (t : Says (evFun FL k23 100 f xs H.empty) (.bool true)) {args : Array Value} (ha : VRs (fun _ => none) xs args.toList) (W : World) (hG : Pow W) :
    Calls Tryd.prog f args W (fun e W' => e = .returned (.bool true) ∧ Below W.heap.size W W') := by
  obtain ⟨h', hr⟩ := t.elim
  have hg : Γ.Met A0 W := ⟨pow_size hG, fun _ _ h => (by cases h), fun _ _ h => (by cases h), hG⟩
  refine Calls.mono ((fun_sound hF (ok23 ok0) (DrawnAll mixed) 100).ret hr (HR.empty W) hg ha) ?_
  rintro _ w' ⟨x, A', rfl, hx, J⟩
  have hx : x = .bool true := hx
  exact ⟨by rw [hx], ⟨J.os, J.tape, J.output, J.size, fun k hk => J.keep k hk (fun p r hp => by cases hp)⟩⟩
theorem trod_i {H : Type} {enc : TypeId × Value → H} {P : Program} {w : World} {base : Nat} {sp : Bool} {f : TypeId → Bool} {t : TypeId} {k : IntKind} {n : Int} (ht : P.underlying t = some (.int k)) (hn : (Lit.int k n).wf = true) : DataW.trod enc P w base f sp 1 t [.int k n] = some (.lit (.int k n), []) := by
  simp [DataW.trod, ht, hn]
theorem trod_s {H : Type} {enc : TypeId × Value → H} {P : Program} {w : World} {base : Nat} {sp : Bool} {f : TypeId → Bool} {t : TypeId} {s : ByteArray} (ht : P.underlying t = some .string) (hs : s.size ≤ maxLen) : DataW.trod enc P w base f sp 1 t [.string s] = some (.lit (.string s.data.toList), []) := by
  simp [DataW.trod, ht, hs]
/-- A value, of its three parts. -/
theorem vr_V (s : Path → Option Ref) (k n : Int) (t : ByteArray) : VR s (V k n t) (.agg #[.int .i64 k, .int .i64 n, .string t]) :=
  ⟨_, rfl, .cons rfl (.cons rfl (.cons rfl .nil)), rfl⟩
end Go.Proofs.Va
