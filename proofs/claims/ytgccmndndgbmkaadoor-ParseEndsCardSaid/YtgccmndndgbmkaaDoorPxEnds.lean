/- Parse, where it is known of texts that are no programs. -/
import Derived.Test.YtgccmndndgbmkaaDoorPxBad0
import Derived.Test.YtgccmndndgbmkaaDoorPxBad1
import Derived.Test.YtgccmndndgbmkaaDoorPxBad2
import Derived.Test.YtgccmndndgbmkaaDoorPxBad3
namespace Go.Proofs.Px
open Go.Ev
noncomputable def badT : List (ByteArray × AV) := [(⟨#[97, 32, 98]⟩, .tup [.nils, .int .i64 (.ofNat 2), .bool false]), (⟨#[108, 101, 116, 32, 120]⟩, .tup [.nils, .int .i64 (.ofNat 5), .bool false]), (⟨#[116, 104, 114, 111, 119, 10, 97]⟩, .tup [.nils, .int .i64 (.ofNat 6), .bool false]), (⟨#[97, 32, 43]⟩, .tup [.nils, .int .i64 (.ofNat 3), .bool false]), (⟨#[40, 97]⟩, .tup [.nils, .int .i64 (.ofNat 2), .bool false]), (⟨#[97, 41]⟩, .tup [.nils, .int .i64 (.ofNat 1), .bool false]), (⟨#[108, 101, 116, 32, 49, 32, 61, 32, 50]⟩, .tup [.nils, .int .i64 (.ofNat 4), .bool false]), (⟨#[105, 102, 32, 40, 97, 41, 32, 108, 101, 116, 32, 98, 32, 61, 32, 49]⟩, .tup [.nils, .int .i64 (.ofNat 7), .bool false]), (⟨#[119, 104, 105, 108, 101, 32, 40, 97, 41, 32, 102, 117, 110, 99, 116, 105, 111, 110, 32, 102, 40, 41, 32, 123, 125]⟩, .tup [.nils, .int .i64 (.ofNat 10), .bool false]), (⟨#[49, 32, 61, 32, 50]⟩, .tup [.nils, .int .i64 (.ofNat 2), .bool false]), (⟨#[97, 32, 61, 32, 98, 32, 61, 32]⟩, .tup [.nils, .int .i64 (.ofNat 8), .bool false]), (⟨#[102, 40, 97, 44, 41]⟩, .tup [.nils, .int .i64 (.ofNat 4), .bool false]), (⟨#[123, 97, 58, 32, 49, 125]⟩, .tup [.nils, .int .i64 (.ofNat 2), .bool false]), (⟨#[59]⟩, .tup [.nils, .int .i64 (.ofNat 0), .bool false]), (⟨#[121, 105, 101, 108, 100]⟩, .tup [.nils, .int .i64 (.ofNat 5), .bool false]), (⟨#[120, 32, 61, 32, 123, 97, 32, 49, 125]⟩, .tup [.nils, .int .i64 (.ofNat 7), .bool false]), (⟨#[116, 114, 121, 32, 123, 125, 32, 99, 97, 116, 99, 104, 32, 123, 125]⟩, .tup [.nils, .int .i64 (.ofNat 13), .bool false]), (⟨#[99, 111, 110, 115, 116, 32, 99, 59]⟩, .tup [.nils, .int .i64 (.ofNat 7), .bool false]), (⟨#[97, 32, 63, 32, 98]⟩, .tup [.nils, .int .i64 (.ofNat 5), .bool false]), (⟨#[91, 49, 44, 44, 50, 93]⟩, .tup [.nils, .int .i64 (.ofNat 3), .bool false])]
theorem body8 : Callable Tryd.prog 8 := ⟨_, Tryd.func8, by decide, rfl⟩
theorem bad_ok : ∀ p ∈ badT, saysV (ev lib (compF Tryd.prog) 200 60 8 [.str p.1] H.empty) p.2 = true ∧ plainV p.2 = true := by
  unfold badT
  simp only [List.forall_mem_cons]
  exact ⟨⟨bad0, rfl⟩, ⟨bad1, rfl⟩, ⟨bad2, rfl⟩, ⟨bad3, rfl⟩, ⟨bad4, rfl⟩, ⟨bad5, rfl⟩, ⟨bad6, rfl⟩, ⟨bad7, rfl⟩, ⟨bad8, rfl⟩, ⟨bad9, rfl⟩, ⟨bad10, rfl⟩, ⟨bad11, rfl⟩, ⟨bad12, rfl⟩, ⟨bad13, rfl⟩, ⟨bad14, rfl⟩, ⟨bad15, rfl⟩, ⟨bad16, rfl⟩, ⟨bad17, rfl⟩, ⟨bad18, rfl⟩, ⟨bad19, rfl⟩, fun _ h => by cases h⟩
noncomputable def libE : Lib := libOf [(8, tabG badT (ev lib (compF Tryd.prog) 200 60 8)), (50, fieldsG), (41, indexG), (55, containsG)]
theorem libE_ok : CallsOk Γ Tryd.prog (libC libE) := libC_ok (libOf_ok (by
  simp only [List.forall_mem_cons]
  exact ⟨tab_entry mixed lib_ok (fun _ _ h => h) body8 bad_ok, fields_entry, index_entry, contains_entry, fun _ h => by cases h⟩))
end Go.Proofs.Px
