/- slices.Delete at this seat's instances. -/
import Derived.Test.YthkbcgbmeajfbaaGreatDoorDelBase
import Derived.Test.YthkbcgbmeajfbaaGreatDoorProg
import Derived.KernelRfl
namespace Go.Proofs.Lo
open Go.Ev Go.RowKit Go.Ev.Del
def delRen220 : Go.Shelf.Ren := ⟨fun | 45 => 220 | n => n, fun | 22 => 28 | 23 => 3 | n => n, fun n => n⟩
theorem delL220 : DelL Tryz.prog delRen220 1 (.int .i64 0) := {
  mixed := by kernel_rfl
  f45 := ⟨Tryz.f220.name, by kernel_rfl, Tryz.func220.trans (congrArg some (by kernel_rfl))⟩
  t0 := Tryz.underlying0
  a0 := Tryz.isAgg0
  z0 := Tryz.sizeOf0
  v0 := Tryz.zeroValue0
  t3 := Tryz.underlying3
  a3 := Tryz.isAgg3
  z3 := Tryz.sizeOf3
  v3 := Tryz.zeroValue3
  t4 := Tryz.underlying4
  a4 := Tryz.isAgg4
  z4 := Tryz.sizeOf4
  v4 := Tryz.zeroValue4
  t22 := Tryz.underlying28
  a22 := Tryz.isAgg28
  z22 := Tryz.sizeOf28
  v22 := Tryz.zeroValue28
  z23 := Tryz.sizeOf3
  v23 := Tryz.zeroValue3
  info := by
    have h : (Tryz.prog.info? 3).map (·.size) = some 1 := by kernel_rfl
    obtain ⟨i, hi, hb⟩ := Option.map_eq_some_iff.1 h
    exact ⟨i, hi, hb⟩
  zc := rfl
  zone := fun v hv => List.all_eq_true.1 (show (Value.cells (.int .i64 0)).toList.all (·.oneCell') = true from rfl) v hv
  kpos := by omega }
theorem delB220 : Callable Tryz.prog 220 := ⟨_, Tryz.func220, by decide, rfl⟩
theorem del_entry220 {Γ : Glob} : Entry Γ Tryz.prog 220 (delG 1 [.int .i64 (.ofNat 0)]) := del_entry delL220 delB220 (fun s => by exact ⟨_, _, rfl, rfl, (by simp [VRs])⟩) rfl rfl
def delRen214 : Go.Shelf.Ren := ⟨fun | 45 => 214 | n => n, fun | 22 => 37 | 23 => 160 | n => n, fun n => n⟩
theorem delL214 : DelL Tryz.prog delRen214 8 (.agg #[.int .i64 0, .int .i64 0, .string ⟨#[]⟩, .int .i64 0, .int .i64 0, .string ⟨#[]⟩, .int .i64 0, .bool false]) := {
  mixed := by kernel_rfl
  f45 := ⟨Tryz.f214.name, by kernel_rfl, Tryz.func214.trans (congrArg some (by kernel_rfl))⟩
  t0 := Tryz.underlying0
  a0 := Tryz.isAgg0
  z0 := Tryz.sizeOf0
  v0 := Tryz.zeroValue0
  t3 := Tryz.underlying3
  a3 := Tryz.isAgg3
  z3 := Tryz.sizeOf3
  v3 := Tryz.zeroValue3
  t4 := Tryz.underlying4
  a4 := Tryz.isAgg4
  z4 := Tryz.sizeOf4
  v4 := Tryz.zeroValue4
  t22 := Tryz.underlying37
  a22 := Tryz.isAgg37
  z22 := Tryz.sizeOf37
  v22 := Tryz.zeroValue37
  z23 := Tryz.sizeOf160
  v23 := Tryz.zeroValue160
  info := by
    have h : (Tryz.prog.info? 160).map (·.size) = some 8 := by kernel_rfl
    obtain ⟨i, hi, hb⟩ := Option.map_eq_some_iff.1 h
    exact ⟨i, hi, hb⟩
  zc := rfl
  zone := fun v hv => List.all_eq_true.1 (show (Value.cells (.agg #[.int .i64 0, .int .i64 0, .string ⟨#[]⟩, .int .i64 0, .int .i64 0, .string ⟨#[]⟩, .int .i64 0, .bool false])).toList.all (·.oneCell') = true from rfl) v hv
  kpos := by omega }
theorem delB214 : Callable Tryz.prog 214 := ⟨_, Tryz.func214, by decide, rfl⟩
theorem del_entry214 {Γ : Glob} : Entry Γ Tryz.prog 214 (delG 8 [.int .i64 (.ofNat 0), .int .i64 (.ofNat 0), .str ⟨#[]⟩, .int .i64 (.ofNat 0), .int .i64 (.ofNat 0), .str ⟨#[]⟩, .int .i64 (.ofNat 0), .bool false]) := del_entry delL214 delB214 (fun s => by exact ⟨_, _, rfl, rfl, ⟨_, _, rfl, rfl, ⟨_, _, rfl, rfl, ⟨_, _, rfl, rfl, ⟨_, _, rfl, rfl, ⟨_, _, rfl, rfl, ⟨_, _, rfl, rfl, ⟨_, _, rfl, rfl, (by simp [VRs])⟩⟩⟩⟩⟩⟩⟩⟩) rfl rfl
def delRen218 : Go.Shelf.Ren := ⟨fun | 45 => 218 | n => n, fun | 22 => 38 | 23 => 164 | n => n, fun n => n⟩
theorem delL218 : DelL Tryz.prog delRen218 5 (.agg #[.int .i64 0, .int .i64 0, .int .i64 0, .int .i64 0, .string ⟨#[]⟩]) := {
  mixed := by kernel_rfl
  f45 := ⟨Tryz.f218.name, by kernel_rfl, Tryz.func218.trans (congrArg some (by kernel_rfl))⟩
  t0 := Tryz.underlying0
  a0 := Tryz.isAgg0
  z0 := Tryz.sizeOf0
  v0 := Tryz.zeroValue0
  t3 := Tryz.underlying3
  a3 := Tryz.isAgg3
  z3 := Tryz.sizeOf3
  v3 := Tryz.zeroValue3
  t4 := Tryz.underlying4
  a4 := Tryz.isAgg4
  z4 := Tryz.sizeOf4
  v4 := Tryz.zeroValue4
  t22 := Tryz.underlying38
  a22 := Tryz.isAgg38
  z22 := Tryz.sizeOf38
  v22 := Tryz.zeroValue38
  z23 := Tryz.sizeOf164
  v23 := Tryz.zeroValue164
  info := by
    have h : (Tryz.prog.info? 164).map (·.size) = some 5 := by kernel_rfl
    obtain ⟨i, hi, hb⟩ := Option.map_eq_some_iff.1 h
    exact ⟨i, hi, hb⟩
  zc := rfl
  zone := fun v hv => List.all_eq_true.1 (show (Value.cells (.agg #[.int .i64 0, .int .i64 0, .int .i64 0, .int .i64 0, .string ⟨#[]⟩])).toList.all (·.oneCell') = true from rfl) v hv
  kpos := by omega }
theorem delB218 : Callable Tryz.prog 218 := ⟨_, Tryz.func218, by decide, rfl⟩
theorem del_entry218 {Γ : Glob} : Entry Γ Tryz.prog 218 (delG 5 [.int .i64 (.ofNat 0), .int .i64 (.ofNat 0), .int .i64 (.ofNat 0), .int .i64 (.ofNat 0), .str ⟨#[]⟩]) := del_entry delL218 delB218 (fun s => by exact ⟨_, _, rfl, rfl, ⟨_, _, rfl, rfl, ⟨_, _, rfl, rfl, ⟨_, _, rfl, rfl, ⟨_, _, rfl, rfl, (by simp [VRs])⟩⟩⟩⟩⟩) rfl rfl
end Go.Proofs.Lo

