/- slices.Delete at this seat's instances. -/
import Derived.Test.YtanjjmgoangmdaaGreatDoorDelBase
import Derived.Test.YtanjjmgoangmdaaGreatDoorProg
import Derived.KernelRfl
namespace Go.Proofs.Lo
open Go.Ev Go.RowKit Go.Ev.Del
set_option linter.unusedSectionVars false
variable [Unk]
def delRen221 : Go.Shelf.Ren := ⟨fun | 45 => 221 | n => n, fun | 22 => 41 | 23 => 3 | n => n, fun n => n⟩
theorem delL221 : DelL Tryz.prog delRen221 1 (.int .i64 0) := {
  mixed := by kernel_rfl
  f45 := ⟨Tryz.f221.name, by kernel_rfl, Tryz.func221.trans (congrArg some (by kernel_rfl))⟩
  t0 := Tryz.underlying0
  a0 := Tryz.isAgg0
  z0 := Tryz.sizeOf0
  v0 := Tryz.zeroValue0
  t3 := Tryz.underlying3
  a3 := Tryz.isAgg3
  z3 := Tryz.sizeOf3
  v3 := Tryz.zeroValue3
  t4 := Tryz.underlying4
  a4 := Tryz.isAgg4
  z4 := Tryz.sizeOf4
  v4 := Tryz.zeroValue4
  t22 := Tryz.underlying41
  a22 := Tryz.isAgg41
  z22 := Tryz.sizeOf41
  v22 := Tryz.zeroValue41
  z23 := Tryz.sizeOf3
  v23 := Tryz.zeroValue3
  info := by
    have h : (Tryz.prog.info? 3).map (·.size) = some 1 := by kernel_rfl
    obtain ⟨i, hi, hb⟩ := Option.map_eq_some_iff.1 h
    exact ⟨i, hi, hb⟩
  zc := rfl
  zone := fun v hv => List.all_eq_true.1 (show (Value.cells (.int .i64 0)).toList.all (·.oneCell') = true from rfl) v hv
  kpos := by omega }
theorem delB221 : Callable Tryz.prog 221 := ⟨_, Tryz.func221, by decide, rfl⟩
theorem del_entry221 {Γ : Glob} : Entry Γ Tryz.prog 221 (delG 1 [.int .i64 (.ofNat 0)]) := del_entry delL221 delB221 (fun s => by exact ⟨_, _, rfl, rfl, (by simp [VRs])⟩) rfl rfl
def delRen215 : Go.Shelf.Ren := ⟨fun | 45 => 215 | n => n, fun | 22 => 39 | 23 => 163 | n => n, fun n => n⟩
theorem delL215 : DelL Tryz.prog delRen215 8 (.agg #[.int .i64 0, .int .i64 0, .string ⟨#[]⟩, .int .i64 0, .int .i64 0, .string ⟨#[]⟩, .int .i64 0, .bool false]) := {
  mixed := by kernel_rfl
  f45 := ⟨Tryz.f215.name, by kernel_rfl, Tryz.func215.trans (congrArg some (by kernel_rfl))⟩
  t0 := Tryz.underlying0
  a0 := Tryz.isAgg0
  z0 := Tryz.sizeOf0
  v0 := Tryz.zeroValue0
  t3 := Tryz.underlying3
  a3 := Tryz.isAgg3
  z3 := Tryz.sizeOf3
  v3 := Tryz.zeroValue3
  t4 := Tryz.underlying4
  a4 := Tryz.isAgg4
  z4 := Tryz.sizeOf4
  v4 := Tryz.zeroValue4
  t22 := Tryz.underlying39
  a22 := Tryz.isAgg39
  z22 := Tryz.sizeOf39
  v22 := Tryz.zeroValue39
  z23 := Tryz.sizeOf163
  v23 := Tryz.zeroValue163
  info := by
    have h : (Tryz.prog.info? 163).map (·.size) = some 8 := by kernel_rfl
    obtain ⟨i, hi, hb⟩ := Option.map_eq_some_iff.1 h
    exact ⟨i, hi, hb⟩
  zc := rfl
  zone := fun v hv => List.all_eq_true.1 (show (Value.cells (.agg #[.int .i64 0, .int .i64 0, .string ⟨#[]⟩, .int .i64 0, .int .i64 0, .string ⟨#[]⟩, .int .i64 0, .bool false])).toList.all (·.oneCell') = true from rfl) v hv
  kpos := by omega }
theorem delB215 : Callable Tryz.prog 215 := ⟨_, Tryz.func215, by decide, rfl⟩
theorem del_entry215 {Γ : Glob} : Entry Γ Tryz.prog 215 (delG 8 [.int .i64 (.ofNat 0), .int .i64 (.ofNat 0), .str ⟨#[]⟩, .int .i64 (.ofNat 0), .int .i64 (.ofNat 0), .str ⟨#[]⟩, .int .i64 (.ofNat 0), .bool false]) := del_entry delL215 delB215 (fun s => by exact ⟨_, _, rfl, rfl, ⟨_, _, rfl, rfl, ⟨_, _, rfl, rfl, ⟨_, _, rfl, rfl, ⟨_, _, rfl, rfl, ⟨_, _, rfl, rfl, ⟨_, _, rfl, rfl, ⟨_, _, rfl, rfl, (by simp [VRs])⟩⟩⟩⟩⟩⟩⟩⟩) rfl rfl
def delRen219 : Go.Shelf.Ren := ⟨fun | 45 => 219 | n => n, fun | 22 => 40 | 23 => 167 | n => n, fun n => n⟩
theorem delL219 : DelL Tryz.prog delRen219 5 (.agg #[.int .i64 0, .int .i64 0, .int .i64 0, .int .i64 0, .string ⟨#[]⟩]) := {
  mixed := by kernel_rfl
  f45 := ⟨Tryz.f219.name, by kernel_rfl, Tryz.func219.trans (congrArg some (by kernel_rfl))⟩
  t0 := Tryz.underlying0
  a0 := Tryz.isAgg0
  z0 := Tryz.sizeOf0
  v0 := Tryz.zeroValue0
  t3 := Tryz.underlying3
  a3 := Tryz.isAgg3
  z3 := Tryz.sizeOf3
  v3 := Tryz.zeroValue3
  t4 := Tryz.underlying4
  a4 := Tryz.isAgg4
  z4 := Tryz.sizeOf4
  v4 := Tryz.zeroValue4
  t22 := Tryz.underlying40
  a22 := Tryz.isAgg40
  z22 := Tryz.sizeOf40
  v22 := Tryz.zeroValue40
  z23 := Tryz.sizeOf167
  v23 := Tryz.zeroValue167
  info := by
    have h : (Tryz.prog.info? 167).map (·.size) = some 5 := by kernel_rfl
    obtain ⟨i, hi, hb⟩ := Option.map_eq_some_iff.1 h
    exact ⟨i, hi, hb⟩
  zc := rfl
  zone := fun v hv => List.all_eq_true.1 (show (Value.cells (.agg #[.int .i64 0, .int .i64 0, .int .i64 0, .int .i64 0, .string ⟨#[]⟩])).toList.all (·.oneCell') = true from rfl) v hv
  kpos := by omega }
theorem delB219 : Callable Tryz.prog 219 := ⟨_, Tryz.func219, by decide, rfl⟩
theorem del_entry219 {Γ : Glob} : Entry Γ Tryz.prog 219 (delG 5 [.int .i64 (.ofNat 0), .int .i64 (.ofNat 0), .int .i64 (.ofNat 0), .int .i64 (.ofNat 0), .str ⟨#[]⟩]) := del_entry delL219 delB219 (fun s => by exact ⟨_, _, rfl, rfl, ⟨_, _, rfl, rfl, ⟨_, _, rfl, rfl, ⟨_, _, rfl, rfl, ⟨_, _, rfl, rfl, (by simp [VRs])⟩⟩⟩⟩⟩) rfl rfl
end Go.Proofs.Lo

