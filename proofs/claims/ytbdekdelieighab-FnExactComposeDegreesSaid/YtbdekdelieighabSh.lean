/- The kit's contract of slices.Sort at integers, laid at this program (by a program, out of what the kit's own tool found). Conditions: none. -/
import Derived.Test.YtbdekdelieighabProg
import Derived.Test.YtbdekdelieighabSo
import Derived.Shelf.Sort.AssemblyIn
import Derived.Sort.EveryDepth
import Derived.WalkKit
import Derived.Deep.Draws
import Derived.Sort.AtCall
import Derived.KernelRfl
namespace Go.Proofs.Ytbdekdelieighab.Sh
open Go.Shelf
def ren : Ren := ⟨fun x => match x with
  | 189 => 78
  | 125 => 84
  | 257 => 83
  | 128 => 95
  | 129 => 96
  | 294 => 86
  | 295 => 87
  | 296 => 88
  | 297 => 89
  | 298 => 90
  | 299 => 91
  | 216 => 92
  | 300 => 93
  | 301 => 94
  | 328 => 98
  | 329 => 99
  | 330 => 100
  | 331 => 101
  | 332 => 102
  | 215 => 103
  | 343 => 104
  | n => n, fun x => match x with
  | 28 => 22
  | 3 => 3
  | 46 => 68
  | 0 => 0
  | 51 => 78
  | 53 => 80
  | 4 => 4
  | 183 => 71
  | 182 => 70
  | 131 => 75
  | 5 => 5
  | 9 => 9
  | 218 => 81
  | 222 => 85
  | 228 => 87
  | 229 => 88
  | n => n, fun x => x⟩
set_option maxRecDepth 100000 in
theorem lays189 : Lays.n189 Try.prog ren :=
  { mixed := by kernel_rfl, f125 := Try.func84.trans (congrArg some (by kernel_rfl)),
    f128 := Try.func95.trans (congrArg some (by kernel_rfl)),
    f129 := Try.func96.trans (congrArg some (by kernel_rfl)),
    f189 := Try.func78.trans (congrArg some (by kernel_rfl)),
    f215 := Try.func103.trans (congrArg some (by kernel_rfl)),
    f216 := Try.func92.trans (congrArg some (by kernel_rfl)),
    f257 := Try.func83.trans (congrArg some (by kernel_rfl)),
    f294 := Try.func86.trans (congrArg some (by kernel_rfl)),
    f295 := Try.func87.trans (congrArg some (by kernel_rfl)),
    f296 := Try.func88.trans (congrArg some (by kernel_rfl)),
    f297 := Try.func89.trans (congrArg some (by kernel_rfl)),
    f298 := Try.func90.trans (congrArg some (by kernel_rfl)),
    f299 := Try.func91.trans (congrArg some (by kernel_rfl)),
    f300 := Try.func93.trans (congrArg some (by kernel_rfl)),
    f301 := Try.func94.trans (congrArg some (by kernel_rfl)),
    f328 := Try.func98.trans (congrArg some (by kernel_rfl)),
    f329 := Try.func99.trans (congrArg some (by kernel_rfl)),
    f330 := Try.func100.trans (congrArg some (by kernel_rfl)),
    f331 := Try.func101.trans (congrArg some (by kernel_rfl)),
    f332 := Try.func102.trans (congrArg some (by kernel_rfl)),
    f343 := Try.func104.trans (congrArg some (by kernel_rfl)), t0 := Try.underlying0,
    a0 := Try.isAgg0, z0 := Try.sizeOf0, v0 := Try.zeroValue0, t3 := Try.underlying3, a3 := Try.isAgg3, z3 := Try.sizeOf3,
    v3 := Try.zeroValue3, t4 := Try.underlying4, a4 := Try.isAgg4, z4 := Try.sizeOf4, v4 := Try.zeroValue4,
    t5 := Try.underlying5, a5 := Try.isAgg5, z5 := Try.sizeOf5, v5 := Try.zeroValue5, t9 := Try.underlying9,
    a9 := Try.isAgg9, z9 := Try.sizeOf9, v9 := Try.zeroValue9, t28 := Try.underlying22, a28 := Try.isAgg22,
    z28 := Try.sizeOf22, v28 := Try.zeroValue22, t46 := Try.underlying68, a46 := Try.isAgg68, z46 := Try.sizeOf68,
    v46 := Try.zeroValue68, t51 := Try.underlying78, a51 := Try.isAgg78, z51 := Try.sizeOf78, v51 := Try.zeroValue78,
    t53 := Try.underlying80, a53 := Try.isAgg80, z53 := Try.sizeOf80, v53 := Try.zeroValue80, t131 := Try.underlying75,
    a131 := Try.isAgg75, z131 := Try.sizeOf75, v131 := Try.zeroValue75, t182 := Try.underlying70, a182 := Try.isAgg70,
    z182 := Try.sizeOf70, v182 := Try.zeroValue70, t183 := Try.underlying71, a183 := Try.isAgg71, z183 := Try.sizeOf71,
    v183 := Try.zeroValue71, t218 := Try.underlying81, a218 := Try.isAgg81, z218 := Try.sizeOf81, v218 := Try.zeroValue81,
    t222 := Try.underlying85, a222 := Try.isAgg85, z222 := Try.sizeOf85, v222 := Try.zeroValue85,
    t228 := Try.underlying87, a228 := Try.isAgg87, z228 := Try.sizeOf87, v228 := Try.zeroValue87,
    t229 := Try.underlying88, a229 := Try.isAgg88, z229 := Try.sizeOf88, v229 := Try.zeroValue88 }
open Go.RowKit
theorem len0 (w : World) : Calls Try.prog 84 #[.int .u64 0] w fun e w' => e = .returned (.int .i64 0) ∧ w' = w := by
  have h := calls_of_every_depth fun D => Any.lenWalkInAll { lays189 with } D 0 w (by omega)
  exact h
theorem insert_nil (p : Option Addr) (cap : Nat) (w : World) : Calls Try.prog 86 #[.slice p 0 cap, .int .i64 0, .int .i64 0] w fun e w' => e = .returned (.tuple #[]) ∧ w' = w := by
  go_enter Try.func86, Try.ntmps86
  go_wp2
  refine wp_loop_rounds 1 ?_
  rw [rounds_succ]
  go_wp2
  go_end0
  exact ⟨rfl, rfl⟩
set_option maxRecDepth 100000 in
theorem pdq_nil (p : Option Addr) (cap : Nat) (w : World) : Calls Try.prog 83 #[.slice p 0 cap, .int .i64 0, .int .i64 0, .int .i64 0] w fun e w' => e = .returned (.tuple #[]) ∧ w' = w := by
  go_enter Try.func83, Try.ntmps83
  go_wp2
  refine wp_loop_rounds 1 ?_
  rw [rounds_succ]
  go_wp2_with (first | (go_at_call 86; refine (insert_nil p cap _).mono ?_; rintro e w' ⟨rfl, rfl⟩))
  refine bodyPost_ret (results_none rfl _ _ _) rfl ?_
  exact ⟨rfl, rfl⟩
set_option maxRecDepth 100000 in
theorem sort_nil (p : Option Addr) (cap : Nat) (w : World) : Calls Try.prog 78 #[.slice p 0 cap] w fun e w' => e = .returned (.tuple #[]) ∧ w' = w := by
  go_enter Try.func78, Try.ntmps78
  go_wp2_with (first
    | (go_at_call 84; refine (len0 _).mono ?_; rintro e w' ⟨rfl, rfl⟩)
    | (go_at_call 83; refine (pdq_nil p cap _).mono ?_; rintro e w' ⟨rfl, rfl⟩))
  go_end0
  exact ⟨rfl, rfl⟩
theorem sortC : Go.Sx.SortC Try.prog 78 := ⟨fun blk off cap zs w hH hb hl => Go.calls_of_every_depth fun D => AnyS.slices_Sort_int_in lays189 D blk off cap zs w hH hb hl, fun cap w => sort_nil none cap w⟩
end Go.Proofs.Ytbdekdelieighab.Sh
