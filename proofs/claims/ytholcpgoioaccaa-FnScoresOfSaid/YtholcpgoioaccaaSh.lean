/- The kit's contract of slices.Sort at integers, laid at this program (by a program, out of what the kit's own tool found). Conditions: none. -/
import Derived.Test.YtholcpgoioaccaaProg
import Derived.Test.YtholcpgoioaccaaSo
import Derived.Shelf.Sort.AssemblyIn
import Derived.Sort.EveryDepth
import Derived.WalkKit
import Derived.Deep.Draws
import Derived.Sort.AtCall
import Derived.KernelRfl
namespace Go.Proofs.Ytholcpgoioaccaa.Sh
open Go.Shelf
def ren : Ren := ⟨fun x => match x with
  | 189 => 78
  | 125 => 89
  | 257 => 88
  | 128 => 100
  | 129 => 101
  | 294 => 91
  | 295 => 92
  | 296 => 93
  | 297 => 94
  | 298 => 95
  | 299 => 96
  | 216 => 97
  | 300 => 98
  | 301 => 99
  | 328 => 104
  | 329 => 105
  | 330 => 106
  | 331 => 107
  | 332 => 108
  | 215 => 109
  | 343 => 111
  | n => n, fun x => match x with
  | 28 => 23
  | 3 => 3
  | 46 => 68
  | 0 => 0
  | 51 => 79
  | 53 => 81
  | 4 => 4
  | 183 => 72
  | 182 => 71
  | 131 => 76
  | 5 => 5
  | 9 => 9
  | 218 => 84
  | 222 => 88
  | 228 => 90
  | 229 => 91
  | n => n, fun x => x⟩
set_option maxRecDepth 100000 in
theorem lays189 : Lays.n189 Try.prog ren :=
  { mixed := by kernel_rfl, f125 := Try.func89.trans (congrArg some (by kernel_rfl)),
    f128 := Try.func100.trans (congrArg some (by kernel_rfl)),
    f129 := Try.func101.trans (congrArg some (by kernel_rfl)),
    f189 := Try.func78.trans (congrArg some (by kernel_rfl)),
    f215 := Try.func109.trans (congrArg some (by kernel_rfl)),
    f216 := Try.func97.trans (congrArg some (by kernel_rfl)),
    f257 := Try.func88.trans (congrArg some (by kernel_rfl)),
    f294 := Try.func91.trans (congrArg some (by kernel_rfl)),
    f295 := Try.func92.trans (congrArg some (by kernel_rfl)),
    f296 := Try.func93.trans (congrArg some (by kernel_rfl)),
    f297 := Try.func94.trans (congrArg some (by kernel_rfl)),
    f298 := Try.func95.trans (congrArg some (by kernel_rfl)),
    f299 := Try.func96.trans (congrArg some (by kernel_rfl)),
    f300 := Try.func98.trans (congrArg some (by kernel_rfl)),
    f301 := Try.func99.trans (congrArg some (by kernel_rfl)),
    f328 := Try.func104.trans (congrArg some (by kernel_rfl)),
    f329 := Try.func105.trans (congrArg some (by kernel_rfl)),
    f330 := Try.func106.trans (congrArg some (by kernel_rfl)),
    f331 := Try.func107.trans (congrArg some (by kernel_rfl)),
    f332 := Try.func108.trans (congrArg some (by kernel_rfl)),
    f343 := Try.func111.trans (congrArg some (by kernel_rfl)), t0 := Try.underlying0,
    a0 := Try.isAgg0, z0 := Try.sizeOf0, v0 := Try.zeroValue0, t3 := Try.underlying3, a3 := Try.isAgg3, z3 := Try.sizeOf3,
    v3 := Try.zeroValue3, t4 := Try.underlying4, a4 := Try.isAgg4, z4 := Try.sizeOf4, v4 := Try.zeroValue4,
    t5 := Try.underlying5, a5 := Try.isAgg5, z5 := Try.sizeOf5, v5 := Try.zeroValue5, t9 := Try.underlying9,
    a9 := Try.isAgg9, z9 := Try.sizeOf9, v9 := Try.zeroValue9, t28 := Try.underlying23, a28 := Try.isAgg23,
    z28 := Try.sizeOf23, v28 := Try.zeroValue23, t46 := Try.underlying68, a46 := Try.isAgg68, z46 := Try.sizeOf68,
    v46 := Try.zeroValue68, t51 := Try.underlying79, a51 := Try.isAgg79, z51 := Try.sizeOf79, v51 := Try.zeroValue79,
    t53 := Try.underlying81, a53 := Try.isAgg81, z53 := Try.sizeOf81, v53 := Try.zeroValue81, t131 := Try.underlying76,
    a131 := Try.isAgg76, z131 := Try.sizeOf76, v131 := Try.zeroValue76, t182 := Try.underlying71, a182 := Try.isAgg71,
    z182 := Try.sizeOf71, v182 := Try.zeroValue71, t183 := Try.underlying72, a183 := Try.isAgg72, z183 := Try.sizeOf72,
    v183 := Try.zeroValue72, t218 := Try.underlying84, a218 := Try.isAgg84, z218 := Try.sizeOf84, v218 := Try.zeroValue84,
    t222 := Try.underlying88, a222 := Try.isAgg88, z222 := Try.sizeOf88, v222 := Try.zeroValue88,
    t228 := Try.underlying90, a228 := Try.isAgg90, z228 := Try.sizeOf90, v228 := Try.zeroValue90,
    t229 := Try.underlying91, a229 := Try.isAgg91, z229 := Try.sizeOf91, v229 := Try.zeroValue91 }
open Go.RowKit
theorem len0 (w : World) : Calls Try.prog 89 #[.int .u64 0] w fun e w' => e = .returned (.int .i64 0) ∧ w' = w := by
  have h := calls_of_every_depth fun D => Any.lenWalkInAll { lays189 with } D 0 w (by omega)
  exact h
theorem insert_nil (p : Option Addr) (cap : Nat) (w : World) : Calls Try.prog 91 #[.slice p 0 cap, .int .i64 0, .int .i64 0] w fun e w' => e = .returned (.tuple #[]) ∧ w' = w := by
  go_enter Try.func91, Try.ntmps91
  go_wp2
  refine wp_loop_rounds 1 ?_
  rw [rounds_succ]
  go_wp2
  go_end0
  exact ⟨rfl, rfl⟩
set_option maxRecDepth 100000 in
theorem pdq_nil (p : Option Addr) (cap : Nat) (w : World) : Calls Try.prog 88 #[.slice p 0 cap, .int .i64 0, .int .i64 0, .int .i64 0] w fun e w' => e = .returned (.tuple #[]) ∧ w' = w := by
  go_enter Try.func88, Try.ntmps88
  go_wp2
  refine wp_loop_rounds 1 ?_
  rw [rounds_succ]
  go_wp2_with (first | (go_at_call 91; refine (insert_nil p cap _).mono ?_; rintro e w' ⟨rfl, rfl⟩))
  refine bodyPost_ret (results_none rfl _ _ _) rfl ?_
  exact ⟨rfl, rfl⟩
set_option maxRecDepth 100000 in
theorem sort_nil (p : Option Addr) (cap : Nat) (w : World) : Calls Try.prog 78 #[.slice p 0 cap] w fun e w' => e = .returned (.tuple #[]) ∧ w' = w := by
  go_enter Try.func78, Try.ntmps78
  go_wp2_with (first
    | (go_at_call 89; refine (len0 _).mono ?_; rintro e w' ⟨rfl, rfl⟩)
    | (go_at_call 88; refine (pdq_nil p cap _).mono ?_; rintro e w' ⟨rfl, rfl⟩))
  go_end0
  exact ⟨rfl, rfl⟩
theorem sortC : Go.Sx.SortC Try.prog 78 := ⟨fun blk off cap zs w hH hb hl => Go.calls_of_every_depth fun D => AnyS.slices_Sort_int_in lays189 D blk off cap zs w hH hb hl, fun cap w => sort_nil none cap w⟩
end Go.Proofs.Ytholcpgoioaccaa.Sh
