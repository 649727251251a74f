/- The kit's contract of slices.Sort at integers, laid at this program (by a program, out of what the kit's own tool found). Conditions: none. -/
import Derived.Test.YthbgekhhjohcpaaProg
import Derived.Test.YthbgekhhjohcpaaSo
import Derived.Shelf.Sort.AssemblyIn
import Derived.Sort.EveryDepth
import Derived.WalkKit
import Derived.Deep.Draws
import Derived.Sort.AtCall
import Derived.KernelRfl
namespace Go.Proofs.Ythbgekhhjohcpaa.Sh
open Go.Shelf
def ren : Ren := ⟨fun x => match x with
  | 189 => 47
  | 125 => 61
  | 257 => 60
  | 128 => 71
  | 129 => 72
  | 294 => 62
  | 295 => 63
  | 296 => 64
  | 297 => 65
  | 298 => 66
  | 299 => 67
  | 216 => 68
  | 300 => 69
  | 301 => 70
  | 328 => 73
  | 329 => 74
  | 330 => 75
  | 331 => 76
  | 332 => 77
  | 215 => 78
  | 343 => 79
  | n => n, fun x => match x with
  | 28 => 22
  | 3 => 3
  | 46 => 38
  | 0 => 0
  | 51 => 48
  | 53 => 50
  | 4 => 4
  | 183 => 41
  | 182 => 40
  | 131 => 45
  | 5 => 5
  | 9 => 9
  | 218 => 51
  | 222 => 55
  | 228 => 57
  | 229 => 58
  | n => n, fun x => x⟩
set_option maxRecDepth 100000 in
theorem lays189 : Lays.n189 Try.prog ren :=
  { mixed := by kernel_rfl, f125 := Try.func61.trans (congrArg some (by kernel_rfl)),
    f128 := Try.func71.trans (congrArg some (by kernel_rfl)),
    f129 := Try.func72.trans (congrArg some (by kernel_rfl)),
    f189 := Try.func47.trans (congrArg some (by kernel_rfl)),
    f215 := Try.func78.trans (congrArg some (by kernel_rfl)),
    f216 := Try.func68.trans (congrArg some (by kernel_rfl)),
    f257 := Try.func60.trans (congrArg some (by kernel_rfl)),
    f294 := Try.func62.trans (congrArg some (by kernel_rfl)),
    f295 := Try.func63.trans (congrArg some (by kernel_rfl)),
    f296 := Try.func64.trans (congrArg some (by kernel_rfl)),
    f297 := Try.func65.trans (congrArg some (by kernel_rfl)),
    f298 := Try.func66.trans (congrArg some (by kernel_rfl)),
    f299 := Try.func67.trans (congrArg some (by kernel_rfl)),
    f300 := Try.func69.trans (congrArg some (by kernel_rfl)),
    f301 := Try.func70.trans (congrArg some (by kernel_rfl)),
    f328 := Try.func73.trans (congrArg some (by kernel_rfl)),
    f329 := Try.func74.trans (congrArg some (by kernel_rfl)),
    f330 := Try.func75.trans (congrArg some (by kernel_rfl)),
    f331 := Try.func76.trans (congrArg some (by kernel_rfl)),
    f332 := Try.func77.trans (congrArg some (by kernel_rfl)),
    f343 := Try.func79.trans (congrArg some (by kernel_rfl)), t0 := Try.underlying0,
    a0 := Try.isAgg0, z0 := Try.sizeOf0, v0 := Try.zeroValue0, t3 := Try.underlying3, a3 := Try.isAgg3, z3 := Try.sizeOf3,
    v3 := Try.zeroValue3, t4 := Try.underlying4, a4 := Try.isAgg4, z4 := Try.sizeOf4, v4 := Try.zeroValue4,
    t5 := Try.underlying5, a5 := Try.isAgg5, z5 := Try.sizeOf5, v5 := Try.zeroValue5, t9 := Try.underlying9,
    a9 := Try.isAgg9, z9 := Try.sizeOf9, v9 := Try.zeroValue9, t28 := Try.underlying22, a28 := Try.isAgg22,
    z28 := Try.sizeOf22, v28 := Try.zeroValue22, t46 := Try.underlying38, a46 := Try.isAgg38, z46 := Try.sizeOf38,
    v46 := Try.zeroValue38, t51 := Try.underlying48, a51 := Try.isAgg48, z51 := Try.sizeOf48, v51 := Try.zeroValue48,
    t53 := Try.underlying50, a53 := Try.isAgg50, z53 := Try.sizeOf50, v53 := Try.zeroValue50, t131 := Try.underlying45,
    a131 := Try.isAgg45, z131 := Try.sizeOf45, v131 := Try.zeroValue45, t182 := Try.underlying40, a182 := Try.isAgg40,
    z182 := Try.sizeOf40, v182 := Try.zeroValue40, t183 := Try.underlying41, a183 := Try.isAgg41, z183 := Try.sizeOf41,
    v183 := Try.zeroValue41, t218 := Try.underlying51, a218 := Try.isAgg51, z218 := Try.sizeOf51, v218 := Try.zeroValue51,
    t222 := Try.underlying55, a222 := Try.isAgg55, z222 := Try.sizeOf55, v222 := Try.zeroValue55,
    t228 := Try.underlying57, a228 := Try.isAgg57, z228 := Try.sizeOf57, v228 := Try.zeroValue57,
    t229 := Try.underlying58, a229 := Try.isAgg58, z229 := Try.sizeOf58, v229 := Try.zeroValue58 }
open Go.RowKit
theorem len0 (w : World) : Calls Try.prog 61 #[.int .u64 0] w fun e w' => e = .returned (.int .i64 0) ∧ w' = w := by
  have h := calls_of_every_depth fun D => Any.lenWalkInAll { lays189 with } D 0 w (by omega)
  exact h
theorem insert_nil (p : Option Addr) (cap : Nat) (w : World) : Calls Try.prog 62 #[.slice p 0 cap, .int .i64 0, .int .i64 0] w fun e w' => e = .returned (.tuple #[]) ∧ w' = w := by
  go_enter Try.func62, Try.ntmps62
  go_wp2
  refine wp_loop_rounds 1 ?_
  rw [rounds_succ]
  go_wp2
  go_end0
  exact ⟨rfl, rfl⟩
set_option maxRecDepth 100000 in
theorem pdq_nil (p : Option Addr) (cap : Nat) (w : World) : Calls Try.prog 60 #[.slice p 0 cap, .int .i64 0, .int .i64 0, .int .i64 0] w fun e w' => e = .returned (.tuple #[]) ∧ w' = w := by
  go_enter Try.func60, Try.ntmps60
  go_wp2
  refine wp_loop_rounds 1 ?_
  rw [rounds_succ]
  go_wp2_with (first | (go_at_call 62; refine (insert_nil p cap _).mono ?_; rintro e w' ⟨rfl, rfl⟩))
  refine bodyPost_ret (results_none rfl _ _ _) rfl ?_
  exact ⟨rfl, rfl⟩
set_option maxRecDepth 100000 in
theorem sort_nil (p : Option Addr) (cap : Nat) (w : World) : Calls Try.prog 47 #[.slice p 0 cap] w fun e w' => e = .returned (.tuple #[]) ∧ w' = w := by
  go_enter Try.func47, Try.ntmps47
  go_wp2_with (first
    | (go_at_call 61; refine (len0 _).mono ?_; rintro e w' ⟨rfl, rfl⟩)
    | (go_at_call 60; refine (pdq_nil p cap _).mono ?_; rintro e w' ⟨rfl, rfl⟩))
  go_end0
  exact ⟨rfl, rfl⟩
theorem sortC : Go.Sx.SortC Try.prog 47 := ⟨fun blk off cap zs w hH hb hl => Go.calls_of_every_depth fun D => AnyS.slices_Sort_int_in lays189 D blk off cap zs w hH hb hl, fun cap w => sort_nil none cap w⟩
end Go.Proofs.Ythbgekhhjohcpaa.Sh
