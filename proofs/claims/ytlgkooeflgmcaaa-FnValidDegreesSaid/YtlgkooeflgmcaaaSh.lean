/- The kit's contract of slices.Sort at integers, laid at this program (by a program, out of what the kit's own tool found). Conditions: none. -/
import Derived.Test.YtlgkooeflgmcaaaProg
import Derived.Test.YtlgkooeflgmcaaaSo
import Derived.Shelf.Sort.AssemblyIn
import Derived.Sort.EveryDepth
import Derived.WalkKit
import Derived.Deep.Draws
import Derived.Sort.AtCall
import Derived.KernelRfl
namespace Go.Proofs.Ytlgkooeflgmcaaa.Sh
open Go.Shelf
def ren : Ren := ⟨fun x => match x with
  | 189 => 61
  | 125 => 71
  | 257 => 70
  | 128 => 82
  | 129 => 83
  | 294 => 73
  | 295 => 74
  | 296 => 75
  | 297 => 76
  | 298 => 77
  | 299 => 78
  | 216 => 79
  | 300 => 80
  | 301 => 81
  | 328 => 86
  | 329 => 87
  | 330 => 88
  | 331 => 89
  | 332 => 90
  | 215 => 91
  | 343 => 93
  | n => n, fun x => match x with
  | 28 => 23
  | 3 => 3
  | 46 => 52
  | 0 => 0
  | 51 => 65
  | 53 => 67
  | 4 => 4
  | 183 => 58
  | 182 => 57
  | 131 => 62
  | 5 => 5
  | 9 => 9
  | 218 => 70
  | 222 => 74
  | 228 => 77
  | 229 => 78
  | n => n, fun x => x⟩
set_option maxRecDepth 100000 in
theorem lays189 : Lays.n189 Try.prog ren :=
  { mixed := by kernel_rfl, f125 := Try.func71.trans (congrArg some (by kernel_rfl)),
    f128 := Try.func82.trans (congrArg some (by kernel_rfl)),
    f129 := Try.func83.trans (congrArg some (by kernel_rfl)),
    f189 := Try.func61.trans (congrArg some (by kernel_rfl)),
    f215 := Try.func91.trans (congrArg some (by kernel_rfl)),
    f216 := Try.func79.trans (congrArg some (by kernel_rfl)),
    f257 := Try.func70.trans (congrArg some (by kernel_rfl)),
    f294 := Try.func73.trans (congrArg some (by kernel_rfl)),
    f295 := Try.func74.trans (congrArg some (by kernel_rfl)),
    f296 := Try.func75.trans (congrArg some (by kernel_rfl)),
    f297 := Try.func76.trans (congrArg some (by kernel_rfl)),
    f298 := Try.func77.trans (congrArg some (by kernel_rfl)),
    f299 := Try.func78.trans (congrArg some (by kernel_rfl)),
    f300 := Try.func80.trans (congrArg some (by kernel_rfl)),
    f301 := Try.func81.trans (congrArg some (by kernel_rfl)),
    f328 := Try.func86.trans (congrArg some (by kernel_rfl)),
    f329 := Try.func87.trans (congrArg some (by kernel_rfl)),
    f330 := Try.func88.trans (congrArg some (by kernel_rfl)),
    f331 := Try.func89.trans (congrArg some (by kernel_rfl)),
    f332 := Try.func90.trans (congrArg some (by kernel_rfl)),
    f343 := Try.func93.trans (congrArg some (by kernel_rfl)), t0 := Try.underlying0,
    a0 := Try.isAgg0, z0 := Try.sizeOf0, v0 := Try.zeroValue0, t3 := Try.underlying3, a3 := Try.isAgg3, z3 := Try.sizeOf3,
    v3 := Try.zeroValue3, t4 := Try.underlying4, a4 := Try.isAgg4, z4 := Try.sizeOf4, v4 := Try.zeroValue4,
    t5 := Try.underlying5, a5 := Try.isAgg5, z5 := Try.sizeOf5, v5 := Try.zeroValue5, t9 := Try.underlying9,
    a9 := Try.isAgg9, z9 := Try.sizeOf9, v9 := Try.zeroValue9, t28 := Try.underlying23, a28 := Try.isAgg23,
    z28 := Try.sizeOf23, v28 := Try.zeroValue23, t46 := Try.underlying52, a46 := Try.isAgg52, z46 := Try.sizeOf52,
    v46 := Try.zeroValue52, t51 := Try.underlying65, a51 := Try.isAgg65, z51 := Try.sizeOf65, v51 := Try.zeroValue65,
    t53 := Try.underlying67, a53 := Try.isAgg67, z53 := Try.sizeOf67, v53 := Try.zeroValue67, t131 := Try.underlying62,
    a131 := Try.isAgg62, z131 := Try.sizeOf62, v131 := Try.zeroValue62, t182 := Try.underlying57, a182 := Try.isAgg57,
    z182 := Try.sizeOf57, v182 := Try.zeroValue57, t183 := Try.underlying58, a183 := Try.isAgg58, z183 := Try.sizeOf58,
    v183 := Try.zeroValue58, t218 := Try.underlying70, a218 := Try.isAgg70, z218 := Try.sizeOf70, v218 := Try.zeroValue70,
    t222 := Try.underlying74, a222 := Try.isAgg74, z222 := Try.sizeOf74, v222 := Try.zeroValue74,
    t228 := Try.underlying77, a228 := Try.isAgg77, z228 := Try.sizeOf77, v228 := Try.zeroValue77,
    t229 := Try.underlying78, a229 := Try.isAgg78, z229 := Try.sizeOf78, v229 := Try.zeroValue78 }
open Go.RowKit
theorem len0 (w : World) : Calls Try.prog 71 #[.int .u64 0] w fun e w' => e = .returned (.int .i64 0) ∧ w' = w := by
  have h := calls_of_every_depth fun D => Any.lenWalkInAll { lays189 with } D 0 w (by omega)
  exact h
theorem insert_nil (p : Option Addr) (cap : Nat) (w : World) : Calls Try.prog 73 #[.slice p 0 cap, .int .i64 0, .int .i64 0] w fun e w' => e = .returned (.tuple #[]) ∧ w' = w := by
  go_enter Try.func73, Try.ntmps73
  go_wp2
  refine wp_loop_rounds 1 ?_
  rw [rounds_succ]
  go_wp2
  go_end0
  exact ⟨rfl, rfl⟩
set_option maxRecDepth 100000 in
theorem pdq_nil (p : Option Addr) (cap : Nat) (w : World) : Calls Try.prog 70 #[.slice p 0 cap, .int .i64 0, .int .i64 0, .int .i64 0] w fun e w' => e = .returned (.tuple #[]) ∧ w' = w := by
  go_enter Try.func70, Try.ntmps70
  go_wp2
  refine wp_loop_rounds 1 ?_
  rw [rounds_succ]
  go_wp2_with (first | (go_at_call 73; refine (insert_nil p cap _).mono ?_; rintro e w' ⟨rfl, rfl⟩))
  refine bodyPost_ret (results_none rfl _ _ _) rfl ?_
  exact ⟨rfl, rfl⟩
set_option maxRecDepth 100000 in
theorem sort_nil (p : Option Addr) (cap : Nat) (w : World) : Calls Try.prog 61 #[.slice p 0 cap] w fun e w' => e = .returned (.tuple #[]) ∧ w' = w := by
  go_enter Try.func61, Try.ntmps61
  go_wp2_with (first
    | (go_at_call 71; refine (len0 _).mono ?_; rintro e w' ⟨rfl, rfl⟩)
    | (go_at_call 70; refine (pdq_nil p cap _).mono ?_; rintro e w' ⟨rfl, rfl⟩))
  go_end0
  exact ⟨rfl, rfl⟩
theorem sortC : Go.Sx.SortC Try.prog 61 := ⟨fun blk off cap zs w hH hb hl => Go.calls_of_every_depth fun D => AnyS.slices_Sort_int_in lays189 D blk off cap zs w hH hb hl, fun cap w => sort_nil none cap w⟩
end Go.Proofs.Ytlgkooeflgmcaaa.Sh
