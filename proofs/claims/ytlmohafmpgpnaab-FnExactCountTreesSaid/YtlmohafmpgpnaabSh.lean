/- The kit's contract of slices.Sort at integers, laid at this program (by a program, out of what the kit's own tool found). Conditions: none. -/
import Derived.Test.YtlmohafmpgpnaabProg
import Derived.Test.YtlmohafmpgpnaabSo
import Derived.Shelf.Sort.AssemblyIn
import Derived.Sort.EveryDepth
import Derived.WalkKit
import Derived.Deep.Draws
import Derived.Sort.AtCall
import Derived.KernelRfl
namespace Go.Proofs.Ytlmohafmpgpnaab.Sh
open Go.Shelf
def ren : Ren := ⟨fun x => match x with
  | 189 => 59
  | 125 => 83
  | 257 => 82
  | 128 => 95
  | 129 => 96
  | 294 => 86
  | 295 => 87
  | 296 => 88
  | 297 => 89
  | 298 => 90
  | 299 => 91
  | 216 => 92
  | 300 => 93
  | 301 => 94
  | 328 => 97
  | 329 => 98
  | 330 => 99
  | 331 => 100
  | 332 => 101
  | 215 => 102
  | 343 => 103
  | n => n, fun x => match x with
  | 28 => 22
  | 3 => 3
  | 46 => 39
  | 0 => 0
  | 51 => 49
  | 53 => 51
  | 4 => 4
  | 183 => 42
  | 182 => 41
  | 131 => 46
  | 5 => 5
  | 9 => 9
  | 218 => 52
  | 222 => 56
  | 228 => 58
  | 229 => 59
  | n => n, fun x => x⟩
set_option maxRecDepth 100000 in
theorem lays189 : Lays.n189 Try.prog ren :=
  { mixed := by kernel_rfl, f125 := Try.func83.trans (congrArg some (by kernel_rfl)),
    f128 := Try.func95.trans (congrArg some (by kernel_rfl)),
    f129 := Try.func96.trans (congrArg some (by kernel_rfl)),
    f189 := Try.func59.trans (congrArg some (by kernel_rfl)),
    f215 := Try.func102.trans (congrArg some (by kernel_rfl)),
    f216 := Try.func92.trans (congrArg some (by kernel_rfl)),
    f257 := Try.func82.trans (congrArg some (by kernel_rfl)),
    f294 := Try.func86.trans (congrArg some (by kernel_rfl)),
    f295 := Try.func87.trans (congrArg some (by kernel_rfl)),
    f296 := Try.func88.trans (congrArg some (by kernel_rfl)),
    f297 := Try.func89.trans (congrArg some (by kernel_rfl)),
    f298 := Try.func90.trans (congrArg some (by kernel_rfl)),
    f299 := Try.func91.trans (congrArg some (by kernel_rfl)),
    f300 := Try.func93.trans (congrArg some (by kernel_rfl)),
    f301 := Try.func94.trans (congrArg some (by kernel_rfl)),
    f328 := Try.func97.trans (congrArg some (by kernel_rfl)),
    f329 := Try.func98.trans (congrArg some (by kernel_rfl)),
    f330 := Try.func99.trans (congrArg some (by kernel_rfl)),
    f331 := Try.func100.trans (congrArg some (by kernel_rfl)),
    f332 := Try.func101.trans (congrArg some (by kernel_rfl)),
    f343 := Try.func103.trans (congrArg some (by kernel_rfl)), t0 := Try.underlying0,
    a0 := Try.isAgg0, z0 := Try.sizeOf0, v0 := Try.zeroValue0, t3 := Try.underlying3, a3 := Try.isAgg3, z3 := Try.sizeOf3,
    v3 := Try.zeroValue3, t4 := Try.underlying4, a4 := Try.isAgg4, z4 := Try.sizeOf4, v4 := Try.zeroValue4,
    t5 := Try.underlying5, a5 := Try.isAgg5, z5 := Try.sizeOf5, v5 := Try.zeroValue5, t9 := Try.underlying9,
    a9 := Try.isAgg9, z9 := Try.sizeOf9, v9 := Try.zeroValue9, t28 := Try.underlying22, a28 := Try.isAgg22,
    z28 := Try.sizeOf22, v28 := Try.zeroValue22, t46 := Try.underlying39, a46 := Try.isAgg39, z46 := Try.sizeOf39,
    v46 := Try.zeroValue39, t51 := Try.underlying49, a51 := Try.isAgg49, z51 := Try.sizeOf49, v51 := Try.zeroValue49,
    t53 := Try.underlying51, a53 := Try.isAgg51, z53 := Try.sizeOf51, v53 := Try.zeroValue51, t131 := Try.underlying46,
    a131 := Try.isAgg46, z131 := Try.sizeOf46, v131 := Try.zeroValue46, t182 := Try.underlying41, a182 := Try.isAgg41,
    z182 := Try.sizeOf41, v182 := Try.zeroValue41, t183 := Try.underlying42, a183 := Try.isAgg42, z183 := Try.sizeOf42,
    v183 := Try.zeroValue42, t218 := Try.underlying52, a218 := Try.isAgg52, z218 := Try.sizeOf52, v218 := Try.zeroValue52,
    t222 := Try.underlying56, a222 := Try.isAgg56, z222 := Try.sizeOf56, v222 := Try.zeroValue56,
    t228 := Try.underlying58, a228 := Try.isAgg58, z228 := Try.sizeOf58, v228 := Try.zeroValue58,
    t229 := Try.underlying59, a229 := Try.isAgg59, z229 := Try.sizeOf59, v229 := Try.zeroValue59 }
open Go.RowKit
theorem len0 (w : World) : Calls Try.prog 83 #[.int .u64 0] w fun e w' => e = .returned (.int .i64 0) ∧ w' = w := by
  have h := calls_of_every_depth fun D => Any.lenWalkInAll { lays189 with } D 0 w (by omega)
  exact h
theorem insert_nil (p : Option Addr) (cap : Nat) (w : World) : Calls Try.prog 86 #[.slice p 0 cap, .int .i64 0, .int .i64 0] w fun e w' => e = .returned (.tuple #[]) ∧ w' = w := by
  go_enter Try.func86, Try.ntmps86
  go_wp2
  refine wp_loop_rounds 1 ?_
  rw [rounds_succ]
  go_wp2
  go_end0
  exact ⟨rfl, rfl⟩
set_option maxRecDepth 100000 in
theorem pdq_nil (p : Option Addr) (cap : Nat) (w : World) : Calls Try.prog 82 #[.slice p 0 cap, .int .i64 0, .int .i64 0, .int .i64 0] w fun e w' => e = .returned (.tuple #[]) ∧ w' = w := by
  go_enter Try.func82, Try.ntmps82
  go_wp2
  refine wp_loop_rounds 1 ?_
  rw [rounds_succ]
  go_wp2_with (first | (go_at_call 86; refine (insert_nil p cap _).mono ?_; rintro e w' ⟨rfl, rfl⟩))
  refine bodyPost_ret (results_none rfl _ _ _) rfl ?_
  exact ⟨rfl, rfl⟩
set_option maxRecDepth 100000 in
theorem sort_nil (p : Option Addr) (cap : Nat) (w : World) : Calls Try.prog 59 #[.slice p 0 cap] w fun e w' => e = .returned (.tuple #[]) ∧ w' = w := by
  go_enter Try.func59, Try.ntmps59
  go_wp2_with (first
    | (go_at_call 83; refine (len0 _).mono ?_; rintro e w' ⟨rfl, rfl⟩)
    | (go_at_call 82; refine (pdq_nil p cap _).mono ?_; rintro e w' ⟨rfl, rfl⟩))
  go_end0
  exact ⟨rfl, rfl⟩
theorem sortC : Go.Sx.SortC Try.prog 59 := ⟨fun blk off cap zs w hH hb hl => Go.calls_of_every_depth fun D => AnyS.slices_Sort_int_in lays189 D blk off cap zs w hH hb hl, fun cap w => sort_nil none cap w⟩
end Go.Proofs.Ytlmohafmpgpnaab.Sh
