/- The kit's contract of slices.Sort at integers, laid at this program (by a program, out of what the kit's own tool found). Conditions: none. -/
import Derived.Test.YtlmohafmpgpnaaaProg
import Derived.Test.YtlmohafmpgpnaaaSo
import Derived.Shelf.Sort.AssemblyIn
import Derived.Sort.EveryDepth
import Derived.WalkKit
import Derived.Deep.Draws
import Derived.Sort.AtCall
import Derived.KernelRfl
namespace Go.Proofs.Ytlmohafmpgpnaaa.Sh
open Go.Shelf
def ren : Ren := ⟨fun x => match x with
  | 189 => 57
  | 125 => 72
  | 257 => 71
  | 128 => 82
  | 129 => 83
  | 294 => 73
  | 295 => 74
  | 296 => 75
  | 297 => 76
  | 298 => 77
  | 299 => 78
  | 216 => 79
  | 300 => 80
  | 301 => 81
  | 328 => 84
  | 329 => 85
  | 330 => 86
  | 331 => 87
  | 332 => 88
  | 215 => 89
  | 343 => 90
  | n => n, fun x => match x with
  | 28 => 22
  | 3 => 3
  | 46 => 39
  | 0 => 0
  | 51 => 49
  | 53 => 51
  | 4 => 4
  | 183 => 42
  | 182 => 41
  | 131 => 46
  | 5 => 5
  | 9 => 9
  | 218 => 52
  | 222 => 56
  | 228 => 58
  | 229 => 59
  | n => n, fun x => x⟩
set_option maxRecDepth 100000 in
theorem lays189 : Lays.n189 Try.prog ren :=
  { mixed := by kernel_rfl, f125 := Try.func72.trans (congrArg some (by kernel_rfl)),
    f128 := Try.func82.trans (congrArg some (by kernel_rfl)),
    f129 := Try.func83.trans (congrArg some (by kernel_rfl)),
    f189 := Try.func57.trans (congrArg some (by kernel_rfl)),
    f215 := Try.func89.trans (congrArg some (by kernel_rfl)),
    f216 := Try.func79.trans (congrArg some (by kernel_rfl)),
    f257 := Try.func71.trans (congrArg some (by kernel_rfl)),
    f294 := Try.func73.trans (congrArg some (by kernel_rfl)),
    f295 := Try.func74.trans (congrArg some (by kernel_rfl)),
    f296 := Try.func75.trans (congrArg some (by kernel_rfl)),
    f297 := Try.func76.trans (congrArg some (by kernel_rfl)),
    f298 := Try.func77.trans (congrArg some (by kernel_rfl)),
    f299 := Try.func78.trans (congrArg some (by kernel_rfl)),
    f300 := Try.func80.trans (congrArg some (by kernel_rfl)),
    f301 := Try.func81.trans (congrArg some (by kernel_rfl)),
    f328 := Try.func84.trans (congrArg some (by kernel_rfl)),
    f329 := Try.func85.trans (congrArg some (by kernel_rfl)),
    f330 := Try.func86.trans (congrArg some (by kernel_rfl)),
    f331 := Try.func87.trans (congrArg some (by kernel_rfl)),
    f332 := Try.func88.trans (congrArg some (by kernel_rfl)),
    f343 := Try.func90.trans (congrArg some (by kernel_rfl)), t0 := Try.underlying0,
    a0 := Try.isAgg0, z0 := Try.sizeOf0, v0 := Try.zeroValue0, t3 := Try.underlying3, a3 := Try.isAgg3, z3 := Try.sizeOf3,
    v3 := Try.zeroValue3, t4 := Try.underlying4, a4 := Try.isAgg4, z4 := Try.sizeOf4, v4 := Try.zeroValue4,
    t5 := Try.underlying5, a5 := Try.isAgg5, z5 := Try.sizeOf5, v5 := Try.zeroValue5, t9 := Try.underlying9,
    a9 := Try.isAgg9, z9 := Try.sizeOf9, v9 := Try.zeroValue9, t28 := Try.underlying22, a28 := Try.isAgg22,
    z28 := Try.sizeOf22, v28 := Try.zeroValue22, t46 := Try.underlying39, a46 := Try.isAgg39, z46 := Try.sizeOf39,
    v46 := Try.zeroValue39, t51 := Try.underlying49, a51 := Try.isAgg49, z51 := Try.sizeOf49, v51 := Try.zeroValue49,
    t53 := Try.underlying51, a53 := Try.isAgg51, z53 := Try.sizeOf51, v53 := Try.zeroValue51, t131 := Try.underlying46,
    a131 := Try.isAgg46, z131 := Try.sizeOf46, v131 := Try.zeroValue46, t182 := Try.underlying41, a182 := Try.isAgg41,
    z182 := Try.sizeOf41, v182 := Try.zeroValue41, t183 := Try.underlying42, a183 := Try.isAgg42, z183 := Try.sizeOf42,
    v183 := Try.zeroValue42, t218 := Try.underlying52, a218 := Try.isAgg52, z218 := Try.sizeOf52, v218 := Try.zeroValue52,
    t222 := Try.underlying56, a222 := Try.isAgg56, z222 := Try.sizeOf56, v222 := Try.zeroValue56,
    t228 := Try.underlying58, a228 := Try.isAgg58, z228 := Try.sizeOf58, v228 := Try.zeroValue58,
    t229 := Try.underlying59, a229 := Try.isAgg59, z229 := Try.sizeOf59, v229 := Try.zeroValue59 }
open Go.RowKit
theorem len0 (w : World) : Calls Try.prog 72 #[.int .u64 0] w fun e w' => e = .returned (.int .i64 0) ∧ w' = w := by
  have h := calls_of_every_depth fun D => Any.lenWalkInAll { lays189 with } D 0 w (by omega)
  exact h
theorem insert_nil (p : Option Addr) (cap : Nat) (w : World) : Calls Try.prog 73 #[.slice p 0 cap, .int .i64 0, .int .i64 0] w fun e w' => e = .returned (.tuple #[]) ∧ w' = w := by
  go_enter Try.func73, Try.ntmps73
  go_wp2
  refine wp_loop_rounds 1 ?_
  rw [rounds_succ]
  go_wp2
  go_end0
  exact ⟨rfl, rfl⟩
set_option maxRecDepth 100000 in
theorem pdq_nil (p : Option Addr) (cap : Nat) (w : World) : Calls Try.prog 71 #[.slice p 0 cap, .int .i64 0, .int .i64 0, .int .i64 0] w fun e w' => e = .returned (.tuple #[]) ∧ w' = w := by
  go_enter Try.func71, Try.ntmps71
  go_wp2
  refine wp_loop_rounds 1 ?_
  rw [rounds_succ]
  go_wp2_with (first | (go_at_call 73; refine (insert_nil p cap _).mono ?_; rintro e w' ⟨rfl, rfl⟩))
  refine bodyPost_ret (results_none rfl _ _ _) rfl ?_
  exact ⟨rfl, rfl⟩
set_option maxRecDepth 100000 in
theorem sort_nil (p : Option Addr) (cap : Nat) (w : World) : Calls Try.prog 57 #[.slice p 0 cap] w fun e w' => e = .returned (.tuple #[]) ∧ w' = w := by
  go_enter Try.func57, Try.ntmps57
  go_wp2_with (first
    | (go_at_call 72; refine (len0 _).mono ?_; rintro e w' ⟨rfl, rfl⟩)
    | (go_at_call 71; refine (pdq_nil p cap _).mono ?_; rintro e w' ⟨rfl, rfl⟩))
  go_end0
  exact ⟨rfl, rfl⟩
theorem sortC : Go.Sx.SortC Try.prog 57 := ⟨fun blk off cap zs w hH hb hl => Go.calls_of_every_depth fun D => AnyS.slices_Sort_int_in lays189 D blk off cap zs w hH hb hl, fun cap w => sort_nil none cap w⟩
end Go.Proofs.Ytlmohafmpgpnaaa.Sh
