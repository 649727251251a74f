/- The kit's contract of slices.Sort at integers, laid at this program (by a program, out of what the kit's own tool found). Conditions: none. -/
import Derived.Test.YthbfgkeoojghoaaProg
import Derived.Test.YthbfgkeoojghoaaSo
import Derived.Shelf.Sort.AssemblyIn
import Derived.Sort.EveryDepth
import Derived.WalkKit
import Derived.Deep.Draws
import Derived.Sort.AtCall
import Derived.KernelRfl
namespace Go.Proofs.Ythbfgkeoojghoaa.Sh
open Go.Shelf
def ren : Ren := ⟨fun x => match x with
  | 189 => 122
  | 125 => 112
  | 257 => 144
  | 128 => 138
  | 129 => 139
  | 294 => 150
  | 295 => 151
  | 296 => 152
  | 297 => 153
  | 298 => 154
  | 299 => 155
  | 216 => 156
  | 300 => 157
  | 301 => 158
  | 328 => 160
  | 329 => 146
  | 330 => 147
  | 331 => 161
  | 332 => 162
  | 215 => 113
  | 343 => 163
  | n => n, fun x => match x with
  | 28 => 27
  | 3 => 3
  | 46 => 108
  | 0 => 0
  | 51 => 126
  | 53 => 128
  | 4 => 4
  | 183 => 119
  | 182 => 118
  | 131 => 123
  | 5 => 5
  | 9 => 9
  | 218 => 132
  | 222 => 136
  | 228 => 143
  | 229 => 144
  | n => n, fun x => x⟩
set_option maxRecDepth 100000 in
theorem lays189 : Lays.n189 Try.prog ren :=
  { mixed := by kernel_rfl, f125 := Try.func112.trans (congrArg some (by kernel_rfl)),
    f128 := Try.func138.trans (congrArg some (by kernel_rfl)),
    f129 := Try.func139.trans (congrArg some (by kernel_rfl)),
    f189 := Try.func122.trans (congrArg some (by kernel_rfl)),
    f215 := Try.func113.trans (congrArg some (by kernel_rfl)),
    f216 := Try.func156.trans (congrArg some (by kernel_rfl)),
    f257 := Try.func144.trans (congrArg some (by kernel_rfl)),
    f294 := Try.func150.trans (congrArg some (by kernel_rfl)),
    f295 := Try.func151.trans (congrArg some (by kernel_rfl)),
    f296 := Try.func152.trans (congrArg some (by kernel_rfl)),
    f297 := Try.func153.trans (congrArg some (by kernel_rfl)),
    f298 := Try.func154.trans (congrArg some (by kernel_rfl)),
    f299 := Try.func155.trans (congrArg some (by kernel_rfl)),
    f300 := Try.func157.trans (congrArg some (by kernel_rfl)),
    f301 := Try.func158.trans (congrArg some (by kernel_rfl)),
    f328 := Try.func160.trans (congrArg some (by kernel_rfl)),
    f329 := Try.func146.trans (congrArg some (by kernel_rfl)),
    f330 := Try.func147.trans (congrArg some (by kernel_rfl)),
    f331 := Try.func161.trans (congrArg some (by kernel_rfl)),
    f332 := Try.func162.trans (congrArg some (by kernel_rfl)),
    f343 := Try.func163.trans (congrArg some (by kernel_rfl)), t0 := Try.underlying0,
    a0 := Try.isAgg0, z0 := Try.sizeOf0, v0 := Try.zeroValue0, t3 := Try.underlying3, a3 := Try.isAgg3, z3 := Try.sizeOf3,
    v3 := Try.zeroValue3, t4 := Try.underlying4, a4 := Try.isAgg4, z4 := Try.sizeOf4, v4 := Try.zeroValue4,
    t5 := Try.underlying5, a5 := Try.isAgg5, z5 := Try.sizeOf5, v5 := Try.zeroValue5, t9 := Try.underlying9,
    a9 := Try.isAgg9, z9 := Try.sizeOf9, v9 := Try.zeroValue9, t28 := Try.underlying27, a28 := Try.isAgg27,
    z28 := Try.sizeOf27, v28 := Try.zeroValue27, t46 := Try.underlying108, a46 := Try.isAgg108, z46 := Try.sizeOf108,
    v46 := Try.zeroValue108, t51 := Try.underlying126, a51 := Try.isAgg126, z51 := Try.sizeOf126, v51 := Try.zeroValue126,
    t53 := Try.underlying128, a53 := Try.isAgg128, z53 := Try.sizeOf128, v53 := Try.zeroValue128,
    t131 := Try.underlying123, a131 := Try.isAgg123, z131 := Try.sizeOf123, v131 := Try.zeroValue123,
    t182 := Try.underlying118, a182 := Try.isAgg118, z182 := Try.sizeOf118, v182 := Try.zeroValue118,
    t183 := Try.underlying119, a183 := Try.isAgg119, z183 := Try.sizeOf119, v183 := Try.zeroValue119,
    t218 := Try.underlying132, a218 := Try.isAgg132, z218 := Try.sizeOf132, v218 := Try.zeroValue132,
    t222 := Try.underlying136, a222 := Try.isAgg136, z222 := Try.sizeOf136, v222 := Try.zeroValue136,
    t228 := Try.underlying143, a228 := Try.isAgg143, z228 := Try.sizeOf143, v228 := Try.zeroValue143,
    t229 := Try.underlying144, a229 := Try.isAgg144, z229 := Try.sizeOf144, v229 := Try.zeroValue144 }
open Go.RowKit
theorem len0 (w : World) : Calls Try.prog 112 #[.int .u64 0] w fun e w' => e = .returned (.int .i64 0) ∧ w' = w := by
  have h := calls_of_every_depth fun D => Any.lenWalkInAll { lays189 with } D 0 w (by omega)
  exact h
theorem insert_nil (p : Option Addr) (cap : Nat) (w : World) : Calls Try.prog 150 #[.slice p 0 cap, .int .i64 0, .int .i64 0] w fun e w' => e = .returned (.tuple #[]) ∧ w' = w := by
  go_enter Try.func150, Try.ntmps150
  go_wp2
  refine wp_loop_rounds 1 ?_
  rw [rounds_succ]
  go_wp2
  go_end0
  exact ⟨rfl, rfl⟩
set_option maxRecDepth 100000 in
theorem pdq_nil (p : Option Addr) (cap : Nat) (w : World) : Calls Try.prog 144 #[.slice p 0 cap, .int .i64 0, .int .i64 0, .int .i64 0] w fun e w' => e = .returned (.tuple #[]) ∧ w' = w := by
  go_enter Try.func144, Try.ntmps144
  go_wp2
  refine wp_loop_rounds 1 ?_
  rw [rounds_succ]
  go_wp2_with (first | (go_at_call 150; refine (insert_nil p cap _).mono ?_; rintro e w' ⟨rfl, rfl⟩))
  refine bodyPost_ret (results_none rfl _ _ _) rfl ?_
  exact ⟨rfl, rfl⟩
set_option maxRecDepth 100000 in
theorem sort_nil (p : Option Addr) (cap : Nat) (w : World) : Calls Try.prog 122 #[.slice p 0 cap] w fun e w' => e = .returned (.tuple #[]) ∧ w' = w := by
  go_enter Try.func122, Try.ntmps122
  go_wp2_with (first
    | (go_at_call 112; refine (len0 _).mono ?_; rintro e w' ⟨rfl, rfl⟩)
    | (go_at_call 144; refine (pdq_nil p cap _).mono ?_; rintro e w' ⟨rfl, rfl⟩))
  go_end0
  exact ⟨rfl, rfl⟩
theorem sortC : Go.Sx.SortC Try.prog 122 := ⟨fun blk off cap zs w hH hb hl => Go.calls_of_every_depth fun D => AnyS.slices_Sort_int_in lays189 D blk off cap zs w hH hb hl, fun cap w => sort_nil none cap w⟩
end Go.Proofs.Ythbfgkeoojghoaa.Sh
