/- The kit's contract of slices.SortFunc at rows of structs, laid at this program (by a program, out of what the kit's own tool found), and what the comparing function does. Conditions: those of each theorem. -/
import Derived.Test.YtkkllkkjdbpjpaaProg
import Derived.Test.YtkkllkkjdbpjpaaSe
import Derived.Shelf.SlSortCmp.NoneTotal
import Derived.WalkKit
import Derived.Shelf.SlSortCmp.WholeK
import Derived.LoopN
import Derived.StillTailTactics
import Derived.Deep.Draws
import Derived.Test.YtkkllkkjdbpjpaaPp
import Derived.KernelRfl
namespace Go.Proofs.Ytkkllkkjdbpjpaa.Sf
open Go.Shelf Go.RowKit Go.Lib Go.Sort Go.Plain
theorem flatK_cells {α : Type} [Inhabited α] (f : α → List Value) {k : Nat} (hf : ∀ x, (f x).length = k) (hk : 0 < k) (d : Array α) : flatK f k d = (Go.Sx.cells f d.toList).toArray := by
  have hl : (Go.Sx.cells f d.toList).length = d.size * k := by rw [Go.Sx.cells_length hf]; simp
  apply Array.ext
  · rw [size_flatK]; simp [hl]
  · intro i h1 h2
    rw [size_flatK] at h1
    have hq : i / k < d.size := Nat.div_lt_of_lt_mul (by rw [Nat.mul_comm]; exact h1)
    have hr : i % k < k := Nat.mod_lt _ hk
    have e := Go.Sx.cells_get (xs := d.toList) hf (default : α) (k := i / k) (j := i % k) (by simpa using hq) hr
    have ei : i / k * k + i % k = i := by rw [Nat.mul_comm]; exact Nat.div_add_mod i k
    rw [ei] at e
    have e1 := get_flatK f k d i h1
    rw [getElem!_pos (flatK f k d) i (by rw [size_flatK]; exact h1)] at e1
    rw [e1]
    have hi : i < (Go.Sx.cells f d.toList).length := by rw [hl]; exact h1
    rw [List.getElem?_eq_getElem hi] at e
    have hd : d[i / k]! = d.toList.getD (i / k) default := by
      rw [getElem!_pos d (i / k) hq]; simp [List.getD_eq_getElem?_getD, hq]
    rw [hd]
    have hm : i % k < (f (d.toList.getD (i / k) default)).length := by rw [hf]; exact hr
    rw [List.getElem?_eq_getElem hm] at e
    rw [getElem!_pos (f (d.toList.getD (i / k) default)) (i % k) hm]
    have e2 := Option.some.inj e
    rw [← e2]; simp
def renE : Ren := ⟨fun x => match x with
  | 6 => 97
  | 15 => 79
  | 14 => 118
  | 28 => 113
  | 29 => 114
  | 20 => 127
  | 21 => 128
  | 22 => 129
  | 23 => 130
  | 24 => 131
  | 25 => 132
  | 26 => 133
  | 27 => 134
  | 46 => 136
  | 47 => 123
  | 48 => 124
  | 49 => 137
  | 50 => 138
  | 57 => 139
  | n => n, fun x => match x with
  | 22 => 23
  | 24 => 65
  | 25 => 72
  | 3 => 3
  | 39 => 103
  | 0 => 0
  | 53 => 129
  | 55 => 131
  | 4 => 4
  | 46 => 122
  | 45 => 121
  | 50 => 126
  | 5 => 5
  | 9 => 9
  | 66 => 138
  | 70 => 142
  | 76 => 150
  | 77 => 151
  | n => n, fun x => x⟩
set_option maxRecDepth 100000 in
theorem layE : SlLaysF0.n6 Try.prog renE where
  mixed := by kernel_rfl
  f6 := ⟨Try.f97.name, by decide, Try.func97.trans (congrArg some (by kernel_rfl))⟩
  f14 := ⟨Try.f118.name, by decide, Try.func118.trans (congrArg some (by kernel_rfl))⟩
  f15 := Try.func79.trans (congrArg some (by kernel_rfl))
  f20 := ⟨Try.f127.name, by decide, Try.func127.trans (congrArg some (by kernel_rfl))⟩
  f21 := ⟨Try.f128.name, by decide, Try.func128.trans (congrArg some (by kernel_rfl))⟩
  f22 := ⟨Try.f129.name, by decide, Try.func129.trans (congrArg some (by kernel_rfl))⟩
  f23 := ⟨Try.f130.name, by decide, Try.func130.trans (congrArg some (by kernel_rfl))⟩
  f24 := ⟨Try.f131.name, by decide, Try.func131.trans (congrArg some (by kernel_rfl))⟩
  f25 := ⟨Try.f132.name, by decide, Try.func132.trans (congrArg some (by kernel_rfl))⟩
  f26 := ⟨Try.f133.name, by decide, Try.func133.trans (congrArg some (by kernel_rfl))⟩
  f27 := ⟨Try.f134.name, by decide, Try.func134.trans (congrArg some (by kernel_rfl))⟩
  f28 := Try.func113.trans (congrArg some (by kernel_rfl))
  f29 := Try.func114.trans (congrArg some (by kernel_rfl))
  f46 := ⟨Try.f136.name, by decide, Try.func136.trans (congrArg some (by kernel_rfl))⟩
  f47 := Try.func123.trans (congrArg some (by kernel_rfl))
  f48 := Try.func124.trans (congrArg some (by kernel_rfl))
  f49 := ⟨Try.f137.name, by decide, Try.func137.trans (congrArg some (by kernel_rfl))⟩
  f50 := ⟨Try.f138.name, by decide, Try.func138.trans (congrArg some (by kernel_rfl))⟩
  f57 := ⟨Try.f139.name, by decide, Try.func139.trans (congrArg some (by kernel_rfl))⟩
  t0 := Try.underlying0
  a0 := Try.isAgg0
  z0 := Try.sizeOf0
  v0 := Try.zeroValue0
  t3 := Try.underlying3
  a3 := Try.isAgg3
  z3 := Try.sizeOf3
  v3 := Try.zeroValue3
  t4 := Try.underlying4
  a4 := Try.isAgg4
  z4 := Try.sizeOf4
  v4 := Try.zeroValue4
  t5 := Try.underlying5
  a5 := Try.isAgg5
  z5 := Try.sizeOf5
  v5 := Try.zeroValue5
  t9 := Try.underlying9
  a9 := Try.isAgg9
  z9 := Try.sizeOf9
  v9 := Try.zeroValue9
  t22 := Try.underlying23
  a22 := Try.isAgg23
  z22 := Try.sizeOf23
  v22 := Try.zeroValue23
  t25 := Try.underlying72
  a25 := Try.isAgg72
  z25 := Try.sizeOf72
  v25 := Try.zeroValue72
  t39 := Try.underlying103
  a39 := Try.isAgg103
  z39 := Try.sizeOf103
  v39 := Try.zeroValue103
  t45 := Try.underlying121
  a45 := Try.isAgg121
  z45 := Try.sizeOf121
  v45 := Try.zeroValue121
  t46 := Try.underlying122
  a46 := Try.isAgg122
  z46 := Try.sizeOf122
  v46 := Try.zeroValue122
  t50 := Try.underlying126
  a50 := Try.isAgg126
  z50 := Try.sizeOf126
  v50 := Try.zeroValue126
  t53 := Try.underlying129
  a53 := Try.isAgg129
  z53 := Try.sizeOf129
  v53 := Try.zeroValue129
  t55 := Try.underlying131
  a55 := Try.isAgg131
  z55 := Try.sizeOf131
  v55 := Try.zeroValue131
  t66 := Try.underlying138
  a66 := Try.isAgg138
  z66 := Try.sizeOf138
  v66 := Try.zeroValue138
  t70 := Try.underlying142
  a70 := Try.isAgg142
  z70 := Try.sizeOf142
  v70 := Try.zeroValue142
  t76 := Try.underlying150
  a76 := Try.isAgg150
  z76 := Try.sizeOf150
  v76 := Try.zeroValue150
  t77 := Try.underlying151
  a77 := Try.isAgg151
  z77 := Try.sizeOf151
  v77 := Try.zeroValue151

/-- an edge of small numbers -/
abbrev EdS := { e : Int × Int // 0 ≤ e.1 ∧ e.1 ≤ 1000 ∧ 0 ≤ e.2 ∧ e.2 ≤ 1000 }
instance : Inhabited EdS := ⟨⟨(0, 0), by decide⟩⟩
def encE (x : EdS) : List Value := Go.Sx.fE x.1
def cfE (x y : EdS) : Int := cmpE x.1 y.1
theorem wrapS {a : Int} (h : -1000 ≤ a ∧ a ≤ 1000) : IntKind.i64.wrap a = a := Go.Sx.wrap_in (by omega)
theorem closureE (x y : EdS) (W : World) : Calls Try.prog 42 #[.agg #[.int .i64 x.1.1, .int .i64 x.1.2], .agg #[.int .i64 y.1.1, .int .i64 y.1.2]] W fun e w' => e = .returned (.int .i64 (cfE x y)) ∧ ∃ q os', w' = grow (W.drewN q) os' := by
  have hx := x.2
  have hy := y.2
  go_enter Try.func42, Try.ntmps42
  go_wp2
  · rename_i h
    go_ret
    exact ⟨by rw [show cfE x y = x.1.1 - y.1.1 from by unfold cfE cmpE; rw [if_pos (by simpa using h)]]; rfl, 0, _, by rw [alloc_eq_grow, alloc_eq_grow, grow_grow]; rfl⟩
  · rename_i h
    go_ret
    exact ⟨by rw [show cfE x y = x.1.2 - y.1.2 from by unfold cfE cmpE; rw [if_neg (by simpa using h)]]; rfl, 0, _, by rw [alloc_eq_grow, alloc_eq_grow, grow_grow]; rfl⟩
theorem ltE (x y : EdS) : ltOf cfE x y = decide (below x.1 y.1) := by
  unfold ltOf
  rw [decide_eq_decide]
  exact cmpE_below _ _
theorem swoE : SWO (ltOf cfE) where
  irrefl x := by rw [ltE]; exact decide_eq_false (below_irrefl _)
  trans x y z h1 h2 := by rw [ltE] at *; exact decide_eq_true (below_trans (of_decide_eq_true h1) (of_decide_eq_true h2))
  ntrans x y z h1 h2 := by
    rw [ltE] at *
    have h1 := of_decide_eq_false h1
    have h2 := of_decide_eq_false h2
    refine decide_eq_false fun h3 => ?_
    unfold below at *; omega
theorem antiE (x y : EdS) (h1 : ltOf cfE x y = false) (h2 : ltOf cfE y x = false) : x = y := by
  rw [ltE] at *
  have h1 := of_decide_eq_false h1
  have h2 := of_decide_eq_false h2
  apply Subtype.ext
  by_cases h : x.1 = y.1
  · exact h
  · exact absurd (below_tri h) (fun h3 => h3.elim h1 h2)
theorem sort_map (zs : List EdS) : (zs.mergeSort fun x y => !ltOf cfE y x).map Subtype.val = srtE (zs.map Subtype.val) := by
  refine srtE_unique ?_ ((List.mergeSort_perm _ _).map _)
  rw [List.pairwise_map]
  refine (List.pairwise_mergeSort ?_ ?_ zs).imp fun {a b} h => ?_
  · intro a b c h1 h2
    rw [ltE] at *
    simp only [Bool.not_eq_true', decide_eq_false_iff_not] at *
    unfold below at *; omega
  · intro a b
    rw [ltE, ltE]
    simp only [Bool.or_eq_true, Bool.not_eq_true', decide_eq_false_iff_not]
    unfold below; omega
  · rw [ltE] at h
    simpa [NB] using h
theorem cells_sub (zs : List EdS) : Go.Sx.cells encE zs = Go.Sx.cells Go.Sx.fE (zs.map Subtype.val) := by
  unfold Go.Sx.cells
  rw [List.flatMap_map]; rfl
theorem sortEC : Go.Sx.SortV Try.prog 97 42 Go.Sx.fE (fun zs => ∀ e ∈ zs, 0 ≤ e.1 ∧ e.1 ≤ 1000 ∧ 0 ≤ e.2 ∧ e.2 ≤ 1000) (fun zs ys => ys = srtE zs) := by
  refine ⟨fun blk off cap zs w hok hH hb hl => ?_, fun cap w => ?_, rfl⟩
  · obtain ⟨us, rfl⟩ : ∃ us : List EdS, us.map Subtype.val = zs := ⟨zs.pmap (fun e h => ⟨e, h⟩) hok, by rw [List.map_pmap]; simp⟩
    have hHK : HoldsK encE 2 w blk off us.toArray := by
      unfold HoldsK
      rw [flatK_cells encE (fun _ => rfl) (by decide)]
      rw [← cells_sub] at hH; exact hH
    have eg : ∀ args w, (callFunc 42 args).run Try.prog w = .ok (.enter 42 args) w := enters_of Try.func42 (by kernel_rfl) rfl
    have hlen : us.length < 4611686018427387904 := by rwa [List.length_map] at hl
    have h := AnyQ.slices_SortFunc_total layE 2 Try.isAgg65 Try.sizeOf65 encE (fun _ => rfl) (fun x v hv => by simp [encE, Go.Sx.fE] at hv; rcases hv with rfl | rfl <;> rfl) cfE swoE 42 #[] blk off cap us.toArray w eg (fun _ _ _ _ x y => closureE x y _) hHK hb (by simpa using hlen) antiE
    change Calls Try.prog 97 #[.slice (some ⟨blk, off, none⟩) us.length cap, .func (.func 42) #[] #[]] w _ at h
    rw [List.length_map]
    refine h.mono fun e w' ⟨he, n, os, hw⟩ => ⟨he, _, n, os, rfl, by rw [srtE_length, List.length_map], ?_⟩
    rw [hw]
    unfold sortWorldK putRowK
    rw [flatK_cells encE (fun _ => rfl) (by decide), ← sort_map, ← cells_sub]
  · exact AnyF.slices_SortFunc_none layE none cap _ w
def renJ : Ren := ⟨fun x => match x with
  | 6 => 35
  | 15 => 79
  | 14 => 78
  | 28 => 113
  | 29 => 114
  | 20 => 105
  | 21 => 106
  | 22 => 107
  | 23 => 108
  | 24 => 109
  | 25 => 110
  | 26 => 111
  | 27 => 112
  | 46 => 122
  | 47 => 123
  | 48 => 124
  | 49 => 125
  | 50 => 126
  | 57 => 135
  | n => n, fun x => match x with
  | 22 => 27
  | 24 => 32
  | 25 => 70
  | 3 => 3
  | 39 => 103
  | 0 => 0
  | 53 => 129
  | 55 => 131
  | 4 => 4
  | 46 => 122
  | 45 => 121
  | 50 => 126
  | 5 => 5
  | 9 => 9
  | 66 => 138
  | 70 => 142
  | 76 => 150
  | 77 => 151
  | n => n, fun x => x⟩
set_option maxRecDepth 100000 in
theorem layJ : SlLaysF0.n6 Try.prog renJ where
  mixed := by kernel_rfl
  f6 := ⟨Try.f35.name, by decide, Try.func35.trans (congrArg some (by kernel_rfl))⟩
  f14 := ⟨Try.f78.name, by decide, Try.func78.trans (congrArg some (by kernel_rfl))⟩
  f15 := Try.func79.trans (congrArg some (by kernel_rfl))
  f20 := ⟨Try.f105.name, by decide, Try.func105.trans (congrArg some (by kernel_rfl))⟩
  f21 := ⟨Try.f106.name, by decide, Try.func106.trans (congrArg some (by kernel_rfl))⟩
  f22 := ⟨Try.f107.name, by decide, Try.func107.trans (congrArg some (by kernel_rfl))⟩
  f23 := ⟨Try.f108.name, by decide, Try.func108.trans (congrArg some (by kernel_rfl))⟩
  f24 := ⟨Try.f109.name, by decide, Try.func109.trans (congrArg some (by kernel_rfl))⟩
  f25 := ⟨Try.f110.name, by decide, Try.func110.trans (congrArg some (by kernel_rfl))⟩
  f26 := ⟨Try.f111.name, by decide, Try.func111.trans (congrArg some (by kernel_rfl))⟩
  f27 := ⟨Try.f112.name, by decide, Try.func112.trans (congrArg some (by kernel_rfl))⟩
  f28 := Try.func113.trans (congrArg some (by kernel_rfl))
  f29 := Try.func114.trans (congrArg some (by kernel_rfl))
  f46 := ⟨Try.f122.name, by decide, Try.func122.trans (congrArg some (by kernel_rfl))⟩
  f47 := Try.func123.trans (congrArg some (by kernel_rfl))
  f48 := Try.func124.trans (congrArg some (by kernel_rfl))
  f49 := ⟨Try.f125.name, by decide, Try.func125.trans (congrArg some (by kernel_rfl))⟩
  f50 := ⟨Try.f126.name, by decide, Try.func126.trans (congrArg some (by kernel_rfl))⟩
  f57 := ⟨Try.f135.name, by decide, Try.func135.trans (congrArg some (by kernel_rfl))⟩
  t0 := Try.underlying0
  a0 := Try.isAgg0
  z0 := Try.sizeOf0
  v0 := Try.zeroValue0
  t3 := Try.underlying3
  a3 := Try.isAgg3
  z3 := Try.sizeOf3
  v3 := Try.zeroValue3
  t4 := Try.underlying4
  a4 := Try.isAgg4
  z4 := Try.sizeOf4
  v4 := Try.zeroValue4
  t5 := Try.underlying5
  a5 := Try.isAgg5
  z5 := Try.sizeOf5
  v5 := Try.zeroValue5
  t9 := Try.underlying9
  a9 := Try.isAgg9
  z9 := Try.sizeOf9
  v9 := Try.zeroValue9
  t22 := Try.underlying27
  a22 := Try.isAgg27
  z22 := Try.sizeOf27
  v22 := Try.zeroValue27
  t25 := Try.underlying70
  a25 := Try.isAgg70
  z25 := Try.sizeOf70
  v25 := Try.zeroValue70
  t39 := Try.underlying103
  a39 := Try.isAgg103
  z39 := Try.sizeOf103
  v39 := Try.zeroValue103
  t45 := Try.underlying121
  a45 := Try.isAgg121
  z45 := Try.sizeOf121
  v45 := Try.zeroValue121
  t46 := Try.underlying122
  a46 := Try.isAgg122
  z46 := Try.sizeOf122
  v46 := Try.zeroValue122
  t50 := Try.underlying126
  a50 := Try.isAgg126
  z50 := Try.sizeOf126
  v50 := Try.zeroValue126
  t53 := Try.underlying129
  a53 := Try.isAgg129
  z53 := Try.sizeOf129
  v53 := Try.zeroValue129
  t55 := Try.underlying131
  a55 := Try.isAgg131
  z55 := Try.sizeOf131
  v55 := Try.zeroValue131
  t66 := Try.underlying138
  a66 := Try.isAgg138
  z66 := Try.sizeOf138
  v66 := Try.zeroValue138
  t70 := Try.underlying142
  a70 := Try.isAgg142
  z70 := Try.sizeOf142
  v70 := Try.zeroValue142
  t76 := Try.underlying150
  a76 := Try.isAgg150
  z76 := Try.sizeOf150
  v76 := Try.zeroValue150
  t77 := Try.underlying151
  a77 := Try.isAgg151
  z77 := Try.sizeOf151
  v77 := Try.zeroValue151

/-! ### structs of three, by the first two -/
def cmpI (a b : Int) : Int := if a < b then -1 else if b < a then 1 else 0
theorem cmpI_lt {a b : Int} (h : a < b) : cmpI a b = -1 := if_pos h
theorem cmpI_gt {a b : Int} (h : b < a) : cmpI a b = 1 := by unfold cmpI; rw [if_neg (by omega), if_pos h]
theorem cmpI_eq {a b : Int} (h1 : b ≤ a) (h2 : a ≤ b) : cmpI a b = 0 := by unfold cmpI; rw [if_neg (by omega), if_neg (by omega)]
theorem cmpC (a b : Int) (W : World) : Calls Try.prog 38 #[.int .i64 a, .int .i64 b] W fun e w' => e = .returned (.int .i64 (cmpI a b)) ∧ w' = W := by
  go_enter Try.func38, Try.ntmps38
  go_wp2
  all_goals go_ret
  all_goals refine ⟨?_, rfl⟩
  · rename_i h; rw [cmpI_lt h]; rfl
  · rename_i h; rw [cmpI_gt h]; rfl
  · have h1 : b ≤ a := by assumption
    have h2 : a ≤ b := by assumption
    rw [cmpI_eq h1 h2]; rfl
def orI (a b : Int) : Int := if a = 0 then b else a
theorem orC (a b : Int) (r : Nat) (W : World) (h0 : W.cell? (⟨r, 0, none⟩ : Addr) = some (.int .i64 a)) (h1 : W.cell? (⟨r, 1, none⟩ : Addr) = some (.int .i64 b)) : Calls Try.prog 37 #[.slice (some ⟨r, 0, none⟩) 2 2] W fun e w' => e = .returned (.int .i64 (orI a b)) ∧ w' = W := by
  by_cases ha : a = 0
  · have e : orI a b = b := if_pos ha
    rw [e]
    clear e
    subst ha
    by_cases hb : b = 0
    · subst hb
      go_enter Try.func37, Try.ntmps37
      go_wp2
      refine wp_loop_rounds 3 ?_
      rw [rounds_succ]; go_wp2
      rw [rounds_succ]; go_wp2
      rw [rounds_succ]; go_wp2
      go_ret
      exact ⟨rfl, rfl⟩
    · have hb' : (b != 0) = true := by simpa using hb
      go_enter Try.func37, Try.ntmps37
      go_wp2
      refine wp_loop_rounds 3 ?_
      rw [rounds_succ]; go_wp2
      rw [rounds_succ]; go_wp2
      go_ret
      exact ⟨rfl, rfl⟩
  · have e : orI a b = a := if_neg ha
    rw [e]
    clear e
    have ha' : (a != 0) = true := by simpa using ha
    go_enter Try.func37, Try.ntmps37
    go_wp2
    refine wp_loop_rounds 3 ?_
    rw [rounds_succ]; go_wp2
    go_ret
    exact ⟨rfl, rfl⟩
theorem still_tail' {P : Program} {id : Nat} {Q : Exit → Act → World → Prop} {a : Act} {w : World} {l : List Oper} (n : Nat) (hm : P.follows .mixedOrders = true) (hB : Region.lexTailB .any l.toArray n = true)
    (h : ∀ w2 : World, w2 = w.drew → wpStill P l.toArray w2 (fun a' => wpList P l.toArray Q (l.drop n) a' w2) (l.take n) a) : (Code.region id l.toArray true).wp P Q a w := wp_region_still_tail n hm hB (h _ rfl)
set_option maxRecDepth 100000 in
theorem closureJ (x1 x2 x3 y1 y2 y3 : Int) (W : World) : Calls Try.prog 36 #[.agg #[.int .i64 x1, .int .i64 x2, .int .i64 x3], .agg #[.int .i64 y1, .int .i64 y2, .int .i64 y3]] W fun e w' => e = .returned (.int .i64 (orI (cmpI x1 y1) (cmpI x2 y2))) ∧ ∃ q os', w' = grow (W.drewN q) os' := by
  go_enter Try.func36, Try.ntmps36
  go_wp2
  refine still_tail' 10 (by kernel_rfl) (by kernel_rfl) fun w2 hw2 => ?_
  have c0 : w2.cell? ⟨W.heap.size, 0, none⟩ = some (.int .i64 x1) := by subst hw2; go_simp
  have c1 : w2.cell? ⟨W.heap.size, 1, none⟩ = some (.int .i64 x2) := by subst hw2; go_simp
  have d0 : w2.cell? ⟨W.heap.size + 1, 0, none⟩ = some (.int .i64 y1) := by subst hw2; go_simp
  have d1 : w2.cell? ⟨W.heap.size + 1, 1, none⟩ = some (.int .i64 y2) := by subst hw2; go_simp
  have hend : ∃ os', w2 = grow (W.drewN 1) os' := ⟨#[_] ++ #[_], by rw [hw2, alloc_eq_grow, alloc_eq_grow, grow_grow]; rfl⟩
  clear hw2
  simp only [List.take_succ_cons, List.take_zero, List.drop_succ_cons, List.drop_zero]
  still_step
  still_step
  still_step
  still_step
  still_call (cmpC x1 y1 _)
  still_step
  still_step
  still_step
  still_step
  still_call (cmpC x2 y2 _)
  refine wpStill_nil ?_
  have hO := orC (cmpI x1 y1) (cmpI x2 y2) w2.heap.size (w2.alloc (.cells #[.int .i64 (cmpI x1 y1), .int .i64 (cmpI x2 y2)] 3)) (by go_simp) (by go_simp)
  go_wp2_with (go_at_call 37; (refine hO.mono ?_; rintro e w' ⟨rfl, rfl⟩))
  go_ret
  refine ⟨rfl, ?_⟩
  obtain ⟨os', h⟩ := hend
  exact ⟨1, _, by rw [h, alloc_eq_grow, grow_grow]⟩

def cfJ (x y : Int × Int × Int) : Int := orI (cmpI x.1 y.1) (cmpI x.2.1 y.2.1)
theorem ltJ (x y : Int × Int × Int) : ltOf cfJ x y = decide (lowJ x y) := by
  unfold ltOf
  rw [decide_eq_decide]
  unfold cfJ orI cmpI lowJ below
  dsimp only
  split <;> split <;> (try split) <;> (try split) <;> (try split) <;> omega
theorem swoJ : SWO (ltOf cfJ) where
  irrefl x := by rw [ltJ]; exact decide_eq_false (fun h => lowJ_as _ _ h h)
  trans x y z h1 h2 := by
    rw [ltJ] at *
    have h1 := of_decide_eq_true h1
    have h2 := of_decide_eq_true h2
    refine decide_eq_true ?_
    unfold lowJ below at *; dsimp only at *; omega
  ntrans x y z h1 h2 := by
    rw [ltJ] at *
    have h1 := of_decide_eq_false h1
    have h2 := of_decide_eq_false h2
    refine decide_eq_false fun h3 => ?_
    unfold lowJ below at *; dsimp only at *; omega
theorem sortJC : Go.Sx.SortV Try.prog 35 36 Go.Sx.fJ (fun _ => True) SrtJ := by
  refine ⟨fun blk off cap zs w _ hH hb hl => ?_, fun cap w => ?_, ⟨.refl _, .nil⟩⟩
  · have hHK : HoldsK Go.Sx.fJ 3 w blk off zs.toArray := by
      unfold HoldsK
      rw [flatK_cells Go.Sx.fJ (fun _ => rfl) (by decide)]
      exact hH
    have eg : ∀ args w, (callFunc 36 args).run Try.prog w = .ok (.enter 36 args) w := enters_of Try.func36 (by kernel_rfl) rfl
    have h := AnyQ.slices_SortFunc layJ 3 Try.isAgg32 Try.sizeOf32 Go.Sx.fJ (fun _ => rfl) Go.Sx.fJ_one cfJ swoJ 36 #[] blk off cap zs.toArray w eg (fun _ _ _ _ x y => closureJ _ _ _ _ _ _ _) hHK hb (by simpa using hl)
    change Calls Try.prog 35 #[.slice (some ⟨blk, off, none⟩) zs.length cap, .func (.func 36) #[] #[]] w _ at h
    refine h.mono fun e w' ⟨he, d', n, os, hp, hs, hw⟩ => ⟨he, d'.toList, n, os, ⟨?_, ?_⟩, by have := hp.1; simpa using this, ?_⟩
    · have h3 := hp.2.2
      have h4 : d'.size = zs.toArray.size := hp.1
      rw [← h4, Array.extract_size, h4, Array.extract_size] at h3
      simpa using h3
    · rw [List.pairwise_iff_getElem]
      intro i j hi hj hij
      have h4 : d'.size = zs.toArray.size := hp.1
      have h5 := hs i j (Nat.zero_le _) hij (by rw [← h4]; simpa using hj)
      rw [ltJ] at h5
      have h6 := of_decide_eq_false h5
      have hi' : i < d'.size := by simpa using hi
      have hj' : j < d'.size := by simpa using hj
      rw [getElem!_pos d' i hi', getElem!_pos d' j hj'] at h6
      simpa using h6
    · rw [hw]
      unfold sortWorldK putRowK
      rw [flatK_cells Go.Sx.fJ (fun _ => rfl) (by decide)]
  · exact AnyF.slices_SortFunc_none layJ none cap _ w
end Go.Proofs.Ytkkllkkjdbpjpaa.Sf
