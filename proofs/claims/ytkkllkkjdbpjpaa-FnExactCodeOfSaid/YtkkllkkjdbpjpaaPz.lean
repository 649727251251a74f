/- Matchings and barriers: the hard direction (Gallai's way). No program in sight. Conditions: those of each theorem. -/
import Derived.Test.YtkkllkkjdbpjpaaPy
namespace Go.Plain
/-! ### greatest matchings -/
theorem meets_self (e : Ed) : meets e e = true := decide_eq_true (.inl rfl)
theorem MatchP.ne {M : List Ed} (h : MatchP M) : M.Nodup := h.imp fun {a b} hab (he : a = b) => by subst he; rw [meets_self] at hab; cases hab
theorem meets_comm {e f : Ed} (h : meets e f = false) : meets f e = false := by
  have := meets_false h
  exact decide_eq_false fun h2 => by rcases h2 with h2 | h2 | h2 | h2 <;> omega
theorem MatchP.two : ∀ {M : List Ed}, MatchP M → ∀ {e f : Ed}, e ∈ M → f ∈ M → e ≠ f → meets e f = false
  | [], _, e, _, he, _, _ => by cases he
  | a :: M, h, e, f, he, hf, hne => by
    have h1 := List.pairwise_cons.1 h
    rcases List.mem_cons.1 he with he2 | he2
    · rcases List.mem_cons.1 hf with hf2 | hf2
      · exact absurd (he2.trans hf2.symm) hne
      · rw [he2]; exact h1.1 f hf2
    · rcases List.mem_cons.1 hf with hf2 | hf2
      · rw [hf2]; exact meets_comm (h1.1 e he2)
      · exact MatchP.two h1.2 he2 hf2 hne
theorem mm_max : ∀ (fs : List Ed) {M : List Ed}, MatchP M → (∀ e ∈ M, e ∈ fs) → M.length ≤ mm fs
  | [], M, _, hs => by
    rcases M with _ | ⟨e, M⟩
    · exact Nat.zero_le _
    · exact absurd (hs e (by simp)) (by simp)
  | e :: r, M, h, hs => by
    rw [mm_cons]
    by_cases he : e ∈ M
    · have h1 := mm_max (r.filter fun f => !meets e f) (M := M.erase e) (h.sublist List.erase_sublist) (fun f hf => by
        have hfm := List.mem_of_mem_erase hf
        have hne : f ≠ e := fun h2 => by subst h2; exact (h.ne.not_mem_erase) hf
        have h3 := hs f hfm
        refine List.mem_filter.2 ⟨(List.mem_cons.1 h3).resolve_left hne, ?_⟩
        rw [h.two he hfm (fun h2 => hne h2.symm)]; rfl)
      have h2 := List.length_erase_of_mem he
      have h3 := List.length_pos_of_mem he
      omega
    · have h1 := mm_max r (M := M) h (fun f hf => (List.mem_cons.1 (hs f hf)).resolve_left fun h2 => he (by rw [← h2]; exact hf))
      omega
termination_by fs => fs.length
decreasing_by
  · have := List.length_filter_le (fun f => !meets e f) r; simp only [List.length_cons]; omega
  · simp
theorem ends_mem {M : List Ed} {e : Ed} (h : e ∈ M) : e.1 ∈ ends M ∧ e.2 ∈ ends M := by
  induction M with
  | nil => cases h
  | cons a M ih =>
    rw [ends]
    rcases List.mem_cons.1 h with rfl | h
    · exact ⟨by simp, by simp⟩
    · have := ih h; exact ⟨List.mem_cons_of_mem _ (List.mem_cons_of_mem _ this.1), List.mem_cons_of_mem _ (List.mem_cons_of_mem _ this.2)⟩
section
variable {n : Nat} {fs : List Ed}
structure MaxM (fs M : List Ed) : Prop where
  mat : MatchP M
  sub : ∀ e ∈ M, e ∈ fs
  len : M.length = mm fs
theorem maxM_ex (fs : List Ed) : ∃ M, MaxM fs M := by
  obtain ⟨M, h1, h2, h3⟩ := mm_wit fs
  exact ⟨M, h3, fun e he => h1.subset he, h2⟩
theorem MaxM.nodup {M : List Ed} (hg : Gr n fs) (h : MaxM fs M) : (ends M).Nodup := ends_nodup h.mat fun e he => (hg.inr e (h.sub e he)).2.1
def adj (fs : List Ed) (a b : Int) : Prop := (a, b) ∈ fs ∨ (b, a) ∈ fs
/-- an edge between two that are left out would make it greater -/
theorem MaxM.no_edge {M : List Ed} (h : MaxM fs M) {e : Ed} (he : e ∈ fs) (h1 : e.1 ∉ ends M) (h2 : e.2 ∉ ends M) : False := by
  have hm : MatchP (e :: M) := List.pairwise_cons.2 ⟨fun f hf => by
    have hf2 := ends_mem hf
    exact decide_eq_false fun h3 => by
      rcases h3 with h3 | h3 | h3 | h3
      · exact h1 (h3 ▸ hf2.1)
      · exact h2 (h3 ▸ hf2.1)
      · exact h1 (h3 ▸ hf2.2)
      · exact h2 (h3 ▸ hf2.2), h.mat⟩
  have := mm_max fs hm (fun f hf => by
    rcases List.mem_cons.1 hf with rfl | hf
    · exact he
    · exact h.sub f hf)
  rw [List.length_cons, h.len] at this; omega
theorem MaxM.no_adj {M : List Ed} (h : MaxM fs M) {a b : Int} (he : adj fs a b) (h1 : a ∉ ends M) (h2 : b ∉ ends M) : False :=
  he.elim (fun he => h.no_edge he h1 h2) (fun he => h.no_edge he h2 h1)
/-- one exchange: a matching that misses t and has more in common with M -/
theorem exchange (hg : Gr n fs) {M N : List Ed} (hM : MaxM fs M) (hN : MaxM fs N) {u v t : Int} (huv : u ≠ v) (hu : u ∉ ends M) (hv : v ∉ ends M) (huN : u ∈ ends N) (hvN : v ∈ ends N) (ht : t ∉ ends N) :
    ∃ N', MaxM fs N' ∧ t ∉ ends N' ∧ N'.countP (fun e => decide (e ∈ M)) = N.countP (fun e => decide (e ∈ M)) + 1 := by
  have hx : ∃ x ∈ ends M, x ≠ t ∧ x ∉ ends N := by
    by_cases hx : ∃ x ∈ ends M, x ≠ t ∧ x ∉ ends N
    · exact hx
    · exfalso
      have hall : ∀ x ∈ ends M, x ≠ t → x ∈ ends N := fun x h1 h2 => by
        by_cases h3 : x ∈ ends N
        · exact h3
        · exact absurd ⟨x, h1, h2, h3⟩ hx
      have hnd : (u :: v :: (ends M).erase t).Nodup := by
        rw [List.nodup_cons, List.nodup_cons]
        refine ⟨fun h => ?_, fun h => hv (List.mem_of_mem_erase h), (hM.nodup hg).erase t⟩
        rcases List.mem_cons.1 h with h | h
        · exact huv h
        · exact hu (List.mem_of_mem_erase h)
      have h1 := nodup_len hnd (b := ends N) (fun x hx => by
        rcases List.mem_cons.1 hx with rfl | hx
        · exact huN
        · rcases List.mem_cons.1 hx with rfl | hx
          · exact hvN
          · exact hall x (List.mem_of_mem_erase hx) fun h2 => by subst h2; exact (hM.nodup hg).not_mem_erase hx)
      have h2 : (ends M).length ≤ ((ends M).erase t).length + 1 := by
        rw [List.length_erase]; split <;> omega
      rw [ends_length, hM.len] at h2
      rw [List.length_cons, List.length_cons, ends_length, hN.len] at h1
      omega
  obtain ⟨x, hxM, hxt, hxN⟩ := hx
  obtain ⟨e, heM, hxe⟩ := mem_ends hxM
  have heN : e ∉ N := fun h => by
    have := ends_mem h
    rcases hxe with rfl | rfl
    · exact hxN this.1
    · exact hxN this.2
  -- the other end
  have hy : ∃ y, y ∈ ends N ∧ ((x = e.1 ∧ y = e.2) ∨ (x = e.2 ∧ y = e.1)) := by
    rcases hxe with h | h
    · refine ⟨e.2, ?_, .inl ⟨h, rfl⟩⟩
      by_cases h2 : e.2 ∈ ends N
      · exact h2
      · exact (hN.no_edge (hM.sub e heM) (h ▸ hxN) h2).elim
    · refine ⟨e.1, ?_, .inr ⟨h, rfl⟩⟩
      by_cases h2 : e.1 ∈ ends N
      · exact h2
      · exact (hN.no_edge (hM.sub e heM) h2 (h ▸ hxN)).elim
  obtain ⟨y, hyN, hxy⟩ := hy
  obtain ⟨f, hfN, hyf⟩ := mem_ends hyN
  have hfe : f ≠ e := fun h => heN (h ▸ hfN)
  have hfM : f ∉ M := fun h => by
    have h1 := meets_false (hM.mat.two heM h (fun h2 => hfe h2.symm))
    rcases hxy with ⟨_, h2⟩ | ⟨_, h2⟩ <;> rcases hyf with h3 | h3 <;> omega
  have hother : ∀ g ∈ N.erase f, meets e g = false := fun g hgm => by
    have hgN := List.mem_of_mem_erase hgm
    have hgf : f ≠ g := fun h => by subst h; exact hN.mat.ne.not_mem_erase hgm
    have h1 := meets_false (hN.mat.two hfN hgN hgf)
    have h2 := ends_mem hgN
    have h3 : g.1 ≠ x := fun h => hxN (h ▸ h2.1)
    have h4 : g.2 ≠ x := fun h => hxN (h ▸ h2.2)
    exact decide_eq_false fun h5 => by
      rcases hxy with ⟨h6, h7⟩ | ⟨h6, h7⟩ <;> rcases hyf with h8 | h8 <;> rcases h5 with h5 | h5 | h5 | h5 <;> omega
  refine ⟨e :: N.erase f, ⟨List.pairwise_cons.2 ⟨hother, hN.mat.sublist List.erase_sublist⟩, fun g hgm => ?_, ?_⟩, fun h => ?_, ?_⟩
  · rcases List.mem_cons.1 hgm with rfl | hgm
    · exact hM.sub _ heM
    · exact hN.sub g (List.mem_of_mem_erase hgm)
  · have h1 := List.length_erase_of_mem hfN
    have h2 := List.length_pos_of_mem hfN
    rw [List.length_cons, h1, ← hN.len]; omega
  · obtain ⟨g, hgm, hgt⟩ := mem_ends h
    rcases List.mem_cons.1 hgm with rfl | hgm
    · have hyt : y ≠ t := fun h => ht (h ▸ hyN)
      rcases hxy with ⟨h6, h7⟩ | ⟨h6, h7⟩ <;> rcases hgt with h8 | h8 <;> omega
    · have h2 := ends_mem (List.mem_of_mem_erase hgm)
      rcases hgt with h8 | h8
      · exact ht (h8 ▸ h2.1)
      · exact ht (h8 ▸ h2.2)
  · have hp := (List.perm_cons_erase hfN).countP_eq (fun e => decide (e ∈ M))
    rw [List.countP_cons, if_neg (by rw [decide_eq_true_eq]; exact hfM)] at hp
    rw [List.countP_cons, if_pos (decide_eq_true heM), hp]
def Path (fs : List Ed) : Nat → Int → Int → Prop
  | 0, u, v => u = v
  | k + 1, u, v => ∃ t, Path fs k u t ∧ adj fs t v
/-- where every vertex of an edge is left out by some greatest matching, connected vertices that one leaves out are one -/
theorem gallai (hg : Gr n fs) (H : ∀ e ∈ fs, (∃ N, MaxM fs N ∧ e.1 ∉ ends N) ∧ ∃ N, MaxM fs N ∧ e.2 ∉ ends N) : ∀ k : Nat, ∀ {M : List Ed} {u v : Int}, MaxM fs M → Path fs k u v → u ∉ ends M → v ∉ ends M → u = v
  | 0, _, _, _, _, hp, _, _ => hp
  | k + 1, M, u, v, hM, hp, hu, hv => by
    obtain ⟨t, hpt, hadj⟩ := hp
    by_cases huv : u = v
    · exact huv
    exfalso
    have hN : ∃ N, MaxM fs N ∧ t ∉ ends N := hadj.elim (fun h => (H _ h).1) (fun h => (H _ h).2)
    have key : ∀ d : Nat, ∀ N, MaxM fs N → t ∉ ends N → mm fs ≤ N.countP (fun e => decide (e ∈ M)) + d → False := by
      intro d
      induction d with
      | zero =>
        intro N hN ht hd
        have huN : u ∈ ends N := by
          by_cases h : u ∈ ends N
          · exact h
          · have := gallai hg H k hN hpt h ht
            subst this; exact (hM.no_adj hadj hu hv).elim
        have hvN : v ∈ ends N := by
          by_cases h : v ∈ ends N
          · exact h
          · exact (hN.no_adj hadj ht h).elim
        obtain ⟨N', h1, _, h3⟩ := exchange hg hM hN huv hu hv huN hvN ht
        have h4 := List.countP_le_length (p := fun e => decide (e ∈ M)) (l := N')
        rw [h1.len] at h4; omega
      | succ d ih =>
        intro N hN ht hd
        have huN : u ∈ ends N := by
          by_cases h : u ∈ ends N
          · exact h
          · have := gallai hg H k hN hpt h ht
            subst this; exact (hM.no_adj hadj hu hv).elim
        have hvN : v ∈ ends N := by
          by_cases h : v ∈ ends N
          · exact h
          · exact (hN.no_adj hadj ht h).elim
        obtain ⟨N', h1, h2, h3⟩ := exchange hg hM hN huv hu hv huN hvN ht
        exact ih N' h1 h2 (by omega)
    obtain ⟨N, hN1, hN2⟩ := hN
    exact key (mm fs) N hN1 hN2 (by omega)
theorem cn_path {u v : Int} (h : Cn fs u v) : ∃ k, Path fs k u v := by
  induction h with
  | refl => exact ⟨0, rfl⟩
  | fwd he hcc ih => obtain ⟨k, hk⟩ := ih; exact ⟨k + 1, _, hk, .inl he⟩
  | bwd he hcc ih => obtain ⟨k, hk⟩ := ih; exact ⟨k + 1, _, hk, .inr he⟩
/-- then every component has at most one vertex that a greatest matching leaves out -/
theorem csz_le (hg : Gr n fs) (H : ∀ e ∈ fs, (∃ N, MaxM fs N ∧ e.1 ∉ ends N) ∧ ∃ N, MaxM fs N ∧ e.2 ∉ ends N) {M : List Ed} (hM : MaxM fs M) (v : Nat) : csz n fs v ≤ 2 * M.countP (fun e => decide ((rootsOf n fs).getD e.1.toNat 0 = (v : Int))) + 1 := by
  rw [List.countP_eq_length_filter, ← ends_length]
  by_cases hle : csz n fs v ≤ (ends (M.filter fun e => decide ((rootsOf n fs).getD e.1.toNat 0 = (v : Int)))).length + 1
  · exact hle
  exfalso
  have hnd : (partOf (rootsOf n fs) (v : Int) n).Nodup := by
    unfold partOf
    rw [List.Nodup, List.pairwise_map]
    exact (List.nodup_range.sublist List.filter_sublist).imp fun {a b} hab (he : (Int.ofNat a) = Int.ofNat b) => hab (Int.ofNat.inj he)
  have hroot : ∀ x ∈ partOf (rootsOf n fs) (v : Int) n, 0 ≤ x ∧ x < (n : Int) ∧ (rootsOf n fs).getD x.toNat 0 = (v : Int) := fun x hx => by
    obtain ⟨i, hi, rfl⟩ := List.mem_map.1 hx
    have h1 := List.mem_filter.1 hi
    have h2 := List.mem_range.1 h1.1
    refine ⟨Int.natCast_nonneg i, by show (i : Int) < n; omega, ?_⟩
    show (rootsOf n fs).getD ((i : Int).toNat) 0 = _
    rw [Int.toNat_natCast]; simpa using h1.2
  have hmiss : ∀ x ∈ partOf (rootsOf n fs) (v : Int) n, x ∉ ends (M.filter fun e => decide ((rootsOf n fs).getD e.1.toNat 0 = (v : Int))) → x ∉ ends M := fun x hx hnx hxm => by
    obtain ⟨e, he, hxe⟩ := mem_ends hxm
    have h1 := hg.inr e (hM.sub e he)
    have h2 := hroot x hx
    have h3 : (rootsOf n fs).getD e.1.toNat 0 = (rootsOf n fs).getD e.2.toNat 0 := (roots_iff hg (i := e.1.toNat) (j := e.2.toNat) (by omega) (by omega)).2 (by
      rw [Int.toNat_of_nonneg h1.1, Int.toNat_of_nonneg (by omega)]; exact .fwd (hM.sub e he) (.refl _))
    have h4 : e ∈ M.filter fun e => decide ((rootsOf n fs).getD e.1.toNat 0 = (v : Int)) := List.mem_filter.2 ⟨he, decide_eq_true (by
      rcases hxe with h5 | h5
      · rw [← h5]; exact h2.2.2
      · rw [h3, ← h5]; exact h2.2.2)⟩
    have h5 := ends_mem h4
    rcases hxe with h6 | h6
    · exact hnx (h6 ▸ h5.1)
    · exact hnx (h6 ▸ h5.2)
  have h1 : ∃ x ∈ partOf (rootsOf n fs) (v : Int) n, x ∉ ends (M.filter fun e => decide ((rootsOf n fs).getD e.1.toNat 0 = (v : Int))) := by
    by_cases h : ∃ x ∈ partOf (rootsOf n fs) (v : Int) n, x ∉ ends (M.filter fun e => decide ((rootsOf n fs).getD e.1.toNat 0 = (v : Int)))
    · exact h
    · have := nodup_len hnd (b := ends (M.filter fun e => decide ((rootsOf n fs).getD e.1.toNat 0 = (v : Int)))) (fun x hx => by
        by_cases h2 : x ∈ ends (M.filter fun e => decide ((rootsOf n fs).getD e.1.toNat 0 = (v : Int)))
        · exact h2
        · exact absurd ⟨x, hx, h2⟩ h)
      unfold csz at hle; omega
  obtain ⟨x, hx, hxn⟩ := h1
  have h2 : ∃ y ∈ partOf (rootsOf n fs) (v : Int) n, y ≠ x ∧ y ∉ ends (M.filter fun e => decide ((rootsOf n fs).getD e.1.toNat 0 = (v : Int))) := by
    by_cases h : ∃ y ∈ partOf (rootsOf n fs) (v : Int) n, y ≠ x ∧ y ∉ ends (M.filter fun e => decide ((rootsOf n fs).getD e.1.toNat 0 = (v : Int)))
    · exact h
    · have := nodup_len hnd (b := x :: ends (M.filter fun e => decide ((rootsOf n fs).getD e.1.toNat 0 = (v : Int)))) (fun y hy => by
        by_cases hyx : y = x
        · subst hyx; exact List.mem_cons_self
        · by_cases h2 : y ∈ ends (M.filter fun e => decide ((rootsOf n fs).getD e.1.toNat 0 = (v : Int)))
          · exact List.mem_cons_of_mem _ h2
          · exact absurd ⟨y, hy, hyx, h2⟩ h)
      rw [List.length_cons] at this
      unfold csz at hle; omega
  obtain ⟨y, hy, hyx, hyn⟩ := h2
  have rx := hroot x hx
  have ry := hroot y hy
  have hc := (roots_iff hg (i := x.toNat) (j := y.toNat) (by omega) (by omega)).1 (rx.2.2.trans ry.2.2.symm)
  rw [Int.toNat_of_nonneg rx.1, Int.toNat_of_nonneg ry.1] at hc
  obtain ⟨k, hk⟩ := cn_path hc
  exact hyx (gallai hg H k hM hk (hmiss x hx hxn) (hmiss y hy hyn)).symm
end
/-! ### the formula -/
def pset (n : Nat) (p : Int → Bool) : List Int := (ids n).filter p
theorem pset_mem {n : Nat} {p : Int → Bool} {x : Int} : x ∈ pset n p ↔ 0 ≤ x ∧ x < (n : Int) ∧ p x = true := by
  unfold pset
  rw [List.mem_filter]
  constructor
  · rintro ⟨h1, h2⟩
    obtain ⟨i, hi, rfl⟩ := List.mem_map.1 h1
    have := List.mem_range.1 hi
    exact ⟨Int.natCast_nonneg i, by show (i : Int) < n; omega, h2⟩
  · rintro ⟨h1, h2, h3⟩
    exact ⟨List.mem_map.2 ⟨x.toNat, List.mem_range.2 (by omega), by show ((x.toNat : Nat) : Int) = x; omega⟩, h3⟩
theorem pset_sorted (n : Nat) (p : Int → Bool) : (pset n p).Pairwise (· < ·) := by
  unfold pset
  refine List.Pairwise.sublist List.filter_sublist ?_
  unfold ids
  rw [List.pairwise_map]
  exact List.pairwise_lt_range.imp fun {a b} h => by show (a : Int) < b; omega
theorem setP_of {n : Nat} {s : List Int} (h1 : s.Pairwise (· < ·)) (h2 : ∀ x ∈ s, 0 ≤ x ∧ x < (n : Int)) : SetP ((n : Int) - 1) s := fun i hi => by
  have h3 := h2 _ (getD_mem (xs := s) (k := i) 0 hi)
  refine ⟨h3.1, by omega, fun h0 => ?_⟩
  have h4 := List.pairwise_iff_getElem.1 h1 (i - 1) i (by omega) hi (by omega)
  rw [List.getD_eq_getElem?_getD, List.getD_eq_getElem?_getD, List.getElem?_eq_getElem hi, List.getElem?_eq_getElem (show i - 1 < s.length by omega)]
  exact h4
theorem pset_setP (n : Nat) (p : Int → Bool) : SetP ((n : Int) - 1) (pset n p) := setP_of (pset_sorted n p) fun x hx => by have := pset_mem.1 hx; omega
theorem pset_add {n : Nat} {p : Int → Bool} {v : Int} (hv : 0 ≤ v ∧ v < (n : Int)) (hp : p v = false) : (pset n fun x => p x || decide (x = v)).length = (pset n p).length + 1 := by
  have h1 := setN_sum (pset_setP n p)
  have h2 := setN_sum (pset_setP n fun x => p x || decide (x = v))
  have h3 := sumN_one v n
  rw [if_pos hv] at h3
  have key : sumN (fun u => if (u : Int) ∈ (pset n fun x => p x || decide (x = v)) then 1 else 0) n = sumN (fun u => (if (u : Int) ∈ pset n p then 1 else 0) + (if v = (u : Int) then 1 else 0)) n := by
    refine sumN_congr fun u hu => ?_
    by_cases huv : (u : Int) = v
    · rw [if_pos (pset_mem.2 ⟨by omega, by omega, by rw [decide_eq_true huv, Bool.or_true]⟩), if_neg (fun h => by have := (pset_mem.1 h).2.2; rw [huv, hp] at this; cases this), if_pos huv.symm]; try rfl
    · rw [if_neg (fun h : v = (u : Int) => huv h.symm)]
      by_cases hp2 : p (u : Int) = true
      · rw [if_pos (pset_mem.2 ⟨by omega, by omega, by rw [hp2]; rfl⟩), if_pos (pset_mem.2 ⟨by omega, by omega, hp2⟩)]; try rfl
      · rw [if_neg (fun h => by have := (pset_mem.1 h).2.2; rw [decide_eq_false huv, Bool.or_false] at this; exact hp2 this), if_neg (fun h => hp2 (pset_mem.1 h).2.2)]
  rw [sumN_add, h3, h1, h2] at key
  exact key
theorem woE_mem {s : List Int} {es : List Ed} {e : Ed} : e ∈ woE s es ↔ e ∈ es ∧ e.1 ∉ s ∧ e.2 ∉ s := by
  unfold woE
  rw [List.mem_filter, Bool.not_eq_true']
  unfold touch
  rw [Bool.or_eq_false_iff, decide_eq_false_iff_not, decide_eq_false_iff_not]
/-- Berge's formula: some set reaches the bound -/
theorem berge {n : Nat} {es : List Ed} (hg : Gr n es) : ∀ d : Nat, ∀ p : Int → Bool, n ≤ (pset n p).length + d → ∃ q : Int → Bool, oddP n es (pset n q) - (pset n q).length = (n : Int) - 2 * (pset n p).length - 2 * (mm (woE (pset n p) es) : Int) := by
  intro d
  induction d with
  | zero =>
    intro p hd
    refine ⟨p, ?_⟩
    have hg2 := hg.wo (pset n p)
    have hall : ∀ u : Nat, u < n → (u : Int) ∈ pset n p := fun u hu => by
      by_cases h : (u : Int) ∈ pset n p
      · exact h
      · exfalso
        have hp : p (u : Int) = false := by
          rcases hq : p (u : Int) with _ | _
          · rfl
          · exact absurd (pset_mem.2 ⟨by omega, by omega, hq⟩) h
        have h1 := pset_add (n := n) (p := p) (v := (u : Int)) ⟨by omega, by omega⟩ hp
        have h2 : (pset n fun x => p x || decide (x = (u : Int))).length ≤ n := by
          unfold pset; exact Nat.le_trans (List.length_filter_le _ _) (by rw [ids_length]; exact Nat.le_refl _)
        omega
    have h0 : woE (pset n p) es = [] := List.eq_nil_iff_forall_not_mem.2 fun e he => by
      have h1 := woE_mem.1 he
      have h2 := hg.inr e h1.1
      exact h1.2.1 (by have := hall e.1.toNat (by omega); rwa [Int.toNat_of_nonneg h2.1] at this)
    have h1 := odd_all hg (pset_setP n p)
    have h2 : sumN (fun v => if csz n (woE (pset n p) es) v % 2 = 1 then 1 else 0) n = n := by
      rw [sumN_congr (g := fun v => if (v : Int) ∈ pset n p then 1 else 0) fun v hv => by rw [csz_set hg hv (hall v hv), if_pos (by decide), if_pos (hall v hv)], setN_sum (pset_setP n p)]
      have := (pset n p).length
      have h3 : (pset n p).length ≤ n := by
        unfold pset; exact Nat.le_trans (List.length_filter_le _ _) (by rw [ids_length]; exact Nat.le_refl _)
      omega
    have h3 : (pset n p).length ≤ n := by
      unfold pset; exact Nat.le_trans (List.length_filter_le _ _) (by rw [ids_length]; exact Nat.le_refl _)
    rw [h0, mm_nil]; rw [h2] at h1; omega
  | succ d ih =>
    intro p hd
    have hg2 := hg.wo (pset n p)
    by_cases hc : ∃ v : Int, (0 ≤ v ∧ v < (n : Int)) ∧ p v = false ∧ ∀ N, MaxM (woE (pset n p) es) N → v ∈ ends N
    · obtain ⟨v, hv, hpv, hcov⟩ := hc
      have hlen := pset_add hv hpv
      obtain ⟨q, hq⟩ := ih (fun x => p x || decide (x = v)) (by rw [hlen]; omega)
      refine ⟨q, ?_⟩
      rw [hq, hlen]
      have hsub : ∀ e, e ∈ woE (pset n fun x => p x || decide (x = v)) es ↔ e ∈ woE (pset n p) es ∧ e.1 ≠ v ∧ e.2 ≠ v := fun e => by
        rw [woE_mem, woE_mem]
        have hm : ∀ x : Int, x ∈ (pset n fun x => p x || decide (x = v)) ↔ x ∈ pset n p ∨ x = v := fun x => by
          rw [pset_mem, pset_mem, Bool.or_eq_true, decide_eq_true_eq]
          constructor
          · rintro ⟨h1, h2, h3 | h3⟩
            · exact .inl ⟨h1, h2, h3⟩
            · exact .inr h3
          · rintro (⟨h1, h2, h3⟩ | h3)
            · exact ⟨h1, h2, .inl h3⟩
            · subst h3; exact ⟨hv.1, hv.2, .inr rfl⟩
        rw [hm, hm]
        constructor
        · rintro ⟨h1, h2, h3⟩; exact ⟨⟨h1, fun h => h2 (.inl h), fun h => h3 (.inl h)⟩, fun h => h2 (.inr h), fun h => h3 (.inr h)⟩
        · rintro ⟨⟨h1, h2, h3⟩, h4, h5⟩; exact ⟨h1, fun h => h.elim h2 h4, fun h => h.elim h3 h5⟩
      -- one less
      have e1 : mm (woE (pset n fun x => p x || decide (x = v)) es) + 1 ≤ mm (woE (pset n p) es) := by
        obtain ⟨M, hM⟩ := maxM_ex (woE (pset n fun x => p x || decide (x = v)) es)
        have hle := mm_max (woE (pset n p) es) hM.mat fun e he => ((hsub e).1 (hM.sub e he)).1
        rw [hM.len] at hle
        rcases Nat.lt_or_eq_of_le hle with h | h
        · exact h
        · exfalso
          have := hcov M ⟨hM.mat, fun e he => ((hsub e).1 (hM.sub e he)).1, hM.len.trans h⟩
          obtain ⟨e, he, hve⟩ := mem_ends this
          have h9 := ((hsub e).1 (hM.sub e he)).2
          rcases hve with h8 | h8
          · exact h9.1 h8.symm
          · exact h9.2 h8.symm
      have e2 : mm (woE (pset n p) es) ≤ mm (woE (pset n fun x => p x || decide (x = v)) es) + 1 := by
        obtain ⟨M, hM⟩ := maxM_ex (woE (pset n p) es)
        have h1 := touch_len (s := [v]) hM.mat
        have h2 := mm_max (woE (pset n fun x => p x || decide (x = v)) es) (M := M.filter fun e => !touch [v] e) (hM.mat.sublist List.filter_sublist) fun e he => by
          have h3 := List.mem_filter.1 he
          refine (hsub e).2 ⟨hM.sub e h3.1, ?_⟩
          have h4 := h3.2
          rw [Bool.not_eq_true'] at h4
          unfold touch at h4
          rw [Bool.or_eq_false_iff, decide_eq_false_iff_not, decide_eq_false_iff_not] at h4
          exact ⟨fun h => h4.1 (by rw [h]; simp), fun h => h4.2 (by rw [h]; simp)⟩
        have h3 : M.length = (M.filter (touch [v])).length + (M.filter fun e => !touch [v] e).length := by
          have := List.length_eq_countP_add_countP (touch [v]) (l := M)
          rw [List.countP_eq_length_filter, List.countP_eq_length_filter] at this
          rw [this]
          congr 2
          exact List.filter_congr fun e _ => by simp
        rw [hM.len] at h3
        simp only [List.length_cons, List.length_nil] at h1
        omega
      omega
    · refine ⟨p, ?_⟩
      have H : ∀ v : Int, 0 ≤ v → v < (n : Int) → p v = false → ∃ N, MaxM (woE (pset n p) es) N ∧ v ∉ ends N := fun v h1 h2 h3 => by
        by_cases h : ∃ N, MaxM (woE (pset n p) es) N ∧ v ∉ ends N
        · exact h
        · exact absurd ⟨v, ⟨h1, h2⟩, h3, fun N hN => by
            by_cases h4 : v ∈ ends N
            · exact h4
            · exact absurd ⟨N, hN, h4⟩ h⟩ hc
      have H2 : ∀ e ∈ woE (pset n p) es, (∃ N, MaxM (woE (pset n p) es) N ∧ e.1 ∉ ends N) ∧ ∃ N, MaxM (woE (pset n p) es) N ∧ e.2 ∉ ends N := fun e he => by
        have h1 := woE_mem.1 he
        have h2 := hg.inr e h1.1
        have hpf : ∀ x : Int, 0 ≤ x → x < (n : Int) → x ∉ pset n p → p x = false := fun x h3 h4 h5 => by
          rcases hq : p x with _ | _
          · rfl
          · exact absurd (pset_mem.2 ⟨h3, h4, hq⟩) h5
        exact ⟨H e.1 h2.1 (by omega) (hpf _ h2.1 (by omega) h1.2.1), H e.2 (by omega) h2.2.2 (hpf _ (by omega) h2.2.2 h1.2.2)⟩
      obtain ⟨M, hM⟩ := maxM_ex (woE (pset n p) es)
      have h1 := odd_all hg (pset_setP n p)
      have h3 := sumN_count (fun e : Ed => (rootsOf n (woE (pset n p) es)).getD e.1.toNat 0) n M (fun e he => by
        have h9 := hg2.inr e (hM.sub e he)
        have h8 := roots_range hg2 (j := e.1.toNat) (by omega)
        omega)
      have h4 : sumN (csz n (woE (pset n p) es)) n = sumN (fun v => 2 * M.countP (fun e => decide ((rootsOf n (woE (pset n p) es)).getD e.1.toNat 0 = (v : Int))) + (if csz n (woE (pset n p) es) v % 2 = 1 then 1 else 0)) n := sumN_congr fun v _ => by
        have h9 := in_comp hg2 hM.mat hM.sub v
        have h8 := csz_le hg2 H2 hM v
        by_cases hcz : csz n (woE (pset n p) es) v % 2 = 1
        · rw [if_pos hcz]; omega
        · rw [if_neg hcz]; omega
      rw [csz_sum hg2, sumN_add] at h4
      have h5 : sumN (fun v => 2 * M.countP (fun e => decide ((rootsOf n (woE (pset n p) es)).getD e.1.toNat 0 = (v : Int)))) n = 2 * M.length := by
        rw [← h3]
        have : ∀ (f : Nat → Nat) (k : Nat), sumN (fun v => 2 * f v) k = 2 * sumN f k := fun f k => by
          induction k with
          | zero => rfl
          | succ k ih => simp only [sumN]; rw [ih]; omega
        exact this _ n
      rw [h5, hM.len] at h4
      omega
/-! ### the barrier reaches it -/
theorem rest_mem (p : Int → Bool) : ∀ (d : Nat) (h : List Int) (f : Nat), h ++ ((List.range' f d).map Int.ofNat).filter p ∈ h :: restV d h f
  | 0, h, f => by simp [restV]
  | d + 1, h, f => by
    rw [List.range'_succ, List.map_cons, List.filter_cons, restV]
    by_cases hp : p (Int.ofNat f) = true
    · rw [if_pos hp]
      have h1 := rest_mem p d (h ++ [(f : Int)]) (f + 1)
      rw [List.append_assoc] at h1
      exact List.mem_cons_of_mem _ (List.mem_append_left _ h1)
    · rw [if_neg hp]
      rcases List.mem_cons.1 (rest_mem p d h (f + 1)) with h1 | h1
      · rw [h1]; exact List.mem_cons_self
      · exact List.mem_cons_of_mem _ (List.mem_append_right _ h1)
theorem pset_sets (n : Nat) (p : Int → Bool) : pset n p ∈ setsV n := by
  have h := rest_mem p n [] 0
  rw [List.nil_append, ← List.range_eq_range'] at h
  exact h
theorem sets_setP : ∀ m, m ≤ 7 → ∀ s ∈ setsV m, SetP ((m : Int) - 1) s := by
  have h : (List.range 8).all (fun n => (setsV n).all fun s => decide (SetP ((n : Int) - 1) s)) = true := by decide +kernel
  intro m hm s hs
  have h2 := (List.all_eq_true.1 h) m (List.mem_range.2 (by omega))
  exact of_decide_eq_true ((List.all_eq_true.1 h2) s hs)
theorem bar_best {m : Nat} (hm : m ≤ 7) (es : List Ed) : barTo m es (2 ^ m - 1) ∈ setsV m ∧ ∀ s ∈ setsV m, scoreV m es s ≤ scoreV m es (barTo m es (2 ^ m - 1)) := by
  have h1 := bar_same hm es
  have h2 : bestS (scoreV m es) [] (setsV m) = bestI (scoreV m es) [] (restV m [] 0) := by
    have e0 : bestS (scoreV m es) [] (setsV m) = bestS (scoreV m es) [] (restV m [] 0) := by
      show bestS _ (stepS (scoreV m es) [] []) (restV m [] 0) = _
      unfold stepS; rw [if_neg (by omega)]
    rw [e0, best_sorted _ _ _ (sortOK_pw (sets_all m hm).2)]
  have h3 := bestI_spec (scoreV m es) (restV m [] 0) []
  rw [← h2, h1] at h3
  refine ⟨h3.1, fun s hs => ?_⟩
  have h4 := h3.2 s hs
  have h5 : ¬ better (scoreV m es) s (barTo m es (2 ^ m - 1)) = true := by rw [h4]; decide
  rw [better_iff] at h5
  have : ¬ scoreV m es (barTo m es (2 ^ m - 1)) < scoreV m es s := fun h => h5 (.inl h)
  omega
theorem woE_nil (es : List Ed) : woE [] es = es := List.filter_eq_self.2 fun e _ => by simp [touch]
theorem barV_def {N : Int} {es : List Ed} (h : ValidG N es) : SetP (N - 1) (barV N es) ∧ oddV N es (barV N es) - (barV N es).length = defV N es := by
  have h0 := h.2
  obtain ⟨m, rfl⟩ := Int.eq_ofNat_of_zero_le h0.1
  have hg := h.gr
  have hb : barV ((m : Nat) : Int) es = barTo m es (2 ^ m - 1) := (if_pos h).trans (by rw [Int.toNat_natCast])
  rw [Int.toNat_natCast] at hg
  rw [hb]
  have h1 := bar_best (m := m) (by omega) es
  have h2 := sets_setP m (by omega) _ h1.1
  refine ⟨h2, ?_⟩
  have hn0 : pset m (fun _ => false) = [] := by unfold pset; simp
  obtain ⟨q, hq⟩ := berge hg m (fun _ => false) (by omega)
  rw [hn0, woE_nil] at hq
  have h3 := h1.2 _ (pset_sets m q)
  have h4 := odd_def (es := es) ⟨h, h2⟩
  have h5 : defV ((m : Nat) : Int) es = (m : Int) - 2 * (mm es : Int) := if_pos h
  have h6 : oddV ((m : Nat) : Int) es (barTo m es (2 ^ m - 1)) = oddP m es (barTo m es (2 ^ m - 1)) := (if_pos ⟨h, h2⟩).trans (by rw [Int.toNat_natCast])
  rw [Int.toNat_natCast] at h4
  unfold scoreV at h3
  simp only [List.length_nil] at hq
  omega
def AscP (xs : List Int) : Prop := ∀ i, i < xs.length → 1 ≤ i → xs.getD (i - 1) 0 < xs.getD i 0
instance (xs : List Int) : Decidable (AscP xs) := by unfold AscP; exact inferInstance
theorem SetP.asc {W : Int} {s : List Int} (h : SetP W s) : AscP s := fun i hi h1 => (h i hi).2.2 (by omega)
end Go.Plain
