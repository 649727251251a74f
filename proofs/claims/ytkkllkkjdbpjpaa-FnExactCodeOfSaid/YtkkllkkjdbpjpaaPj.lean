/- The code of a tree: each part of a tree has a leaf; taking leaves away. No program in sight. Conditions: those of each theorem. -/
import Derived.Test.YtkkllkkjdbpjpaaPn
import Derived.Test.YtkkllkkjdbpjpaaPx
namespace Go.Plain
/-! ### each part of a tree has a leaf -/
theorem count_ends {S : List Ed} (hS : ∀ e ∈ S, e.1 < e.2) (v : Nat) : (ends S).countP (fun x => decide (x = (v : Int))) = dcount S v := by
  induction S with
  | nil => rfl
  | cons e S ih =>
    have h1 := ih fun x hx => hS x (List.mem_cons_of_mem _ hx)
    have h2 := hS e (by simp)
    unfold dcount at h1 ⊢
    rw [ends, List.countP_cons, List.countP_cons, List.countP_cons, h1]
    by_cases c1 : e.1 = (v : Int)
    · have c2 : ¬ e.2 = (v : Int) := by omega
      simp [c1, c2]
    · by_cases c2 : e.2 = (v : Int)
      · simp [c1, c2]
      · have c3 : ¬ ((v : Int) = e.1 ∨ (v : Int) = e.2) := by omega
        simp [c1, c2, c3]
theorem two_each_of {V : List Int} : ∀ {L : List Int}, V.Nodup → (∀ v ∈ V, 2 ≤ L.countP (fun x => decide (x = v))) → 2 * V.length ≤ L.length := by
  induction V with
  | nil => intro L _ _; simp
  | cons v V ih =>
    intro L hn hc
    rw [List.nodup_cons] at hn
    have h1 := ih (L := L.filter fun x => !decide (x = v)) hn.2 fun u hu => by
      have h2 := hc u (List.mem_cons_of_mem _ hu)
      have hne : u ≠ v := fun e => by subst e; exact hn.1 hu
      rw [List.countP_filter]
      have : (fun x => decide (x = u) && !decide (x = v)) = fun x : Int => decide (x = u) := by
        funext x
        by_cases hx : x = u
        · subst hx; simp [hne]
        · simp [hx]
      rw [this]; exact h2
    have h2 := hc v (by simp)
    have h3 := List.length_eq_countP_add_countP (fun x => decide (x = v)) (l := L)
    have h4 : (L.filter fun x => !decide (x = v)).length = L.countP (fun x => !decide (x = v)) := (List.countP_eq_length_filter ..).symm
    have h5 : L.countP (fun x => !decide (x = v)) = L.countP (fun a => decide ¬(decide (a = v) = true)) := by
      congr 1; funext x; by_cases hx : x = v <;> simp [hx]
    rw [List.length_cons]; omega
theorem cross_edge {es : List Ed} {U : Int → Prop} {u w : Int} (h : Cn es u w) (hu : U u) (hw : ¬ U w) : ∃ e ∈ es, (U e.1 ∧ ¬ U e.2) ∨ (U e.2 ∧ ¬ U e.1) := by
  induction h with
  | refl => exact absurd hu hw
  | @fwd e he _ ih =>
    by_cases h1 : U e.1
    · exact ⟨e, he, .inl ⟨h1, hw⟩⟩
    · exact ih h1
  | @bwd e he _ ih =>
    by_cases h1 : U e.2
    · exact ⟨e, he, .inr ⟨h1, hw⟩⟩
    · exact ih h1
theorem grow_tree {n : Nat} {es : List Ed} (hg : Gr n es) (hc : ∀ i j : Int, 0 ≤ i → i < n → 0 ≤ j → j < n → Cn es i j) : ∀ (d : Nat) (U : List Int) (T : List Ed), U.length + d = n → U ≠ [] → U.Nodup → (∀ x ∈ U, 0 ≤ x ∧ x < (n : Int)) → T.Nodup → (∀ e ∈ T, e ∈ es ∧ e.1 ∈ U ∧ e.2 ∈ U) → U.length ≤ T.length → n ≤ es.length
  | 0, U, T, h1, _, _, _, h5, h6, h7 => by
    have := nodup_len h5 (fun e he => (h6 e he).1); omega
  | d + 1, U, T, h1, h2, h3, h4, h5, h6, h7 => by
    obtain ⟨u, hu⟩ := List.exists_mem_of_ne_nil _ h2
    have hw : ∃ w, w ∈ ids n ∧ w ∉ U := by
      by_cases h : ∃ w, w ∈ ids n ∧ w ∉ U
      · exact h
      · have h8 := nodup_len (a := ids n) (b := U) (ids_nodup n) fun x hx => by
          by_cases h9 : x ∈ U
          · exact h9
          · exact absurd ⟨x, hx, h9⟩ h
        rw [ids_length] at h8; omega
    obtain ⟨w, hw1, hw2⟩ := hw
    have hw3 := mem_ids.1 hw1
    have hu3 := h4 u hu
    obtain ⟨e, he, hcr⟩ := cross_edge (U := fun x => x ∈ U) (hc u w hu3.1 hu3.2 hw3.1 hw3.2) hu hw2
    have hr := hg.inr e he
    have hT : e ∉ T := fun h => hcr.elim (fun h8 => h8.2 (h6 e h).2.2) (fun h8 => h8.2 (h6 e h).2.1)
    obtain ⟨x, hx1, hx2, hx3, hx4⟩ : ∃ x, x ∉ U ∧ (0 ≤ x ∧ x < (n : Int)) ∧ (e.1 = x ∨ e.1 ∈ U) ∧ (e.2 = x ∨ e.2 ∈ U) := by
      rcases hcr with h8 | h8
      · exact ⟨e.2, h8.2, by omega, .inr h8.1, .inl rfl⟩
      · exact ⟨e.1, h8.2, by omega, .inl rfl, .inr h8.1⟩
    refine grow_tree hg hc d (x :: U) (e :: T) (by rw [List.length_cons]; omega) (by simp) (List.nodup_cons.2 ⟨hx1, h3⟩) ?_ (List.nodup_cons.2 ⟨hT, h5⟩) ?_ (by rw [List.length_cons, List.length_cons]; omega)
    · intro y hy
      rcases List.mem_cons.1 hy with rfl | hy
      · exact hx2
      · exact h4 y hy
    · intro f hf
      rcases List.mem_cons.1 hf with rfl | hf
      · exact ⟨he, List.mem_cons.2 hx3, List.mem_cons.2 hx4⟩
      · have := h6 f hf
        exact ⟨this.1, List.mem_cons_of_mem _ this.2.1, List.mem_cons_of_mem _ this.2.2⟩
def Leafy (n : Nat) (es : List Ed) : Prop := ∀ S : List Ed, S.Sublist es → S ≠ [] → ∃ v : Nat, v < n ∧ dcount S v = 1
theorem leafy_of {n : Nat} {es : List Ed} (hg : Gr n es) (hl : es.length < n) (hc : ∀ i j : Int, 0 ≤ i → i < n → 0 ≤ j → j < n → Cn es i j) : Leafy n es := by
  intro S hs h0
  by_cases h : ∃ v : Nat, v < n ∧ dcount S v = 1
  · exact h
  · exfalso
    have hS : ∀ e ∈ S, 0 ≤ e.1 ∧ e.1 < e.2 ∧ e.2 < (n : Int) := fun e he => hg.inr e (hs.subset he)
    have hin : ∀ e ∈ S, ∀ v : Nat, ((v : Int) = e.1 ∨ (v : Int) = e.2) → 0 < dcount S v := fun e he v hv => List.countP_pos_iff.2 ⟨e, he, decide_eq_true hv⟩
    have hm : ∀ e ∈ S, e.1 ∈ ((ids n).filter fun v => decide (0 < dcount S v.toNat)) ∧ e.2 ∈ ((ids n).filter fun v => decide (0 < dcount S v.toNat)) := fun e he => by
      have h1 := hS e he
      exact ⟨List.mem_filter.2 ⟨mem_ids.2 (by omega), decide_eq_true (hin e he _ (.inl (by omega)))⟩, List.mem_filter.2 ⟨mem_ids.2 (by omega), decide_eq_true (hin e he _ (.inr (by omega)))⟩⟩
    have h2 := two_each_of (V := (ids n).filter fun v => decide (0 < dcount S v.toNat)) (L := ends S) ((ids_nodup n).filter _) fun v hv => by
      rw [List.mem_filter, mem_ids] at hv
      have h3 := of_decide_eq_true hv.2
      have h4 := count_ends (S := S) (fun e he => (hS e he).2.1) v.toNat
      rw [Int.toNat_of_nonneg hv.1.1] at h4
      have h5 : dcount S v.toNat ≠ 1 := fun e => h ⟨v.toNat, by omega, e⟩
      omega
    rw [ends_length] at h2
    obtain ⟨e, he⟩ := List.exists_mem_of_ne_nil _ h0
    have h6 := nodup_len (a := (ids n).filter fun v => decide (0 < dcount S v.toNat)) (b := ids n) ((ids_nodup n).filter _) (fun x hx => (List.mem_filter.1 hx).1)
    rw [ids_length] at h6
    have := grow_tree hg hc (n - ((ids n).filter fun v => decide (0 < dcount S v.toNat)).length) ((ids n).filter fun v => decide (0 < dcount S v.toNat)) S (by omega) (fun e0 => by have := (hm e he).1; rw [e0] at this; cases this) ((ids_nodup n).filter _)
      (fun x hx => mem_ids.1 (List.mem_filter.1 hx).1) (hg.nodup.sublist hs) (fun f hf => ⟨hs.subset hf, hm f hf⟩) (by omega)
    omega
theorem one_conn {n : Nat} {es : List Ed} (hg : Gr n es) (h : (compsL n es).length = 1) (i j : Int) (hi : 0 ≤ i) (hi2 : i < n) (hj : 0 ≤ j) (hj2 : j < n) : Cn es i j := by
  have hroot : ∀ v : Nat, v < n → ((rootsOf n es).getD v 0).toNat ∈ (List.range n).filter fun (v : Nat) => decide ((rootsOf n es).getD v 0 = (v : Int)) := fun v hv => by
    have h1 := roots_range hg hv
    have h2 := roots_conn hg hv
    rw [List.mem_filter, List.mem_range]
    refine ⟨by omega, decide_eq_true ?_⟩
    have h3 := (roots_iff hg (i := v) (j := ((rootsOf n es).getD v 0).toNat) hv (by omega)).2 (by rw [Int.toNat_of_nonneg h1.1]; exact h2)
    rw [← h3]; omega
  have hl : ((List.range n).filter fun (v : Nat) => decide ((rootsOf n es).getD v 0 = (v : Int))).length = 1 := by
    have : (compsL n es).length = ((List.range n).filter fun (v : Nat) => decide ((rootsOf n es).getD v 0 = (v : Int))).length := by unfold compsL compsTo; rw [List.length_map]
    omega
  obtain ⟨r, hr⟩ := List.length_eq_one_iff.1 hl
  have h1 := hroot i.toNat (by omega)
  have h2 := hroot j.toNat (by omega)
  rw [hr, List.mem_singleton] at h1 h2
  have h3 := roots_range hg (j := i.toNat) (by omega)
  have h4 := roots_range hg (j := j.toNat) (by omega)
  have h5 := (roots_iff hg (i := i.toNat) (j := j.toNat) (by omega) (by omega)).1 (by omega)
  rwa [Int.toNat_of_nonneg hi, Int.toNat_of_nonneg hj] at h5
/-! ### taking a leaf away -/
def touchV (l : Int) (e : Ed) : Bool := decide (e.1 = l) || decide (e.2 = l)
def tcLeaf (n : Nat) (es : List Ed) : Int := idxF (fun x => decide (x = 1)) (degs n es)
def tcAt (n : Nat) (es : List Ed) : Int := idxF (touchV (tcLeaf n es)) es
def tcNb (n : Nat) (es : List Ed) : Int := (es.getD (tcAt n es).toNat (0, 0)).1 + (es.getD (tcAt n es).toNat (0, 0)).2 - tcLeaf n es
def tcCut (n : Nat) (es : List Ed) : List Ed := es.take (tcAt n es).toNat ++ es.drop ((tcAt n es).toNat + 1)
structure StepP (n : Nat) (es : List Ed) (v p : Nat) (u : Int) : Prop where
  leaf : tcLeaf n es = (v : Int)
  lt : v < n
  one : dcount es v = 1
  least : ∀ j, j < v → dcount es j ≠ 1
  at_ : tcAt n es = (p : Int)
  plt : p < es.length
  nb : tcNb n es = u
  nbr : 0 ≤ u ∧ u < (n : Int)
  has : ∀ q : Int, hasE es (v : Int) q ↔ q = u
  cut : tcCut n es = delE es (v : Int) u
  len : (tcCut n es).length + 1 = es.length
  zero : dcount (tcCut n es) v = 0
theorem only_one {α : Type} {p : α → Bool} {l : List α} (h : l.countP p = 1) {x y : α} (hx : x ∈ l) (hy : y ∈ l) (px : p x = true) (py : p y = true) : x = y := by
  rw [List.countP_eq_length_filter] at h
  obtain ⟨z, hz⟩ := List.length_eq_one_iff.1 h
  have h1 : x ∈ l.filter p := List.mem_filter.2 ⟨hx, px⟩
  have h2 : y ∈ l.filter p := List.mem_filter.2 ⟨hy, py⟩
  rw [hz, List.mem_singleton] at h1 h2
  rw [h1, h2]
theorem cut_filter {es : List Ed} (hn : es.Nodup) {p : Nat} (hp : p < es.length) : es.take p ++ es.drop (p + 1) = es.filter fun x => !decide (x = es.getD p (0, 0)) := by
  have e : es.getD p (0, 0) = es[p] := by simp [hp]
  have h1 : es.take p ++ es[p] :: es.drop (p + 1) = es := by rw [← List.drop_eq_getElem_cons hp, List.take_append_drop]
  have hn2 := hn
  rw [← h1, List.nodup_append] at hn2
  have hn3 := List.nodup_cons.1 hn2.2.1
  rw [e]
  clear e
  generalize es[p] = x at *
  conv => rhs; rw [← h1]
  rw [List.filter_append, List.filter_cons, if_neg (by simp)]
  congr 1
  · refine (List.filter_eq_self.2 fun y hy => ?_).symm
    have := hn2.2.2 y hy x (by simp)
    simpa using this
  · refine (List.filter_eq_self.2 fun y hy => ?_).symm
    have : y ≠ x := fun e => by subst e; exact hn3.1 hy
    simpa using this
theorem step_ok {n : Nat} {es : List Ed} (hg : Gr n es) (h : ∃ v : Nat, v < n ∧ dcount es v = 1) : ∃ v p u, StepP n es v p u := by
  obtain ⟨v0, hv0, h1⟩ := h
  rcases idxF_cases 0 (fun x => decide (x = 1)) (degs n es) with ⟨_, hno⟩ | ⟨v, hv, hvl, hvp, hvn⟩
  · have hm : (degs n es).getD v0 0 ∈ degs n es := getD_mem 0 (by rw [degs_length]; exact hv0)
    have := hno _ hm
    rw [degs_get hg.inr, h1] at this
    simp at this
  · rw [degs_length] at hvl
    have hone : dcount es v = 1 := by
      rw [degs_get hg.inr] at hvp
      have := of_decide_eq_true hvp; omega
    have hleast : ∀ j, j < v → dcount es j ≠ 1 := fun j hj e => by
      have hm : (degs n es).getD j 0 ∈ (degs n es).take v := by
        rw [List.mem_take_iff_getElem]
        exact ⟨j, by rw [degs_length]; omega, by simp [List.getD_eq_getElem?_getD, degs_length, show j < n by omega]⟩
      have := hvn _ hm
      rw [degs_get hg.inr, e] at this
      simp at this
    have hleaf : tcLeaf n es = (v : Int) := hv
    have htch : ∀ e : Ed, touchV (v : Int) e = decide ((v : Int) = e.1 ∨ (v : Int) = e.2) := fun e => by
      unfold touchV
      rw [Bool.eq_iff_iff]
      simp only [Bool.or_eq_true, decide_eq_true_eq]
      omega
    rcases idxF_cases (0, 0) (touchV (v : Int)) es with ⟨_, hno⟩ | ⟨p, hp, hpl, hpp, _⟩
    · exfalso
      have : dcount es v = 0 := List.countP_eq_zero.2 fun e he => by rw [← htch e, hno e he]; decide
      omega
    · have hat : tcAt n es = (p : Int) := by unfold tcAt; rw [hleaf]; exact hp
      have hem : es.getD p (0, 0) ∈ es := getD_mem _ hpl
      have her := hg.inr _ hem
      rw [htch] at hpp
      have hpe := of_decide_eq_true hpp
      have hu : tcNb n es = (es.getD p (0, 0)).1 + (es.getD p (0, 0)).2 - v := by unfold tcNb; rw [hat, hleaf, Int.toNat_natCast]
      have hedg : edg (v : Int) ((es.getD p (0, 0)).1 + (es.getD p (0, 0)).2 - v) = es.getD p (0, 0) := by
        unfold edg
        refine Prod.ext ?_ ?_ <;> dsimp only <;> omega
      have hcut : tcCut n es = delE es (v : Int) ((es.getD p (0, 0)).1 + (es.getD p (0, 0)).2 - v) := by
        unfold tcCut delE
        rw [hat, Int.toNat_natCast, hedg]; exact cut_filter hg.nodup hpl
      refine ⟨v, p, _, hleaf, hvl, hone, hleast, hat, hpl, hu, by omega, fun q => ?_, hcut, ?_, ?_⟩
      · constructor
        · rintro ⟨x, hx, hxe⟩
          have := only_one (p := fun e : Ed => decide ((v : Int) = e.1 ∨ (v : Int) = e.2)) hone hx hem (decide_eq_true (by omega)) (decide_eq_true hpe)
          rw [← this]; omega
        · rintro rfl
          exact ⟨_, hem, by omega⟩
      · unfold tcCut
        rw [hat, Int.toNat_natCast, List.length_append, List.length_take, List.length_drop]; omega
      · rw [hcut]
        refine List.countP_eq_zero.2 fun x hx => ?_
        rw [mem_delE, hedg] at hx
        intro h9
        exact hx.2 (only_one (p := fun e : Ed => decide ((v : Int) = e.1 ∨ (v : Int) = e.2)) hone hx.1 hem h9 (decide_eq_true hpe))
def tcTo (n : Nat) (es : List Ed) : Nat → List Ed
  | 0 => es
  | k + 1 => tcCut n (tcTo n es k)
def tcOut (n : Nat) (es : List Ed) : Nat → List Int
  | 0 => []
  | k + 1 => tcOut n es k ++ [tcNb n (tcTo n es k)]
def tcGone (n : Nat) (es : List Ed) : Nat → List Int
  | 0 => []
  | k + 1 => tcGone n es k ++ [tcLeaf n (tcTo n es k)]
theorem tcOut_length (n : Nat) (es : List Ed) : ∀ k, (tcOut n es k).length = k
  | 0 => rfl
  | k + 1 => by rw [tcOut, List.length_append, tcOut_length n es k]; rfl
theorem tcGone_length (n : Nat) (es : List Ed) : ∀ k, (tcGone n es k).length = k
  | 0 => rfl
  | k + 1 => by rw [tcGone, List.length_append, tcGone_length n es k]; rfl
structure SeqP (n : Nat) (es : List Ed) (k : Nat) : Prop where
  gr : Gr n (tcTo n es k)
  len : (tcTo n es k).length + k = es.length
  sub : (tcTo n es k).Sublist es
  gone : ∀ x ∈ tcGone n es k, dcount (tcTo n es k) x.toNat = 0
theorem dcount_sub {a b : List Ed} (h : a.Sublist b) (v : Nat) : dcount a v ≤ dcount b v := h.countP_le
theorem cut_sub (n : Nat) (es : List Ed) : (tcCut n es).Sublist es := by
  unfold tcCut
  conv => rhs; rw [← List.take_append_drop (tcAt n es).toNat es]
  refine (List.Sublist.refl _).append ?_
  rw [← List.drop_drop]
  exact List.drop_sublist _ _
theorem seq_step {n : Nat} {es : List Ed} (hL : Leafy n es) {k : Nat} (h : SeqP n es k) (hk : k < es.length) : ∃ v p u, StepP n (tcTo n es k) v p u :=
  step_ok h.gr (hL _ h.sub fun e => by have := h.len; rw [e] at this; simp at this; omega)
theorem seq_ok {n : Nat} {es : List Ed} (hg : Gr n es) (hL : Leafy n es) : ∀ k, k ≤ es.length → SeqP n es k
  | 0, _ => ⟨hg, rfl, .refl _, fun _ h => (by cases h)⟩
  | k + 1, hk => by
    have ih := seq_ok hg hL k (by omega)
    obtain ⟨v, p, u, hs⟩ := seq_step hL ih (by omega)
    have e : tcTo n es (k + 1) = tcCut n (tcTo n es k) := rfl
    have hsub := cut_sub n (tcTo n es k)
    refine ⟨?_, ?_, ?_, ?_⟩
    · rw [e, hs.cut]; exact delE_gr ih.gr _ _
    · have h1 := hs.len; have h2 := ih.len; rw [e]; omega
    · rw [e]; exact hsub.trans ih.sub
    · intro x hx
      rw [e]
      rcases List.mem_append.1 (show x ∈ tcGone n es k ++ [tcLeaf n (tcTo n es k)] from hx) with h | h
      · have h1 := ih.gone x h
        have h2 := dcount_sub hsub x.toNat
        omega
      · rw [List.mem_singleton] at h
        rw [h, hs.leaf, Int.toNat_natCast]; exact hs.zero
theorem leaf_new {n : Nat} {es : List Ed} {k v p : Nat} {u : Int} (h : SeqP n es k) (hs : StepP n (tcTo n es k) v p u) : (v : Int) ∉ tcGone n es k := fun hm => by
  have h1 := h.gone _ hm
  have h2 := hs.one
  rw [Int.toNat_natCast] at h1; omega
/-- a tree of at least two vertices -/
def IsTreeP (N : Int) (es : List Ed) : Prop := ValidG N es ∧ 2 ≤ N ∧ (es.length : Int) = N - 1 ∧ (compsL N.toNat es).length = 1
instance (N : Int) (es : List Ed) : Decidable (IsTreeP N es) := by unfold IsTreeP; infer_instance
/-- the code of a tree, and nothing for other graphs -/
def codeP (N : Int) (es : List Ed) : List Int × Bool := if IsTreeP N es then (tcOut N.toNat es (N.toNat - 2), true) else ([], false)
theorem IsTreeP.leafy {n : Nat} {es : List Ed} (h : IsTreeP (n : Int) es) : Leafy n es := by
  obtain ⟨h1, h2, h3, h4⟩ := h
  have hg : Gr n es := by have h9 := h1.gr; rwa [Int.toNat_natCast] at h9
  rw [Int.toNat_natCast] at h4
  exact leafy_of hg (by omega) (one_conn hg h4)
theorem codeP_len (N : Int) (es : List Ed) : (codeP N es).1.length ≤ 5 := by
  unfold codeP
  split
  · rename_i h; have := h.1.2.2; dsimp only; rw [tcOut_length]; omega
  · simp
theorem StepP.at2 {n : Nat} {es : List Ed} {v p : Nat} {u : Int} (h : StepP n es v p u) : idxF (touchV (v : Int)) es = (p : Int) := by
  have h2 := h.at_; unfold tcAt at h2; rwa [h.leaf] at h2
theorem tcTo_succ (n : Nat) (es : List Ed) (k : Nat) : tcTo n es (k + 1) = tcCut n (tcTo n es k) := rfl
theorem tcOut_succ {n : Nat} {es : List Ed} {k : Nat} {v p : Nat} {u : Int} (h : StepP n (tcTo n es k) v p u) : tcOut n es (k + 1) = tcOut n es k ++ [u] := by rw [tcOut, h.nb]
theorem tcGone_succ {n : Nat} {es : List Ed} {k : Nat} {v p : Nat} {u : Int} (h : StepP n (tcTo n es k) v p u) : tcGone n es (k + 1) = tcGone n es k ++ [(v : Int)] := by rw [tcGone, h.leaf]
theorem StepP.next {n : Nat} {es : List Ed} {k : Nat} {v p : Nat} {u : Int} (h : StepP n (tcTo n es k) v p u) : tcTo n es (k + 1) = delE (tcTo n es k) (v : Int) u := by rw [tcTo, h.cut]
theorem StepP.nbX {n : Nat} {es : List Ed} {v p : Nat} {u : Int} (h : StepP n es v p u) : (es.getD p (0, 0)).1 + (es.getD p (0, 0)).2 - v = u := by
  have h2 := h.nb; unfold tcNb at h2; rwa [h.at_, h.leaf, Int.toNat_natCast] at h2
theorem degs_leaf {n : Nat} {es : List Ed} {v p : Nat} {u : Int} (hg : Gr n es) (h : StepP n es v p u) {q : Nat} (hq : q ≤ v) (h1 : (degs n es).getD q 0 = 1) : q = v := by
  rw [degs_get hg.inr] at h1
  by_cases e : q = v
  · exact e
  · exact absurd (by omega) (h.least q (by omega))
theorem degs_leaf' {n : Nat} {es : List Ed} {v p : Nat} {u : Int} (hg : Gr n es) (h : StepP n es v p u) {q : Nat} (h1 : ¬ (degs n es).getD q 0 = 1) : q ≠ v := fun e => by
  subst e; rw [degs_get hg.inr, h.one] at h1; exact h1 rfl
/-- the last but one place of a list left out, as the library leaves it out -/
def delX (xs : List Ed) (i : Nat) : List Ed := (xs.take i ++ xs.drop (i + 1)) ++ [(0, 0)]
theorem delX_length {xs : List Ed} {i : Nat} (h : i < xs.length) : (delX xs i).length = xs.length := by simp only [delX, List.length_append, List.length_take, List.length_drop, List.length_cons, List.length_nil]; omega
theorem clear_lastX {xs : List Ed} {i l k : Nat} (hi : i < xs.length) (hl : l = xs.length - 1) (hk : k = 1) :
    (xs.take i ++ xs.drop (i + 1) ++ xs.drop (xs.length - 1)).take l ++ List.replicate k (0, 0) ++ (xs.take i ++ xs.drop (i + 1) ++ xs.drop (xs.length - 1)).drop (l + (List.replicate k ((0, 0) : Ed)).length) = (xs.take i ++ xs.drop (i + 1)) ++ [(0, 0)] := by
  subst hl hk
  have e1 : (xs.take i ++ xs.drop (i + 1)).length = xs.length - 1 := by simp; omega
  have e2 : (xs.drop (xs.length - 1)).length = 1 := by simp; omega
  generalize xs.take i ++ xs.drop (i + 1) = u at *
  generalize xs.drop (xs.length - 1) = t at *
  have h1 : (u ++ t).take (xs.length - 1) = u := by rw [List.take_append_of_le_length (by omega), List.take_of_length_le (by omega)]
  have h2 : (u ++ t).drop (xs.length - 1 + (List.replicate 1 ((0, 0) : Ed)).length) = [] := List.drop_of_length_le (by rw [List.length_append]; simp; omega)
  rw [h1, h2]; simp
theorem delX_take {n : Nat} {es : List Ed} {v p : Nat} {u : Int} (h : StepP n es v p u) : (delX es p).take (es.length - 1) = tcCut n es := by
  have hp := h.plt
  unfold delX tcCut
  rw [h.at_, Int.toNat_natCast, List.take_left' (by rw [List.length_append, List.length_take, List.length_drop]; omega)]
theorem StepP.nextX {n : Nat} {es : List Ed} {k : Nat} {v p : Nat} {u : Int} (h : StepP n (tcTo n es k) v p u) : tcTo n es (k + 1) = (delX (tcTo n es k) p).take ((tcTo n es k).length - 1) := by rw [tcTo, delX_take h]
end Go.Plain
