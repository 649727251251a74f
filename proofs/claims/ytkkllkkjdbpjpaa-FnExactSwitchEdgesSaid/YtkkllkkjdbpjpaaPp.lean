/- Pairs of degrees: how many edges there are for each two; counted in a map and sorted, or looked for one after the other. No program in sight. Conditions: those of each theorem. -/
import Derived.Test.YtkkllkkjdbpjpaaPq
import Derived.Test.YtkkllkkjdbpjpaaSp
namespace Go.Plain
open Go.Sx (Jt hitI valI putI hitI_le hitI_get valI_none putI_set putI_push)

theorem snoc_ind {α : Type} {p : List α → Prop} (h0 : p []) (h1 : ∀ l a, p l → p (l ++ [a])) (l : List α) : p l := by
  have key : ∀ l : List α, p l.reverse := by
    intro l
    induction l with
    | nil => exact h0
    | cons a l ih => rw [List.reverse_cons]; exact h1 _ _ ih
  have := key l.reverse
  rwa [List.reverse_reverse] at this
theorem take_snoc {α : Type} (z : α) {l : List α} {k : Nat} (h : k < l.length) : l.take (k + 1) = l.take k ++ [l.getD k z] := by
  rw [List.take_succ_eq_append_getElem h]; simp [h]
/-! ### a map that counts -/
def bump (L : List Jt) (p : Ed) : List Jt := putI L p.1 p.2 (valI L p.1 p.2 + 1)
def mapK (K : List Ed) : List Jt := K.foldl bump []
theorem mapK_snoc (K : List Ed) (p : Ed) : mapK (K ++ [p]) = bump (mapK K) p := by unfold mapK; rw [List.foldl_append]; rfl
theorem valI_put (L : List Jt) (a b v a' b' : Int) : valI (putI L a b v) a' b' = if a = a' ∧ b = b' then v else valI L a' b' := by
  induction L with
  | nil => simp [putI, valI]
  | cons p L ih =>
    unfold putI
    by_cases hp : p.1 = a ∧ p.2.1 = b
    · rw [if_pos hp]
      unfold valI
      by_cases h : a = a' ∧ b = b'
      · simp [h]
      · have : ¬ (p.1 = a' ∧ p.2.1 = b') := by rw [hp.1, hp.2]; exact h
        simp only [h, this, if_false]
    · rw [if_neg hp]
      unfold valI
      by_cases h : p.1 = a' ∧ p.2.1 = b'
      · rw [if_pos h, if_pos h, if_neg (fun e => hp (by rw [e.1, e.2]; exact h))]
      · rw [if_neg h, if_neg h, ih]
theorem keys_put (L : List Jt) (a b v : Int) : (putI L a b v).map (fun x => ((x.1, x.2.1) : Ed)) = if hitI L a b < L.length then L.map (fun x => ((x.1, x.2.1) : Ed)) else L.map (fun x => ((x.1, x.2.1) : Ed)) ++ [(a, b)] := by
  induction L with
  | nil => simp [putI, hitI]
  | cons p L ih =>
    unfold putI hitI
    by_cases hp : p.1 = a ∧ p.2.1 = b
    · simp [hp]
    · simp only [hp, if_false, List.map_cons, List.length_cons, Nat.add_lt_add_iff_right, ih]
      split <;> rfl
theorem hit_mem {L : List Jt} {a b : Int} : hitI L a b < L.length ↔ ((a, b) : Ed) ∈ L.map (fun x => ((x.1, x.2.1) : Ed)) := by
  induction L with
  | nil => simp [hitI]
  | cons p L ih =>
    unfold hitI
    by_cases hp : p.1 = a ∧ p.2.1 = b
    · simp [hp]
    · simp only [hp, if_false, List.length_cons, Nat.add_lt_add_iff_right, ih, List.map_cons, List.mem_cons]
      constructor
      · exact .inr
      · rintro (h | h)
        · exact absurd ⟨(congrArg Prod.fst h).symm, (congrArg Prod.snd h).symm⟩ hp
        · exact h
theorem mapK_facts (K : List Ed) : ((mapK K).map (fun x => ((x.1, x.2.1) : Ed))).Nodup ∧ (∀ p : Ed, p ∈ (mapK K).map (fun x => ((x.1, x.2.1) : Ed)) ↔ p ∈ K) ∧ ∀ a b : Int, valI (mapK K) a b = ((K.countP fun p => decide (p = (a, b)) : Nat) : Int) := by
  induction K using snoc_ind with
  | h0 => exact ⟨List.nodup_nil, fun p => by simp [mapK], fun a b => rfl⟩
  | h1 K p ih =>
    obtain ⟨h1, h2, h3⟩ := ih
    rw [mapK_snoc]
    unfold bump
    refine ⟨?_, fun q => ?_, fun a b => ?_⟩
    · rw [keys_put]
      split
      · exact h1
      · rename_i hh
        rw [hit_mem] at hh
        rw [List.nodup_append]
        exact ⟨h1, by simp, fun x hx y hy => by rw [List.mem_singleton] at hy; subst hy; intro e; subst e; exact hh hx⟩
    · rw [keys_put]
      split
      · rename_i hh
        rw [hit_mem] at hh
        rw [h2, List.mem_append, List.mem_singleton]
        constructor
        · exact .inl
        · rintro (h | rfl)
          · exact h
          · exact (h2 _).1 hh
      · rw [List.mem_append, List.mem_append, h2]
    · rw [valI_put, List.countP_append]
      simp only [List.countP_cons, List.countP_nil, Nat.zero_add]
      by_cases hp : p.1 = a ∧ p.2 = b
      · obtain ⟨rfl, rfl⟩ := hp
        rw [if_pos ⟨rfl, rfl⟩, h3]
        simp
      · rw [if_neg hp, h3, if_neg (by rw [decide_eq_true_eq]; intro e; exact hp ⟨congrArg Prod.fst e, congrArg Prod.snd e⟩)]
        simp
theorem valI_mem {L : List Jt} (hn : (L.map (fun x => ((x.1, x.2.1) : Ed))).Nodup) {x : Jt} (hx : x ∈ L) : valI L x.1 x.2.1 = x.2.2 := by
  induction L with
  | nil => cases hx
  | cons p L ih =>
    rw [List.map_cons, List.nodup_cons] at hn
    unfold valI
    rcases List.mem_cons.1 hx with rfl | hx
    · simp
    · rw [if_neg, ih hn.2 hx]
      intro e
      exact hn.1 (by rw [show ((p.1, p.2.1) : Ed) = (x.1, x.2.1) from Prod.ext e.1 e.2]; exact List.mem_map.2 ⟨x, hx, rfl⟩)
theorem mem_mapK {K : List Ed} {x : Jt} : x ∈ mapK K ↔ ((x.1, x.2.1) : Ed) ∈ K ∧ x.2.2 = ((K.countP fun p => decide (p = (x.1, x.2.1)) : Nat) : Int) := by
  obtain ⟨h1, h2, h3⟩ := mapK_facts K
  constructor
  · intro hx
    exact ⟨(h2 _).1 (List.mem_map.2 ⟨x, hx, rfl⟩), by rw [← h3, valI_mem h1 hx]⟩
  · rintro ⟨hk, hv⟩
    obtain ⟨y, hy, e⟩ := List.mem_map.1 ((h2 _).2 hk)
    have e1 : y.1 = x.1 := congrArg (fun q : Ed => q.1) e
    have e2 : y.2.1 = x.2.1 := congrArg (fun q : Ed => q.2) e
    have e3 : y.2.2 = x.2.2 := by rw [← valI_mem h1 hy, e1, e2, h3, hv]
    have : y = x := Prod.ext e1 (Prod.ext e2 e3)
    rw [← this]; exact hy
theorem sum_put {L : List Jt} (a b v : Int) : ((putI L a b v).map fun x => x.2.2).sum = (L.map fun x => x.2.2).sum - valI L a b + v := by
  induction L with
  | nil => simp [putI, valI]
  | cons p L ih =>
    unfold putI valI
    by_cases hp : p.1 = a ∧ p.2.1 = b
    · simp only [hp, and_self, if_true, List.map_cons, List.sum_cons]; omega
    · simp only [hp, if_false, List.map_cons, List.sum_cons, ih]; omega
theorem sum_mapK (K : List Ed) : ((mapK K).map fun x => x.2.2).sum = (K.length : Int) := by
  induction K using snoc_ind with
  | h0 => rfl
  | h1 K p ih =>
    rw [mapK_snoc]
    unfold bump
    rw [sum_put, ih, List.length_append]
    simp only [List.length_cons, List.length_nil]
    omega
theorem mapK_len (K : List Ed) : (mapK K).length ≤ K.length := by
  have h := mapK_facts K
  have := nodup_len h.1 fun p hp => (h.2.1 p).1 hp
  simpa using this

/-! ### sorted lists -/
theorem srt_ext {α : Type} {r : α → α → Prop} (as : ∀ a b, r a b → r b a → False) : ∀ {l1 l2 : List α}, l1.Pairwise r → l2.Pairwise r → (∀ x, x ∈ l1 ↔ x ∈ l2) → l1 = l2
  | [], [], _, _, _ => rfl
  | [], y :: l2, _, _, h => by have := (h y).2 (by simp); cases this
  | x :: l1, [], _, _, h => by have := (h x).1 (by simp); cases this
  | x :: l1, y :: l2, h1, h2, h => by
    rw [List.pairwise_cons] at h1 h2
    have e : x = y := by
      rcases List.mem_cons.1 ((h x).1 (by simp)) with e | hx
      · exact e
      · rcases List.mem_cons.1 ((h y).2 (by simp)) with e | hy
        · exact e.symm
        · exact (as _ _ (h1.1 y hy) (h2.1 x hx)).elim
    subst e
    congr 1
    refine srt_ext as h1.2 h2.2 fun z => ⟨fun hz => ?_, fun hz => ?_⟩
    · rcases List.mem_cons.1 ((h z).1 (List.mem_cons_of_mem _ hz)) with rfl | hz'
      · exact (as _ _ (h1.1 z hz) (h1.1 z hz)).elim
      · exact hz'
    · rcases List.mem_cons.1 ((h z).2 (List.mem_cons_of_mem _ hz)) with rfl | hz'
      · exact (as _ _ (h2.1 z hz) (h2.1 z hz)).elim
      · exact hz'
def lowJ (x y : Jt) : Prop := below (x.1, x.2.1) (y.1, y.2.1)
instance (x y : Jt) : Decidable (lowJ x y) := by unfold lowJ below; exact inferInstance
theorem lowJ_as (a b : Jt) (h1 : lowJ a b) (h2 : lowJ b a) : False := by unfold lowJ below at *; simp only at *; omega
/-- a sort of structs of three by the first two -/
def SrtJ (zs ys : List Jt) : Prop := ys.Perm zs ∧ ys.Pairwise fun a b => ¬ lowJ b a
theorem srtJ_low {zs ys : List Jt} (h : SrtJ zs ys) (hn : (zs.map (fun x => ((x.1, x.2.1) : Ed))).Nodup) : ys.Pairwise lowJ := by
  have hn2 : (ys.map (fun x => ((x.1, x.2.1) : Ed))).Nodup := (h.1.map _).nodup_iff.2 hn
  have h3 : ys.Pairwise fun a b => ((a.1, a.2.1) : Ed) ≠ (b.1, b.2.1) := by
    have := hn2
    unfold List.Nodup at this
    rwa [List.pairwise_map] at this
  refine (h.2.and h3).imp ?_
  rintro a b ⟨h1, h2⟩
  rcases below_tri h2 with h4 | h4
  · exact h4
  · exact absurd h4 h1

/-! ### looked for one after the other -/
def cntE (d : List Int) (es : List Ed) (a b : Int) : Nat := es.countP fun e => decide (min (d.getD e.1.toNat 0) (d.getD e.2.toNat 0) = a ∧ max (d.getD e.1.toNat 0) (d.getD e.2.toNat 0) = b)
theorem cntE_yes {d : List Int} {es : List Ed} {a b : Int} {k : Nat} (hk : k < es.length) (h : min (d.getD (es.getD k (0, 0)).1.toNat 0) (d.getD (es.getD k (0, 0)).2.toNat 0) = a ∧ max (d.getD (es.getD k (0, 0)).1.toNat 0) (d.getD (es.getD k (0, 0)).2.toNat 0) = b) : cntE d (es.take (k + 1)) a b = cntE d (es.take k) a b + 1 := by
  unfold cntE
  rw [take_snoc (0, 0) hk, List.countP_append, List.countP_cons, List.countP_nil, if_pos (by rw [decide_eq_true_eq]; exact h)]
theorem cntE_no {d : List Int} {es : List Ed} {a b : Int} {k : Nat} (hk : k < es.length) (h : ¬ (min (d.getD (es.getD k (0, 0)).1.toNat 0) (d.getD (es.getD k (0, 0)).2.toNat 0) = a ∧ max (d.getD (es.getD k (0, 0)).1.toNat 0) (d.getD (es.getD k (0, 0)).2.toNat 0) = b)) : cntE d (es.take (k + 1)) a b = cntE d (es.take k) a b := by
  unfold cntE
  rw [take_snoc (0, 0) hk, List.countP_append, List.countP_cons, List.countP_nil, if_neg (by rw [decide_eq_true_eq]; exact h)]; rfl
theorem cntE_le (d : List Int) (es : List Ed) (a b : Int) : cntE d es a b ≤ es.length := List.countP_le_length
def jrow (f : Int → Int → Nat) (a b : Nat) : List Jt := ((List.range (b - a)).map fun i => ((a : Int), (((a + i : Nat) : Nat) : Int), ((f a (((a + i : Nat) : Nat) : Int) : Nat) : Int))).filter fun x => decide (0 < x.2.2)
theorem jrow_self (f : Int → Int → Nat) (a : Nat) : jrow f a a = [] := by simp [jrow]
theorem jrow_yes {f : Int → Int → Nat} {a b : Nat} (h : a ≤ b) (hf : (0 : Int) < ((f a b : Nat) : Int)) : jrow f a (b + 1) = jrow f a b ++ [((a : Int), (b : Int), ((f a b : Nat) : Int))] := by
  unfold jrow
  rw [show b + 1 - a = (b - a) + 1 from by omega, List.range_succ, List.map_append, List.filter_append]
  simp only [List.map_cons, List.map_nil, show a + (b - a) = b from by omega]
  rw [List.filter_cons_of_pos (by simpa using hf)]; rfl
theorem jrow_no {f : Int → Int → Nat} {a b : Nat} (h : a ≤ b) (hf : ¬ (0 : Int) < ((f a b : Nat) : Int)) : jrow f a (b + 1) = jrow f a b := by
  unfold jrow
  rw [show b + 1 - a = (b - a) + 1 from by omega, List.range_succ, List.map_append, List.filter_append]
  simp only [List.map_cons, List.map_nil, show a + (b - a) = b from by omega]
  rw [List.filter_cons_of_neg (by simpa using hf)]; simp
theorem mem_jrow {f : Int → Int → Nat} {a b : Nat} {x : Jt} : x ∈ jrow f a b ↔ x.1 = a ∧ (a : Int) ≤ x.2.1 ∧ x.2.1 < (b : Int) ∧ x.2.2 = ((f x.1 x.2.1 : Nat) : Int) ∧ 0 < x.2.2 := by
  unfold jrow
  rw [List.mem_filter, List.mem_map, decide_eq_true_eq]
  constructor
  · rintro ⟨⟨i, hi, rfl⟩, hp⟩
    rw [List.mem_range] at hi
    exact ⟨rfl, by dsimp only; omega, by dsimp only; omega, rfl, hp⟩
  · rintro ⟨h1, h2, h3, h4, h5⟩
    refine ⟨⟨(x.2.1 - a).toNat, List.mem_range.2 (by omega), ?_⟩, h5⟩
    have e : (((a + (x.2.1 - (a : Int)).toNat : Nat) : Nat) : Int) = x.2.1 := by omega
    rw [e]
    exact Prod.ext h1.symm (Prod.ext rfl (by rw [h4, h1]))
theorem jrow_low (f : Int → Int → Nat) (a b : Nat) : (jrow f a b).Pairwise lowJ := by
  unfold jrow
  refine List.Pairwise.filter _ ?_
  rw [List.pairwise_map]
  refine List.pairwise_lt_range.imp fun {i j} h => ?_
  unfold lowJ below; dsimp only; omega
theorem jrow_len (f : Int → Int → Nat) (a b : Nat) : (jrow f a b).length ≤ b - a := by
  unfold jrow
  exact Nat.le_trans (List.length_filter_le _ _) (by simp)
def jall (f : Int → Int → Nat) (m a : Nat) : List Jt := (List.range (a - 1)).flatMap fun i => jrow f (1 + i) m
theorem jall_one (f : Int → Int → Nat) (m : Nat) : jall f m 1 = [] := rfl
theorem jall_succ {f : Int → Int → Nat} {m a : Nat} (h : 1 ≤ a) : jall f m (a + 1) = jall f m a ++ jrow f a m := by
  unfold jall
  rw [show a + 1 - 1 = (a - 1) + 1 from by omega, List.range_succ, List.flatMap_append]
  simp [show 1 + (a - 1) = a from by omega]
theorem mem_jall {f : Int → Int → Nat} {m a : Nat} {x : Jt} : x ∈ jall f m a ↔ 1 ≤ x.1 ∧ x.1 < (a : Int) ∧ x.1 ≤ x.2.1 ∧ x.2.1 < (m : Int) ∧ x.2.2 = ((f x.1 x.2.1 : Nat) : Int) ∧ 0 < x.2.2 := by
  unfold jall
  rw [List.mem_flatMap]
  constructor
  · rintro ⟨i, hi, hx⟩
    rw [List.mem_range] at hi
    obtain ⟨h1, h2, h3, h4, h5⟩ := mem_jrow.1 hx
    exact ⟨by omega, by omega, by omega, h3, h4, h5⟩
  · rintro ⟨h1, h2, h3, h4, h5, h6⟩
    refine ⟨(x.1 - 1).toNat, List.mem_range.2 (by omega), mem_jrow.2 ⟨by omega, by omega, h4, h5, h6⟩⟩
theorem jall_low (f : Int → Int → Nat) (m a : Nat) : (jall f m a).Pairwise lowJ := by
  induction a with
  | zero => exact .nil
  | succ a ih =>
    rcases Nat.eq_zero_or_pos a with rfl | h
    · exact .nil
    · rw [jall_succ h, List.pairwise_append]
      refine ⟨ih, jrow_low _ _ _, fun x hx y hy => ?_⟩
      have h1 := mem_jall.1 hx
      have h2 := mem_jrow.1 hy
      exact .inl (by dsimp only; omega)
theorem jall_len {m : Nat} (f : Int → Int → Nat) (hm : m ≤ 7) : ∀ {a : Nat}, a ≤ 8 → (jall f m a).length ≤ 7 * (a - 1)
  | 0, _ => by simp [jall]
  | a + 1, h => by
    rcases Nat.eq_zero_or_pos a with rfl | h0
    · simp [jall]
    · rw [jall_succ h0, List.length_append]
      have h1 := jall_len f hm (a := a) (by omega)
      have h2 := jrow_len f a m
      omega
theorem jall_end {m a : Nat} (f : Int → Int → Nat) (h1 : m ≤ a) (h2 : a ≤ max 1 m) : jall f m a = jall f m m := by
  rcases Nat.eq_zero_or_pos m with rfl | h
  · have : a = 0 ∨ a = 1 := by omega
    rcases this with rfl | rfl <;> rfl
  · rw [show a = m from by omega]

/-! ### both -/
def jointL (m : Nat) (es : List Ed) : List Jt := jall (cntE (degs m es) es) m m
def jointV (N : Int) (es : List Ed) : List Jt := if ValidG N es then jointL N.toNat es else []
def keyD (d : List Int) (e : Ed) : Ed := edg (d.getD e.1.toNat 0) (d.getD e.2.toNat 0)
def mapTo (d : List Int) (es : List Ed) (k : Nat) : List Jt := mapK ((es.take k).map (keyD d))
theorem mapTo_succ {d : List Int} {es : List Ed} {k : Nat} (hk : k < es.length) : mapTo d es (k + 1) = putI (mapTo d es k) (keyD d (es.getD k (0, 0))).1 (keyD d (es.getD k (0, 0))).2 (valI (mapTo d es k) (keyD d (es.getD k (0, 0))).1 (keyD d (es.getD k (0, 0))).2 + 1) := by
  unfold mapTo
  rw [take_snoc (0, 0) hk, List.map_append]
  exact mapK_snoc _ _
theorem mapTo_len (d : List Int) (es : List Ed) (k : Nat) : (mapTo d es k).length ≤ es.length := by
  have := mapK_len ((es.take k).map (keyD d))
  rw [List.length_map, List.length_take] at this
  unfold mapTo; omega
theorem valI_mapTo (d : List Int) (es : List Ed) (k : Nat) (a b : Int) : 0 ≤ valI (mapTo d es k) a b ∧ valI (mapTo d es k) a b ≤ es.length := by
  unfold mapTo
  rw [(mapK_facts _).2.2]
  have := List.countP_le_length (p := fun p => decide (p = (a, b))) (l := (es.take k).map (keyD d))
  rw [List.length_map, List.length_take] at this
  omega
theorem key_bd {m : Nat} {es : List Ed} (hg : Gr m es) (hm : m ≤ 7) {e : Ed} (he : e ∈ es) : 1 ≤ (keyD (degs m es) e).1 ∧ (keyD (degs m es) e).1 ≤ (keyD (degs m es) e).2 ∧ (keyD (degs m es) e).2 < (m : Int) := by
  have h1 := hg.inr e he
  have hpos : ∀ v : Nat, ((v : Int) = e.1 ∨ (v : Int) = e.2) → 1 ≤ dcount es v := by
    intro v hv
    unfold dcount
    exact List.countP_pos_iff.2 ⟨e, he, by rw [decide_eq_true_eq]; exact hv⟩
  have p1 := hpos e.1.toNat (.inl (by omega))
  have p2 := hpos e.2.toNat (.inr (by omega))
  have b1 := dcount_bd hg hm (v := e.1.toNat) (by omega)
  have b2 := dcount_bd hg hm (v := e.2.toNat) (by omega)
  unfold keyD edg
  rw [degs_get hg.inr, degs_get hg.inr]
  dsimp only
  omega
theorem cnt_keys (d : List Int) (es : List Ed) (a b : Int) : cntE d es a b = (es.map (keyD d)).countP fun p => decide (p = (a, b)) := by
  unfold cntE
  rw [List.countP_map]
  congr 1
  funext e
  simp only [Function.comp_apply, keyD, edg, Prod.mk.injEq]
theorem mem_both {m : Nat} {es : List Ed} (hg : Gr m es) (hm : m ≤ 7) (x : Jt) : x ∈ mapTo (degs m es) es es.length ↔ x ∈ jointL m es := by
  unfold mapTo jointL
  rw [List.take_length, mem_mapK, mem_jall, ← cnt_keys]
  constructor
  · rintro ⟨h1, h2⟩
    obtain ⟨e, he, hk⟩ := List.mem_map.1 h1
    have hb := key_bd hg hm he
    rw [hk] at hb
    dsimp only at hb
    refine ⟨hb.1, by omega, hb.2.1, hb.2.2, h2, ?_⟩
    rw [h2, cnt_keys]
    have := List.countP_pos_iff (p := fun p => decide (p = (x.1, x.2.1))).2 ⟨_, h1, decide_eq_true rfl⟩
    exact Int.natCast_pos.2 this
  · rintro ⟨h1, h2, h3, h4, h5, h6⟩
    refine ⟨?_, h5⟩
    rw [h5, cnt_keys] at h6
    obtain ⟨p, hp, e⟩ := List.countP_pos_iff.1 (Int.natCast_pos.1 h6)
    rw [decide_eq_true_eq] at e
    rw [← e]; exact hp
theorem map_getD_range {α : Type} (z : α) (L : List α) : (List.range L.length).map (fun i => L.getD i z) = L := by
  apply List.ext_getElem
  · simp
  · intro i h1 h2
    simp only [List.length_map, List.length_range] at h1
    simp [h1]
/-- sorted behind an iterator's way through the map, the pairs are those that are looked for one after the other -/
theorem joint_eq {m : Nat} {es : List Ed} (hg : Gr m es) (hm : m ≤ 7) {S : List Nat} (hS : S.Perm (List.range (mapTo (degs m es) es es.length).length)) {ys : List Jt}
    (h : SrtJ (S.map fun i => (mapTo (degs m es) es es.length).getD i (0, 0, 0)) ys) : ys = jointL m es := by
  have hp : (S.map fun i => (mapTo (degs m es) es es.length).getD i (0, 0, 0)).Perm (mapTo (degs m es) es es.length) := by
    have := hS.map fun i => (mapTo (degs m es) es es.length).getD i (0, 0, 0)
    rwa [map_getD_range] at this
  have h2 : SrtJ (mapTo (degs m es) es es.length) ys := ⟨h.1.trans hp, h.2⟩
  refine srt_ext lowJ_as (srtJ_low h2 (mapK_facts _).1) (jall_low _ _ _) fun x => ?_
  rw [h2.1.mem_iff]
  exact mem_both hg hm x
theorem jointL_len {m : Nat} (es : List Ed) (hm : m ≤ 7) : (jointL m es).length ≤ 42 := by
  have := jall_len (cntE (degs m es) es) hm (a := m) (by omega)
  unfold jointL; omega
theorem jointV_len (N : Int) (es : List Ed) : (jointV N es).length ≤ 42 := by
  unfold jointV
  split
  · rename_i h; exact jointL_len es (by have := h.2; omega)
  · simp
/-- the sum of a list of pairs' numbers up to k -/
def jsum (l : List Jt) (k : Nat) : Int := ((l.take k).map fun x => x.2.2).sum
theorem jsum_succ {l : List Jt} {k : Nat} (h : k < l.length) : jsum l (k + 1) = jsum l k + (l.getD k (0, 0, 0)).2.2 := by
  unfold jsum
  rw [take_snoc (0, 0, 0) h, List.map_append, List.sum_append]
  simp
theorem jsum_all (l : List Jt) : jsum l l.length = (l.map fun x => x.2.2).sum := by unfold jsum; rw [List.take_length]
theorem jsum_zero (l : List Jt) : jsum l 0 = 0 := rfl
theorem sum_perm {l l' : List Int} (h : l.Perm l') : l.sum = l'.sum := by
  induction h with
  | nil => rfl
  | cons x _ ih => simp [ih]
  | swap x y l => simp only [List.sum_cons]; omega
  | trans _ _ h1 h2 => exact h1.trans h2
theorem jointL_facts {m : Nat} {es : List Ed} (hg : Gr m es) (hm : m ≤ 7) : (∀ x ∈ jointL m es, 1 ≤ x.2.2 ∧ 1 ≤ x.1 ∧ x.1 ≤ x.2.1 ∧ x.2.2 ≤ es.length) ∧ ((jointL m es).map fun x => x.2.2).sum = (es.length : Int) := by
  refine ⟨fun x hx => ?_, ?_⟩
  · have h := mem_jall.1 hx
    have := cntE_le (degs m es) es x.1 x.2.1
    exact ⟨by omega, by omega, by omega, by omega⟩
  · have hn : (mapTo (degs m es) es es.length).Nodup := by
      have := (mapK_facts ((es.take es.length).map (keyD (degs m es)))).1
      unfold List.Nodup at this
      rw [List.pairwise_map] at this
      exact this.imp fun {a b} h e => h (by rw [e])
    have hn2 : (jointL m es).Nodup := (jall_low _ _ _).imp fun {a b} h e => by subst e; exact lowJ_as _ _ h h
    have hp := nodup_perm hn2 hn fun x => (mem_both hg hm x).symm
    rw [sum_perm (hp.map _)]
    unfold mapTo
    rw [sum_mapK]; simp
end Go.Plain
