/- Barriers: the best set, by masks and by lists. No program in sight. Conditions: those of each theorem. -/
import Derived.Test.YtkkllkkjdbpjpaaPx
namespace Go.Plain
/-! ### the order of lists -/
def lexB : List Int → List Int → Bool
  | [], [] => false
  | [], _ :: _ => true
  | _ :: _, [] => false
  | x :: xs, y :: ys => decide (x < y) || (decide (x = y) && lexB xs ys)
theorem lexB_irrefl : ∀ a : List Int, lexB a a = false
  | [] => rfl
  | x :: a => by rw [lexB, lexB_irrefl a]; simp
theorem lexB_trans : ∀ {a b c : List Int}, lexB a b = true → lexB b c = true → lexB a c = true
  | [], [], _, h, _ => by simp [lexB] at h
  | [], _ :: _, [], _, h => by simp [lexB] at h
  | [], _ :: _, _ :: _, _, _ => rfl
  | _ :: _, [], _, h, _ => by simp [lexB] at h
  | _ :: _, _ :: _, [], _, h => by simp [lexB] at h
  | x :: a, y :: b, z :: c, h1, h2 => by
    simp only [lexB, Bool.or_eq_true, Bool.and_eq_true, decide_eq_true_eq] at h1 h2 ⊢
    rcases h1 with h1 | ⟨h1, h1'⟩ <;> rcases h2 with h2 | ⟨h2, h2'⟩
    · left; omega
    · left; omega
    · left; omega
    · right; exact ⟨by omega, lexB_trans h1' h2'⟩
theorem lexB_tri : ∀ {a b : List Int}, a ≠ b → lexB a b = true ∨ lexB b a = true
  | [], [], h => absurd rfl h
  | [], _ :: _, _ => .inl rfl
  | _ :: _, [], _ => .inr rfl
  | x :: a, y :: b, h => by
    simp only [lexB, Bool.or_eq_true, Bool.and_eq_true, decide_eq_true_eq]
    by_cases hxy : x = y
    · subst hxy
      have h2 : a ≠ b := fun e => h (by rw [e])
      rcases lexB_tri h2 with h3 | h3
      · exact .inl (.inr ⟨rfl, h3⟩)
      · exact .inr (.inr ⟨rfl, h3⟩)
    · rcases Int.lt_or_gt_of_ne hxy with h1 | h1
      · exact .inl (.inl h1)
      · exact .inr (.inl h1)
theorem lexB_asym {a b : List Int} (h : lexB a b = true) : lexB b a = false := by
  by_cases h2 : lexB b a = true
  · have := lexB_trans h h2; rw [lexB_irrefl] at this; cases this
  · simpa using h2
/-! ### the best of a list -/
section
variable (sc : List Int → Int)
def better (s b : List Int) : Bool := decide (sc b < sc s) || (decide (sc s = sc b) && (decide (s.length < b.length) || (decide (s.length = b.length) && lexB s b)))
def stepI (b s : List Int) : List Int := if better sc s b = true then s else b
def bestI (b : List Int) (L : List (List Int)) : List Int := L.foldl (stepI sc) b
def stepS (b s : List Int) : List Int := if sc b < sc s ∨ (sc s = sc b ∧ s.length < b.length) then s else b
def bestS (b : List Int) (L : List (List Int)) : List Int := L.foldl (stepS sc) b
theorem better_iff {s b : List Int} : better sc s b = true ↔ sc b < sc s ∨ (sc s = sc b ∧ (s.length < b.length ∨ (s.length = b.length ∧ lexB s b = true))) := by
  unfold better
  rw [Bool.or_eq_true, Bool.and_eq_true, Bool.or_eq_true, Bool.and_eq_true]
  simp only [decide_eq_true_eq]
theorem better_trans {a b c : List Int} (h1 : better sc a b = true) (h2 : better sc b c = true) : better sc a c = true := by
  rw [better_iff] at *
  rcases h1 with h1 | ⟨h1, h1 | ⟨h1', h1⟩⟩ <;> rcases h2 with h2 | ⟨h2, h2 | ⟨h2', h2⟩⟩
  · left; omega
  · left; omega
  · left; omega
  · left; omega
  · right; exact ⟨by omega, .inl (by omega)⟩
  · right; exact ⟨by omega, .inl (by omega)⟩
  · left; omega
  · right; exact ⟨by omega, .inl (by omega)⟩
  · right; exact ⟨by omega, .inr ⟨by omega, lexB_trans h1 h2⟩⟩
theorem better_irrefl (a : List Int) : better sc a a = false := by
  rcases h : better sc a a with _ | _
  · rfl
  · rw [better_iff, lexB_irrefl] at h
    rcases h with h | ⟨_, h | ⟨_, h⟩⟩
    · omega
    · omega
    · cases h
theorem bestI_spec : ∀ (L : List (List Int)) (b : List Int), bestI sc b L ∈ b :: L ∧ ∀ x ∈ b :: L, better sc x (bestI sc b L) = false
  | [], b => ⟨by simp [bestI], fun x hx => by simp only [List.mem_cons, List.not_mem_nil, or_false] at hx; subst hx; exact better_irrefl sc _⟩
  | s :: L, b => by
    have e : bestI sc b (s :: L) = bestI sc (stepI sc b s) L := rfl
    obtain ⟨h1, h2⟩ := bestI_spec L (stepI sc b s)
    rw [e]
    by_cases hb : better sc s b = true
    · have e2 : stepI sc b s = s := if_pos hb
      rw [e2] at h1 h2 ⊢
      refine ⟨List.mem_cons_of_mem _ h1, fun x hx => ?_⟩
      rcases List.mem_cons.1 hx with rfl | hx
      · rcases hc : better sc x (bestI sc s L) with _ | _
        · rfl
        · have h3 := better_trans sc hb hc
          rw [h2 s (by simp)] at h3; cases h3
      · exact h2 x hx
    · have e2 : stepI sc b s = b := if_neg hb
      rw [e2] at h1 h2 ⊢
      refine ⟨?_, fun x hx => ?_⟩
      · rcases List.mem_cons.1 h1 with h1 | h1
        · rw [h1]; exact List.mem_cons_self
        · exact List.mem_cons_of_mem _ (List.mem_cons_of_mem _ h1)
      · rcases List.mem_cons.1 hx with rfl | hx
        · exact h2 x (by simp)
        · rcases List.mem_cons.1 hx with rfl | hx
          · rcases hc : better sc x (bestI sc b L) with _ | _
            · rfl
            · exfalso
              have h4 := h2 b (by simp)
              rcases hm : decide (b = bestI sc b L) with _ | _
              · have hne := of_decide_eq_false hm
                have key : better sc x b = true ∨ better sc b (bestI sc b L) = true := by
                  by_cases hq : better sc (bestI sc b L) b = true
                  · exact .inl (better_trans sc hc hq)
                  · right
                    have hq2 : better sc (bestI sc b L) b = false := by simpa using hq
                    rw [better_iff]
                    have hq3 := mt (better_iff sc).2 hq
                    by_cases g1 : sc (bestI sc b L) = sc b
                    · right
                      refine ⟨g1.symm, ?_⟩
                      by_cases g2 : b.length = (bestI sc b L).length
                      · right
                        refine ⟨g2, ?_⟩
                        rcases lexB_tri hne with g3 | g3
                        · exact g3
                        · exact absurd (.inr ⟨g1, .inr ⟨g2.symm, g3⟩⟩) hq3
                      · left
                        have : ¬ (bestI sc b L).length < b.length := fun g3 => hq3 (.inr ⟨g1, .inl g3⟩)
                        omega
                    · left
                      have : ¬ sc b < sc (bestI sc b L) := fun g3 => hq3 (.inl g3)
                      omega
                rcases key with h5 | h5
                · exact hb h5
                · rw [h4] at h5; cases h5
              · have he := of_decide_eq_true hm
                rw [← he] at hc; exact hb hc
          · exact h2 x (List.mem_cons_of_mem _ hx)
/-- two that none betters are one -/
theorem best_uniq {a b : List Int} (h1 : better sc a b = false) (h2 : better sc b a = false) : a = b := by
  by_cases hne : a = b
  · exact hne
  · exfalso
    have g1 : ¬ better sc a b = true := by rw [h1]; decide
    have g2 : ¬ better sc b a = true := by rw [h2]; decide
    rw [better_iff] at g1 g2
    have e1 : sc a = sc b := by
      have i1 : ¬ sc b < sc a := fun h => g1 (.inl h)
      have i2 : ¬ sc a < sc b := fun h => g2 (.inl h)
      omega
    have e2 : a.length = b.length := by
      have i1 : ¬ a.length < b.length := fun h => g1 (.inr ⟨e1, .inl h⟩)
      have i2 : ¬ b.length < a.length := fun h => g2 (.inr ⟨e1.symm, .inl h⟩)
      omega
    rcases lexB_tri hne with h | h
    · exact g1 (.inr ⟨e1, .inr ⟨e2, h⟩⟩)
    · exact g2 (.inr ⟨e1.symm, .inr ⟨e2.symm, h⟩⟩)
theorem best_same {L K : List (List Int)} {b c : List Int} (h1 : ∀ x ∈ b :: L, x ∈ c :: K) (h2 : ∀ x ∈ c :: K, x ∈ b :: L) : bestI sc b L = bestI sc c K := by
  have s1 := bestI_spec sc L b
  have s2 := bestI_spec sc K c
  exact best_uniq sc (s2.2 _ (h1 _ s1.1)) (s1.2 _ (h2 _ s2.1))
/-- in a sorted list the first of the best is kept -/
theorem best_sorted : ∀ (L : List (List Int)) (b : List Int), (b :: L).Pairwise (fun x y => x.length = y.length → lexB x y = true) → bestS sc b L = bestI sc b L
  | [], _, _ => rfl
  | s :: L, b, h => by
    have h1 := List.pairwise_cons.1 h
    have h2 := List.pairwise_cons.1 h1.2
    have e : stepS sc b s = stepI sc b s := by
      unfold stepS stepI
      by_cases hc : sc b < sc s ∨ (sc s = sc b ∧ s.length < b.length)
      · rw [if_pos hc, if_pos ((better_iff sc).2 (hc.elim .inl fun h => .inr ⟨h.1, .inl h.2⟩))]
      · rw [if_neg hc, if_neg fun hb => ?_]
        rcases (better_iff sc).1 hb with h3 | ⟨h3, h4 | ⟨h4, h5⟩⟩
        · exact hc (.inl h3)
        · exact hc (.inr ⟨h3, h4⟩)
        · have h6 := lexB_asym (h1.1 s (by simp) h4.symm)
          rw [h6] at h5; cases h5
    show bestS sc (stepS sc b s) L = bestI sc (stepI sc b s) L
    rw [e]
    refine best_sorted L _ (List.pairwise_cons.2 ⟨fun x hx => ?_, h2.2⟩)
    unfold stepI
    split
    · exact h2.1 x hx
    · exact h1.1 x (List.mem_cons_of_mem _ hx)
end
/-! ### all sets, as lists and as masks -/
def restV : Nat → List Int → Nat → List (List Int)
  | 0, _, _ => []
  | d + 1, h, f => ((h ++ [(f : Int)]) :: restV d (h ++ [(f : Int)]) (f + 1)) ++ restV d h (f + 1)
def setsV (n : Nat) : List (List Int) := [] :: restV n [] 0
def maskS (n k : Nat) : List Int := (ids n).filter fun x => !decide (k / 2 ^ x.toNat % 2 = 0)
def masksTo (n k : Nat) : List (List Int) := (List.range k).map fun j => maskS n (j + 1)
theorem masksTo_succ (n k : Nat) : masksTo n (k + 1) = masksTo n k ++ [maskS n (k + 1)] := by simp [masksTo, List.range_succ]
def setsOK (n : Nat) : Bool := (masksTo n (2 ^ n - 1)).all (fun s => (setsV n).contains s) && (setsV n).all (fun s => s == [] || (masksTo n (2 ^ n - 1)).contains s)
def sortOK : List (List Int) → Bool
  | [] => true
  | x :: L => L.all (fun y => decide (x.length ≠ y.length) || lexB x y) && sortOK L
theorem sortOK_pw : ∀ {L : List (List Int)}, sortOK L = true → L.Pairwise (fun x y => x.length = y.length → lexB x y = true)
  | [], _ => .nil
  | x :: L, h => by
    rw [sortOK, Bool.and_eq_true, List.all_eq_true] at h
    refine List.pairwise_cons.2 ⟨fun y hy he => ?_, sortOK_pw h.2⟩
    have := h.1 y hy
    rw [Bool.or_eq_true, decide_eq_true_eq] at this
    exact this.resolve_left fun hn => hn he
theorem sets_all : ∀ n, n ≤ 7 → setsOK n = true ∧ sortOK (setsV n) = true := by
  have h : (List.range 8).all (fun n => setsOK n && sortOK (setsV n)) = true := by decide +kernel
  intro n hn
  have h2 := (List.all_eq_true.1 h) n (List.mem_range.2 (by omega))
  rwa [Bool.and_eq_true] at h2
/-- the barrier -/
def scoreV (n : Nat) (es : List Ed) (s : List Int) : Int := oddP n es s - s.length
def barTo (n : Nat) (es : List Ed) (k : Nat) : List Int := bestI (scoreV n es) [] (masksTo n k)
theorem barTo_succ (n : Nat) (es : List Ed) (k : Nat) : barTo n es (k + 1) = stepI (scoreV n es) (barTo n es k) (maskS n (k + 1)) := by
  unfold barTo bestI; rw [masksTo_succ, List.foldl_append]; rfl
theorem bar_same {n : Nat} (hn : n ≤ 7) (es : List Ed) : bestS (scoreV n es) [] (setsV n) = barTo n es (2 ^ n - 1) := by
  have h := sets_all n hn
  have h1 := sortOK_pw h.2
  have e0 : bestS (scoreV n es) [] (setsV n) = bestS (scoreV n es) [] (restV n [] 0) := by
    show bestS _ (stepS (scoreV n es) [] []) (restV n [] 0) = _
    unfold stepS; rw [if_neg (by omega)]
  rw [e0, best_sorted _ _ _ h1]
  unfold barTo
  have h2 := h.1
  unfold setsOK at h2
  rw [Bool.and_eq_true, List.all_eq_true, List.all_eq_true] at h2
  refine best_same _ (fun x hx => ?_) (fun x hx => ?_)
  · have h3 := h2.2 x hx
    rw [Bool.or_eq_true] at h3
    rcases h3 with h3 | h3
    · have : x = [] := by simpa using h3
      subst this; simp
    · exact List.mem_cons_of_mem _ (List.contains_iff_mem.1 h3)
  · rcases List.mem_cons.1 hx with rfl | hx
    · exact List.mem_cons_self
    · exact List.contains_iff_mem.1 (h2.1 x hx)
theorem pow2_bd {m : Nat} (h : m ≤ 7) : 1 ≤ 2 ^ m ∧ 2 ^ m ≤ 128 := by
  have h1 : ∀ m : Nat, m < 8 → 1 ≤ 2 ^ m ∧ 2 ^ m ≤ 128 := by decide
  exact h1 m (by omega)
theorem maskS_idx (n k : Nat) : maskS n k = (idx n (-1)).filter fun x => !decide (k / 2 ^ x.toNat % 2 = 0) := by rw [maskS, idx_ids]
theorem maskS_len (n k : Nat) : (maskS n k).length ≤ n := by
  unfold maskS
  exact Nat.le_trans (List.length_filter_le _ _) (by rw [ids_length]; exact Nat.le_refl _)
theorem bar_t {n : Nat} {es : List Ed} {k : Nat} (hk : 1 ≤ k) (h : better (scoreV n es) (maskS n k) (barTo n es (k - 1)) = true) : barTo n es (k + 1 - 1) = maskS n k := by
  have e : k + 1 - 1 = (k - 1) + 1 := by omega
  rw [e, barTo_succ, show k - 1 + 1 = k from by omega, stepI, if_pos h]
theorem bar_f {n : Nat} {es : List Ed} {k : Nat} (hk : 1 ≤ k) (h : ¬ better (scoreV n es) (maskS n k) (barTo n es (k - 1)) = true) : barTo n es (k + 1 - 1) = barTo n es (k - 1) := by
  have e : k + 1 - 1 = (k - 1) + 1 := by omega
  rw [e, barTo_succ, show k - 1 + 1 = k from by omega, stepI, if_neg h]
theorem bar_len (n : Nat) (es : List Ed) (k : Nat) : (barTo n es k).length ≤ n := by
  have h := (bestI_spec (scoreV n es) (masksTo n k) []).1
  rcases List.mem_cons.1 h with h | h
  · unfold barTo; rw [h]; exact Nat.zero_le _
  · obtain ⟨j, _, hj⟩ := List.mem_map.1 h
    unfold barTo; rw [← hj]; exact maskS_len _ _
def barV (N : Int) (es : List Ed) : List Int := if ValidG N es then barTo N.toNat es (2 ^ N.toNat - 1) else []
theorem barV_len (N : Int) (es : List Ed) : (barV N es).length ≤ 7 := by
  unfold barV; split
  · rename_i h
    have := bar_len N.toNat es (2 ^ N.toNat - 1)
    have := h.2; omega
  · exact Nat.zero_le _
theorem restV_step {m v : Nat} (xs : List Int) (h : v < m) : restV (m - v) xs v = ((xs ++ [(v : Int)]) :: restV (m - (v + 1)) (xs ++ [(v : Int)]) (v + 1)) ++ restV (m - (v + 1)) xs (v + 1) := by
  rw [show m - v = (m - (v + 1)) + 1 from by omega, restV]
theorem restV_len : ∀ (d : Nat) (xs : List Int) (f : Nat), (restV d xs f).length + 1 = 2 ^ d
  | 0, _, _ => rfl
  | d + 1, xs, f => by
    have h1 := restV_len d (xs ++ [(f : Int)]) (f + 1)
    have h2 := restV_len d xs (f + 1)
    rw [restV, List.length_append, List.length_cons, Nat.pow_succ]; omega
theorem restV_bd {d : Nat} (h : d ≤ 7) (xs : List Int) (f : Nat) : (restV d xs f).length + 1 ≤ 128 := by rw [restV_len]; exact (pow2_bd h).2
theorem setsV_bd {m : Nat} (h : m ≤ 7) : (setsV m).length ≤ 128 := restV_bd h _ _
theorem setsV_small : ∀ m, m ≤ 7 → ∀ s ∈ setsV m, s.length ≤ 7 := by
  have h : (List.range 8).all (fun n => (setsV n).all fun s => decide (s.length ≤ 7)) = true := by decide +kernel
  intro m hm s hs
  have h2 := (List.all_eq_true.1 h) m (List.mem_range.2 (by omega))
  exact of_decide_eq_true ((List.all_eq_true.1 h2) s hs)
def sBest (m : Nat) (es : List Ed) (k : Nat) : List Int := bestS (scoreV m es) [] ((setsV m).take k)
theorem sBest_succ {m : Nat} {es : List Ed} {k : Nat} (h : k < (setsV m).length) : sBest m es (k + 1) = stepS (scoreV m es) (sBest m es k) ((setsV m).getD k []) := by
  unfold sBest bestS; rw [take_succ [] h, List.foldl_append]; rfl
theorem sBest_all {m : Nat} (hm : m ≤ 7) (es : List Ed) {k : Nat} (h : (setsV m).length ≤ k) : sBest m es k = barTo m es (2 ^ m - 1) := by
  unfold sBest; rw [List.take_of_length_le h]; exact bar_same hm es
theorem sBest_t {m : Nat} {es : List Ed} {k : Nat} (h : k < (setsV m).length) (hc : scoreV m es (sBest m es k) < scoreV m es ((setsV m).getD k []) ∨ (scoreV m es ((setsV m).getD k []) = scoreV m es (sBest m es k) ∧ ((setsV m).getD k []).length < (sBest m es k).length)) : sBest m es (k + 1) = (setsV m).getD k [] := by
  rw [sBest_succ h, stepS, if_pos hc]
theorem sBest_f {m : Nat} {es : List Ed} {k : Nat} (h : k < (setsV m).length) (hc : ¬ (scoreV m es (sBest m es k) < scoreV m es ((setsV m).getD k []) ∨ (scoreV m es ((setsV m).getD k []) = scoreV m es (sBest m es k) ∧ ((setsV m).getD k []).length < (sBest m es k).length))) : sBest m es (k + 1) = sBest m es k := by
  rw [sBest_succ h, stepS, if_neg hc]
end Go.Plain
