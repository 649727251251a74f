/- Lists of edges in order: laying one in, sorting, switches. No program in sight. Conditions: those of each theorem. -/
import Derived.Test.YtkkllkkjdbpjpaaPm
import Derived.Test.YtkkllkkjdbpjpaaPs
namespace Go.Plain
def lowE (e : Ed) (x : Ed) : Bool := decide (below x e)
/-- the list with an edge laid in, behind those below it -/
def insE (es : List Ed) (e : Ed) : List Ed := es.takeWhile (lowE e) ++ e :: es.dropWhile (lowE e)
theorem tw_take {p : Ed → Bool} : ∀ {es : List Ed} {k : Nat}, k ≤ es.length → (∀ x ∈ es.take k, p x = true) → (es.length ≤ k ∨ p (es.getD k (0, 0)) = false) → es.takeWhile p = es.take k ∧ es.dropWhile p = es.drop k
  | [], 0, _, _, _ => ⟨rfl, rfl⟩
  | [], k + 1, h, _, _ => absurd h (by simp)
  | x :: es, 0, _, _, h => by
    have h3 : p x = false := by
      rcases h with h | h
      · simp at h
      · simpa using h
    simp [List.takeWhile_cons, List.dropWhile_cons, h3]
  | x :: es, k + 1, hk, h1, h2 => by
    have hx : p x = true := h1 x (by simp)
    have := tw_take (p := p) (es := es) (k := k) (by simpa using hk) (fun y hy => h1 y (by simp [hy])) (by simpa using h2)
    simp [List.takeWhile_cons, List.dropWhile_cons, hx, this.1, this.2]
theorem insE_at {es : List Ed} {e : Ed} {k : Nat} (hk : k ≤ es.length) (h1 : ∀ x ∈ es.take k, below x e) (h2 : es.length ≤ k ∨ ¬ below (es.getD k (0, 0)) e) : es.take k ++ [e] ++ es.drop k = insE es e := by
  have := tw_take (p := lowE e) hk (fun x hx => decide_eq_true (h1 x hx)) (h2.imp id fun h => decide_eq_false h)
  unfold insE; rw [this.1, this.2]; simp
theorem insE_length (es : List Ed) (e : Ed) : (insE es e).length = es.length + 1 := by
  have h := congrArg List.length (List.takeWhile_append_dropWhile (p := lowE e) (l := es))
  simp only [List.length_append] at h
  simp only [insE, List.length_append, List.length_cons]; omega
theorem insE_perm (es : List Ed) (e : Ed) : (insE es e).Perm (e :: es) := by
  unfold insE
  refine List.perm_middle.trans (.cons _ ?_)
  rw [List.takeWhile_append_dropWhile]
theorem mem_insE {es : List Ed} {e x : Ed} : x ∈ insE es e ↔ x = e ∨ x ∈ es := by rw [(insE_perm es e).mem_iff, List.mem_cons]
def NB (a b : Ed) : Prop := ¬ below b a
theorem insE_cons (x : Ed) (es : List Ed) (e : Ed) : insE (x :: es) e = if below x e then x :: insE es e else e :: x :: es := by
  unfold insE lowE
  by_cases h : below x e <;> simp [List.takeWhile_cons, List.dropWhile_cons, h]
theorem insE_wk {e : Ed} : ∀ {es : List Ed}, es.Pairwise NB → (insE es e).Pairwise NB
  | [], _ => by simp [insE]
  | x :: es, h => by
    rw [List.pairwise_cons] at h
    rw [insE_cons]
    split
    · rename_i hb
      refine List.pairwise_cons.2 ⟨fun y hy => ?_, insE_wk h.2⟩
      rcases mem_insE.1 hy with rfl | hy
      · unfold NB; intro h2; exact below_irrefl _ (below_trans hb h2)
      · exact h.1 y hy
    · rename_i hb
      refine List.pairwise_cons.2 ⟨fun y hy => ?_, List.pairwise_cons.2 ⟨h.1, h.2⟩⟩
      rcases List.mem_cons.1 hy with rfl | hy
      · exact hb
      · have := h.1 y hy
        unfold NB below at *; omega
/-- the edges in order -/
def srtE (es : List Ed) : List Ed := es.foldl insE []
theorem srtE_snoc (es : List Ed) (e : Ed) : srtE (es ++ [e]) = insE (srtE es) e := by simp [srtE, List.foldl_append]
theorem srt_wk : ∀ (l : List Ed) {es : List Ed}, es.Pairwise NB → (l.foldl insE es).Pairwise NB
  | [], _, h => h
  | e :: l, _, h => srt_wk l (insE_wk h)
theorem srt_perm : ∀ (l : List Ed) (es : List Ed), (l.foldl insE es).Perm (l ++ es)
  | [], _ => .refl _
  | e :: l, es => by
    rw [List.foldl_cons]
    refine (srt_perm l _).trans ?_
    refine ((insE_perm es e).append_left l).trans ?_
    exact List.perm_middle
theorem srtE_wk (l : List Ed) : (srtE l).Pairwise NB := srt_wk l .nil
theorem srtE_perm (l : List Ed) : (srtE l).Perm l := by have := srt_perm l []; rwa [List.append_nil] at this
theorem srtE_length (l : List Ed) : (srtE l).length = l.length := (srtE_perm l).length_eq
theorem wk_unique : ∀ {a b : List Ed}, a.Pairwise NB → b.Pairwise NB → a.Perm b → a = b
  | [], b, _, _, h => by rw [h.nil_eq]
  | x :: a, [], _, _, h => by have := h.length_eq; simp at this
  | x :: a, y :: b, ha, hb, h => by
    rw [List.pairwise_cons] at ha hb
    have e : x = y := by
      by_cases hxy : x = y
      · exact hxy
      · have h1 : x ∈ b := (List.mem_cons.1 (h.mem_iff.1 (by simp : x ∈ x :: a))).resolve_left hxy
        have h2 : y ∈ a := (List.mem_cons.1 (h.mem_iff.2 (by simp : y ∈ y :: b))).resolve_left (Ne.symm hxy)
        rcases below_tri hxy with h3 | h3
        · exact absurd h3 (hb.1 x h1)
        · exact absurd h3 (ha.1 y h2)
    subst e
    rw [wk_unique ha.2 hb.2 (List.Perm.cons_inv h)]
theorem srtE_unique {l a : List Ed} (h1 : a.Pairwise NB) (h2 : a.Perm l) : a = srtE l := wk_unique h1 (srtE_wk l) (h2.trans (srtE_perm l).symm)
theorem wk_of_below {l : List Ed} (h : l.Pairwise below) : l.Pairwise NB := h.imp fun {a b} hab h2 => below_irrefl _ (below_trans hab h2)
theorem srtE_self {l : List Ed} (h : l.Pairwise below) : srtE l = l := (srtE_unique (wk_of_below h) (.refl _)).symm
theorem below_of_wk {l : List Ed} (h : l.Pairwise NB) (hn : l.Nodup) : l.Pairwise below := by
  refine (h.and hn).imp ?_
  rintro a b ⟨h1, h2⟩
  exact (below_tri h2).resolve_right h1
theorem insE_gr {n : Nat} {es : List Ed} {e : Ed} (h : Gr n es) (he : e ∉ es) (hr : 0 ≤ e.1 ∧ e.1 < e.2 ∧ e.2 < (n : Int)) : Gr n (insE es e) := by
  refine ⟨below_of_wk (insE_wk (wk_of_below h.sorted)) ((insE_perm es e).nodup_iff.2 (List.nodup_cons.2 ⟨he, h.nodup⟩)), fun x hx => ?_⟩
  rcases mem_insE.1 hx with rfl | hx
  · exact hr
  · exact h.inr x hx
/-! ### deleting -/
def delE (es : List Ed) (a b : Int) : List Ed := es.filter fun x => !decide (x = edg a b)
theorem delE_gr {n : Nat} {es : List Ed} (h : Gr n es) (a b : Int) : Gr n (delE es a b) := h.filter _
theorem mem_delE {es : List Ed} {a b : Int} {x : Ed} : x ∈ delE es a b ↔ x ∈ es ∧ x ≠ edg a b := by simp [delE]
theorem delE_le (es : List Ed) (a b : Int) : (delE es a b).length ≤ es.length := List.length_filter_le _ _
theorem del_keepE {es : List Ed} {a b : Int} {k : Nat} (h : k < es.length) (hn : (es.getD k (0, 0)).1 ≠ min a b ∨ (es.getD k (0, 0)).2 ≠ max a b) : delE (es.take (k + 1)) a b = delE (es.take k) a b ++ [es.getD k (0, 0)] := by
  unfold delE
  rw [take_succ (0, 0) h, List.filter_append, List.filter_cons, if_pos]
  · rfl
  · have : ¬ es.getD k (0, 0) = edg a b := fun e => by rw [e] at hn; unfold edg at hn; exact hn.elim (fun h => h rfl) (fun h => h rfl)
    rw [decide_eq_false this]; rfl
theorem del_skipE {es : List Ed} {a b : Int} {k : Nat} (h : k < es.length) (h1 : (es.getD k (0, 0)).1 = min a b) (h2 : (es.getD k (0, 0)).2 = max a b) : delE (es.take (k + 1)) a b = delE (es.take k) a b := by
  unfold delE
  rw [take_succ (0, 0) h, List.filter_append, List.filter_cons, if_neg]
  · simp
  · have : es.getD k (0, 0) = edg a b := Prod.ext h1 h2
    rw [decide_eq_true this]; decide
theorem delE_all {es : List Ed} {a b : Int} {k : Nat} (h : es.length ≤ k) : delE (es.take k) a b = delE es a b := by rw [List.take_of_length_le h]
/-! ### switches -/
/-- whether a switch may be made -/
def MayS (es : List Ed) (a b c d : Int) : Prop := a ≠ c ∧ b ≠ d ∧ a ≠ d ∧ b ≠ c ∧ edg a b ∈ es ∧ edg c d ∈ es ∧ edg a c ∉ es ∧ edg b d ∉ es
instance (es : List Ed) (a b c d : Int) : Decidable (MayS es a b c d) := by unfold MayS; infer_instance
def swE (es : List Ed) (a b c d : Int) : List Ed := insE (insE (delE (delE es a b) c d) (edg a c)) (edg b d)
theorem edg_ne {n : Nat} {es : List Ed} (h : Gr n es) {a b : Int} (hm : edg a b ∈ es) : a ≠ b ∧ 0 ≤ a ∧ a < (n : Int) ∧ 0 ≤ b ∧ b < (n : Int) := by
  have := h.inr _ hm
  unfold edg at this; dsimp only at this; omega
/-- what the implementation sorts -/
def preS (es : List Ed) (a b c d : Int) : List Ed := es.filter (fun x => !(decide (x = edg a b) || decide (x = edg c d))) ++ [edg a c, edg b d]
theorem swE_eq {n : Nat} {es : List Ed} (h : Gr n es) (a b c d : Int) : srtE (preS es a b c d) = swE es a b c d := by
  have e1 : delE (delE es a b) c d = es.filter (fun x => !(decide (x = edg a b) || decide (x = edg c d))) := by
    unfold delE
    rw [List.filter_filter]
    refine List.filter_congr fun x _ => ?_
    cases decide (x = edg a b) <;> cases decide (x = edg c d) <;> rfl
  unfold preS swE
  rw [e1, show ∀ l : List Ed, l ++ [edg a c, edg b d] = (l ++ [edg a c]) ++ [edg b d] from fun l => by simp, srtE_snoc, srtE_snoc, srtE_self (h.filter _).sorted]
theorem swE_gr {n : Nat} {es : List Ed} (h : Gr n es) {a b c d : Int} (hm : MayS es a b c d) : Gr n (swE es a b c d) := by
  obtain ⟨h1, h2, h3, h4, h5, h6, h7, h8⟩ := hm
  have r1 := edg_ne h h5
  have r2 := edg_ne h h6
  refine insE_gr (insE_gr (delE_gr (delE_gr h _ _) _ _) (fun h9 => h7 (mem_delE.1 (mem_delE.1 h9).1).1) (by unfold edg; dsimp only; omega)) (fun h9 => ?_) (by unfold edg; dsimp only; omega)
  rcases mem_insE.1 h9 with h9 | h9
  · unfold edg at h9
    simp only [Prod.mk.injEq] at h9
    omega
  · exact h8 (mem_delE.1 (mem_delE.1 h9).1).1
theorem swE_length (es : List Ed) (a b c d : Int) : (swE es a b c d).length ≤ es.length + 2 := by
  unfold swE
  rw [insE_length, insE_length]
  have h1 := delE_le (delE es a b) c d
  have h2 := delE_le es a b
  omega
end Go.Plain
