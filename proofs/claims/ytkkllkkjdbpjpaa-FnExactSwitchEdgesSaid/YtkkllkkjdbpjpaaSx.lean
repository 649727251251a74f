/- A small program logic over the model's own weakest preconditions: the frame of a call as an association list, the memory that the call owns as a list of disjoint pieces, the rest of memory unchanged. Conditions: none; every rule is proved from the kit's rules. -/
import Derived.WalkKit
import Derived.WalkSpells
import Derived.WalkLawsBesides
import Derived.OrdersHeld
import Derived.Laws.StructEq
import Derived.LaidEql
import Derived.Maps.AppendAt
import Derived.Laws.AppendOwnNone
namespace Go.Sx
open Go.RowKit
variable {ds : List Deferred}

/-! ### frames -/
def look : List (Nat × Value) → Nat → Option Value
  | [], _ => none
  | (k, v) :: L, i => bif Nat.beq k i then some v else look L i

theorem look_cons (k : Nat) (v : Value) (L : List (Nat × Value)) (i : Nat) : look ((k, v) :: L) i = if k = i then some v else look L i := by
  by_cases h : k = i
  · subst h; simp [look]
  · have : Nat.beq k i = false := by
      rw [← Bool.not_eq_true, Nat.beq_eq]; exact h
    simp [look, this, h]

def ev (L : List (Nat × Value)) : Operand → Option Value
  | .tmp t => look L t
  | .const v => some v
  | .func f => some (.func (.func f) #[] #[])
  | .global g => some (.pointer (some ⟨g, 0, none⟩))

structure FrOk (ds : List Deferred) (n : Nat) (L : List (Nat × Value)) (a : Act) : Prop where
  size : a.tmps.size = n
  defers : a.defers = ds
  at_ : ∀ i v, look L i = some v → i < n → a.tmps[i]? = some v
  lt : ∀ i v, look L i = some v → i < n

theorem FrOk.eval {n : Nat} {L : List (Nat × Value)} {a : Act} (h : FrOk ds n L a) {x : Operand} {v : Value} (hx : ev L x = some v) : a.eval x = v := by
  cases x with
  | tmp t =>
    have h1 := h.at_ t v hx (h.lt t v hx)
    simp [Act.eval, Array.getD_eq_getD_getElem?, h1]
  | const c => simpa [ev, Act.eval] using hx
  | func f => simpa [ev, Act.eval] using hx
  | global g => simpa [ev, Act.eval] using hx

theorem FrOk.put {n : Nat} {L : List (Nat × Value)} {a : Act} (h : FrOk ds n L a) {d : Nat} (hd : d < n) (v : Value) : FrOk ds n ((d, v) :: L) (a.put (some d) v) := by
  refine ⟨by simpa [Act.put] using h.size, h.defers, fun i u hu hi => ?_, fun i u hu => ?_⟩
  · rw [look_cons] at hu
    by_cases hk : d = i
    · subst hk
      rw [if_pos rfl] at hu
      injection hu with hu
      subst hu
      simp [Act.put, h.size, hd]
    · rw [if_neg hk] at hu
      simp only [Act.put]
      rw [Array.getElem?_setIfInBounds_ne hk]
      exact h.at_ i u hu hi
  · rw [look_cons] at hu
    by_cases hk : d = i
    · omega
    · rw [if_neg hk] at hu; exact h.lt i u hu

theorem FrOk.put_none {n : Nat} {L : List (Nat × Value)} {a : Act} (h : FrOk ds n L a) (v : Value) : FrOk ds n L (a.put none v) := h

/-- every entry of the second list is found in the first -/
inductive Sub (L : List (Nat × Value)) : List (Nat × Value) → Prop where
  | nil : Sub L []
  | cons {i : Nat} {v : Value} {L' : List (Nat × Value)} : look L i = some v → Sub L L' → Sub L ((i, v) :: L')

theorem Sub.look {L L' : List (Nat × Value)} (h : Sub L L') : ∀ i v, look L' i = some v → look L i = some v := by
  induction h with
  | nil => intro i v h; simp [Sx.look] at h
  | cons hl _ ih =>
    intro i v h
    rw [look_cons] at h
    split at h
    · rename_i hk; subst hk; injection h with h; subst h; exact hl
    · exact ih i v h

theorem FrOk.sub {n : Nat} {L L' : List (Nat × Value)} {a : Act} (h : FrOk ds n L a) (hs : Sub L L') : FrOk ds n L' a :=
  ⟨h.size, h.defers, fun i v hv => h.at_ i v (hs.look i v hv), fun i v hv => h.lt i v (hs.look i v hv)⟩

/-! ### memory -/
structure Ent where
  foot : Nat → Prop
  holds : World → Prop
  loc : ∀ w w' : World, (∀ k, foot k → w'.heap[k]? = w.heap[k]?) → holds w → holds w'

/-- the pieces hold, lie from B on in the world, and are disjoint -/
def HP (B : Nat) (w : World) : List Ent → Prop
  | [] => True
  | e :: H => e.holds w ∧ (∀ k, e.foot k → B ≤ k ∧ k < w.heap.size) ∧ (∀ e' ∈ H, ∀ k, e.foot k → ¬ e'.foot k) ∧ HP B w H

theorem HP.foot {B : Nat} {w : World} : ∀ {H : List Ent}, HP B w H → ∀ e ∈ H, ∀ k, e.foot k → B ≤ k ∧ k < w.heap.size
  | _ :: _, h, e, he, k, hk => by
    rcases List.mem_cons.1 he with rfl | he
    · exact h.2.1 k hk
    · exact HP.foot h.2.2.2 e he k hk

theorem HP.mem {B : Nat} {w : World} : ∀ {H : List Ent}, HP B w H → ∀ e ∈ H, e.holds w
  | _ :: _, h, e, he => by
    rcases List.mem_cons.1 he with rfl | he
    · exact h.1
    · exact HP.mem h.2.2.2 e he

theorem HP.keep {B : Nat} {w w' : World} (hs : w.heap.size ≤ w'.heap.size) : ∀ {H : List Ent}, (∀ e ∈ H, ∀ k, e.foot k → w'.heap[k]? = w.heap[k]?) → HP B w H → HP B w' H
  | [], _, _ => trivial
  | e :: _, hk, h => ⟨e.loc w w' (hk e (List.mem_cons_self ..)) h.1, fun k hf => ⟨(h.2.1 k hf).1, Nat.lt_of_lt_of_le (h.2.1 k hf).2 hs⟩, h.2.2.1,
      HP.keep hs (fun e' he' => hk e' (List.mem_cons_of_mem _ he')) h.2.2.2⟩

theorem HP.below {B : Nat} {w w' : World} {H : List Ent} (h : HP B w H) (hb : Below w.heap.size w w') : HP B w' H :=
  h.keep hb.size fun e he k hk => hb.block k (h.foot e he k hk).2

theorem HP.mono {B B' : Nat} {w : World} (hB : B' ≤ B) : ∀ {H : List Ent}, HP B w H → HP B' w H
  | [], _ => trivial
  | _ :: _, h => ⟨h.1, fun k hk => ⟨Nat.le_trans hB (h.2.1 k hk).1, (h.2.1 k hk).2⟩, h.2.2.1, HP.mono hB h.2.2.2⟩

/-- new pieces ahead of the elder ones -/
theorem HP.append {B : Nat} {w : World} {m : Nat} (hm : B ≤ m) : ∀ {N H : List Ent}, HP m w N → HP B w H → (∀ e ∈ H, ∀ k, e.foot k → k < m) → HP B w (N ++ H)
  | [], _, _, h, _ => h
  | e :: N, H, hn, h, hlt => ⟨hn.1, fun k hk => ⟨Nat.le_trans hm (hn.2.1 k hk).1, (hn.2.1 k hk).2⟩, fun e' he' k hk hk' => by
      rcases List.mem_append.1 he' with h1 | h1
      · exact hn.2.2.1 e' h1 k hk hk'
      · have := hlt e' h1 k hk'
        have := (hn.2.1 k hk).1
        omega, HP.append hm hn.2.2.2 h hlt⟩

/-- the world as the call sees it: below B as the call met it, its own pieces from B on -/
structure SS (w0 : World) (B : Nat) (H : List Ent) (w : World) : Prop where
  below : Below B w0 w
  hp : HP B w H
  le : B ≤ w.heap.size

theorem SS.start (w : World) : SS w w.heap.size [] w := ⟨Below.refl _ _, trivial, Nat.le_refl _⟩

/-- the new pieces that a call leaves -/
structure New (w w' : World) (N : List Ent) : Prop where
  below : Below w.heap.size w w'
  hp : HP w.heap.size w' N

theorem SS.new {w0 w w' : World} {B : Nat} {H N : List Ent} (h : SS w0 B H w) (hn : New w w' N) : SS w0 B (N ++ H) w' :=
  ⟨h.below.trans (hn.below.mono h.le), HP.append h.le hn.hp (h.hp.below hn.below) fun e he k hk => (h.hp.foot e he k hk).2, Nat.le_trans h.le hn.below.size⟩

theorem SS.later {w0 w w' : World} {B : Nat} {H : List Ent} (h : SS w0 B H w) (hb : Below w.heap.size w w') : SS w0 B H w' :=
  ⟨h.below.trans (hb.mono h.le), h.hp.below hb, Nat.le_trans h.le hb.size⟩
theorem SS.draw {w0 w : World} {B : Nat} {H : List Ent} (h : SS w0 B H w) : SS w0 B H { w with drawn := w.drawn + 1 } :=
  ⟨⟨h.below.os, h.below.tape, h.below.output, h.below.size, h.below.block⟩, h.hp.keep (w := w) (w' := { w with drawn := w.drawn + 1 }) (Nat.le_refl _) (fun _ _ _ _ => rfl), h.le⟩

/-- picking pieces: the second list holds some of the pieces of the first, each at most once -/
inductive Pick (e : Ent) : List Ent → List Ent → Prop where
  | head {H : List Ent} : Pick e (e :: H) H
  | tail {x : Ent} {H H' : List Ent} : Pick e H H' → Pick e (x :: H) (x :: H')

theorem Pick.mem {e : Ent} {H H' : List Ent} (h : Pick e H H') : ∀ x, x ∈ H ↔ x = e ∨ x ∈ H' := by
  induction h with
  | head => intro x; simp
  | tail _ ih => intro x; simp only [List.mem_cons, ih]; constructor <;> rintro (h | h | h) <;> simp [h]

theorem Pick.hp {e : Ent} {H H' : List Ent} (h : Pick e H H') {B : Nat} {w : World} : HP B w H → HP B w (e :: H') := by
  induction h with
  | head => exact id
  | tail hp ih =>
    intro hh
    have h1 := ih hh.2.2.2
    refine ⟨h1.1, h1.2.1, fun e' he' k hk hk' => ?_, hh.1, hh.2.1, fun e' he' => hh.2.2.1 e' ((hp.mem e').2 (.inr he')), h1.2.2.2⟩
    rcases List.mem_cons.1 he' with rfl | he'
    · exact hh.2.2.1 e ((hp.mem e).2 (.inl rfl)) k hk' hk
    · exact h1.2.2.1 e' he' k hk hk'

theorem Pick.ss {e : Ent} {H H' : List Ent} (h : Pick e H H') {w0 : World} {B : Nat} {w : World} (hs : SS w0 B H w) : SS w0 B (e :: H') w :=
  ⟨hs.below, h.hp hs.hp, hs.le⟩

/-- what is kept of the pieces -/
inductive Keep : List Ent → List Ent → Prop where
  | nil {H : List Ent} : Keep H []
  | refl {H : List Ent} : Keep H H
  | drop {e : Ent} {H R : List Ent} : Keep H R → Keep (e :: H) R
  | consE {e e' : Ent} {H H' R : List Ent} : e = e' → Pick e H H' → Keep H' R → Keep H (e' :: R)
  | conv {e e' : Ent} {H H' R : List Ent} : (∀ w, e.holds w → e'.holds w) → (∀ k, e'.foot k → e.foot k) → Pick e H H' → Keep H' R → Keep H (e' :: R)
  | cons {e : Ent} {H H' R : List Ent} : Pick e H H' → Keep H' R → Keep H (e :: R)

theorem Keep.hp {H R : List Ent} (h : Keep H R) {B : Nat} {w : World} : HP B w H → HP B w R ∧ ∀ x ∈ R, ∀ k, x.foot k → ∃ y ∈ H, y.foot k := by
  have main : ∀ {e e' : Ent} {H H' R : List Ent}, (∀ w, e.holds w → e'.holds w) → (∀ k, e'.foot k → e.foot k) → Pick e H H' → (HP B w H' → HP B w R ∧ ∀ x ∈ R, ∀ k, x.foot k → ∃ y ∈ H', y.foot k) → HP B w H → HP B w (e' :: R) ∧ ∀ x ∈ e' :: R, ∀ k, x.foot k → ∃ y ∈ H, y.foot k := by
    intro e e' H H' R hi hf hp ih hh
    have h1 := hp.hp hh
    obtain ⟨h2, h3⟩ := ih h1.2.2.2
    refine ⟨⟨hi w h1.1, fun k hk => h1.2.1 k (hf k hk), fun x hx k hk hk' => ?_, h2⟩, fun x hx k hk => ?_⟩
    · obtain ⟨y, hy, hyk⟩ := h3 x hx k hk'
      exact h1.2.2.1 y hy k (hf k hk) hyk
    · rcases List.mem_cons.1 hx with rfl | hx
      · exact ⟨e, (hp.mem _).2 (.inl rfl), hf k hk⟩
      · obtain ⟨y, hy, hyk⟩ := h3 x hx k hk
        exact ⟨y, (hp.mem _).2 (.inr hy), hyk⟩
  induction h with
  | nil => exact fun _ => ⟨trivial, fun _ h => by cases h⟩
  | refl => exact fun h => ⟨h, fun x hx k hk => ⟨x, hx, hk⟩⟩
  | drop _ ih => exact fun h => ⟨(ih h.2.2.2).1, fun x hx k hk => by
      obtain ⟨y, hy, hyk⟩ := (ih h.2.2.2).2 x hx k hk
      exact ⟨y, List.mem_cons_of_mem _ hy, hyk⟩⟩
  | cons hp _ ih => exact main (fun _ h => h) (fun _ h => h) hp ih
  | consE he hp _ ih => subst he; exact main (fun _ h => h) (fun _ h => h) hp ih
  | conv hi hf hp _ ih => exact main hi hf hp ih

theorem Keep.ss {H R : List Ent} (h : Keep H R) {w0 : World} {B : Nat} {w : World} (hs : SS w0 B H w) : SS w0 B R w := ⟨hs.below, (h.hp hs.hp).1, hs.le⟩

theorem SS.to_new {w w' : World} {H : List Ent} (h : SS w w.heap.size H w') : New w w' H := ⟨h.below, h.hp⟩

/-! ### the state of a walk -/
structure St (ds : List Deferred) (n : Nat) (w0 : World) (B : Nat) (L : List (Nat × Value)) (H : List Ent) (a : Act) (w : World) : Prop where
  fr : FrOk ds n L a
  ss : SS w0 B H w

theorem St.weaken {n : Nat} {w0 : World} {B : Nat} {L L' : List (Nat × Value)} {H H' : List Ent} {a : Act} {w : World} (h : St ds n w0 B L H a w) (hl : Sub L L') (hh : Keep H H') : St ds n w0 B L' H' a w :=
  ⟨h.fr.sub hl, hh.ss h.ss⟩

/-! ### code -/
def CT (S X : Act → World → Prop) : Prop := ∀ a w, S a w → X a w
abbrev CW (P : Program) (c : Code) (Q : Exit → Act → World → Prop) (S : Act → World → Prop) : Prop := CT S (c.wp P Q)
abbrev CE (Q : Exit → Act → World → Prop) (e : Exit) (S : Act → World → Prop) : Prop := CT S (Q e)
abbrev WL (P : Program) (ops : Array Oper) (Q : Exit → Act → World → Prop) (S : Act → World → Prop) (rest : List Oper) : Prop := CT S (wpList P ops Q rest)

section
variable {P : Program} {Q : Exit → Act → World → Prop} {S : Act → World → Prop} {K : Act → World → Prop}
theorem cw_seq {x y : Code} (h : CW P x (Exit.then (y.wp P Q) Q) S) : CW P (.seq x y) Q S := fun a w hs => wp_seq (h a w hs)
theorem cw_block {id : Nat} {c : Code} (h : CW P c (Exit.inBlock id Q) S) : CW P (.block id c) Q S := fun a w hs => wp_block (h a w hs)
theorem cw_skip (h : CE Q .normal S) : CW P .skip Q S := fun a w hs => wp_skip (h a w hs)
theorem cw_exit {id : Nat} (h : CE Q (.exit id) S) : CW P (.exit id) Q S := fun a w hs => wp_exit (h a w hs)
theorem cw_ret (h : CE Q .ret S) : CW P .ret Q S := fun a w hs => wp_ret (h a w hs)
theorem cw_region {id : Nat} {l : List Oper} (h : WL P l.toArray Q S l) : CW P (.region id l.toArray false) Q S := fun a w hs => wp_region_lit (h a w hs)
theorem wl_nil {ops : Array Oper} (h : CE Q .normal S) : WL P ops Q S [] := fun a w hs => wpList_nil (h a w hs)
theorem ce_then {y : Code} (h : CW P y Q S) : CE (Exit.then (y.wp P Q) Q) .normal S := h
theorem ce_then_exit {id : Nat} (h : CE Q (.exit id) S) : CE (Exit.then K Q) (.exit id) S := h
theorem ce_then_ret (h : CE Q .ret S) : CE (Exit.then K Q) .ret S := h
theorem ce_block {id : Nat} (h : CE Q .normal S) : CE (Exit.inBlock id Q) .normal S := h
theorem ce_block_ret {id : Nat} (h : CE Q .ret S) : CE (Exit.inBlock id Q) .ret S := h
theorem ce_hit {id : Nat} (h : CE Q .normal S) : CE (Exit.inBlock id Q) (.exit id) S := fun a w hs => by
  show if id = id then _ else _
  rw [if_pos rfl]; exact h a w hs
theorem ce_miss {id id' : Nat} (hne : Nat.beq id' id = false) (h : CE Q (.exit id') S) : CE (Exit.inBlock id Q) (.exit id') S := fun a w hs => by
  show if id' = id then _ else _
  rw [if_neg (fun e => by subst e; simp at hne)]; exact h a w hs
end

section
variable {P : Program} {Q : Exit → Act → World → Prop} {n : Nat} {w0 : World} {B : Nat} {L : List (Nat × Value)} {H : List Ent}
theorem cw_true {c : Operand} {x y : Code} (hc : ev L c = some (.bool true)) (h : CW P x Q (St ds n w0 B L H)) : CW P (.cond c x y) Q (St ds n w0 B L H) :=
  fun a w hs => wp_cond_true (hs.fr.eval hc) (h a w hs)
theorem cw_false {c : Operand} {x y : Code} (hc : ev L c = some (.bool false)) (h : CW P y Q (St ds n w0 B L H)) : CW P (.cond c x y) Q (St ds n w0 B L H) :=
  fun a w hs => wp_cond_false (hs.fr.eval hc) (h a w hs)
theorem ct_keep {X : Act → World → Prop} {L' : List (Nat × Value)} {H' : List Ent} (hl : Sub L L') (hh : Keep H H') (h : CT (St ds n w0 B L' H') X) : CT (St ds n w0 B L H) X :=
  fun a w hs => h a w (hs.weaken hl hh)
/-- a loop: the state at its head goes by a ghost value; the measure falls each round -/
theorem cw_loop {α : Type} {c : Code} (Lf : α → List (Nat × Value)) (Hf : α → List Ent) (φ : α → Prop) (μ : α → Nat) (x0 : α) (h0 : φ x0) (hl : Sub L (Lf x0)) (hh : Keep H (Hf x0))
    (round : ∀ x, φ x → CW P c (Exit.then (fun a w => ∃ y, φ y ∧ μ y < μ x ∧ St ds n w0 B (Lf y) (Hf y) a w) Q) (St ds n w0 B (Lf x) (Hf x))) : CW P (.loop c) Q (St ds n w0 B L H) := by
  intro a w hs
  have key : ∀ m x, μ x = m → φ x → ∀ a w, St ds n w0 B (Lf x) (Hf x) a w → (Code.loop c).wp P Q a w := by
    classical
    intro m x _ hx a w hst
    let I : Act → World → Prop := fun a w => ∃ y, φ y ∧ St ds n w0 B (Lf y) (Hf y) a w
    let M : Act → World → Nat → Prop := fun a w k => ∃ y, φ y ∧ μ y = k ∧ St ds n w0 B (Lf y) (Hf y) a w
    have least : ∀ a w, I a w → ∃ k, M a w k ∧ ∀ j, M a w j → k ≤ j := by
      intro a w ⟨y, hy, hsy⟩
      have : ∀ k, M a w k → ∃ k', M a w k' ∧ ∀ j, M a w j → k' ≤ j := by
        intro k
        induction k using Nat.strongRecOn with
        | _ k ih =>
          intro hk
          by_cases hex : ∃ j, j < k ∧ M a w j
          · obtain ⟨j, hj, hm⟩ := hex; exact ih j hj hm
          · exact ⟨k, hk, fun j hj => Nat.le_of_not_lt fun hlt => hex ⟨j, hlt, hj⟩⟩
      exact this (μ y) ⟨y, hy, rfl, hsy⟩
    let ν : Act → World → Nat := fun a w => if h : I a w then Classical.choose (least a w h) else 0
    refine wp_loop I ν ⟨x, hx, hst⟩ fun a w hI => ?_
    have hν : ν a w = Classical.choose (least a w hI) := by simp [ν, hI]
    obtain ⟨⟨y, hy, hyk, hsy⟩, _⟩ := Classical.choose_spec (least a w hI)
    refine wp_mono (round y hy a w hsy) fun e a' w' q => ?_
    cases e with
    | normal =>
      obtain ⟨z, hz, hlt, hsz⟩ := (q : ∃ y', φ y' ∧ μ y' < μ y ∧ St ds n w0 B (Lf y') (Hf y') a' w')
      have hI' : I a' w' := ⟨z, hz, hsz⟩
      refine ⟨hI', ?_⟩
      have h1 : ν a' w' ≤ μ z := by
        simp only [ν, hI', dif_pos]
        exact (Classical.choose_spec (least a' w' hI')).2 _ ⟨z, hz, rfl, hsz⟩
      omega
    | _ => exact q
  exact key _ x0 rfl h0 a w (hs.weaken hl hh)
theorem ce_round {α : Type} {Lf : α → List (Nat × Value)} {Hf : α → List Ent} {φ : α → Prop} {μ : α → Nat} {x : α} (y : α) (hy : φ y) (hm : μ y < μ x) (hl : Sub L (Lf y)) (hh : Keep H (Hf y)) :
    CE (Exit.then (fun a w => ∃ y, φ y ∧ μ y < μ x ∧ St ds n w0 B (Lf y) (Hf y) a w) Q) .normal (St ds n w0 B L H) := fun _ _ hs => ⟨y, hy, hm, hs.weaken hl hh⟩
/-- a place where ways meet again -/
theorem cw_cut {α : Type} {x y : Code} (Lf : α → List (Nat × Value)) (Hf : α → List Ent) (φ : α → Prop) (h1 : CW P x (Exit.then (fun a w => ∃ z, φ z ∧ St ds n w0 B (Lf z) (Hf z) a w) Q) (St ds n w0 B L H))
    (h2 : ∀ z, φ z → CW P y Q (St ds n w0 B (Lf z) (Hf z))) : CW P (.seq x y) Q (St ds n w0 B L H) := fun a w hs =>
  wp_seq (wp_mono (h1 a w hs) fun e a' w' q => by
    cases e with
    | normal => obtain ⟨z, hz, hst⟩ := (q : ∃ z, φ z ∧ St ds n w0 B (Lf z) (Hf z) a' w'); exact h2 z hz a' w' hst
    | _ => exact q)
theorem ce_cut {α : Type} {Lf : α → List (Nat × Value)} {Hf : α → List Ent} {φ : α → Prop} (y : α) (hy : φ y) (hl : Sub L (Lf y)) (hh : Keep H (Hf y)) :
    CE (Exit.then (fun a w => ∃ z, φ z ∧ St ds n w0 B (Lf z) (Hf z) a w) Q) .normal (St ds n w0 B L H) := fun _ _ hs => ⟨y, hy, hs.weaken hl hh⟩
end

/-! ### operations that yield a value and leave the world alone -/
/-- in every frame and world of these facts the operation yields v -/
def OpV (P : Program) (L : List (Nat × Value)) (M : World → Prop) (o : Oper) (v : Value) : Prop :=
  ∀ (a : Act) (w : World), (∀ x u, ev L x = some u → a.eval x = u) → M w → (execOp a.eval o).run P w = .ok (.value v) w

theorem put_dst {n : Nat} {L : List (Nat × Value)} {a : Act} (h : FrOk ds n L a) {o : Oper} {d : Nat} (hd : o.dst = some d) (hlt : Nat.blt d n = true) (v : Value) : FrOk ds n ((d, v) :: L) (a.put o.dst v) := by
  rw [hd]; exact h.put (by simpa [Nat.blt_eq] using hlt) v

section
variable {P : Program} {ops : Array Oper} {Q : Exit → Act → World → Prop} {n : Nat} {w0 : World} {B : Nat} {L : List (Nat × Value)} {H : List Ent} {o : Oper} {rest : List Oper} {v : Value} {d : Nat}
theorem wl_v (h : OpV P L (SS w0 B H) o v) (hg : o.guard = none) (hd : o.dst = some d) (hlt : Nat.blt d n = true) (k : WL P ops Q (St ds n w0 B ((d, v) :: L) H) rest) : WL P ops Q (St ds n w0 B L H) (o :: rest) := by
  intro a w hs
  refine wpList_plain hg fun K hK => ?_
  unfold Oper.wp
  rw [h a w (fun x u hx => hs.fr.eval hx) hs.ss]
  exact hK _ _ (k _ _ ⟨put_dst hs.fr hd hlt v, hs.ss⟩)
theorem wl_if {p : Prop} [Decidable p] (h : OpV P L (SS w0 B H) o (.bool (decide p))) (hg : o.guard = none) (hd : o.dst = some d) (hlt : Nat.blt d n = true)
    (k1 : p → WL P ops Q (St ds n w0 B ((d, .bool true) :: L) H) rest) (k2 : ¬ p → WL P ops Q (St ds n w0 B ((d, .bool false) :: L) H) rest) : WL P ops Q (St ds n w0 B L H) (o :: rest) := by
  by_cases hp : p
  · have e : decide p = true := by simp [hp]
    rw [e] at h; exact wl_v h hg hd hlt (k1 hp)
  · have e : decide p = false := by simp [hp]
    rw [e] at h; exact wl_v h hg hd hlt (k2 hp)
/-- the slot that a guard looks at -/
theorem wl_go {dd : Option Nat} {op : Op} {T : TypeId} {pos : String} {af : Array Edge} {j : Nat} {b : Bool} {g : Nat} (hj : (ops[j]?).bind (·.dst) = some g) (hb : look L g = some (.bool b)) (k : WL P ops Q (St ds n w0 B L H) (⟨dd, op, T, pos, af, none⟩ :: rest)) :
    WL P ops Q (St ds n w0 B L H) (⟨dd, op, T, pos, af, some (j, b)⟩ :: rest) := by
  intro a w hs
  have h1 := k a w hs
  have hw : Region.wanted ⟨dd, op, T, pos, af, some (j, b)⟩ (yielded ops a.tmps) = true := by
    have h2 := hs.fr.at_ g _ hb (hs.fr.lt g _ hb)
    simp [Region.wanted, yielded, hj, h2]
  have hw' : Region.wanted ⟨dd, op, T, pos, af, none⟩ (yielded ops a.tmps) = true := by simp [Region.wanted]
  unfold wpList at h1 ⊢
  rw [if_pos hw]; rw [if_pos hw'] at h1
  exact h1
theorem wl_not {j : Nat} {b b' : Bool} {g : Nat} (hg : o.guard = some (j, b)) (hj : (ops[j]?).bind (·.dst) = some g) (hb : look L g = some (.bool b')) (hne : (b' == b) = false) (hd : o.dst = some d) (hlt : Nat.blt d n = true)
    (k : WL P ops Q (St ds n w0 B ((d, undef) :: L) H) rest) : WL P ops Q (St ds n w0 B L H) (o :: rest) := by
  intro a w hs
  have hw : Region.wanted o (yielded ops a.tmps) = false := by
    have h2 := hs.fr.at_ g _ hb (hs.fr.lt g _ hb)
    simp only [Region.wanted, hg, yielded, hj, Option.bind_some, h2]
    simpa using hne
  unfold wpList
  rw [if_neg (by simp [hw])]
  exact k _ _ ⟨put_dst hs.fr hd hlt undef, hs.ss⟩
theorem wl_notu {j : Nat} {b : Bool} {g : Nat} (hg : o.guard = some (j, b)) (hj : (ops[j]?).bind (·.dst) = some g) (hb : look L g = some undef) (hd : o.dst = some d) (hlt : Nat.blt d n = true)
    (k : WL P ops Q (St ds n w0 B ((d, undef) :: L) H) rest) : WL P ops Q (St ds n w0 B L H) (o :: rest) := by
  intro a w hs
  have hw : Region.wanted o (yielded ops a.tmps) = false := by
    have h2 := hs.fr.at_ g _ hb (hs.fr.lt g _ hb)
    simp only [Region.wanted, hg, yielded, hj, Option.bind_some, h2]
    simp [undef]
  unfold wpList
  rw [if_neg (by simp [hw])]
  exact k _ _ ⟨put_dst hs.fr hd hlt undef, hs.ss⟩
end

section
variable {P : Program} {L : List (Nat × Value)} {M : World → Prop} {x y z : Operand} {u v : Value} {d : Option Nat} {T U : TypeId} {pos : String} {af : Array Edge} {g : Option (Nat × Bool)} {i j : Int}
theorem ov_move (hx : ev L x = some v) : OpV P L M ⟨d, .move x, T, pos, af, g⟩ v := fun a w he _ => by simp [execOp, he x v hx]
theorem ov_assign (hx : ev L x = some v) : OpV P L M ⟨d, .assign x, T, pos, af, g⟩ v := fun a w he _ => by simp [execOp, he x v hx]
theorem ov_pick_t (hc : ev L z = some (.bool true)) (hx : ev L x = some v) : OpV P L M ⟨d, .pick z x y, T, pos, af, g⟩ v := fun a w he _ => by simp [execOp, he z _ hc, he x v hx, asBool]
theorem ov_pick_f (hc : ev L z = some (.bool false)) (hy : ev L y = some v) : OpV P L M ⟨d, .pick z x y, T, pos, af, g⟩ v := fun a w he _ => by simp [execOp, he z _ hc, he y v hy, asBool]
theorem ov_not {b : Bool} (hx : ev L x = some (.bool b)) : OpV P L M ⟨d, .unOp .not U x, T, pos, af, g⟩ (.bool (!b)) := fun a w he _ => by
  simp only [execOp, he x _ hx]; simp [go_sem]
theorem wrap_in {r : Int} (h : -9223372036854775808 ≤ r ∧ r ≤ 9223372036854775807) : IntKind.i64.wrap r = r := by rw [IntKind.wrap_i64]; omega
theorem ov_add {r : Int} (hx : ev L x = some (.int .i64 i)) (hy : ev L y = some (.int .i64 j)) (hr : i + j = r) (hb : -9223372036854775808 ≤ r ∧ r ≤ 9223372036854775807) : OpV P L M ⟨d, .binOp .add U x y T, T, pos, af, g⟩ (.int .i64 r) := fun a w he _ => by
  have := wrap_in hb
  simp only [execOp, he x _ hx, he y _ hy]; simp [go_sem, hr, this]
theorem ov_sub {r : Int} (hx : ev L x = some (.int .i64 i)) (hy : ev L y = some (.int .i64 j)) (hr : i - j = r) (hb : -9223372036854775808 ≤ r ∧ r ≤ 9223372036854775807) : OpV P L M ⟨d, .binOp .sub U x y T, T, pos, af, g⟩ (.int .i64 r) := fun a w he _ => by
  have := wrap_in hb
  simp only [execOp, he x _ hx, he y _ hy]; simp [go_sem, hr, this]
theorem ov_mul {r : Int} (hx : ev L x = some (.int .i64 i)) (hy : ev L y = some (.int .i64 j)) (hr : i * j = r) (hb : -9223372036854775808 ≤ r ∧ r ≤ 9223372036854775807) : OpV P L M ⟨d, .binOp .mul U x y T, T, pos, af, g⟩ (.int .i64 r) := fun a w he _ => by
  have := wrap_in hb
  simp only [execOp, he x _ hx, he y _ hy]; simp [go_sem, hr, this]
theorem ov_lss {T' : TypeId} (hx : ev L x = some (.int .i64 i)) (hy : ev L y = some (.int .i64 j)) : OpV P L M ⟨d, .binOp .lss U x y T', T, pos, af, g⟩ (.bool (decide (i < j))) := fun a w he _ => by
  simp only [execOp, he x _ hx, he y _ hy]; simp [go_sem]
theorem ov_leq {T' : TypeId} (hx : ev L x = some (.int .i64 i)) (hy : ev L y = some (.int .i64 j)) : OpV P L M ⟨d, .binOp .leq U x y T', T, pos, af, g⟩ (.bool (decide (i ≤ j))) := fun a w he _ => by
  simp only [execOp, he x _ hx, he y _ hy]; simp [go_sem]
theorem ov_gtr {T' : TypeId} (hx : ev L x = some (.int .i64 i)) (hy : ev L y = some (.int .i64 j)) : OpV P L M ⟨d, .binOp .gtr U x y T', T, pos, af, g⟩ (.bool (decide (j < i))) := fun a w he _ => by
  simp only [execOp, he x _ hx, he y _ hy]; simp [go_sem]
theorem ov_geq {T' : TypeId} (hx : ev L x = some (.int .i64 i)) (hy : ev L y = some (.int .i64 j)) : OpV P L M ⟨d, .binOp .geq U x y T', T, pos, af, g⟩ (.bool (decide (j ≤ i))) := fun a w he _ => by
  simp only [execOp, he x _ hx, he y _ hy]; simp [go_sem]
theorem ov_eql {T' : TypeId} (hx : ev L x = some (.int .i64 i)) (hy : ev L y = some (.int .i64 j)) : OpV P L M ⟨d, .binOp .eql U x y T', T, pos, af, g⟩ (.bool (decide (i = j))) := fun a w he _ => by
  simp only [execOp, he x _ hx, he y _ hy]; simp [go_sem]
  rfl
theorem ov_neq {T' : TypeId} (hx : ev L x = some (.int .i64 i)) (hy : ev L y = some (.int .i64 j)) : OpV P L M ⟨d, .binOp .neq U x y T', T, pos, af, g⟩ (.bool (decide (i ≠ j))) := fun a w he _ => by
  simp only [execOp, he x _ hx, he y _ hy]; simp [go_sem]
  rw [Bool.eq_iff_iff]; simp
theorem ov_neg {r : Int} (hx : ev L x = some (.int .i64 i)) (hr : -i = r) (hb : -9223372036854775808 ≤ r ∧ r ≤ 9223372036854775807) : OpV P L M ⟨d, .unOp .neg U x, T, pos, af, g⟩ (.int .i64 r) := fun a w he _ => by
  have := wrap_in hb
  simp only [execOp, he x _ hx]; simp [go_sem, hr, this]
theorem ov_quo {T' : TypeId} {r : Int} (hx : ev L x = some (.int .i64 i)) (hy : ev L y = some (.int .i64 j)) (h0 : 0 ≤ i ∧ i ≤ 9223372036854775807) (h1 : 1 ≤ j) (hr : i / j = r) : OpV P L M ⟨d, .binOp .quo U x y T', T, pos, af, g⟩ (.int .i64 r) := fun a w he _ => by
  have e1 : i.tdiv j = r := by rw [← hr, Int.tdiv_eq_ediv_of_nonneg h0.1]
  have e3 : 0 ≤ r ∧ r ≤ i := by subst hr; exact ⟨Int.ediv_nonneg h0.1 (by omega), Int.ediv_le_self _ h0.1⟩
  have e2 : IntKind.i64.wrap r = r := wrap_in (by omega)
  have e4 : ¬ j = 0 := by omega
  simp only [execOp, he x _ hx, he y _ hy]; simp [go_sem, Op.intDiv, e1, e2, e4]
theorem ov_rem {T' : TypeId} {r : Int} (hx : ev L x = some (.int .i64 i)) (hy : ev L y = some (.int .i64 j)) (h0 : 0 ≤ i ∧ i ≤ 9223372036854775807) (h1 : 1 ≤ j) (hr : i % j = r) : OpV P L M ⟨d, .binOp .rem U x y T', T, pos, af, g⟩ (.int .i64 r) := fun a w he _ => by
  have e1 : i.tmod j = r := by rw [← hr, Int.tmod_eq_emod_of_nonneg h0.1]
  have e4 : ¬ j = 0 := by omega
  simp only [execOp, he x _ hx, he y _ hy]; simp [go_sem, Op.intDiv, e1, e4]
theorem ov_neqb {T' : TypeId} {b c : Bool} (hU : P.underlying U = some .bool) (hx : ev L x = some (.bool b)) (hy : ev L y = some (.bool c)) : OpV P L M ⟨d, .binOp .neq U x y T', T, pos, af, g⟩ (.bool (b != c)) := fun a w he _ => by
  have e := run_equalIn_bool' (P := P) w 9999 U b c hU
  simp only [execOp, he x _ hx, he y _ hy, binOp, Op.equal, Op.maxDepth]; simp [go_sem, e]
  cases b <;> cases c <;> rfl
theorem ov_eqlb {T' : TypeId} {b c : Bool} (hU : P.underlying U = some .bool) (hx : ev L x = some (.bool b)) (hy : ev L y = some (.bool c)) : OpV P L M ⟨d, .binOp .eql U x y T', T, pos, af, g⟩ (.bool (b == c)) := fun a w he _ => by
  have e := run_equalIn_bool' (P := P) w 9999 U b c hU
  simp only [execOp, he x _ hx, he y _ hy, binOp, Op.equal, Op.maxDepth]; simp [go_sem, e]
theorem ov_len {E : TypeId} {A : Option Addr} {m c : Nat} (hU : P.underlying U = some (.slice E)) (hx : ev L x = some (.slice A m c)) :
    OpV P L M ⟨d, .call { callee := .builtin .len, args := #[x], argTypes := #[U] }, T, pos, af, g⟩ (.int .i64 (m : Int)) := fun a w he _ => by
  simp only [execOp, resolve, invoke, builtin, Sem.run_bind, Sem.run_pure, Result.andThen_ok, List.map_toArray, List.map_cons, List.map_nil, he x _ hx, Builtin.len_]
  simp [run_underlying hU, goInt]
theorem ov_lens {s : ByteArray} (hU : P.underlying U = some .string) (hx : ev L x = some (.string s)) :
    OpV P L M ⟨d, .call { callee := .builtin .len, args := #[x], argTypes := #[U] }, T, pos, af, g⟩ (.int .i64 (s.size : Int)) := fun a w he _ => by
  simp only [execOp, resolve, invoke, builtin, Sem.run_bind, Sem.run_pure, Result.andThen_ok, List.map_toArray, List.map_cons, List.map_nil, he x _ hx, Builtin.len_]
  simp [run_underlying hU, goInt]
theorem ov_min {ts : Array TypeId} {r : Int} (hx : ev L x = some (.int .i64 i)) (hy : ev L y = some (.int .i64 j)) (hr : (if j < i then j else i) = r) :
    OpV P L M ⟨d, .call { callee := .builtin .min, args := #[x, y], argTypes := ts }, T, pos, af, g⟩ (.int .i64 r) := fun a w he _ => by
  subst hr
  simp only [execOp, resolve, invoke, builtin, Sem.run_bind, Sem.run_pure, Result.andThen_ok, List.map_toArray, List.map_cons, List.map_nil, he x _ hx, he y _ hy, Builtin.min_, List.foldlM, Builtin.min2]
theorem ov_max {ts : Array TypeId} {r : Int} (hx : ev L x = some (.int .i64 i)) (hy : ev L y = some (.int .i64 j)) (hr : (if j > i then j else i) = r) :
    OpV P L M ⟨d, .call { callee := .builtin .max, args := #[x, y], argTypes := ts }, T, pos, af, g⟩ (.int .i64 r) := fun a w he _ => by
  subst hr
  simp only [execOp, resolve, invoke, builtin, Sem.run_bind, Sem.run_pure, Result.andThen_ok, List.map_toArray, List.map_cons, List.map_nil, he x _ hx, he y _ hy, Builtin.max_, List.foldlM, Builtin.max2]
theorem ov_extract {vs : Array Value} {q : Nat} (hx : ev L x = some (.tuple vs)) (hv : vs[q]? = some v) : OpV P L M ⟨d, .extract x q, T, pos, af, g⟩ v := fun a w he _ => by
  simp only [execOp, he x _ hx, Instr.extract, hv]; simp
theorem ov_nilCheck {f : Fn} {c1 c2 : Array Value} (hx : ev L x = some (.func f c1 c2)) (hf : (∃ q, f = .func q)) : OpV P L M ⟨d, .nilCheck x, T, pos, af, g⟩ (.func f c1 c2) := fun a w he _ => by
  obtain ⟨q, rfl⟩ := hf
  simp only [execOp, he x _ hx]; simp

/-! the address of the k-th cell from A on -/
def elp (A : Option Addr) (k : Nat) : Value := .pointer (A.map (·.add k))
theorem add_of_add (a : Addr) (i j : Nat) : (a.add i).add j = a.add (i + j) := by
  unfold Addr.add
  by_cases hi : i = 0 <;> by_cases hj : j = 0 <;> simp [hi, hj, Nat.add_assoc]
theorem block_of_add (a : Addr) (n : Nat) : (a.add n).block = a.block := by unfold Addr.add; split <;> rfl
theorem elp_zero (A : Option Addr) : elp A 0 = .pointer A := by cases A <;> simp [elp, Addr.add]

/-- from A on there lie these cells -/
def At (w : World) (A : Option Addr) (cs : List Value) : Prop := ∀ (j : Nat) (u : Value), cs[j]? = some u → ∃ a, A = some a ∧ w.cell? (a.add j) = some u
/-- the same, in blocks below B -/
def AtB (w : World) (B : Nat) (A : Option Addr) (cs : List Value) : Prop := ∀ (j : Nat) (u : Value), cs[j]? = some u → ∃ a, A = some a ∧ a.block < B ∧ w.cell? (a.add j) = some u
theorem AtB.at_ {w : World} {B : Nat} {A : Option Addr} {cs : List Value} (h : AtB w B A cs) : At w A cs := fun j u hu => let ⟨a, h1, _, h3⟩ := h j u hu; ⟨a, h1, h3⟩
theorem AtB.below {w w' : World} {B : Nat} {A : Option Addr} {cs : List Value} (h : AtB w B A cs) (hb : Below B w w') : AtB w' B A cs := fun j u hu => by
  obtain ⟨a, h1, h2, h3⟩ := h j u hu
  exact ⟨a, h1, h2, (hb.cell (by rw [block_of_add]; exact h2)).trans h3⟩
theorem AtB.mono {w : World} {B B' : Nat} {A : Option Addr} {cs : List Value} (h : AtB w B A cs) (hb : B ≤ B') : AtB w B' A cs := fun j u hu => by
  obtain ⟨a, h1, h2, h3⟩ := h j u hu
  exact ⟨a, h1, by omega, h3⟩
theorem At.atB {w : World} {A : Option Addr} {cs : List Value} (h : At w A cs) : AtB w w.heap.size A cs := fun j u hu => by
  obtain ⟨a, h1, h3⟩ := h j u hu
  have := World.block_lt_of_cell? w _ h3
  rw [block_of_add] at this
  exact ⟨a, h1, this, h3⟩
theorem At.drop {w : World} {A : Option Addr} {cs : List Value} (h : At w A cs) (k : Nat) : At w (A.map (·.add k)) (cs.drop k) := fun j u hu => by
  rw [List.getElem?_drop] at hu
  obtain ⟨a, rfl, h3⟩ := h _ u hu
  exact ⟨a.add k, rfl, by rw [add_of_add]; exact h3⟩
theorem At.take {w : World} {A : Option Addr} {cs : List Value} (h : At w A cs) (k : Nat) : At w A (cs.take k) := fun j u hu => by
  rw [List.getElem?_take] at hu
  split at hu
  · exact h j u hu
  · cases hu
theorem At.nil {w : World} {A : Option Addr} : At w A [] := fun j u hu => by simp at hu

/-! closed facts on types -/
def fieldI (P : Program) (U : TypeId) (f : Nat) : Option (Nat × Bool) :=
  match P.underlying U with
  | some (.struct fs) => (fs[f]?).bind fun fd => (P.info? fd.type).map fun i => (fd.offset, decide (i.size = 0))
  | _ => none
def isAggD : TypeDesc → Bool
  | .struct _ | .array _ _ => true
  | _ => false
/-- is it an aggregate; cells; bytes; zero value -/
def tyI (P : Program) (t : TypeId) : Option (Bool × Nat × Nat × Value) :=
  match P.underlying t, P.info? t with
  | some u, some i => i.zero.map fun z => (isAggD u, i.size, i.bytes, z)
  | _, _ => none
def sliceI (P : Program) (t : TypeId) : Option TypeId := match P.underlying t with | some (.slice e) => some e | _ => none
theorem sliceI_spec {P : Program} {t e : TypeId} (h : sliceI P t = some e) : P.underlying t = some (.slice e) := by
  unfold sliceI at h
  split at h
  · rename_i e' h'; injection h with h; subst h; exact h'
  · cases h
theorem tyI_spec {P : Program} {t : TypeId} {g : Bool} {sz by_ : Nat} {z : Value} (h : tyI P t = some (g, sz, by_, z)) : ∃ u i, P.underlying t = some u ∧ P.info? t = some i ∧ isAggD u = g ∧ i.size = sz ∧ i.bytes = by_ ∧ i.zero = some z := by
  unfold tyI at h
  split at h
  · rename_i u i hu hi
    cases hz : i.zero with
    | none => simp [hz] at h
    | some z' =>
      simp [hz] at h
      obtain ⟨h1, h2, h3, h4⟩ := h
      exact ⟨u, i, hu, hi, h1, h2, h3, by rw [h4] at hz; exact hz⟩
  · cases h
theorem run_isAgg {P : Program} {t : TypeId} {g : Bool} {sz by_ : Nat} {z : Value} (h : tyI P t = some (g, sz, by_, z)) (w : World) : (isAgg t).run P w = .ok g w := by
  obtain ⟨u, i, hu, _, hg, _⟩ := tyI_spec h
  simp only [isAgg, Sem.run_bind, run_underlying hu, Result.andThen_ok]
  subst hg
  cases u <;> rfl
theorem run_sizeOf {P : Program} {t : TypeId} {g : Bool} {sz by_ : Nat} {z : Value} (h : tyI P t = some (g, sz, by_, z)) (w : World) : (sizeOf t).run P w = .ok sz w := by
  obtain ⟨u, i, _, hi, _, hs, _⟩ := tyI_spec h
  simp [sizeOf, typeInfo, hi, hs]
theorem run_zeroValue {P : Program} {t : TypeId} {g : Bool} {sz by_ : Nat} {z : Value} (h : tyI P t = some (g, sz, by_, z)) (w : World) : (zeroValue t).run P w = .ok z w := by
  obtain ⟨u, i, _, hi, _, _, _, hz⟩ := tyI_spec h
  simp [zeroValue, typeInfo, hi, hz]

/-! pieces of memory -/
def blk (g : Nat) (cs : List Value) (t : TypeId) : Ent := ⟨fun k => k = g, fun w => w.heap[g]? = some (.cells cs.toArray t (0, 0)), fun _ _ h1 h2 => (h1 g rfl).trans h2⟩
/-- a slice of m elements with room for c, its cells of type e, 'size' cells an element -/
def row (e : TypeId) (size : Nat) (A : Option Addr) (m c : Nat) (cs : List Value) : Ent :=
  ⟨fun k => ∃ a, A = some a ∧ k = a.block,
   fun w => cs.length = m * size ∧ m ≤ c ∧ c ≤ maxLen ∧ ((A = none ∧ c = 0) ∨ ∃ (g : Nat) (cur : List Value), A = some ⟨g, 0, none⟩ ∧ w.heap[g]? = some (.cells cur.toArray e (0, 0)) ∧ cur.length = c * size ∧ cur.take (m * size) = cs),
   fun _ _ h1 ⟨h2, h3, h4, h5⟩ => ⟨h2, h3, h4, h5.imp id fun ⟨g, cur, e1, e2, e3⟩ => ⟨g, cur, e1, (h1 g ⟨_, e1, rfl⟩).trans e2, e3⟩⟩⟩

theorem cell_of_cells {w : World} {g : Nat} {cs : List Value} {t : TypeId} (h : w.heap[g]? = some (.cells cs.toArray t (0, 0))) (i : Nat) : w.cell? ((⟨g, 0, none⟩ : Addr).add i) = cs[i]? := by
  have e : (⟨g, 0, none⟩ : Addr).add i = ⟨g, i, none⟩ := by unfold Addr.add; split <;> simp_all
  rw [e]
  simp [World.cell?, h]

theorem at_blk {w : World} {g : Nat} {cs : List Value} {t : TypeId} (h : (blk g cs t).holds w) : At w (some ⟨g, 0, none⟩) cs := fun j u hu => ⟨_, rfl, by rw [cell_of_cells h]; exact hu⟩
theorem at_row {w : World} {e : TypeId} {size : Nat} {A : Option Addr} {m c : Nat} {cs : List Value} (h : (row e size A m c cs).holds w) : At w A cs := fun j u hu => by
  obtain ⟨h1, h2, h3, ⟨rfl, rfl⟩ | ⟨g, cur, rfl, hg, hl, ht⟩⟩ := h
  · have : m = 0 := by omega
    subst this
    have : cs = [] := List.eq_nil_of_length_eq_zero (by simpa using h1)
    subst this
    simp at hu
  · refine ⟨_, rfl, ?_⟩
    rw [cell_of_cells hg]
    rw [← ht, List.getElem?_take] at hu
    split at hu
    · exact hu
    · cases hu

/-- what a load asks -/
def Holds (M : World → Prop) (A : Option Addr) (cs : List Value) : Prop := ∀ w, M w → At w A cs
theorem holds_blk {w0 : World} {B : Nat} {H : List Ent} {g : Nat} {cs : List Value} {t : TypeId} (h : blk g cs t ∈ H) : Holds (SS w0 B H) (some ⟨g, 0, none⟩) cs := fun _ hw => at_blk (hw.hp.mem _ h)
theorem holds_row {w0 : World} {B : Nat} {H : List Ent} {e : TypeId} {size : Nat} {A : Option Addr} {m c : Nat} {cs : List Value} (h : row e size A m c cs ∈ H) : Holds (SS w0 B H) A cs := fun _ hw => at_row (hw.hp.mem _ h)
theorem holds_old {w0 : World} {B : Nat} {H : List Ent} {A : Option Addr} {cs : List Value} (h : AtB w0 B A cs) : Holds (SS w0 B H) A cs := fun _ hw => (h.below hw.below).at_

theorem ov_fieldAddr {A : Option Addr} {k q f : Nat} (hF : fieldI P U f = some (q, false)) (hA : ∀ w, M w → ∃ a, A = some a) (hx : ev L x = some (elp A k)) : OpV P L M ⟨d, .fieldAddr U x f, T, pos, af, g⟩ (elp A (k + q)) := fun a w he hM => by
  obtain ⟨b, rfl⟩ := hA w hM
  unfold fieldI at hF
  split at hF
  · rename_i fs hU
    cases hf : fs[f]? with
    | none => simp [hf] at hF
    | some fd =>
      cases hi : P.info? fd.type with
      | none => simp [hf, hi] at hF
      | some i =>
        simp [hf, hi] at hF
        obtain ⟨h1, h2⟩ := hF
        simp only [execOp, he x _ hx, elp, Option.map_some, Instr.fieldAt, Instr.sureAddr]
        simp [run_underlying hU, hf, fieldPlace, sizeOf, typeInfo, hi, h1, h2, add_of_add]
  · cases hF
theorem some_lit {b : Addr} : ∀ w, M w → ∃ a, some b = some a := fun _ _ => ⟨_, rfl⟩
theorem some_holds {A : Option Addr} {cs : List Value} {q : Nat} (h : Holds M A cs) (hq : q < cs.length) : ∀ w, M w → ∃ a, A = some a := fun w hw =>
  let ⟨a, h1, _⟩ := h w hw q cs[q] (List.getElem?_eq_getElem hq); ⟨a, h1⟩
/-- the address of an element -/
theorem ov_index {E : TypeId} {ag : Bool} {sz by_ : Nat} {zv : Value} {A : Option Addr} {m c k : Nat} (hU : sliceI P U = some E) (hE : tyI P E = some (ag, sz, by_, zv)) (hx : ev L x = some (.slice A m c)) (hy : ev L y = some (.int .i64 (k : Int))) (hA : ∀ w, M w → ∃ a, A = some a) (hk : k < m) :
    OpV P L M ⟨d, .indexAddr U x y, T, pos, af, g⟩ (elp A (k * sz)) := fun a w he hM => by
  obtain ⟨b, rfl⟩ := hA w hM
  have h1 := sliceI_spec hU
  have h2 := run_sizeOf hE w
  simp only [execOp, he x _ hx, he y _ hy, elp, Option.map_some, Instr.indexAt]
  simp [run_underlying h1, go_sem, h2, hk]
theorem ov_indexg {E : TypeId} {ag : Bool} {sz by_ : Nat} {zv : Value} {A : Option Addr} {m c : Nat} (hU : sliceI P U = some E) (hE : tyI P E = some (ag, sz, by_, zv)) (hx : ev L x = some (.slice A m c)) (hy : ev L y = some (.int .i64 i)) (hA : ∀ w, M w → ∃ a, A = some a) (h0 : 0 ≤ i) (hk : i.toNat < m) :
    OpV P L M ⟨d, .indexAddr U x y, T, pos, af, g⟩ (elp A (i.toNat * sz)) := by
  obtain ⟨k, rfl⟩ := Int.eq_ofNat_of_zero_le h0
  exact ov_index hU hE hx hy hA hk
theorem ov_load {A : Option Addr} {cs : List Value} {q : Nat} {by_ : Nat} {zv : Value} (hT : tyI P U = some (false, 1, by_, zv)) (hh : Holds M A cs) (hx : ev L x = some (elp A q)) (hq : cs[q]? = some v) : OpV P L M ⟨d, .load U x, T, pos, af, g⟩ v := fun a w he hM => by
  obtain ⟨b, rfl, hc⟩ := hh w hM q v hq
  simp only [execOp, he x _ hx, elp, Option.map_some, Instr.loadAt, Instr.sureAddr]
  simp [loadVar, run_isAgg hT, hc]
theorem ov_loadAgg {A : Option Addr} {cs vs : List Value} {q sz : Nat} {by_ : Nat} {zv : Value} (hT : tyI P U = some (true, sz, by_, zv)) (hh : Holds M A cs) (hx : ev L x = some (elp A q)) (hA : ∀ w, M w → ∃ a, A = some a) (hq : (cs.drop q).take sz = vs) (hl : vs.length = sz) : OpV P L M ⟨d, .load U x, T, pos, af, g⟩ (.agg vs.toArray) := fun a w he hM => by
  obtain ⟨b, rfl⟩ := hA w hM
  have h1 : (loadCells (b.add q) sz).run P w = .ok vs.toArray w := by
    rw [← hl]
    refine run_loadCells_list (P := P) (w := w) (b.add q) vs fun j u hu => ?_
    subst hq
    rw [List.getElem?_take] at hu
    split at hu
    · rw [List.getElem?_drop] at hu
      obtain ⟨b', hb, hc⟩ := hh w hM _ u hu
      injection hb with hb; subst hb
      rw [add_of_add]; exact hc
    · cases hu
  simp only [execOp, he x _ hx, elp, Option.map_some, Instr.loadAt, Instr.sureAddr]
  simp [loadVar, run_isAgg hT, run_sizeOf hT, h1]
/-! parts of slices -/
def dropA (A : Option Addr) (c l sz : Nat) : Option Addr := if c = l then A else A.map (·.add (l * sz))
theorem dropA_at {w : World} {A : Option Addr} {cs : List Value} {c l m sz : Nat} (h : At w A cs) (hl : cs.length = m * sz) (hm : m ≤ c) : At w (dropA A c l sz) (cs.drop (l * sz)) := by
  unfold dropA
  split
  · rename_i e
    have : cs.drop (l * sz) = [] := List.drop_eq_nil_of_le (by rw [hl]; exact Nat.mul_le_mul_right _ (by omega))
    rw [this]; exact At.nil
  · exact h.drop _
theorem holds_dropA {A : Option Addr} {cs : List Value} {c l m sz : Nat} (h : Holds M A cs) (hl : cs.length = m * sz) (hm : m ≤ c) : Holds M (dropA A c l sz) (cs.drop (l * sz)) := fun w hw => dropA_at (h w hw) hl hm
theorem holds_take {A : Option Addr} {cs : List Value} {k : Nat} (h : Holds M A cs) : Holds M A (cs.take k) := fun w hw => (h w hw).take k
theorem ov_slice_h {E : TypeId} {ag : Bool} {sz by_ : Nat} {zv : Value} {A : Option Addr} {m c h : Nat} (hU : sliceI P U = some E) (hE : tyI P E = some (ag, sz, by_, zv)) (hx : ev L x = some (.slice A m c)) (hy : ev L y = some (.int .i64 (h : Int))) (hh : h ≤ c) :
    OpV P L M ⟨d, .slice U x none (some y) none, T, pos, af, g⟩ (.slice A h c) := fun a w he hM => by
  have h1 := sliceI_spec hU
  have h2 := run_sizeOf hE w
  have hh' : (h : Int) ≤ (c : Int) := by omega
  simp only [execOp, he x _ hx, he y _ hy, Instr.sliceAt, Option.map_none, Option.map_some]
  simp [run_underlying h1, Instr.slice, Instr.sliceBounds, Instr.sliceBound, asIntOf, hh, h2]
  intro _; cases A <;> simp [Addr.add]
theorem ov_slice_l {E : TypeId} {ag : Bool} {sz by_ : Nat} {zv : Value} {A : Option Addr} {m c l : Nat} (hU : sliceI P U = some E) (hE : tyI P E = some (ag, sz, by_, zv)) (hx : ev L x = some (.slice A m c)) (hy : ev L y = some (.int .i64 (l : Int))) (hh : l ≤ m) :
    OpV P L M ⟨d, .slice U x (some y) none none, T, pos, af, g⟩ (.slice (dropA A c l sz) (m - l) (c - l)) := fun a w he hM => by
  have h1 := sliceI_spec hU
  have h2 := run_sizeOf hE w
  simp only [execOp, he x _ hx, he y _ hy, Instr.sliceAt, Option.map_none, Option.map_some]
  simp [run_underlying h1, Instr.slice, Instr.sliceBounds, Instr.sliceBound, asIntOf, hh, h2, dropA]
theorem ov_slice_lh {E : TypeId} {ag : Bool} {sz by_ : Nat} {zv : Value} {A : Option Addr} {m c l h : Nat} (hU : sliceI P U = some E) (hE : tyI P E = some (ag, sz, by_, zv)) (hx : ev L x = some (.slice A m c)) (hy : ev L y = some (.int .i64 (l : Int))) (hz : ev L z = some (.int .i64 (h : Int))) (hl : l ≤ h) (hh : h ≤ c) :
    OpV P L M ⟨d, .slice U x (some y) (some z) none, T, pos, af, g⟩ (.slice (dropA A c l sz) (h - l) (c - l)) := fun a w he hM => by
  have h1 := sliceI_spec hU
  have h2 := run_sizeOf hE w
  simp only [execOp, he x _ hx, he y _ hy, he z _ hz, Instr.sliceAt, Option.map_none, Option.map_some]
  simp [run_underlying h1, Instr.slice, Instr.sliceBounds, Instr.sliceBound, asIntOf, hh, hl, h2, dropA]
theorem ov_slice_hm {E : TypeId} {ag : Bool} {sz by_ : Nat} {zv : Value} {A : Option Addr} {m c h mx : Nat} (hU : sliceI P U = some E) (hE : tyI P E = some (ag, sz, by_, zv)) (hx : ev L x = some (.slice A m c)) (hy : ev L y = some (.int .i64 (h : Int))) (hz : ev L z = some (.int .i64 (mx : Int))) (hl : h ≤ mx) (hh : mx ≤ c) :
    OpV P L M ⟨d, .slice U x none (some y) (some z), T, pos, af, g⟩ (.slice A h mx) := fun a w he hM => by
  have h1 := sliceI_spec hU
  have h2 := run_sizeOf hE w
  simp only [execOp, he x _ hx, he y _ hy, he z _ hz, Instr.sliceAt, Option.map_none, Option.map_some]
  simp [run_underlying h1, Instr.slice, Instr.sliceBounds, Instr.sliceBound, asIntOf, hh, hl, h2]
  intro _; cases A <;> simp [Addr.add]
theorem ov_slice_lhm {zz : Operand} {E : TypeId} {ag : Bool} {sz by_ : Nat} {zv : Value} {A : Option Addr} {m c l h mx : Nat} (hU : sliceI P U = some E) (hE : tyI P E = some (ag, sz, by_, zv)) (hx : ev L x = some (.slice A m c)) (hw : ev L zz = some (.int .i64 (l : Int))) (hy : ev L y = some (.int .i64 (h : Int))) (hz : ev L z = some (.int .i64 (mx : Int))) (hlh : l ≤ h) (hl : h ≤ mx) (hh : mx ≤ c) :
    OpV P L M ⟨d, .slice U x (some zz) (some y) (some z), T, pos, af, g⟩ (.slice (dropA A mx l sz) (h - l) (mx - l)) := fun a w he hM => by
  have h1 := sliceI_spec hU
  have h2 := run_sizeOf hE w
  simp only [execOp, he x _ hx, he zz _ hw, he y _ hy, he z _ hz, Instr.sliceAt, Option.map_some]
  simp [run_underlying h1, Instr.slice, Instr.sliceBounds, Instr.sliceBound, asIntOf, hh, hl, hlh, h2, dropA]
theorem ov_makeFunc {f : Fn} {xs : Array Operand} {vs : Array Value} (hv : xs.toList.map (ev L) = vs.toList.map some) : OpV P L M ⟨d, .makeFunc f #[] xs, T, pos, af, g⟩ (.func f #[] vs) := fun a w he _ => by
  have : xs.map a.eval = vs := by
    apply Array.ext'
    rw [Array.toList_map]
    have key : ∀ (l : List Operand) (m : List Value), l.map (ev L) = m.map some → l.map a.eval = m := by
      intro l
      induction l with
      | nil => intro m h; cases m with | nil => rfl | cons b m => simp at h
      | cons o l ih => intro m h; cases m with
        | nil => simp at h
        | cons b m => simp only [List.map_cons, List.cons.injEq] at h ⊢; exact ⟨he o b h.1, ih m h.2⟩
    exact key _ _ hv
  simp only [execOp, this]; simp [Instr.makeFunc]
end

/-! ### operations on memory -/
theorem SS.upd {w0 w w' : World} {B : Nat} {e e' : Ent} {H : List Ent} (h : SS w0 B (e :: H) w) (hos : w'.os = w.os) (htp : w'.tape = w.tape) (hout : w'.output = w.output) (hsz : w.heap.size ≤ w'.heap.size)
    (hb : ∀ k, k < w.heap.size → ¬ e.foot k → w'.heap[k]? = w.heap[k]?) (he : e'.holds w') (hf : ∀ k, e'.foot k → (e.foot k ∨ w.heap.size ≤ k) ∧ k < w'.heap.size) : SS w0 B (e' :: H) w' := by
  obtain ⟨h1, ⟨h2, h3, h4, h5⟩, h6⟩ := h
  refine ⟨⟨hos.trans h1.os, htp.trans h1.tape, hout.trans h1.output, Nat.le_trans h1.size hsz, fun k hk => (hb k (by omega) fun hf' => ?_).trans (h1.block k hk)⟩, ⟨he, fun k hk => ?_, fun x hx k hk hk' => ?_, ?_⟩, by omega⟩
  · have := (h3 k hf').1; omega
  · have h7 := hf k hk
    refine ⟨?_, h7.2⟩
    rcases h7.1 with h8 | h8
    · exact (h3 k h8).1
    · omega
  · rcases (hf k hk).1 with h8 | h8
    · exact h4 x hx k h8 hk'
    · have := (h5.foot x hx k hk').2; omega
  · exact h5.keep hsz fun x hx k hk => hb k (h5.foot x hx k hk).2 fun hk' => h4 x hx k hk' hk

theorem SS.fresh {w0 w w' : World} {B : Nat} {e' : Ent} {H : List Ent} (h : SS w0 B H w) (hb : Below w.heap.size w w') (he : e'.holds w') (hf : ∀ k, e'.foot k → w.heap.size ≤ k ∧ k < w'.heap.size) : SS w0 B (e' :: H) w' :=
  h.new (N := [e']) ⟨hb, he, hf, fun _ hx => by (cases hx), trivial⟩

def splice (cs : List Value) (q : Nat) (vs : List Value) : List Value := cs.take q ++ vs ++ cs.drop (q + vs.length)
theorem splice_length {cs vs : List Value} {q : Nat} (h : q + vs.length ≤ cs.length) : (splice cs q vs).length = cs.length := by
  simp only [splice, List.length_append, List.length_take, List.length_drop]; omega

theorem run_storeVar {P : Program} {w : World} {g q : Nat} {cs : List Value} {t U : TypeId} {v : Value} {ag : Bool} {by_ : Nat} {zv : Value} {vs : List Value} (hT : tyI P U = some (ag, vs.length, by_, zv)) (hv : v.cells.toList = vs) (h1 : ∀ u ∈ vs, u.oneCell' = true)
    (hg : w.heap[g]? = some (.cells cs.toArray t (0, 0))) (hl : q + vs.length ≤ cs.length) : (storeVar U ((⟨g, 0, none⟩ : Addr).add q) v).run P w = .ok () (w.setRow g (splice cs q vs).toArray) := by
  have e : (⟨g, 0, none⟩ : Addr).add q = ⟨g, q, none⟩ := by unfold Addr.add; split <;> simp_all
  have h2 := run_storeCells_at P g q t vs 0 cs.toArray w hg (by simpa using hl) h1
  have h3 : v.cells.size = vs.length := by rw [← hv]; simp
  simp only [storeVar, Sem.run_bind, run_sizeOf hT, Result.andThen_ok, h3, ne_eq, not_true_eq_false, if_false, e, hv]
  simp only [Nat.add_zero] at h2
  simpa [splice] using h2

theorem setRow_frame {w : World} {g : Nat} {cs : Array Value} : ∀ k, ¬ k = g → (w.setRow g cs).heap[k]? = w.heap[k]? := fun k hk => setRow_other w g k cs hk

theorem ss_store_blk {P : Program} {w0 w : World} {B : Nat} {H H' : List Ent} {g q : Nat} {cs vs : List Value} {t U : TypeId} {v : Value} {ag : Bool} {by_ : Nat} {zv : Value} (h : SS w0 B H w) (hp : Pick (blk g cs t) H H') (hT : tyI P U = some (ag, vs.length, by_, zv)) (hv : v.cells.toList = vs) (h1 : ∀ u ∈ vs, u.oneCell' = true) (hl : q + vs.length ≤ cs.length) :
    ∃ w', (storeVar U ((⟨g, 0, none⟩ : Addr).add q) v).run P w = .ok () w' ∧ SS w0 B (blk g (splice cs q vs) t :: H') w' := by
  have h2 := hp.ss h
  have hg : w.heap[g]? = some (.cells cs.toArray t (0, 0)) := h2.hp.1
  have hlt : g < w.heap.size := (h2.hp.2.1 g rfl).2
  refine ⟨_, run_storeVar hT hv h1 hg hl, h2.upd rfl rfl rfl (by simp) (fun k _ hk => setRow_other _ _ _ _ hk) (setRow_heap _ _ _ _ _ _ hg) fun k hk => ⟨.inl hk, ?_⟩⟩
  have : k = g := hk
  subst this; simpa using hlt

theorem take_splice {cs vs : List Value} {q n : Nat} (h : q + vs.length ≤ n) (hn : n ≤ cs.length) : (splice cs q vs).take n = splice (cs.take n) q vs := by
  unfold splice
  rw [List.take_append, List.take_append, List.take_take, List.drop_take]
  have e1 : n - (cs.take q).length ≥ vs.length := by simp; omega
  rw [List.take_of_length_le (l := vs) (by simpa using e1)]
  have e2 : min n q = min q n := Nat.min_comm ..
  rw [e2, List.take_take]
  congr 1
  congr 1
  simp; omega

theorem ss_store_row {P : Program} {w0 w : World} {B : Nat} {H H' : List Ent} {e : TypeId} {size : Nat} {A : Option Addr} {m c q : Nat} {cs vs : List Value} {U : TypeId} {v : Value} {ag : Bool} {by_ : Nat} {zv : Value} (h : SS w0 B H w) (hp : Pick (row e size A m c cs) H H') (hT : tyI P U = some (ag, vs.length, by_, zv)) (hv : v.cells.toList = vs) (h1 : ∀ u ∈ vs, u.oneCell' = true) (hl : q + vs.length ≤ cs.length) (hpos : 0 < vs.length) :
    ∃ a w', A = some a ∧ (storeVar U (a.add q) v).run P w = .ok () w' ∧ SS w0 B (row e size A m c (splice cs q vs) :: H') w' := by
  have h2 := hp.ss h
  obtain ⟨h3, h4, h5, ⟨rfl, rfl⟩ | ⟨g, cur, rfl, hg, hcl, ht⟩⟩ := h2.hp.1
  · have : m = 0 := by omega
    subst this; rw [Nat.zero_mul] at h3; omega
  · have hlt : g < w.heap.size := (h2.hp.2.1 g ⟨_, rfl, rfl⟩).2
    have hle : m * size ≤ cur.length := by rw [hcl]; exact Nat.mul_le_mul_right _ h4
    have hcs : cs.length = m * size := h3
    refine ⟨_, _, rfl, run_storeVar hT hv h1 hg (by omega), h2.upd rfl rfl rfl (by simp) (fun k _ hk => setRow_other _ _ _ _ fun e => hk ⟨_, rfl, e⟩) ⟨by rw [splice_length hl]; exact h3, h4, h5, .inr ⟨g, splice cur q vs, rfl, setRow_heap _ _ _ _ _ _ hg, by rw [splice_length (by omega)]; exact hcl, ?_⟩⟩ fun k hk => ⟨.inl hk, ?_⟩⟩
    · rw [take_splice (by omega) hle, ht]
    · obtain ⟨a, ha, rfl⟩ := hk
      injection ha with ha; subst ha
      simpa using hlt

theorem run_storeRow {P : Program} {w : World} {g q : Nat} {cs vs : List Value} {t : TypeId} (h1 : ∀ u ∈ vs, u.oneCell' = true) (hg : w.heap[g]? = some (.cells cs.toArray t (0, 0))) (hl : q + vs.length ≤ cs.length) :
    (storeCells ((⟨g, 0, none⟩ : Addr).add q) vs).run P w = .ok () (w.setRow g (splice cs q vs).toArray) := by
  have e : (⟨g, 0, none⟩ : Addr).add q = ⟨g, q, none⟩ := by unfold Addr.add; split <;> simp_all
  have h2 := run_storeCells_at P g q t vs 0 cs.toArray w hg (by simpa using hl) h1
  simp only [Nat.add_zero] at h2
  rw [e]; simpa [splice] using h2
/-- cells stored into an owned row, from its q-th cell on -/
theorem ss_storeCells {P : Program} {w0 w : World} {B : Nat} {H H' : List Ent} {e : TypeId} {size : Nat} {A : Option Addr} {m c q : Nat} {cs vs : List Value} (h : SS w0 B H w) (hp : Pick (row e size A m c cs) H H') (h1 : ∀ u ∈ vs, u.oneCell' = true) (hl : q + vs.length ≤ cs.length) (a : Addr) (ha : A = some a) :
    ∃ w', (storeCells (a.add q) vs).run P w = .ok () w' ∧ SS w0 B (row e size A m c (splice cs q vs) :: H') w' := by
  have h2 := hp.ss h
  obtain ⟨h3, h4, h5, ⟨rfl, rfl⟩ | ⟨g, cur, rfl, hg, hcl, ht⟩⟩ := h2.hp.1
  · cases ha
  · injection ha with ha; subst ha
    have hlt : g < w.heap.size := (h2.hp.2.1 g ⟨_, rfl, rfl⟩).2
    have hle : m * size ≤ cur.length := by rw [hcl]; exact Nat.mul_le_mul_right _ h4
    have hcs : cs.length = m * size := h3
    refine ⟨_, run_storeRow h1 hg (by omega), h2.upd rfl rfl rfl (by simp) (fun k _ hk => setRow_other _ _ _ _ fun e => hk ⟨_, rfl, e⟩) ⟨by rw [splice_length hl]; exact h3, h4, h5, .inr ⟨g, splice cur q vs, rfl, setRow_heap _ _ _ _ _ _ hg, by rw [splice_length (by omega)]; exact hcl, ?_⟩⟩ fun k hk => ⟨.inl hk, ?_⟩⟩
    · rw [take_splice (by omega) hle, ht]
    · obtain ⟨a, ha, rfl⟩ := hk
      injection ha with ha; subst ha
      simpa using hlt
theorem row_cut {w : World} {e : TypeId} {size : Nat} {A : Option Addr} {m n c : Nat} {cs : List Value} (hn : n ≤ m) (h : (row e size A m c cs).holds w) : (row e size A n c (cs.take (n * size))).holds w := by
  obtain ⟨h1, h2, h3, h4⟩ := h
  have hle : n * size ≤ m * size := Nat.mul_le_mul_right _ hn
  refine ⟨by simp; omega, by omega, h3, h4.imp id fun ⟨g, cur, e1, e2, e3, e4⟩ => ⟨g, cur, e1, e2, e3, ?_⟩⟩
  rw [← e4, List.take_take]; congr 1; omega

theorem row_owns {w : World} {B : Nat} {e : TypeId} {size : Nat} {A : Option Addr} {m c : Nat} {cs : List Value} (h : (row e size A m c cs).holds w) (hf : ∀ k, (row e size A m c cs).foot k → B ≤ k) : w.ownsRow B e size (.slice A m c) m cs := by
  obtain ⟨h1, h2, h3, ⟨rfl, rfl⟩ | ⟨g, cur, rfl, hg, hl, ht⟩⟩ := h
  · have : m = 0 := by omega
    subst this
    exact ⟨h1, .inl ⟨rfl, rfl⟩⟩
  · exact ⟨h1, .inr ⟨g, c, cur.toArray, rfl, hf g ⟨_, rfl, rfl⟩, hg, h2, h3, by simpa using hl, by simpa using ht⟩⟩
theorem owns_row {w : World} {B : Nat} {e : TypeId} {size : Nat} {v : Value} {m : Nat} {cs : List Value} (h : w.ownsRow B e size v m cs) : ∃ A c, v = .slice A m c ∧ (row e size A m c cs).holds w ∧ ∀ k, (row e size A m c cs).foot k → v.ownBlock = some k ∧ B ≤ k ∧ k < w.heap.size := by
  have hlt := h.lt
  obtain ⟨h1, ⟨rfl, rfl⟩ | ⟨g, cap, cur, rfl, hb, hg, h2, h3, h4, h5⟩⟩ := h
  · exact ⟨none, 0, rfl, ⟨h1, Nat.le_refl _, by simp [maxLen], .inl ⟨rfl, rfl⟩⟩, fun k ⟨a, ha, _⟩ => by cases ha⟩
  · refine ⟨_, _, rfl, ⟨h1, h2, h3, .inr ⟨g, cur.toList, rfl, by simpa using hg, by simpa using h4, h5⟩⟩, fun k ⟨a, ha, hk⟩ => ?_⟩
    injection ha with ha; subst ha; subst hk
    exact ⟨rfl, hlt _ rfl⟩

theorem ss_append {P : Program} {w0 w : World} {B : Nat} {H H' : List Ent} {U e : TypeId} {size by_ : Nat} {ag : Bool} {zv : Value} {A A2 : Option Addr} {m c m2 c2 : Nat} {cs cs2 : List Value} (h : SS w0 B H w) (hp : Pick (row e size A m c cs) H H') (hU : sliceI P U = some e) (hE : tyI P e = some (ag, size, by_, zv)) (hz : zv.cells.size = size) (hs : 0 < size)
    (h2 : At w A2 cs2) (hl2 : cs2.length = m2 * size) (h1 : ∀ u ∈ cs2, u.oneCell' = true) (hb : (m + m2) * by_ ≤ 140737488355328) (hm : m + m2 ≤ maxLen) (ty : TypeId) :
    ∃ A' c' w', (Builtin.append_ #[U, U] ty #[.slice A m c, .slice A2 m2 c2]).run P w = .ok (.slice A' (m + m2) c') w' ∧ SS w0 B (row e size A' (m + m2) c' (cs ++ cs2) :: H') w' := by
  have hh := hp.ss h
  have hown : w.ownsRow B e size (.slice A m c) m cs := row_owns hh.hp.1 fun k hk => (hh.hp.2.1 k hk).1
  obtain ⟨u, i, hu, hi, hg, hsz, hby, hzz⟩ := tyI_spec hE
  have key : ∃ v' w', (Builtin.append_ #[U, U] ty #[.slice A m c, .slice A2 m2 c2]).run P w = .ok v' w' ∧ w'.ownsRow B e size v' (m + m2) (cs ++ cs2) ∧ w.grownBy w' (Value.slice A m c).ownBlock ∧ (v'.ownBlock = (Value.slice A m c).ownBlock ∨ v'.ownBlock = some w.heap.size) := by
    rcases A2 with _ | ad
    · have hm2 : cs2 = [] := by
        rcases cs2 with _ | ⟨u, r⟩
        · rfl
        · obtain ⟨a, ha, _⟩ := h2 0 u rfl; cases ha
      subst hm2
      have hm0 : m2 = 0 := by
        rcases Nat.eq_zero_or_pos m2 with h0 | h0
        · exact h0
        · have : 0 < m2 * size := Nat.mul_pos h0 hs
          simp at hl2; omega
      subst hm0
      rcases hown.2 with ⟨hv, hm⟩ | ⟨g, cap, cur, hv, _, _, hnc, _⟩
      · injection hv with e1 e2 e3
        subst e1 e2 e3
        have : cs = [] := List.eq_nil_of_length_eq_zero (by simpa using hown.1)
        subst this
        exact ⟨.slice none 0 0, w, by simp [Builtin.append_, run_underlying (sliceI_spec hU), sizeOf, typeInfo, hi, Builtin.lenOf, Builtin.firstCells], by simpa using hown, World.grownBy.refl w _, .inl rfl⟩
      · injection hv with e1 e2 e3
        subst e1 e3
        exact ⟨.slice (some ⟨g, 0, none⟩) m c, w, by simp [Builtin.append_, run_underlying (sliceI_spec hU), sizeOf, typeInfo, hi, Builtin.lenOf, Builtin.firstCells, hnc, storeCells], by simpa using hown, World.grownBy.refl w _, .inl rfl⟩
    · have hcells : ∀ j u, cs2[j]? = some u → w.cell? (ad.add j) = some u := fun j u hu => by
        obtain ⟨a, ha, hc⟩ := h2 j u hu; injection ha with ha; subst ha; exact hc
      obtain ⟨v', w', hrun, h3, h4, _, h5⟩ := run_append_own_at (P := P) w B U ty e i zv size by_ (sliceI_spec hU) hi hzz hsz hby hz hs (.slice A m c) m cs hown ad m2 c2 cs2 hl2 hcells h1 hm hb hh.le
      exact ⟨v', w', hrun, h3, h4, h5⟩
  obtain ⟨v', w', hrun, h3, h4, h5⟩ := key
  obtain ⟨A', c', rfl, h6, h7⟩ := owns_row h3
  have hfo : ∀ k, (Value.slice A m c).ownBlock = some k → (row e size A m c cs).foot k := fun k hk => by
    cases A with
    | none => simp [Value.ownBlock] at hk
    | some a => simp [Value.ownBlock] at hk; exact ⟨a, rfl, hk.symm⟩
  refine ⟨A', c', w', hrun, hh.upd h4.os h4.tape h4.output h4.size (fun k hk hn => h4.block k hk fun e => hn (hfo k e.symm)) h6 fun k hk => ?_⟩
  obtain ⟨h8, h9, h10⟩ := h7 k hk
  refine ⟨?_, h10⟩
  rcases h5 with h5 | h5
  · exact .inl (hfo k (h5 ▸ h8))
  · rw [h5] at h8; injection h8 with h8; exact .inr (by omega)
end Go.Sx
