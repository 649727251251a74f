/- The second part of the small program logic: operations that make or write memory, calls, statements that draw their order, the entry and the end of a function. Conditions: none. -/
import Derived.Test.YtkkllkkjdbpjpaaSx
namespace Go.Sx
open Go.RowKit
variable {ds : List Deferred}

/-! ### operations that make or write memory, and calls -/
/-- whatever the operation leaves: a value and a world -/
def OpR (P : Program) (L : List (Nat × Value)) (M : World → Prop) (o : Oper) (R : Value → World → Prop) : Prop :=
  ∀ (a : Act) (w : World), (∀ x u, ev L x = some u → a.eval x = u) → M w → ∀ (K : Act → World → Prop) (Q : Exit → Act → World → Prop), (∀ v w', R v w' → K (a.put o.dst v) w') → o.wp P a w K Q
/-- what follows, whatever was left -/
def KT (ds : List Deferred) (n d : Nat) (L : List (Nat × Value)) (R : Value → World → Prop) (X : Act → World → Prop) : Prop := ∀ v w', R v w' → ∀ a, FrOk ds n L a → X (a.put (some d) v) w'
def KN (ds : List Deferred) (n : Nat) (L : List (Nat × Value)) (R : Value → World → Prop) (X : Act → World → Prop) : Prop := ∀ v w', R v w' → ∀ a, FrOk ds n L a → X a w'

section
variable {P : Program} {ops : Array Oper} {Q : Exit → Act → World → Prop} {n : Nat} {w0 : World} {B : Nat} {L : List (Nat × Value)} {H : List Ent} {o : Oper} {rest : List Oper} {d : Nat} {R : Value → World → Prop} {X : Act → World → Prop}
theorem wl_r (h : OpR P L (SS w0 B H) o R) (hg : o.guard = none) (hd : o.dst = some d) (k : KT ds n d L R (wpList P ops Q rest)) : WL P ops Q (St ds n w0 B L H) (o :: rest) := by
  intro a w hs
  refine wpList_plain hg fun K hK => h a w (fun x u hx => hs.fr.eval hx) hs.ss K Q fun v w' hr => hK _ _ ?_
  rw [hd]; exact k v w' hr a hs.fr
theorem wl_r0 (h : OpR P L (SS w0 B H) o R) (hg : o.guard = none) (hd : o.dst = none) (k : KN ds n L R (wpList P ops Q rest)) : WL P ops Q (St ds n w0 B L H) (o :: rest) := by
  intro a w hs
  refine wpList_plain hg fun K hK => h a w (fun x u hx => hs.fr.eval hx) hs.ss K Q fun v w' hr => hK _ _ ?_
  rw [hd]; exact k v w' hr a hs.fr
theorem kt0 {V : Value} {H' : List Ent} (hlt : Nat.blt d n = true) (k : CT (St ds n w0 B ((d, V) :: L) H') X) : KT ds n d L (fun v w' => v = V ∧ SS w0 B H' w') X := by
  rintro v w' ⟨rfl, hs⟩ a ha
  exact k _ _ ⟨ha.put (by simpa [Nat.blt_eq] using hlt) _, hs⟩
theorem kt1 {α : Type} {V : α → Value} {H' : α → List Ent} (hlt : Nat.blt d n = true) (k : ∀ x, CT (St ds n w0 B ((d, V x) :: L) (H' x)) X) : KT ds n d L (fun v w' => ∃ x, v = V x ∧ SS w0 B (H' x) w') X := by
  rintro v w' ⟨x, rfl, hs⟩ a ha
  exact k x _ _ ⟨ha.put (by simpa [Nat.blt_eq] using hlt) _, hs⟩
theorem kt1p {α : Type} {φ : α → Prop} {V : α → Value} {H' : α → List Ent} (hlt : Nat.blt d n = true) (k : ∀ x, φ x → CT (St ds n w0 B ((d, V x) :: L) (H' x)) X) : KT ds n d L (fun v w' => ∃ x, φ x ∧ v = V x ∧ SS w0 B (H' x) w') X := by
  rintro v w' ⟨x, hx, rfl, hs⟩ a ha
  exact k x hx _ _ ⟨ha.put (by simpa [Nat.blt_eq] using hlt) _, hs⟩
theorem kt2p {α1 α2 : Type} {φ : α1 → α2 → Prop} {V : α1 → α2 → Value} {H' : α1 → α2 → List Ent} (hlt : Nat.blt d n = true) (k : ∀ x1 x2, φ x1 x2 → CT (St ds n w0 B ((d, V x1 x2) :: L) (H' x1 x2)) X) : KT ds n d L (fun v w' => ∃ x1 x2, φ x1 x2 ∧ v = V x1 x2 ∧ SS w0 B (H' x1 x2) w') X := by
  rintro v w' ⟨x1, x2, hx, rfl, hs⟩ a ha
  exact k _ _ hx _ _ ⟨ha.put (by simpa [Nat.blt_eq] using hlt) _, hs⟩
theorem kt3p {α1 α2 α3 : Type} {φ : α1 → α2 → α3 → Prop} {V : α1 → α2 → α3 → Value} {H' : α1 → α2 → α3 → List Ent} (hlt : Nat.blt d n = true) (k : ∀ x1 x2 x3, φ x1 x2 x3 → CT (St ds n w0 B ((d, V x1 x2 x3) :: L) (H' x1 x2 x3)) X) : KT ds n d L (fun v w' => ∃ x1 x2 x3, φ x1 x2 x3 ∧ v = V x1 x2 x3 ∧ SS w0 B (H' x1 x2 x3) w') X := by
  rintro v w' ⟨x1, x2, x3, hx, rfl, hs⟩ a ha
  exact k _ _ _ hx _ _ ⟨ha.put (by simpa [Nat.blt_eq] using hlt) _, hs⟩
theorem kt4p {α1 α2 α3 α4 : Type} {φ : α1 → α2 → α3 → α4 → Prop} {V : α1 → α2 → α3 → α4 → Value} {H' : α1 → α2 → α3 → α4 → List Ent} (hlt : Nat.blt d n = true) (k : ∀ x1 x2 x3 x4, φ x1 x2 x3 x4 → CT (St ds n w0 B ((d, V x1 x2 x3 x4) :: L) (H' x1 x2 x3 x4)) X) : KT ds n d L (fun v w' => ∃ x1 x2 x3 x4, φ x1 x2 x3 x4 ∧ v = V x1 x2 x3 x4 ∧ SS w0 B (H' x1 x2 x3 x4) w') X := by
  rintro v w' ⟨x1, x2, x3, x4, hx, rfl, hs⟩ a ha
  exact k _ _ _ _ hx _ _ ⟨ha.put (by simpa [Nat.blt_eq] using hlt) _, hs⟩
theorem kt5p {α1 α2 α3 α4 α5 : Type} {φ : α1 → α2 → α3 → α4 → α5 → Prop} {V : α1 → α2 → α3 → α4 → α5 → Value} {H' : α1 → α2 → α3 → α4 → α5 → List Ent} (hlt : Nat.blt d n = true) (k : ∀ x1 x2 x3 x4 x5, φ x1 x2 x3 x4 x5 → CT (St ds n w0 B ((d, V x1 x2 x3 x4 x5) :: L) (H' x1 x2 x3 x4 x5)) X) : KT ds n d L (fun v w' => ∃ x1 x2 x3 x4 x5, φ x1 x2 x3 x4 x5 ∧ v = V x1 x2 x3 x4 x5 ∧ SS w0 B (H' x1 x2 x3 x4 x5) w') X := by
  rintro v w' ⟨x1, x2, x3, x4, x5, hx, rfl, hs⟩ a ha
  exact k _ _ _ _ _ hx _ _ ⟨ha.put (by simpa [Nat.blt_eq] using hlt) _, hs⟩
theorem kt6p {α1 α2 α3 α4 α5 α6 : Type} {φ : α1 → α2 → α3 → α4 → α5 → α6 → Prop} {V : α1 → α2 → α3 → α4 → α5 → α6 → Value} {H' : α1 → α2 → α3 → α4 → α5 → α6 → List Ent} (hlt : Nat.blt d n = true) (k : ∀ x1 x2 x3 x4 x5 x6, φ x1 x2 x3 x4 x5 x6 → CT (St ds n w0 B ((d, V x1 x2 x3 x4 x5 x6) :: L) (H' x1 x2 x3 x4 x5 x6)) X) : KT ds n d L (fun v w' => ∃ x1 x2 x3 x4 x5 x6, φ x1 x2 x3 x4 x5 x6 ∧ v = V x1 x2 x3 x4 x5 x6 ∧ SS w0 B (H' x1 x2 x3 x4 x5 x6) w') X := by
  rintro v w' ⟨x1, x2, x3, x4, x5, x6, hx, rfl, hs⟩ a ha
  exact k _ _ _ _ _ _ hx _ _ ⟨ha.put (by simpa [Nat.blt_eq] using hlt) _, hs⟩
theorem kt_if {p : Prop} [Decidable p] {H' : List Ent} (hlt : Nat.blt d n = true) (k1 : p → CT (St ds n w0 B ((d, .bool true) :: L) H') X) (k2 : ¬ p → CT (St ds n w0 B ((d, .bool false) :: L) H') X) : KT ds n d L (fun v w' => v = .bool (decide p) ∧ SS w0 B H' w') X := by
  rintro v w' ⟨rfl, hs⟩ a ha
  by_cases hp : p
  · have e : decide p = true := by simp [hp]
    rw [e]; exact k1 hp _ _ ⟨ha.put (by simpa [Nat.blt_eq] using hlt) _, hs⟩
  · have e : decide p = false := by simp [hp]
    rw [e]; exact k2 hp _ _ ⟨ha.put (by simpa [Nat.blt_eq] using hlt) _, hs⟩
theorem kn0 {V : Value} {H' : List Ent} (k : CT (St ds n w0 B L H') X) : KN ds n L (fun v w' => v = V ∧ SS w0 B H' w') X := by
  rintro v w' ⟨rfl, hs⟩ a ha
  exact k _ _ ⟨ha, hs⟩
theorem kn1p {α : Type} {φ : α → Prop} {V : α → Value} {H' : α → List Ent} (k : ∀ x, φ x → CT (St ds n w0 B L (H' x)) X) : KN ds n L (fun v w' => ∃ x, φ x ∧ v = V x ∧ SS w0 B (H' x) w') X := by
  rintro v w' ⟨x, hx, rfl, hs⟩ a ha
  exact k x hx _ _ ⟨ha, hs⟩
end

section
variable {P : Program} {w0 : World} {B : Nat} {L : List (Nat × Value)} {H H' : List Ent} {x y z : Operand} {u v : Value} {d : Option Nat} {T U : TypeId} {pos : String} {af : Array Edge} {g : Option (Nat × Bool)}
theorem OpR.of_run {M : World → Prop} {o : Oper} {R : Value → World → Prop} (h : ∀ (a : Act) (w : World), (∀ x u, ev L x = some u → a.eval x = u) → M w → ∃ v w', (execOp a.eval o).run P w = .ok (.value v) w' ∧ R v w') : OpR P L M o R := by
  intro a w he hM K Q hK
  obtain ⟨v, w', hrun, hr⟩ := h a w he hM
  unfold Oper.wp
  rw [hrun]
  exact hK v w' hr
theorem OpR.of_skip {M : World → Prop} {o : Oper} {R : Value → World → Prop} (h : ∀ (a : Act) (w : World), (∀ x u, ev L x = some u → a.eval x = u) → M w → ∃ w', (execOp a.eval o).run P w = .ok .skip w' ∧ R undef w') : OpR P L M o R := by
  intro a w he hM K Q hK
  obtain ⟨w', hrun, hr⟩ := h a w he hM
  unfold Oper.wp
  rw [hrun]
  exact hK undef w' hr
/-- an operation that yields a value, as one that may do more -/
theorem OpV.opR {o : Oper} {H : List Ent} (h : OpV P L (SS w0 B H) o v) : OpR P L (SS w0 B H) o (fun u w' => u = v ∧ SS w0 B H w') := OpR.of_run fun a w he hM => ⟨v, w, h a w he hM, rfl, hM⟩

theorem ss_new_blk {w : World} (h : SS w0 B H w) (cs : List Value) (t : TypeId) : SS w0 B (blk w.heap.size cs t :: H) (w.alloc (.cells cs.toArray t)) :=
  h.fresh ((Below.refl _ _).alloc (Nat.le_refl _) _) (heap_alloc_new w _) fun k hk => by have : k = w.heap.size := hk; subst this; simp
theorem or_alloc {g' : Bool} {sz by_ : Nat} {zv : Value} {zs : List Value} (hT : tyI P U = some (g', sz, by_, zv)) (hz : zv.cells.toList = zs) : OpR P L (SS w0 B H) ⟨d, .alloc U, T, pos, af, g⟩ (fun v w' => ∃ r, v = elp (some ⟨r, 0, none⟩) 0 ∧ SS w0 B (blk r zs U :: H) w') :=
  OpR.of_run fun a w _ hM => by
    subst hz
    refine ⟨_, w.alloc (.cells zv.cells U), ?_, w.heap.size, rfl, by simpa using ss_new_blk hM zv.cells.toList U⟩
    simp only [execOp, Instr.alloc]
    simp [run_zeroValue hT, newVar, newRow, elp, Addr.add]
theorem or_box {zs : List Value} (hx : ev L x = some v) (hz : v.cells.toList = zs) : OpR P L (SS w0 B H) ⟨d, .box U x, T, pos, af, g⟩ (fun v w' => ∃ r, v = elp (some ⟨r, 0, none⟩) 0 ∧ SS w0 B (blk r zs U :: H) w') :=
  OpR.of_run fun a w he hM => by
    subst hz
    refine ⟨_, w.alloc (.cells v.cells U), ?_, w.heap.size, rfl, by simpa using ss_new_blk hM v.cells.toList U⟩
    simp only [execOp, Instr.box, he x v hx]
    simp [newVar, newRow, elp, Addr.add]
theorem or_store_blk {r q : Nat} {cs vs cs' : List Value} {t : TypeId} {ag : Bool} {by_ : Nat} {zv : Value} (hp : Pick (blk r cs t) H H') (hT : tyI P U = some (ag, vs.length, by_, zv)) (hx : ev L x = some (elp (some ⟨r, 0, none⟩) q)) (hy : ev L y = some v) (hv : v.cells.toList = vs)
    (h1 : vs.all (·.oneCell') = true) (hl : q + vs.length ≤ cs.length) (hc : splice cs q vs = cs') : OpR P L (SS w0 B H) ⟨d, .store U x y, T, pos, af, g⟩ (fun v w' => v = undef ∧ SS w0 B (blk r cs' t :: H') w') :=
  OpR.of_skip fun a w he hM => by
    obtain ⟨w', hrun, hs⟩ := ss_store_blk hM hp hT hv (fun u hu => List.all_eq_true.1 h1 u hu) hl
    subst hc
    refine ⟨w', ?_, rfl, hs⟩
    simp only [execOp, he x _ hx, he y _ hy, Instr.storeAt, Instr.sureAddr, elp, Option.map_some]
    simp [hrun]
theorem or_store_row {e : TypeId} {size m c q : Nat} {A : Option Addr} {cs vs cs' : List Value} {ag : Bool} {by_ : Nat} {zv : Value} (hp : Pick (row e size A m c cs) H H') (hT : tyI P U = some (ag, vs.length, by_, zv)) (hx : ev L x = some (elp A q)) (hy : ev L y = some v) (hv : v.cells.toList = vs)
    (h1 : vs.all (·.oneCell') = true) (hl : q + vs.length ≤ cs.length) (hpos : 0 < vs.length) (hc : splice cs q vs = cs') : OpR P L (SS w0 B H) ⟨d, .store U x y, T, pos, af, g⟩ (fun v w' => v = undef ∧ SS w0 B (row e size A m c cs' :: H') w') :=
  OpR.of_skip fun a w he hM => by
    obtain ⟨b, w', rfl, hrun, hs⟩ := ss_store_row hM hp hT hv (fun u hu => List.all_eq_true.1 h1 u hu) hl hpos
    subst hc
    refine ⟨w', ?_, rfl, hs⟩
    simp only [execOp, he x _ hx, he y _ hy, Instr.storeAt, Instr.sureAddr, elp, Option.map_some]
    simp [hrun]
theorem or_append {e : TypeId} {size by_ m c m2 c2 : Nat} {ag : Bool} {zv : Value} {A A2 : Option Addr} {cs cs2 cs' : List Value} (hU : sliceI P U = some e) (hE : tyI P e = some (ag, size, by_, zv)) (hz : zv.cells.size = size) (hs : 0 < size) (hx : ev L x = some (.slice A m c)) (hy : ev L y = some (.slice A2 m2 c2))
    (hp : Pick (row e size A m c cs) H H') (hh : Holds (SS w0 B H) A2 cs2) (hl : cs2.length = m2 * size) (h1 : ∀ u ∈ cs2, u.oneCell' = true) (hc : cs ++ cs2 = cs') (hb : (m + m2) * by_ ≤ 140737488355328) (hm : m + m2 ≤ 1000000000000) :
    OpR P L (SS w0 B H) ⟨d, .call { callee := .builtin .append, args := #[x, y], argTypes := #[U, U] }, T, pos, af, g⟩ (fun v w' => ∃ A' c', m + m2 ≤ c' ∧ v = .slice A' (m + m2) c' ∧ SS w0 B (row e size A' (m + m2) c' cs' :: H') w') :=
  OpR.of_run fun a w he hM => by
    subst hc
    obtain ⟨A', c', w', hrun, hss⟩ := ss_append (c2 := c2) hM hp hU hE hz hs (hh w hM) hl h1 hb (by simp only [maxLen]; omega) T
    refine ⟨_, w', ?_, A', c', hss.hp.1.2.1, rfl, hss⟩
    simp only [execOp, resolve, invoke, builtin, Sem.run_bind, Sem.run_pure, Result.andThen_ok, List.map_toArray, List.map_cons, List.map_nil, he x _ hx, he y _ hy, hrun]
theorem row_none {w : World} {B : Nat} {H : List Ent} (e : TypeId) (size : Nat) (h : SS w0 B H w) : SS w0 B (row e size none 0 0 [] :: H) w :=
  h.fresh (Below.refl _ _) ⟨by simp, Nat.le_refl _, by simp [maxLen], .inl ⟨rfl, rfl⟩⟩ fun k ⟨a, ha, _⟩ => by cases ha
theorem ss_new_row {w : World} (h : SS w0 B H w) (cs : List Value) (e : TypeId) (size m : Nat) (hl : cs.length = m * size) (hm : m ≤ maxLen) : SS w0 B (row e size (some ⟨w.heap.size, 0, none⟩) m m cs :: H) (w.alloc (.cells cs.toArray e)) :=
  h.fresh ((Below.refl _ _).alloc (Nat.le_refl _) _) ⟨hl, Nat.le_refl _, hm, .inr ⟨_, cs, rfl, heap_alloc_new w _, hl, by rw [← hl, List.take_length]⟩⟩ fun k ⟨a, ha, hk⟩ => by
    injection ha with ha; subst ha; subst hk; simp

theorem map_eval {a : Act} (he : ∀ x u, ev L x = some u → a.eval x = u) : ∀ (l : List Operand) (m : List Value), l.map (ev L) = m.map some → l.map a.eval = m := by
  intro l
  induction l with
  | nil => intro m h; cases m with | nil => rfl | cons b m => simp at h
  | cons o l ih => intro m h; cases m with
    | nil => simp at h
    | cons b m => simp only [List.map_cons, List.cons.injEq] at h ⊢; exact ⟨he o b h.1, ih m h.2⟩
theorem ov_build {M : World → Prop} {ps : List (Nat × Operand)} {is : List Nat} {vs : List Value} (hi : ps.map (·.1) = is) (hv : (ps.map (·.2)).map (ev L) = vs.map some) (hrun : ∀ w, (Instr.build U (is.zip vs).toArray).run P w = .ok v w) : OpV P L M ⟨d, .build U ps.toArray, T, pos, af, g⟩ v := fun a w he _ => by
  have h1 := map_eval he _ _ hv
  have h2 : ps.map (fun p => (p.1, a.eval p.2)) = is.zip vs := by
    rw [← h1, ← hi]
    clear hv h1 hi hrun
    induction ps with
    | nil => rfl
    | cons p ps ih => simp [ih]
  have h3 : (ps.toArray.map fun (x : Nat × Operand) => (x.1, a.eval x.2)) = (is.zip vs).toArray := by
    rw [List.map_toArray]; exact congrArg List.toArray h2
  simp only [execOp]
  have h4 : (ps.toArray.map fun x => match x with | (i, x) => (i, a.eval x)) = (is.zip vs).toArray := h3
  rw [h4]
  simp [hrun]
theorem or_buildSlice {e : TypeId} {size m : Nat} {ps : List (Nat × Operand)} {is : List Nat} {vs cs : List Value} (hi : ps.map (·.1) = is) (hv : (ps.map (·.2)).map (ev L) = vs.map some) (hcs : cs.length = m * size) (hm : m ≤ maxLen)
    (hrun : ∀ w, (Instr.buildSlice U m (is.zip vs).toArray).run P w = .ok (.slice (some ⟨w.heap.size, 0, none⟩) m m) (w.alloc (.cells cs.toArray e))) :
    OpR P L (SS w0 B H) ⟨d, .buildSlice U m ps.toArray, T, pos, af, g⟩ (fun v w' => ∃ r, v = .slice (some ⟨r, 0, none⟩) m m ∧ SS w0 B (row e size (some ⟨r, 0, none⟩) m m cs :: H) w') := OpR.of_run fun a w he hM => by
  have h1 := map_eval he _ _ hv
  have h2 : ps.map (fun p => (p.1, a.eval p.2)) = is.zip vs := by
    rw [← h1, ← hi]
    clear hv h1 hi hrun
    induction ps with
    | nil => rfl
    | cons p ps ih => simp [ih]
  have h3 : (ps.toArray.map fun (x : Nat × Operand) => (x.1, a.eval x.2)) = (is.zip vs).toArray := by
    rw [List.map_toArray]; exact congrArg List.toArray h2
  refine ⟨_, _, ?_, w.heap.size, rfl, ss_new_row hM cs e size m hcs hm⟩
  simp only [execOp]
  have h4 : (ps.toArray.map fun x => match x with | (i, x) => (i, a.eval x)) = (is.zip vs).toArray := h3
  rw [h4]
  simp [hrun]
theorem or_makeSlice {e : TypeId} {size by_ m : Nat} {ag : Bool} {zv : Value} {cs : List Value} (hU : sliceI P U = some e) (hE : tyI P e = some (ag, size, by_, zv)) (hx : ev L x = some (.int .i64 (m : Int))) (hy : ev L y = some (.int .i64 (m : Int))) (hcs : (madeCells zv.cells (m * size)).toList = cs) (hb : by_ * m ≤ 281474976710656) (hm : m ≤ maxLen) :
    OpR P L (SS w0 B H) ⟨d, .makeSlice U x y, T, pos, af, g⟩ (fun v w' => ∃ r, v = .slice (some ⟨r, 0, none⟩) m m ∧ SS w0 B (row e size (some ⟨r, 0, none⟩) m m cs :: H) w') := OpR.of_run fun a w he hM => by
  obtain ⟨u, i, hu, hi, hg, hsz, hby, hzz⟩ := tyI_spec hE
  subst hsz hby hcs
  have hb' : (i.bytes : Int) * (m : Int) ≤ 281474976710656 := by
    have : ((i.bytes * m : Nat) : Int) ≤ 281474976710656 := by omega
    rwa [Int.natCast_mul] at this
  have h1 := run_make (P := P) w U e i zv (sliceI_spec hU) hi hzz .i64 .i64 (m : Int) (m : Int) (by omega) (by omega) hb' (by simp only [maxLen] at hm; omega)
  refine ⟨_, _, ?_, w.heap.size, rfl, ss_new_row hM _ e i.size m (by simp [size_madeCells]) hm⟩
  simp only [execOp, he x _ hx, he y _ hy]
  simp only [Int.toNat_natCast] at h1
  simp [h1]

/-- a call returns, and this is what it leaves -/
def Ret (R : Value → World → Prop) : Ending → World → Prop := fun e w => ∃ v, e = .returned v ∧ R v w
def Enters (P : Program) (f : FuncId) : Prop := ∀ (args : Array Value) (w : World), (callFunc f args).run P w = .ok (.enter f args) w
theorem enters_of {P : Program} {f : FuncId} {fn : Func} {c : Code} (hf : P.funcs[f]? = some fn) (hname : (fn.name == "runtime.NumGoroutine") = false) (hb : fn.body = some c) : Enters P f := by
  intro args w
  have h1 : fn.name ≠ "runtime.NumGoroutine" := by simpa using hname
  simp [callFunc, hf, h1, hb, mark]
theorem or_call {M : World → Prop} {F : FuncId} {f : Operand} {as_ : List Operand} {ts : Array TypeId} {fv : List Value} {vs cs : List Value} {R : Value → World → Prop} (hen : Enters P F) (hf : ev L f = some (.func (.func F) fv.toArray cs.toArray)) (hv : as_.map (ev L) = vs.map some)
    (hc : ∀ w, M w → Calls P F (fv ++ vs ++ cs).toArray w (Ret R)) : OpR P L M ⟨d, .call { callee := .value f, args := as_.toArray, argTypes := ts }, T, pos, af, g⟩ R := by
  intro a w he hM K Q hK
  have h1 := map_eval he _ _ hv
  have h2 : as_.toArray.map a.eval = vs.toArray := by rw [List.map_toArray, h1]
  have h3 : (execOp a.eval ⟨d, .call { callee := .value f, args := as_.toArray, argTypes := ts }, T, pos, af, g⟩).run P w = .ok (.enter F (fv ++ vs ++ cs).toArray) w := by
    have := hen (fv ++ vs ++ cs).toArray w
    simp only [execOp, resolve, Deferred.ofValue, he f _ hf, h2, invoke, Sem.run_bind, Sem.run_pure, Result.andThen_ok]
    simpa using this
  unfold Oper.wp
  rw [h3]
  refine (hc w hM).mono fun e w' ⟨v, he', hr⟩ => ?_
  subst he'
  exact hK v w' hr
/-- a callee that makes nothing that lasts, and yields this value -/
theorem call_v {F : FuncId} {as_ : Array Value} (h : ∀ w, SS w0 B H w → Calls P F as_ w (Ret fun v w' => v = u ∧ New w w' [])) : ∀ w, SS w0 B H w → Calls P F as_ w (Ret fun v w' => v = u ∧ SS w0 B H w') :=
  fun w hw => (h w hw).mono fun _ _ ⟨v, he, hv, hn⟩ => ⟨v, he, hv, by simpa using hw.new hn⟩
theorem call_x1 {α1 : Type} {F : FuncId} {as_ : Array Value} {φ : α1 → Prop} {V : α1 → Value} {N : α1 → List Ent} (h : ∀ w, SS w0 B H w → Calls P F as_ w (Ret fun v w' => ∃ x1, φ x1 ∧ v = V x1 ∧ New w w' (N x1))) : ∀ w, SS w0 B H w → Calls P F as_ w (Ret fun v w' => ∃ x1, φ x1 ∧ v = V x1 ∧ SS w0 B (N x1 ++ H) w') :=
  fun w hw => (h w hw).mono fun _ _ ⟨v, he, x1, hx, hv, hn⟩ => ⟨v, he, x1, hx, hv, hw.new hn⟩
theorem call_x2 {α1 α2 : Type} {F : FuncId} {as_ : Array Value} {φ : α1 → α2 → Prop} {V : α1 → α2 → Value} {N : α1 → α2 → List Ent} (h : ∀ w, SS w0 B H w → Calls P F as_ w (Ret fun v w' => ∃ x1 x2, φ x1 x2 ∧ v = V x1 x2 ∧ New w w' (N x1 x2))) : ∀ w, SS w0 B H w → Calls P F as_ w (Ret fun v w' => ∃ x1 x2, φ x1 x2 ∧ v = V x1 x2 ∧ SS w0 B (N x1 x2 ++ H) w') :=
  fun w hw => (h w hw).mono fun _ _ ⟨v, he, x1, x2, hx, hv, hn⟩ => ⟨v, he, x1, x2, hx, hv, hw.new hn⟩
theorem call_x3 {α1 α2 α3 : Type} {F : FuncId} {as_ : Array Value} {φ : α1 → α2 → α3 → Prop} {V : α1 → α2 → α3 → Value} {N : α1 → α2 → α3 → List Ent} (h : ∀ w, SS w0 B H w → Calls P F as_ w (Ret fun v w' => ∃ x1 x2 x3, φ x1 x2 x3 ∧ v = V x1 x2 x3 ∧ New w w' (N x1 x2 x3))) : ∀ w, SS w0 B H w → Calls P F as_ w (Ret fun v w' => ∃ x1 x2 x3, φ x1 x2 x3 ∧ v = V x1 x2 x3 ∧ SS w0 B (N x1 x2 x3 ++ H) w') :=
  fun w hw => (h w hw).mono fun _ _ ⟨v, he, x1, x2, x3, hx, hv, hn⟩ => ⟨v, he, x1, x2, x3, hx, hv, hw.new hn⟩
theorem call_x4 {α1 α2 α3 α4 : Type} {F : FuncId} {as_ : Array Value} {φ : α1 → α2 → α3 → α4 → Prop} {V : α1 → α2 → α3 → α4 → Value} {N : α1 → α2 → α3 → α4 → List Ent} (h : ∀ w, SS w0 B H w → Calls P F as_ w (Ret fun v w' => ∃ x1 x2 x3 x4, φ x1 x2 x3 x4 ∧ v = V x1 x2 x3 x4 ∧ New w w' (N x1 x2 x3 x4))) : ∀ w, SS w0 B H w → Calls P F as_ w (Ret fun v w' => ∃ x1 x2 x3 x4, φ x1 x2 x3 x4 ∧ v = V x1 x2 x3 x4 ∧ SS w0 B (N x1 x2 x3 x4 ++ H) w') :=
  fun w hw => (h w hw).mono fun _ _ ⟨v, he, x1, x2, x3, x4, hx, hv, hn⟩ => ⟨v, he, x1, x2, x3, x4, hx, hv, hw.new hn⟩
theorem call_x5 {α1 α2 α3 α4 α5 : Type} {F : FuncId} {as_ : Array Value} {φ : α1 → α2 → α3 → α4 → α5 → Prop} {V : α1 → α2 → α3 → α4 → α5 → Value} {N : α1 → α2 → α3 → α4 → α5 → List Ent} (h : ∀ w, SS w0 B H w → Calls P F as_ w (Ret fun v w' => ∃ x1 x2 x3 x4 x5, φ x1 x2 x3 x4 x5 ∧ v = V x1 x2 x3 x4 x5 ∧ New w w' (N x1 x2 x3 x4 x5))) : ∀ w, SS w0 B H w → Calls P F as_ w (Ret fun v w' => ∃ x1 x2 x3 x4 x5, φ x1 x2 x3 x4 x5 ∧ v = V x1 x2 x3 x4 x5 ∧ SS w0 B (N x1 x2 x3 x4 x5 ++ H) w') :=
  fun w hw => (h w hw).mono fun _ _ ⟨v, he, x1, x2, x3, x4, x5, hx, hv, hn⟩ => ⟨v, he, x1, x2, x3, x4, x5, hx, hv, hw.new hn⟩
theorem call_x6 {α1 α2 α3 α4 α5 α6 : Type} {F : FuncId} {as_ : Array Value} {φ : α1 → α2 → α3 → α4 → α5 → α6 → Prop} {V : α1 → α2 → α3 → α4 → α5 → α6 → Value} {N : α1 → α2 → α3 → α4 → α5 → α6 → List Ent} (h : ∀ w, SS w0 B H w → Calls P F as_ w (Ret fun v w' => ∃ x1 x2 x3 x4 x5 x6, φ x1 x2 x3 x4 x5 x6 ∧ v = V x1 x2 x3 x4 x5 x6 ∧ New w w' (N x1 x2 x3 x4 x5 x6))) : ∀ w, SS w0 B H w → Calls P F as_ w (Ret fun v w' => ∃ x1 x2 x3 x4 x5 x6, φ x1 x2 x3 x4 x5 x6 ∧ v = V x1 x2 x3 x4 x5 x6 ∧ SS w0 B (N x1 x2 x3 x4 x5 x6 ++ H) w') :=
  fun w hw => (h w hw).mono fun _ _ ⟨v, he, x1, x2, x3, x4, x5, x6, hx, hv, hn⟩ => ⟨v, he, x1, x2, x3, x4, x5, x6, hx, hv, hw.new hn⟩
end

/-! ### entry and end of a function -/
def argL : Nat → List Value → List (Nat × Value)
  | _, [] => []
  | i, v :: vs => (i, v) :: argL (i + 1) vs
theorem argL_look : ∀ (vs : List Value) (k i : Nat) (v : Value), look (argL k vs) i = some v → k ≤ i ∧ vs[i - k]? = some v
  | [], k, i, v, h => by simp [argL, look] at h
  | u :: vs, k, i, v, h => by
    simp only [argL] at h
    rw [look_cons] at h
    split at h
    · rename_i e; subst e; injection h with h; subst h; simp
    · rename_i e
      obtain ⟨h1, h2⟩ := argL_look vs (k + 1) i v h
      refine ⟨by omega, ?_⟩
      have : i - k = (i - (k + 1)) + 1 := by omega
      rw [this]; simpa using h2

section
variable {P : Program} {n : Nat} {w0 : World} {B : Nat} {L : List (Nat × Value)} {H : List Ent} {R : Value → World → Prop} {fn : Func}
theorem fn_enter {F : FuncId} {c : Code} {args : List Value} {w : World} (hf : P.funcs[F]? = some fn) (hb : fn.body = some c) (hn : fn.ntmps = n) (hle : Nat.ble args.length n = true) (hs : SS w0 B H w) (h : CT (St [] n w0 B (argL 0 args) H) (c.wp P (bodyPost P fn (Ret R)))) : Calls P F args.toArray w (Ret R) := by
  have hle' : args.length ≤ n := by simpa using hle
  refine calls_of_wp hf hb (h _ _ ⟨⟨?_, rfl, fun i v hv hi => ?_, fun i v hv => ?_⟩, hs⟩)
  · simp [hn]; omega
  · obtain ⟨_, h2⟩ := argL_look _ _ _ _ hv
    rw [Nat.sub_zero] at h2
    have hlt : i < args.length := (List.getElem?_eq_some_iff.1 h2).1
    rw [Array.getElem?_append_left (by simpa using hlt)]
    simpa using h2
  · obtain ⟨_, h2⟩ := argL_look _ _ _ _ hv
    rw [Nat.sub_zero] at h2
    have hlt : i < args.length := (List.getElem?_eq_some_iff.1 h2).1
    omega
theorem St.get {a : Act} {w : World} (hs : St ds n w0 B L H a w) {i : Nat} {v : Value} (h : look L i = some v) : a.tmps.getD i undef = v := by
  have := hs.fr.at_ i v h (hs.fr.lt i v h)
  simp [Array.getD_eq_getD_getElem?, this]
theorem ce_results {v : Value} (hr : ∀ a w, St [] n w0 B L H a w → (results fn a.tmps).run P w = .ok v w) (h : ∀ w, SS w0 B H w → R v w) : CE (bodyPost P fn (Ret R)) .ret (St [] n w0 B L H) :=
  fun a w hs => ⟨hs.fr.defers, v, hr a w hs, v, rfl, h w hs.ss⟩
theorem ce_results_n {v : Value} (hr : ∀ a w, St [] n w0 B L H a w → (results fn a.tmps).run P w = .ok v w) (h : ∀ w, SS w0 B H w → R v w) : CE (bodyPost P fn (Ret R)) .normal (St [] n w0 B L H) :=
  fun a w hs => ⟨hs.fr.defers, v, hr a w hs, v, rfl, h w hs.ss⟩
def resRun (tmps : Array Value) : ResultVar → Sem Value := fun
  | .tmp t => pure (tmps.getD t undef)
  | .cell a t => do loadVar t (← asAddr (tmps.getD a undef))
theorem results_eq (fn : Func) (tmps : Array Value) : results fn tmps = (do
  let vs ← fn.results.mapM (resRun tmps)
  pure (if h : vs.size = 1 then vs[0] else .tuple vs)) := rfl
/-- a result variable holds this value -/
def RV (P : Program) (ds : List Deferred) (n : Nat) (w0 : World) (B : Nat) (L : List (Nat × Value)) (H : List Ent) (x : ResultVar) (v : Value) : Prop := ∀ a w, St ds n w0 B L H a w → (resRun a.tmps x).run P w = .ok v w
theorem rv_t {r : Nat} {v : Value} (h : look L r = some v) : RV P ds n w0 B L H (.tmp r) v := fun a w hs => by
  simp only [resRun, hs.get h]; simp
theorem rv_c {p r sz by_ : Nat} {T : TypeId} {zv : Value} {cs : List Value} {t : TypeId} (h : look L p = some (elp (some ⟨r, 0, none⟩) 0)) (hT : tyI P T = some (true, sz, by_, zv)) (hl : cs.length = sz) (hm : blk r cs t ∈ H) : RV P ds n w0 B L H (.cell p T) (.agg cs.toArray) := fun a w hs => by
  have h1 : (loadCells (⟨r, 0, none⟩ : Addr) sz).run P w = .ok cs.toArray w := by
    rw [← hl]
    refine run_loadCells_list (P := P) (w := w) _ cs fun j u hu => ?_
    obtain ⟨b, hb, hc⟩ := at_blk (hs.ss.hp.mem _ hm) j u hu
    injection hb with hb; subst hb; exact hc
  simp only [resRun, hs.get h]
  simp [elp, Addr.add, asAddr, loadVar, run_isAgg hT, run_sizeOf hT, h1]
/-- a result of one cell that lies in a block of the call's own (a captured variable) -/
theorem rv_c1 {p r by_ : Nat} {T : TypeId} {zv v : Value} {t : TypeId} (h : look L p = some (elp (some ⟨r, 0, none⟩) 0)) (hT : tyI P T = some (false, 1, by_, zv)) (hm : blk r [v] t ∈ H) : RV P ds n w0 B L H (.cell p T) v := fun a w hs => by
  obtain ⟨b, hb, hc⟩ := at_blk (hs.ss.hp.mem _ hm) 0 v rfl
  injection hb with hb; subst hb
  simp only [resRun, hs.get h]
  simp [Addr.add] at hc
  simp [elp, Addr.add, asAddr, loadVar, run_isAgg hT, hc]
theorem res0 (hf : fn.results = #[]) : ∀ a w, St ds n w0 B L H a w → (results fn a.tmps).run P w = .ok (.tuple #[]) w := fun _ _ _ => results_none hf _ _ _
theorem res1 {x : ResultVar} {v : Value} (hf : fn.results = #[x]) (h : RV P ds n w0 B L H x v) : ∀ a w, St ds n w0 B L H a w → (results fn a.tmps).run P w = .ok v w := fun a w hs => by
  have e := h a w hs
  rw [results_eq, hf]; simp [e]
theorem res2 {x y : ResultVar} {u v : Value} (hf : fn.results = #[x, y]) (h : RV P ds n w0 B L H x u) (h' : RV P ds n w0 B L H y v) : ∀ a w, St ds n w0 B L H a w → (results fn a.tmps).run P w = .ok (.tuple #[u, v]) w := fun a w hs => by
  have e := h a w hs; have e' := h' a w hs
  rw [results_eq, hf]; simp [e, e']
theorem res3 {x y z : ResultVar} {u v t : Value} (hf : fn.results = #[x, y, z]) (h : RV P ds n w0 B L H x u) (h' : RV P ds n w0 B L H y v) (h'' : RV P ds n w0 B L H z t) : ∀ a w, St ds n w0 B L H a w → (results fn a.tmps).run P w = .ok (.tuple #[u, v, t]) w := fun a w hs => by
  have e := h a w hs; have e' := h' a w hs; have e'' := h'' a w hs
  rw [results_eq, hf]; simp [e, e', e'']
end

/-! ### loops and cuts by several ghost values -/
section
variable {P : Program} {Q : Exit → Act → World → Prop} {n : Nat} {w0 : World} {B : Nat} {L : List (Nat × Value)} {H : List Ent}
theorem cw_loop1 {α1 : Type} {c : Code} (Lf : α1 → List (Nat × Value)) (Hf : α1 → List Ent) (φ : α1 → Prop) (μ : α1 → Nat) (x1 : α1) (h0 : φ x1) (hl : Sub L (Lf x1)) (hh : Keep H (Hf x1))
    (round : ∀ (R : Act → World → Prop) (x1 : α1), φ x1 → (∀ y1, φ y1 → μ y1 < μ x1 → ∀ a w, St ds n w0 B (Lf y1) (Hf y1) a w → R a w) → CW P c (Exit.then R Q) (St ds n w0 B (Lf x1) (Hf x1))) : CW P (.loop c) Q (St ds n w0 B L H) :=
  cw_loop (α := α1) (fun x => Lf (x)) (fun x => Hf (x)) (fun x => φ (x)) (fun x => μ (x)) x1 h0 hl hh (fun x hx => round _ (x) hx fun y1 h1 h2 _ _ h3 => ⟨y1, h1, h2, h3⟩)
theorem cw_cut1 {α1 : Type} {x y : Code} (Lf : α1 → List (Nat × Value)) (Hf : α1 → List Ent) (φ : α1 → Prop) (h1 : ∀ K : Act → World → Prop, (∀ y1, φ y1 → ∀ a w, St ds n w0 B (Lf y1) (Hf y1) a w → K a w) → CW P x (Exit.then K Q) (St ds n w0 B L H))
    (h2 : ∀ x1, φ x1 → CW P y Q (St ds n w0 B (Lf x1) (Hf x1))) : CW P (.seq x y) Q (St ds n w0 B L H) :=
  cw_cut (α := α1) (fun x => Lf (x)) (fun x => Hf (x)) (fun x => φ (x)) (h1 _ fun y1 h1 _ _ h3 => ⟨y1, h1, h3⟩) (fun x hx => h2 (x) hx)
theorem cw_loop2 {α1 α2 : Type} {c : Code} (Lf : α1 → α2 → List (Nat × Value)) (Hf : α1 → α2 → List Ent) (φ : α1 → α2 → Prop) (μ : α1 → α2 → Nat) (x1 : α1) (x2 : α2) (h0 : φ x1 x2) (hl : Sub L (Lf x1 x2)) (hh : Keep H (Hf x1 x2))
    (round : ∀ (R : Act → World → Prop) (x1 : α1) (x2 : α2), φ x1 x2 → (∀ y1 y2, φ y1 y2 → μ y1 y2 < μ x1 x2 → ∀ a w, St ds n w0 B (Lf y1 y2) (Hf y1 y2) a w → R a w) → CW P c (Exit.then R Q) (St ds n w0 B (Lf x1 x2) (Hf x1 x2))) : CW P (.loop c) Q (St ds n w0 B L H) :=
  cw_loop (α := α1 × α2) (fun x => Lf (x.1) (x.2)) (fun x => Hf (x.1) (x.2)) (fun x => φ (x.1) (x.2)) (fun x => μ (x.1) (x.2)) ⟨x1, x2⟩ h0 hl hh (fun x hx => round _ (x.1) (x.2) hx fun y1 y2 h1 h2 _ _ h3 => ⟨⟨y1, y2⟩, h1, h2, h3⟩)
theorem cw_cut2 {α1 α2 : Type} {x y : Code} (Lf : α1 → α2 → List (Nat × Value)) (Hf : α1 → α2 → List Ent) (φ : α1 → α2 → Prop) (h1 : ∀ K : Act → World → Prop, (∀ y1 y2, φ y1 y2 → ∀ a w, St ds n w0 B (Lf y1 y2) (Hf y1 y2) a w → K a w) → CW P x (Exit.then K Q) (St ds n w0 B L H))
    (h2 : ∀ x1 x2, φ x1 x2 → CW P y Q (St ds n w0 B (Lf x1 x2) (Hf x1 x2))) : CW P (.seq x y) Q (St ds n w0 B L H) :=
  cw_cut (α := α1 × α2) (fun x => Lf (x.1) (x.2)) (fun x => Hf (x.1) (x.2)) (fun x => φ (x.1) (x.2)) (h1 _ fun y1 y2 h1 _ _ h3 => ⟨⟨y1, y2⟩, h1, h3⟩) (fun x hx => h2 (x.1) (x.2) hx)
theorem cw_loop3 {α1 α2 α3 : Type} {c : Code} (Lf : α1 → α2 → α3 → List (Nat × Value)) (Hf : α1 → α2 → α3 → List Ent) (φ : α1 → α2 → α3 → Prop) (μ : α1 → α2 → α3 → Nat) (x1 : α1) (x2 : α2) (x3 : α3) (h0 : φ x1 x2 x3) (hl : Sub L (Lf x1 x2 x3)) (hh : Keep H (Hf x1 x2 x3))
    (round : ∀ (R : Act → World → Prop) (x1 : α1) (x2 : α2) (x3 : α3), φ x1 x2 x3 → (∀ y1 y2 y3, φ y1 y2 y3 → μ y1 y2 y3 < μ x1 x2 x3 → ∀ a w, St ds n w0 B (Lf y1 y2 y3) (Hf y1 y2 y3) a w → R a w) → CW P c (Exit.then R Q) (St ds n w0 B (Lf x1 x2 x3) (Hf x1 x2 x3))) : CW P (.loop c) Q (St ds n w0 B L H) :=
  cw_loop (α := α1 × α2 × α3) (fun x => Lf (x.1) (x.2.1) (x.2.2)) (fun x => Hf (x.1) (x.2.1) (x.2.2)) (fun x => φ (x.1) (x.2.1) (x.2.2)) (fun x => μ (x.1) (x.2.1) (x.2.2)) ⟨x1, x2, x3⟩ h0 hl hh (fun x hx => round _ (x.1) (x.2.1) (x.2.2) hx fun y1 y2 y3 h1 h2 _ _ h3 => ⟨⟨y1, y2, y3⟩, h1, h2, h3⟩)
theorem cw_cut3 {α1 α2 α3 : Type} {x y : Code} (Lf : α1 → α2 → α3 → List (Nat × Value)) (Hf : α1 → α2 → α3 → List Ent) (φ : α1 → α2 → α3 → Prop) (h1 : ∀ K : Act → World → Prop, (∀ y1 y2 y3, φ y1 y2 y3 → ∀ a w, St ds n w0 B (Lf y1 y2 y3) (Hf y1 y2 y3) a w → K a w) → CW P x (Exit.then K Q) (St ds n w0 B L H))
    (h2 : ∀ x1 x2 x3, φ x1 x2 x3 → CW P y Q (St ds n w0 B (Lf x1 x2 x3) (Hf x1 x2 x3))) : CW P (.seq x y) Q (St ds n w0 B L H) :=
  cw_cut (α := α1 × α2 × α3) (fun x => Lf (x.1) (x.2.1) (x.2.2)) (fun x => Hf (x.1) (x.2.1) (x.2.2)) (fun x => φ (x.1) (x.2.1) (x.2.2)) (h1 _ fun y1 y2 y3 h1 _ _ h3 => ⟨⟨y1, y2, y3⟩, h1, h3⟩) (fun x hx => h2 (x.1) (x.2.1) (x.2.2) hx)
theorem cw_loop4 {α1 α2 α3 α4 : Type} {c : Code} (Lf : α1 → α2 → α3 → α4 → List (Nat × Value)) (Hf : α1 → α2 → α3 → α4 → List Ent) (φ : α1 → α2 → α3 → α4 → Prop) (μ : α1 → α2 → α3 → α4 → Nat) (x1 : α1) (x2 : α2) (x3 : α3) (x4 : α4) (h0 : φ x1 x2 x3 x4) (hl : Sub L (Lf x1 x2 x3 x4)) (hh : Keep H (Hf x1 x2 x3 x4))
    (round : ∀ (R : Act → World → Prop) (x1 : α1) (x2 : α2) (x3 : α3) (x4 : α4), φ x1 x2 x3 x4 → (∀ y1 y2 y3 y4, φ y1 y2 y3 y4 → μ y1 y2 y3 y4 < μ x1 x2 x3 x4 → ∀ a w, St ds n w0 B (Lf y1 y2 y3 y4) (Hf y1 y2 y3 y4) a w → R a w) → CW P c (Exit.then R Q) (St ds n w0 B (Lf x1 x2 x3 x4) (Hf x1 x2 x3 x4))) : CW P (.loop c) Q (St ds n w0 B L H) :=
  cw_loop (α := α1 × α2 × α3 × α4) (fun x => Lf (x.1) (x.2.1) (x.2.2.1) (x.2.2.2)) (fun x => Hf (x.1) (x.2.1) (x.2.2.1) (x.2.2.2)) (fun x => φ (x.1) (x.2.1) (x.2.2.1) (x.2.2.2)) (fun x => μ (x.1) (x.2.1) (x.2.2.1) (x.2.2.2)) ⟨x1, x2, x3, x4⟩ h0 hl hh (fun x hx => round _ (x.1) (x.2.1) (x.2.2.1) (x.2.2.2) hx fun y1 y2 y3 y4 h1 h2 _ _ h3 => ⟨⟨y1, y2, y3, y4⟩, h1, h2, h3⟩)
theorem cw_cut4 {α1 α2 α3 α4 : Type} {x y : Code} (Lf : α1 → α2 → α3 → α4 → List (Nat × Value)) (Hf : α1 → α2 → α3 → α4 → List Ent) (φ : α1 → α2 → α3 → α4 → Prop) (h1 : ∀ K : Act → World → Prop, (∀ y1 y2 y3 y4, φ y1 y2 y3 y4 → ∀ a w, St ds n w0 B (Lf y1 y2 y3 y4) (Hf y1 y2 y3 y4) a w → K a w) → CW P x (Exit.then K Q) (St ds n w0 B L H))
    (h2 : ∀ x1 x2 x3 x4, φ x1 x2 x3 x4 → CW P y Q (St ds n w0 B (Lf x1 x2 x3 x4) (Hf x1 x2 x3 x4))) : CW P (.seq x y) Q (St ds n w0 B L H) :=
  cw_cut (α := α1 × α2 × α3 × α4) (fun x => Lf (x.1) (x.2.1) (x.2.2.1) (x.2.2.2)) (fun x => Hf (x.1) (x.2.1) (x.2.2.1) (x.2.2.2)) (fun x => φ (x.1) (x.2.1) (x.2.2.1) (x.2.2.2)) (h1 _ fun y1 y2 y3 y4 h1 _ _ h3 => ⟨⟨y1, y2, y3, y4⟩, h1, h3⟩) (fun x hx => h2 (x.1) (x.2.1) (x.2.2.1) (x.2.2.2) hx)
theorem cw_loop5 {α1 α2 α3 α4 α5 : Type} {c : Code} (Lf : α1 → α2 → α3 → α4 → α5 → List (Nat × Value)) (Hf : α1 → α2 → α3 → α4 → α5 → List Ent) (φ : α1 → α2 → α3 → α4 → α5 → Prop) (μ : α1 → α2 → α3 → α4 → α5 → Nat) (x1 : α1) (x2 : α2) (x3 : α3) (x4 : α4) (x5 : α5) (h0 : φ x1 x2 x3 x4 x5) (hl : Sub L (Lf x1 x2 x3 x4 x5)) (hh : Keep H (Hf x1 x2 x3 x4 x5))
    (round : ∀ (R : Act → World → Prop) (x1 : α1) (x2 : α2) (x3 : α3) (x4 : α4) (x5 : α5), φ x1 x2 x3 x4 x5 → (∀ y1 y2 y3 y4 y5, φ y1 y2 y3 y4 y5 → μ y1 y2 y3 y4 y5 < μ x1 x2 x3 x4 x5 → ∀ a w, St ds n w0 B (Lf y1 y2 y3 y4 y5) (Hf y1 y2 y3 y4 y5) a w → R a w) → CW P c (Exit.then R Q) (St ds n w0 B (Lf x1 x2 x3 x4 x5) (Hf x1 x2 x3 x4 x5))) : CW P (.loop c) Q (St ds n w0 B L H) :=
  cw_loop (α := α1 × α2 × α3 × α4 × α5) (fun x => Lf (x.1) (x.2.1) (x.2.2.1) (x.2.2.2.1) (x.2.2.2.2)) (fun x => Hf (x.1) (x.2.1) (x.2.2.1) (x.2.2.2.1) (x.2.2.2.2)) (fun x => φ (x.1) (x.2.1) (x.2.2.1) (x.2.2.2.1) (x.2.2.2.2)) (fun x => μ (x.1) (x.2.1) (x.2.2.1) (x.2.2.2.1) (x.2.2.2.2)) ⟨x1, x2, x3, x4, x5⟩ h0 hl hh (fun x hx => round _ (x.1) (x.2.1) (x.2.2.1) (x.2.2.2.1) (x.2.2.2.2) hx fun y1 y2 y3 y4 y5 h1 h2 _ _ h3 => ⟨⟨y1, y2, y3, y4, y5⟩, h1, h2, h3⟩)
theorem cw_cut5 {α1 α2 α3 α4 α5 : Type} {x y : Code} (Lf : α1 → α2 → α3 → α4 → α5 → List (Nat × Value)) (Hf : α1 → α2 → α3 → α4 → α5 → List Ent) (φ : α1 → α2 → α3 → α4 → α5 → Prop) (h1 : ∀ K : Act → World → Prop, (∀ y1 y2 y3 y4 y5, φ y1 y2 y3 y4 y5 → ∀ a w, St ds n w0 B (Lf y1 y2 y3 y4 y5) (Hf y1 y2 y3 y4 y5) a w → K a w) → CW P x (Exit.then K Q) (St ds n w0 B L H))
    (h2 : ∀ x1 x2 x3 x4 x5, φ x1 x2 x3 x4 x5 → CW P y Q (St ds n w0 B (Lf x1 x2 x3 x4 x5) (Hf x1 x2 x3 x4 x5))) : CW P (.seq x y) Q (St ds n w0 B L H) :=
  cw_cut (α := α1 × α2 × α3 × α4 × α5) (fun x => Lf (x.1) (x.2.1) (x.2.2.1) (x.2.2.2.1) (x.2.2.2.2)) (fun x => Hf (x.1) (x.2.1) (x.2.2.1) (x.2.2.2.1) (x.2.2.2.2)) (fun x => φ (x.1) (x.2.1) (x.2.2.1) (x.2.2.2.1) (x.2.2.2.2)) (h1 _ fun y1 y2 y3 y4 y5 h1 _ _ h3 => ⟨⟨y1, y2, y3, y4, y5⟩, h1, h3⟩) (fun x hx => h2 (x.1) (x.2.1) (x.2.2.1) (x.2.2.2.1) (x.2.2.2.2) hx)
theorem cw_loop6 {α1 α2 α3 α4 α5 α6 : Type} {c : Code} (Lf : α1 → α2 → α3 → α4 → α5 → α6 → List (Nat × Value)) (Hf : α1 → α2 → α3 → α4 → α5 → α6 → List Ent) (φ : α1 → α2 → α3 → α4 → α5 → α6 → Prop) (μ : α1 → α2 → α3 → α4 → α5 → α6 → Nat) (x1 : α1) (x2 : α2) (x3 : α3) (x4 : α4) (x5 : α5) (x6 : α6) (h0 : φ x1 x2 x3 x4 x5 x6) (hl : Sub L (Lf x1 x2 x3 x4 x5 x6)) (hh : Keep H (Hf x1 x2 x3 x4 x5 x6))
    (round : ∀ (R : Act → World → Prop) (x1 : α1) (x2 : α2) (x3 : α3) (x4 : α4) (x5 : α5) (x6 : α6), φ x1 x2 x3 x4 x5 x6 → (∀ y1 y2 y3 y4 y5 y6, φ y1 y2 y3 y4 y5 y6 → μ y1 y2 y3 y4 y5 y6 < μ x1 x2 x3 x4 x5 x6 → ∀ a w, St ds n w0 B (Lf y1 y2 y3 y4 y5 y6) (Hf y1 y2 y3 y4 y5 y6) a w → R a w) → CW P c (Exit.then R Q) (St ds n w0 B (Lf x1 x2 x3 x4 x5 x6) (Hf x1 x2 x3 x4 x5 x6))) : CW P (.loop c) Q (St ds n w0 B L H) :=
  cw_loop (α := α1 × α2 × α3 × α4 × α5 × α6) (fun x => Lf (x.1) (x.2.1) (x.2.2.1) (x.2.2.2.1) (x.2.2.2.2.1) (x.2.2.2.2.2)) (fun x => Hf (x.1) (x.2.1) (x.2.2.1) (x.2.2.2.1) (x.2.2.2.2.1) (x.2.2.2.2.2)) (fun x => φ (x.1) (x.2.1) (x.2.2.1) (x.2.2.2.1) (x.2.2.2.2.1) (x.2.2.2.2.2)) (fun x => μ (x.1) (x.2.1) (x.2.2.1) (x.2.2.2.1) (x.2.2.2.2.1) (x.2.2.2.2.2)) ⟨x1, x2, x3, x4, x5, x6⟩ h0 hl hh (fun x hx => round _ (x.1) (x.2.1) (x.2.2.1) (x.2.2.2.1) (x.2.2.2.2.1) (x.2.2.2.2.2) hx fun y1 y2 y3 y4 y5 y6 h1 h2 _ _ h3 => ⟨⟨y1, y2, y3, y4, y5, y6⟩, h1, h2, h3⟩)
theorem cw_cut6 {α1 α2 α3 α4 α5 α6 : Type} {x y : Code} (Lf : α1 → α2 → α3 → α4 → α5 → α6 → List (Nat × Value)) (Hf : α1 → α2 → α3 → α4 → α5 → α6 → List Ent) (φ : α1 → α2 → α3 → α4 → α5 → α6 → Prop) (h1 : ∀ K : Act → World → Prop, (∀ y1 y2 y3 y4 y5 y6, φ y1 y2 y3 y4 y5 y6 → ∀ a w, St ds n w0 B (Lf y1 y2 y3 y4 y5 y6) (Hf y1 y2 y3 y4 y5 y6) a w → K a w) → CW P x (Exit.then K Q) (St ds n w0 B L H))
    (h2 : ∀ x1 x2 x3 x4 x5 x6, φ x1 x2 x3 x4 x5 x6 → CW P y Q (St ds n w0 B (Lf x1 x2 x3 x4 x5 x6) (Hf x1 x2 x3 x4 x5 x6))) : CW P (.seq x y) Q (St ds n w0 B L H) :=
  cw_cut (α := α1 × α2 × α3 × α4 × α5 × α6) (fun x => Lf (x.1) (x.2.1) (x.2.2.1) (x.2.2.2.1) (x.2.2.2.2.1) (x.2.2.2.2.2)) (fun x => Hf (x.1) (x.2.1) (x.2.2.1) (x.2.2.2.1) (x.2.2.2.2.1) (x.2.2.2.2.2)) (fun x => φ (x.1) (x.2.1) (x.2.2.1) (x.2.2.2.1) (x.2.2.2.2.1) (x.2.2.2.2.2)) (h1 _ fun y1 y2 y3 y4 y5 y6 h1 _ _ h3 => ⟨⟨y1, y2, y3, y4, y5, y6⟩, h1, h3⟩) (fun x hx => h2 (x.1) (x.2.1) (x.2.2.1) (x.2.2.2.1) (x.2.2.2.2.1) (x.2.2.2.2.2) hx)
theorem cw_loop7 {α1 α2 α3 α4 α5 α6 α7 : Type} {c : Code} (Lf : α1 → α2 → α3 → α4 → α5 → α6 → α7 → List (Nat × Value)) (Hf : α1 → α2 → α3 → α4 → α5 → α6 → α7 → List Ent) (φ : α1 → α2 → α3 → α4 → α5 → α6 → α7 → Prop) (μ : α1 → α2 → α3 → α4 → α5 → α6 → α7 → Nat) (x1 : α1) (x2 : α2) (x3 : α3) (x4 : α4) (x5 : α5) (x6 : α6) (x7 : α7) (h0 : φ x1 x2 x3 x4 x5 x6 x7) (hl : Sub L (Lf x1 x2 x3 x4 x5 x6 x7)) (hh : Keep H (Hf x1 x2 x3 x4 x5 x6 x7))
    (round : ∀ (R : Act → World → Prop) (x1 : α1) (x2 : α2) (x3 : α3) (x4 : α4) (x5 : α5) (x6 : α6) (x7 : α7), φ x1 x2 x3 x4 x5 x6 x7 → (∀ y1 y2 y3 y4 y5 y6 y7, φ y1 y2 y3 y4 y5 y6 y7 → μ y1 y2 y3 y4 y5 y6 y7 < μ x1 x2 x3 x4 x5 x6 x7 → ∀ a w, St ds n w0 B (Lf y1 y2 y3 y4 y5 y6 y7) (Hf y1 y2 y3 y4 y5 y6 y7) a w → R a w) → CW P c (Exit.then R Q) (St ds n w0 B (Lf x1 x2 x3 x4 x5 x6 x7) (Hf x1 x2 x3 x4 x5 x6 x7))) : CW P (.loop c) Q (St ds n w0 B L H) :=
  cw_loop (α := α1 × α2 × α3 × α4 × α5 × α6 × α7) (fun x => Lf (x.1) (x.2.1) (x.2.2.1) (x.2.2.2.1) (x.2.2.2.2.1) (x.2.2.2.2.2.1) (x.2.2.2.2.2.2)) (fun x => Hf (x.1) (x.2.1) (x.2.2.1) (x.2.2.2.1) (x.2.2.2.2.1) (x.2.2.2.2.2.1) (x.2.2.2.2.2.2)) (fun x => φ (x.1) (x.2.1) (x.2.2.1) (x.2.2.2.1) (x.2.2.2.2.1) (x.2.2.2.2.2.1) (x.2.2.2.2.2.2)) (fun x => μ (x.1) (x.2.1) (x.2.2.1) (x.2.2.2.1) (x.2.2.2.2.1) (x.2.2.2.2.2.1) (x.2.2.2.2.2.2)) ⟨x1, x2, x3, x4, x5, x6, x7⟩ h0 hl hh (fun x hx => round _ (x.1) (x.2.1) (x.2.2.1) (x.2.2.2.1) (x.2.2.2.2.1) (x.2.2.2.2.2.1) (x.2.2.2.2.2.2) hx fun y1 y2 y3 y4 y5 y6 y7 h1 h2 _ _ h3 => ⟨⟨y1, y2, y3, y4, y5, y6, y7⟩, h1, h2, h3⟩)
theorem cw_cut7 {α1 α2 α3 α4 α5 α6 α7 : Type} {x y : Code} (Lf : α1 → α2 → α3 → α4 → α5 → α6 → α7 → List (Nat × Value)) (Hf : α1 → α2 → α3 → α4 → α5 → α6 → α7 → List Ent) (φ : α1 → α2 → α3 → α4 → α5 → α6 → α7 → Prop) (h1 : ∀ K : Act → World → Prop, (∀ y1 y2 y3 y4 y5 y6 y7, φ y1 y2 y3 y4 y5 y6 y7 → ∀ a w, St ds n w0 B (Lf y1 y2 y3 y4 y5 y6 y7) (Hf y1 y2 y3 y4 y5 y6 y7) a w → K a w) → CW P x (Exit.then K Q) (St ds n w0 B L H))
    (h2 : ∀ x1 x2 x3 x4 x5 x6 x7, φ x1 x2 x3 x4 x5 x6 x7 → CW P y Q (St ds n w0 B (Lf x1 x2 x3 x4 x5 x6 x7) (Hf x1 x2 x3 x4 x5 x6 x7))) : CW P (.seq x y) Q (St ds n w0 B L H) :=
  cw_cut (α := α1 × α2 × α3 × α4 × α5 × α6 × α7) (fun x => Lf (x.1) (x.2.1) (x.2.2.1) (x.2.2.2.1) (x.2.2.2.2.1) (x.2.2.2.2.2.1) (x.2.2.2.2.2.2)) (fun x => Hf (x.1) (x.2.1) (x.2.2.1) (x.2.2.2.1) (x.2.2.2.2.1) (x.2.2.2.2.2.1) (x.2.2.2.2.2.2)) (fun x => φ (x.1) (x.2.1) (x.2.2.1) (x.2.2.2.1) (x.2.2.2.2.1) (x.2.2.2.2.2.1) (x.2.2.2.2.2.2)) (h1 _ fun y1 y2 y3 y4 y5 y6 y7 h1 _ _ h3 => ⟨⟨y1, y2, y3, y4, y5, y6, y7⟩, h1, h3⟩) (fun x hx => h2 (x.1) (x.2.1) (x.2.2.1) (x.2.2.2.1) (x.2.2.2.2.1) (x.2.2.2.2.2.1) (x.2.2.2.2.2.2) hx)
theorem cw_loop8 {α1 α2 α3 α4 α5 α6 α7 α8 : Type} {c : Code} (Lf : α1 → α2 → α3 → α4 → α5 → α6 → α7 → α8 → List (Nat × Value)) (Hf : α1 → α2 → α3 → α4 → α5 → α6 → α7 → α8 → List Ent) (φ : α1 → α2 → α3 → α4 → α5 → α6 → α7 → α8 → Prop) (μ : α1 → α2 → α3 → α4 → α5 → α6 → α7 → α8 → Nat) (x1 : α1) (x2 : α2) (x3 : α3) (x4 : α4) (x5 : α5) (x6 : α6) (x7 : α7) (x8 : α8) (h0 : φ x1 x2 x3 x4 x5 x6 x7 x8) (hl : Sub L (Lf x1 x2 x3 x4 x5 x6 x7 x8)) (hh : Keep H (Hf x1 x2 x3 x4 x5 x6 x7 x8))
    (round : ∀ (R : Act → World → Prop) (x1 : α1) (x2 : α2) (x3 : α3) (x4 : α4) (x5 : α5) (x6 : α6) (x7 : α7) (x8 : α8), φ x1 x2 x3 x4 x5 x6 x7 x8 → (∀ y1 y2 y3 y4 y5 y6 y7 y8, φ y1 y2 y3 y4 y5 y6 y7 y8 → μ y1 y2 y3 y4 y5 y6 y7 y8 < μ x1 x2 x3 x4 x5 x6 x7 x8 → ∀ a w, St ds n w0 B (Lf y1 y2 y3 y4 y5 y6 y7 y8) (Hf y1 y2 y3 y4 y5 y6 y7 y8) a w → R a w) → CW P c (Exit.then R Q) (St ds n w0 B (Lf x1 x2 x3 x4 x5 x6 x7 x8) (Hf x1 x2 x3 x4 x5 x6 x7 x8))) : CW P (.loop c) Q (St ds n w0 B L H) :=
  cw_loop (α := α1 × α2 × α3 × α4 × α5 × α6 × α7 × α8) (fun x => Lf (x.1) (x.2.1) (x.2.2.1) (x.2.2.2.1) (x.2.2.2.2.1) (x.2.2.2.2.2.1) (x.2.2.2.2.2.2.1) (x.2.2.2.2.2.2.2)) (fun x => Hf (x.1) (x.2.1) (x.2.2.1) (x.2.2.2.1) (x.2.2.2.2.1) (x.2.2.2.2.2.1) (x.2.2.2.2.2.2.1) (x.2.2.2.2.2.2.2)) (fun x => φ (x.1) (x.2.1) (x.2.2.1) (x.2.2.2.1) (x.2.2.2.2.1) (x.2.2.2.2.2.1) (x.2.2.2.2.2.2.1) (x.2.2.2.2.2.2.2)) (fun x => μ (x.1) (x.2.1) (x.2.2.1) (x.2.2.2.1) (x.2.2.2.2.1) (x.2.2.2.2.2.1) (x.2.2.2.2.2.2.1) (x.2.2.2.2.2.2.2)) ⟨x1, x2, x3, x4, x5, x6, x7, x8⟩ h0 hl hh (fun x hx => round _ (x.1) (x.2.1) (x.2.2.1) (x.2.2.2.1) (x.2.2.2.2.1) (x.2.2.2.2.2.1) (x.2.2.2.2.2.2.1) (x.2.2.2.2.2.2.2) hx fun y1 y2 y3 y4 y5 y6 y7 y8 h1 h2 _ _ h3 => ⟨⟨y1, y2, y3, y4, y5, y6, y7, y8⟩, h1, h2, h3⟩)
theorem cw_cut8 {α1 α2 α3 α4 α5 α6 α7 α8 : Type} {x y : Code} (Lf : α1 → α2 → α3 → α4 → α5 → α6 → α7 → α8 → List (Nat × Value)) (Hf : α1 → α2 → α3 → α4 → α5 → α6 → α7 → α8 → List Ent) (φ : α1 → α2 → α3 → α4 → α5 → α6 → α7 → α8 → Prop) (h1 : ∀ K : Act → World → Prop, (∀ y1 y2 y3 y4 y5 y6 y7 y8, φ y1 y2 y3 y4 y5 y6 y7 y8 → ∀ a w, St ds n w0 B (Lf y1 y2 y3 y4 y5 y6 y7 y8) (Hf y1 y2 y3 y4 y5 y6 y7 y8) a w → K a w) → CW P x (Exit.then K Q) (St ds n w0 B L H))
    (h2 : ∀ x1 x2 x3 x4 x5 x6 x7 x8, φ x1 x2 x3 x4 x5 x6 x7 x8 → CW P y Q (St ds n w0 B (Lf x1 x2 x3 x4 x5 x6 x7 x8) (Hf x1 x2 x3 x4 x5 x6 x7 x8))) : CW P (.seq x y) Q (St ds n w0 B L H) :=
  cw_cut (α := α1 × α2 × α3 × α4 × α5 × α6 × α7 × α8) (fun x => Lf (x.1) (x.2.1) (x.2.2.1) (x.2.2.2.1) (x.2.2.2.2.1) (x.2.2.2.2.2.1) (x.2.2.2.2.2.2.1) (x.2.2.2.2.2.2.2)) (fun x => Hf (x.1) (x.2.1) (x.2.2.1) (x.2.2.2.1) (x.2.2.2.2.1) (x.2.2.2.2.2.1) (x.2.2.2.2.2.2.1) (x.2.2.2.2.2.2.2)) (fun x => φ (x.1) (x.2.1) (x.2.2.1) (x.2.2.2.1) (x.2.2.2.2.1) (x.2.2.2.2.2.1) (x.2.2.2.2.2.2.1) (x.2.2.2.2.2.2.2)) (h1 _ fun y1 y2 y3 y4 y5 y6 y7 y8 h1 _ _ h3 => ⟨⟨y1, y2, y3, y4, y5, y6, y7, y8⟩, h1, h3⟩) (fun x hx => h2 (x.1) (x.2.1) (x.2.2.1) (x.2.2.2.1) (x.2.2.2.2.1) (x.2.2.2.2.2.1) (x.2.2.2.2.2.2.1) (x.2.2.2.2.2.2.2) hx)
end

/-! ### lists as cells -/
def cells {α : Type} (f : α → List Value) (xs : List α) : List Value := xs.flatMap f
section
variable {α : Type} {f : α → List Value} {sz : Nat} {xs ys : List α}
theorem cells_nil : cells f [] = [] := rfl
theorem cells_append : cells f xs ++ cells f ys = cells f (xs ++ ys) := by simp [cells]
theorem cells_length (hf : ∀ x, (f x).length = sz) : (cells f xs).length = xs.length * sz := by
  unfold cells
  induction xs with
  | nil => simp
  | cons x xs ih => simp [hf, ih, Nat.succ_mul, Nat.add_comm]
theorem cells_take (hf : ∀ x, (f x).length = sz) (k : Nat) : (cells f xs).take (k * sz) = cells f (xs.take k) := by
  unfold cells
  induction xs generalizing k with
  | nil => simp
  | cons x xs ih =>
    cases k with
    | zero => simp
    | succ k =>
      rw [List.flatMap_cons, List.take_append, hf, List.take_of_length_le (l := f x) (by rw [hf, Nat.succ_mul]; omega)]
      have e : (k + 1) * sz - sz = k * sz := by rw [Nat.succ_mul]; omega
      rw [e, ih, List.take_succ_cons, List.flatMap_cons]
theorem cells_drop (hf : ∀ x, (f x).length = sz) (k : Nat) : (cells f xs).drop (k * sz) = cells f (xs.drop k) := by
  unfold cells
  induction xs generalizing k with
  | nil => simp
  | cons x xs ih =>
    cases k with
    | zero => simp
    | succ k =>
      rw [List.flatMap_cons, List.drop_append, hf, List.drop_of_length_le (l := f x) (by rw [hf, Nat.succ_mul]; omega)]
      have e : (k + 1) * sz - sz = k * sz := by rw [Nat.succ_mul]; omega
      rw [e, ih, List.drop_succ_cons, List.nil_append]
theorem cells_get (hf : ∀ x, (f x).length = sz) {k j : Nat} (d : α) (hk : k < xs.length) (hj : j < sz) : (cells f xs)[k * sz + j]? = (f (xs.getD k d))[j]? := by
  have h1 : (cells f xs)[k * sz + j]? = ((cells f xs).drop (k * sz))[j]? := by rw [List.getElem?_drop]
  rw [h1, cells_drop hf, List.drop_eq_getElem_cons hk]
  simp only [cells, List.flatMap_cons]
  rw [List.getElem?_append_left (by rw [hf]; exact hj)]
  simp [hk]
theorem cells_elem (hf : ∀ x, (f x).length = sz) {k : Nat} (d : α) (hk : k < xs.length) : ((cells f xs).drop (k * sz)).take sz = f (xs.getD k d) := by
  rw [cells_drop hf, List.drop_eq_getElem_cons hk]
  simp only [cells, List.flatMap_cons]
  rw [List.take_append, hf, List.take_of_length_le (by rw [hf]; exact Nat.le_refl _)]
  simp [hk]
theorem cells_splice (hf : ∀ x, (f x).length = sz) {k : Nat} (hk : k < xs.length) (y : α) : splice (cells f xs) (k * sz) (f y) = cells f (xs.set k y) := by
  unfold splice
  have e : k * sz + (f y).length = (k + 1) * sz := by rw [hf, Nat.succ_mul]
  rw [e, cells_take hf, cells_drop hf, List.set_eq_take_append_cons_drop, if_pos hk]
  simp [cells]
end
def fI (n : Int) : List Value := [.int .i64 n]
def fE (e : Int × Int) : List Value := [.int .i64 e.1, .int .i64 e.2]
def fB (b : Bool) : List Value := [.bool b]
def fL (s : Option Addr × Nat × Nat) : List Value := [.slice s.1 s.2.1 s.2.2]
def fG (s : Int × Option Addr × Nat × Nat) : List Value := [.int .i64 s.1, .slice s.2.1 s.2.2.1 s.2.2.2]
theorem fI_len : ∀ x, (fI x).length = 1 := fun _ => rfl
theorem fE_len : ∀ x, (fE x).length = 2 := fun _ => rfl
theorem fB_len : ∀ x, (fB x).length = 1 := fun _ => rfl
theorem fL_len : ∀ x, (fL x).length = 1 := fun _ => rfl
theorem fG_len : ∀ x, (fG x).length = 2 := fun _ => rfl
theorem one_cells {α : Type} {f : α → List Value} (h : ∀ x, ∀ u ∈ f x, u.oneCell' = true) (xs : List α) : ∀ u ∈ cells f xs, u.oneCell' = true := by
  intro u hu
  obtain ⟨x, _, hx⟩ := List.mem_flatMap.1 hu
  exact h x u hx
theorem fI_one : ∀ x, ∀ u ∈ fI x, u.oneCell' = true := by intro x u hu; simp [fI] at hu; subst hu; rfl
theorem fE_one : ∀ x, ∀ u ∈ fE x, u.oneCell' = true := by intro x u hu; simp [fE] at hu; rcases hu with rfl | rfl <;> rfl
theorem fB_one : ∀ x, ∀ u ∈ fB x, u.oneCell' = true := by intro x u hu; simp [fB] at hu; subst hu; rfl
theorem fL_one : ∀ x, ∀ u ∈ fL x, u.oneCell' = true := by intro x u hu; simp [fL] at hu; subst hu; rfl
theorem fG_one : ∀ x, ∀ u ∈ fG x, u.oneCell' = true := by intro x u hu; simp [fG] at hu; rcases hu with rfl | rfl <;> rfl
theorem get_fI {xs : List Int} {k : Nat} (h : k < xs.length) : (cells fI xs)[k * 1]? = some (.int .i64 (xs.getD k 0)) := cells_get fI_len (j := 0) 0 h (by omega)
theorem get_fB {xs : List Bool} {k : Nat} (h : k < xs.length) : (cells fB xs)[k * 1]? = some (.bool (xs.getD k false)) := cells_get fB_len (j := 0) false h (by omega)
theorem get_fE0 {xs : List (Int × Int)} {k : Nat} (h : k < xs.length) : (cells fE xs)[k * 2 + 0]? = some (.int .i64 (xs.getD k (0, 0)).1) := cells_get fE_len (0, 0) h (by omega)
theorem get_fE1 {xs : List (Int × Int)} {k : Nat} (h : k < xs.length) : (cells fE xs)[k * 2 + 1]? = some (.int .i64 (xs.getD k (0, 0)).2) := cells_get fE_len (0, 0) h (by omega)
theorem get_fL {xs : List (Option Addr × Nat × Nat)} {k : Nat} (h : k < xs.length) : (cells fL xs)[k * 1]? = some (.slice (xs.getD k (none, 0, 0)).1 (xs.getD k (none, 0, 0)).2.1 (xs.getD k (none, 0, 0)).2.2) := cells_get fL_len (j := 0) (none, 0, 0) h (by omega)

/-! ### a statement whose order is open -/

/-- whatever order is picked from here on; the class C of worlds is kept by every operation but the late ones -/
def wpG (P : Program) (ops : Array Oper) (Q : Exit → Act → World → Prop) (late : List Nat) (C : World → Prop) : Nat → Array Bool → Act → World → Prop
  | 0, listed, a, w => Region.ready .any ops listed = [] ∧ Q .normal a w
  | fuel + 1, listed, a, w => (Region.ready .any ops listed = [] → Q .normal a w) ∧ ∀ i ∈ Region.ready .any ops listed, wpOp P ops Q i (fun a' w' => if late.contains i = true then wpAny P .any ops Q fuel (listed.setIfInBounds i true) a' w' else C w' ∧ wpG P ops Q late C fuel (listed.setIfInBounds i true) a' w') a w

section
variable {P : Program} {ops : Array Oper} {Q : Exit → Act → World → Prop} {late : List Nat} {C : World → Prop}
theorem wpAny_of_G : ∀ (fuel : Nat) (listed : Array Bool) (a : Act) (w : World), wpG P ops Q late C fuel listed a w → wpAny P .any ops Q fuel listed a w
  | 0, _, _, _, h => h
  | fuel + 1, _, _, _, h => ⟨h.1, fun i hi => wpOp_mono (fun a' w' h' => by
      split at h'
      · exact h'
      · exact wpAny_of_G fuel _ a' w' h'.2) (h.2 i hi)⟩
/-- late operations that have not come up wait for number i -/
def lateOk (ops : Array Oper) (late : List Nat) (listed : Array Bool) (i : Nat) : Bool :=
  !late.contains i && late.all fun j => listed.getD j true || match ops[j]? with
    | some o => o.after.any fun e => Region.binds .any e && e.on == i
    | none => true
theorem lateOk_spec {listed : Array Bool} {i j : Nat} {oj : Oper} (h : lateOk ops late listed i = true) (hj : ops[j]? = some oj) (hun : listed.getD j true = false) (hno : ∀ e ∈ oj.after, Region.binds .any e = true → e.on ≠ i) : late.contains j = false := by
  rw [← Bool.not_eq_true]
  intro hc
  simp only [lateOk, Bool.and_eq_true, List.all_eq_true] at h
  have h1 := h.2 j (by simpa using hc)
  rw [hun, hj] at h1
  simp only [Bool.false_or, Array.any_eq_true'] at h1
  obtain ⟨e, he, h2⟩ := h1
  simp only [Bool.and_eq_true, beq_iff_eq] at h2
  exact hno e he h2.1 h2.2
/-- an operation that yields its value in every world of the class may be taken first -/
theorem wpG_first {i : Nat} {oi : Oper} {v : Value} (hi : ops[i]? = some oi) (hsel : ∀ (j : Nat) (o : Oper) cs b, ops[j]? = some o → o.op ≠ .select cs b) (hQ : ∀ c a w, Q (.panic c) (a.put oi.dst v) w → Q (.panic c) a w) :
    ∀ (fuel : Nat) (listed : Array Bool) (a : Act) (w : World),
      (∀ j oj, ops[j]? = some oj → j ≠ i → listed.getD j true = false → (∀ e ∈ oj.after, Region.binds .any e = true → e.on ≠ i) → oi.apart ops oj = true ∧ late.contains j = false) → late.contains i = false →
      i ∈ Region.ready .any ops listed → YieldsIf P ops C oi v a → C w → wpG P ops Q late C fuel (listed.setIfInBounds i true) (a.put oi.dst v) w → wpG P ops Q late C (fuel + 1) listed a w := by
  intro fuel
  induction fuel with
  | zero =>
    intro listed a w _ hl hr hy hC H
    refine ⟨fun h => (by rw [h] at hr; cases hr), fun j hj => ?_⟩
    by_cases hji : j = i
    · subst hji
      refine hy.wpOp hi hC ?_
      rw [if_neg (by rw [hl]; simp)]
      exact ⟨hC, H⟩
    · have := ready_mono hj hji
      rw [H.1] at this
      cases this
  | succ fuel ih =>
    intro listed a w hfree hl hr hy hC H
    refine ⟨fun h => (by rw [h] at hr; cases hr), fun j hj => ?_⟩
    by_cases hji : j = i
    · subst hji
      refine hy.wpOp hi hC ?_
      rw [if_neg (by rw [hl]; simp)]
      exact ⟨hC, H⟩
    · have h1 := H.2 j (ready_mono hj hji)
      obtain ⟨hjun, oj, hoj, hall⟩ := mem_ready.1 hj
      have hnot : ∀ e ∈ oj.after, Region.binds .any e = true → e.on ≠ i := fun e he hb heq => by
        have h1 := hall e he hb
        have h0 := (mem_ready.1 hr).1
        rw [heq] at h1
        rcases Nat.lt_or_ge i listed.size with h' | h'
        · simp [h'] at h0 h1; rw [h0] at h1; cases h1
        · simp [Array.getElem?_eq_none h'] at h1
      obtain ⟨hap, hlj⟩ := hfree j oj hoj hji hjun hnot
      have h2 := wpOp_putIf hoj hap (fun cs b => hsel i oi cs b hi) (fun cs b => hsel j oj cs b hoj) hQ hy h1
      refine wpOp_mono (fun a' w' h3 => ?_) h2
      obtain ⟨h4, h5⟩ := h3
      rw [if_neg (by rw [hlj]; simp)] at h5 ⊢
      refine ⟨h5.1, ih (listed.setIfInBounds j true) a' w' (fun k ok hk hki hun hno => ?_) hl (ready_mono hr (Ne.symm hji)) h4 h5.1 ?_⟩
      · refine hfree k ok hk hki ?_ hno
        by_cases hjk : j = k
        · subst hjk; exact hjun
        · rw [getD_set_ne true hjk] at hun; exact hun
      · rw [Array.setIfInBounds_comm _ _ hji]
        exact h5.2
end
/-- a post that lets nothing but the normal way out -/
def onlyN (K : Act → World → Prop) : Exit → Act → World → Prop
  | .normal, a, w => K a w
  | _, _, _ => False
def set1 (n : Nat) : List Nat → Array Bool
  | [] => Array.replicate n false
  | i :: l => (set1 n l).setIfInBounds i true
/-- the state of a walk inside such a statement -/
structure StG (ds : List Deferred) (n : Nat) (w0 : World) (B : Nat) (L : List (Nat × Value)) (H Hs : List Ent) (a : Act) (w : World) : Prop where
  st : St ds n w0 B L H a w
  cl : SS w0 B Hs w
section
variable {P : Program} {Q : Exit → Act → World → Prop} {K : Act → World → Prop} {n m fuel : Nat} {w0 : World} {B : Nat} {L : List (Nat × Value)} {H Hs : List Ent} {l : List Oper} {late done : List Nat} {o : Oper} {i d : Nat} {v : Value}
theorem cw_draw {id : Nat} (hm : P.follows .mixedOrders = true) (late : List Nat) (hk : Keep H Hs) (hlen : l.length = m) (h : CT (StG ds n w0 B L H Hs) (wpG P l.toArray (onlyN (Q .normal)) late (SS w0 B Hs) m (set1 m []))) : CW P (.region id l.toArray true) Q (St ds n w0 B L H) := fun a w hs => by
  subst hlen
  refine wp_mono (Q := onlyN (Q .normal)) (wp_region_any hm ?_) fun e a' w' q => ?_
  · have h1 := h a { w with drawn := w.drawn + 1 } ⟨⟨hs.fr, hs.ss.draw⟩, (hk.ss hs.ss).draw⟩
    simpa [set1] using wpAny_of_G _ _ _ _ h1
  · cases e <;> first | exact q | exact q.elim
theorem wg_take (hi : l.toArray[i]? = some o) (h : OpV P L (SS w0 B Hs) o v) (hg : o.guard = none) (hd : o.dst = some d) (hlt : Nat.blt d n = true) (hs : Region.noSelect l.toArray = true) (hf : Region.free .any l.toArray (set1 m done) i = true) (hr : (Region.ready .any l.toArray (set1 m done)).contains i = true) (hl : lateOk l.toArray late (set1 m done) i = true)
    (k : CT (StG ds n w0 B ((d, v) :: L) H Hs) (wpG P l.toArray (onlyN K) late (SS w0 B Hs) fuel (set1 m (i :: done)))) : CT (StG ds n w0 B L H Hs) (wpG P l.toArray (onlyN K) late (SS w0 B Hs) (fuel + 1) (set1 m done)) := fun a w hst => by
  refine wpG_first hi (Region.noSelect_spec hs) (fun _ _ _ h => h) fuel _ a w (fun j oj hj hne hun hno => ⟨Region.free_spec hi hf j oj hj hne hun hno, lateOk_spec hl hj hun hno⟩) (by simp [lateOk] at hl; simp [hl.1]) (by simpa using hr) (.inl ⟨by simp [Region.wanted, hg], fun w' hw' => h a w' (fun x u hx => hst.st.fr.eval hx) hw'⟩) hst.cl (k _ _ ⟨⟨put_dst hst.st.fr hd hlt v, hst.st.ss⟩, hst.cl⟩)
theorem wg_take_if {p : Prop} [Decidable p] (hi : l.toArray[i]? = some o) (h : OpV P L (SS w0 B Hs) o (.bool (decide p))) (hg : o.guard = none) (hd : o.dst = some d) (hlt : Nat.blt d n = true) (hs : Region.noSelect l.toArray = true) (hf : Region.free .any l.toArray (set1 m done) i = true) (hr : (Region.ready .any l.toArray (set1 m done)).contains i = true) (hl : lateOk l.toArray late (set1 m done) i = true)
    (k1 : p → CT (StG ds n w0 B ((d, .bool true) :: L) H Hs) (wpG P l.toArray (onlyN K) late (SS w0 B Hs) fuel (set1 m (i :: done)))) (k2 : ¬ p → CT (StG ds n w0 B ((d, .bool false) :: L) H Hs) (wpG P l.toArray (onlyN K) late (SS w0 B Hs) fuel (set1 m (i :: done)))) :
    CT (StG ds n w0 B L H Hs) (wpG P l.toArray (onlyN K) late (SS w0 B Hs) (fuel + 1) (set1 m done)) := by
  by_cases hp : p
  · have e : decide p = true := by simp [hp]
    rw [e] at h; exact wg_take hi h hg hd hlt hs hf hr hl (k1 hp)
  · have e : decide p = false := by simp [hp]
    rw [e] at h; exact wg_take hi h hg hd hlt hs hf hr hl (k2 hp)
/-- guarded: the guard says yes -/
theorem wg_take_go {j gs : Nat} {b : Bool} {op : Op} {T : TypeId} {pos : String} {af : Array Edge} (hi : l.toArray[i]? = some ⟨some d, op, T, pos, af, some (j, b)⟩) (hj : (l.toArray[j]?).bind (·.dst) = some gs) (hb : look L gs = some (.bool b)) (h : OpV P L (SS w0 B Hs) ⟨some d, op, T, pos, af, none⟩ v) (hlt : Nat.blt d n = true) (hs : Region.noSelect l.toArray = true) (hf : Region.free .any l.toArray (set1 m done) i = true) (hr : (Region.ready .any l.toArray (set1 m done)).contains i = true) (hl : lateOk l.toArray late (set1 m done) i = true)
    (k : CT (StG ds n w0 B ((d, v) :: L) H Hs) (wpG P l.toArray (onlyN K) late (SS w0 B Hs) fuel (set1 m (i :: done)))) : CT (StG ds n w0 B L H Hs) (wpG P l.toArray (onlyN K) late (SS w0 B Hs) (fuel + 1) (set1 m done)) := fun a w hst => by
  have h2 := hst.st.fr.at_ gs _ hb (hst.st.fr.lt gs _ hb)
  refine wpG_first hi (Region.noSelect_spec hs) (fun _ _ _ h => h) fuel _ a w (fun j oj hj hne hun hno => ⟨Region.free_spec hi hf j oj hj hne hun hno, lateOk_spec hl hj hun hno⟩) (by simp [lateOk] at hl; simp [hl.1]) (by simpa using hr) (.inl ⟨by simp only [Region.wanted, yielded, hj, Option.bind_some, h2]; simp, fun w' hw' => h a w' (fun x u hx => hst.st.fr.eval hx) hw'⟩) hst.cl (k _ _ ⟨⟨hst.st.fr.put (by simpa [Nat.blt_eq] using hlt) v, hst.st.ss⟩, hst.cl⟩)
theorem wg_take_go_if {p : Prop} [Decidable p] {j gs : Nat} {b : Bool} {op : Op} {T : TypeId} {pos : String} {af : Array Edge} (hi : l.toArray[i]? = some ⟨some d, op, T, pos, af, some (j, b)⟩) (hj : (l.toArray[j]?).bind (·.dst) = some gs) (hb : look L gs = some (.bool b)) (h : OpV P L (SS w0 B Hs) ⟨some d, op, T, pos, af, none⟩ (.bool (decide p))) (hlt : Nat.blt d n = true) (hs : Region.noSelect l.toArray = true) (hf : Region.free .any l.toArray (set1 m done) i = true) (hr : (Region.ready .any l.toArray (set1 m done)).contains i = true) (hl : lateOk l.toArray late (set1 m done) i = true)
    (k1 : p → CT (StG ds n w0 B ((d, .bool true) :: L) H Hs) (wpG P l.toArray (onlyN K) late (SS w0 B Hs) fuel (set1 m (i :: done)))) (k2 : ¬ p → CT (StG ds n w0 B ((d, .bool false) :: L) H Hs) (wpG P l.toArray (onlyN K) late (SS w0 B Hs) fuel (set1 m (i :: done)))) :
    CT (StG ds n w0 B L H Hs) (wpG P l.toArray (onlyN K) late (SS w0 B Hs) (fuel + 1) (set1 m done)) := by
  by_cases hp : p
  · have e : decide p = true := by simp [hp]
    rw [e] at h; exact wg_take_go hi hj hb h hlt hs hf hr hl (k1 hp)
  · have e : decide p = false := by simp [hp]
    rw [e] at h; exact wg_take_go hi hj hb h hlt hs hf hr hl (k2 hp)
/-- guarded: the guard says no -/
theorem wg_take_not {j gs : Nat} {b b' : Bool} {op : Op} {T : TypeId} {pos : String} {af : Array Edge} (hi : l.toArray[i]? = some ⟨some d, op, T, pos, af, some (j, b)⟩) (hj : (l.toArray[j]?).bind (·.dst) = some gs) (hb : look L gs = some (.bool b')) (hne : (b' == b) = false) (hlt : Nat.blt d n = true) (hs : Region.noSelect l.toArray = true) (hf : Region.free .any l.toArray (set1 m done) i = true) (hr : (Region.ready .any l.toArray (set1 m done)).contains i = true) (hl : lateOk l.toArray late (set1 m done) i = true)
    (k : CT (StG ds n w0 B ((d, undef) :: L) H Hs) (wpG P l.toArray (onlyN K) late (SS w0 B Hs) fuel (set1 m (i :: done)))) : CT (StG ds n w0 B L H Hs) (wpG P l.toArray (onlyN K) late (SS w0 B Hs) (fuel + 1) (set1 m done)) := fun a w hst => by
  have h2 := hst.st.fr.at_ gs _ hb (hst.st.fr.lt gs _ hb)
  have hne' : ¬ b' = b := by simpa using hne
  refine wpG_first hi (Region.noSelect_spec hs) (fun _ _ _ h => h) fuel _ a w (fun j oj hj hne hun hno => ⟨Region.free_spec hi hf j oj hj hne hun hno, lateOk_spec hl hj hun hno⟩) (by simp [lateOk] at hl; simp [hl.1]) (by simpa using hr) (.inr ⟨by simp only [Region.wanted, yielded, hj, Option.bind_some, h2]; simpa using hne', rfl⟩) hst.cl (k _ _ ⟨⟨hst.st.fr.put (by simpa [Nat.blt_eq] using hlt) undef, hst.st.ss⟩, hst.cl⟩)
theorem wg_take_notu {j gs : Nat} {b : Bool} {op : Op} {T : TypeId} {pos : String} {af : Array Edge} (hi : l.toArray[i]? = some ⟨some d, op, T, pos, af, some (j, b)⟩) (hj : (l.toArray[j]?).bind (·.dst) = some gs) (hb : look L gs = some undef) (hlt : Nat.blt d n = true) (hs : Region.noSelect l.toArray = true) (hf : Region.free .any l.toArray (set1 m done) i = true) (hr : (Region.ready .any l.toArray (set1 m done)).contains i = true) (hl : lateOk l.toArray late (set1 m done) i = true)
    (k : CT (StG ds n w0 B ((d, undef) :: L) H Hs) (wpG P l.toArray (onlyN K) late (SS w0 B Hs) fuel (set1 m (i :: done)))) : CT (StG ds n w0 B L H Hs) (wpG P l.toArray (onlyN K) late (SS w0 B Hs) (fuel + 1) (set1 m done)) := fun a w hst => by
  have h2 := hst.st.fr.at_ gs _ hb (hst.st.fr.lt gs _ hb)
  refine wpG_first hi (Region.noSelect_spec hs) (fun _ _ _ h => h) fuel _ a w (fun j oj hj hne hun hno => ⟨Region.free_spec hi hf j oj hj hne hun hno, lateOk_spec hl hj hun hno⟩) (by simp [lateOk] at hl; simp [hl.1]) (by simpa using hr) (.inr ⟨by simp only [Region.wanted, yielded, hj, Option.bind_some, h2]; simp [undef], rfl⟩) hst.cl (k _ _ ⟨⟨hst.st.fr.put (by simpa [Nat.blt_eq] using hlt) undef, hst.st.ss⟩, hst.cl⟩)
/-- number i comes up -/
def GO (P : Program) (l : List Oper) (K : Act → World → Prop) (late : List Nat) (C : World → Prop) (fuel m : Nat) (done : List Nat) (i : Nat) : Act → World → Prop :=
  wpOp P l.toArray (onlyN K) i (fun a' w' => if late.contains i = true then wpAny P .any l.toArray (onlyN K) fuel (set1 m (i :: done)) a' w' else C w' ∧ wpG P l.toArray (onlyN K) late C fuel (set1 m (i :: done)) a' w')
/-- what follows behind an operation that is not late -/
def GK (P : Program) (l : List Oper) (K : Act → World → Prop) (late : List Nat) (C : World → Prop) (fuel m : Nat) (done : List Nat) : Act → World → Prop := fun a w => C w ∧ wpG P l.toArray (onlyN K) late C fuel (set1 m done) a w
theorem wg_one {i : Nat} (hr : Region.ready .any l.toArray (set1 m done) = [i]) (k : CT (StG ds n w0 B L H Hs) (GO P l K late (SS w0 B Hs) fuel m done i)) : CT (StG ds n w0 B L H Hs) (wpG P l.toArray (onlyN K) late (SS w0 B Hs) (fuel + 1) (set1 m done)) := fun a w hs => by
  refine ⟨fun h => (by rw [hr] at h; cases h), fun j hj => ?_⟩
  rw [hr] at hj
  rcases List.mem_singleton.1 hj with rfl
  exact k a w hs
theorem wg_two {i j : Nat} (hr : Region.ready .any l.toArray (set1 m done) = [i, j]) (k1 : CT (StG ds n w0 B L H Hs) (GO P l K late (SS w0 B Hs) fuel m done i)) (k2 : CT (StG ds n w0 B L H Hs) (GO P l K late (SS w0 B Hs) fuel m done j)) : CT (StG ds n w0 B L H Hs) (wpG P l.toArray (onlyN K) late (SS w0 B Hs) (fuel + 1) (set1 m done)) := fun a w hs => by
  refine ⟨fun h => (by rw [hr] at h; cases h), fun q hq => ?_⟩
  rw [hr] at hq
  simp only [List.mem_cons, List.not_mem_nil, or_false] at hq
  rcases hq with rfl | rfl
  · exact k1 a w hs
  · exact k2 a w hs
theorem wg_done (hr : Region.ready .any l.toArray (set1 m done) = []) (k : CT (St ds n w0 B L H) K) : CT (StG ds n w0 B L H Hs) (wpG P l.toArray (onlyN K) late (SS w0 B Hs) fuel (set1 m done)) := fun a w hs => by
  cases fuel with
  | zero => exact ⟨hr, k a w hs.st⟩
  | succ f => exact ⟨fun _ => k a w hs.st, by rw [hr]; simp⟩
theorem gk {L' : List (Nat × Value)} {H' : List Ent} (hk : Keep H' Hs) (k : CT (StG ds n w0 B L' H' Hs) (wpG P l.toArray (onlyN K) late (SS w0 B Hs) fuel (set1 m done))) : CT (St ds n w0 B L' H') (GK P l K late (SS w0 B Hs) fuel m done) := fun a w hs => ⟨hk.ss hs.ss, k a w ⟨hs, hk.ss hs.ss⟩⟩
theorem wpOp_of {a : Act} {w : World} {ops : Array Oper} {Q : Exit → Act → World → Prop} {K : Act → World → Prop} (hi : ops[i]? = some o) (hg : Region.wanted o (yielded ops a.tmps) = true) (h : ∀ K' : Act → World → Prop, (∀ a w, K a w → K' a w) → o.wp P a w K' Q) : wpOp P ops Q i K a w := by
  unfold wpOp
  simp only [hi, hg, if_true]
  exact .inl (h K fun _ _ h => h)
section
variable {R : Value → World → Prop}
theorem go_r (hl : late.contains i = false) (hi : l.toArray[i]? = some o) (hg : o.guard = none) (hd : o.dst = some d) (h : OpR P L (SS w0 B H) o R) (k : KT ds n d L R (GK P l K late (SS w0 B Hs) fuel m (i :: done))) : CT (StG ds n w0 B L H Hs) (GO P l K late (SS w0 B Hs) fuel m done i) := fun a w hs =>
  wpOp_of hi (by simp [Region.wanted, hg]) fun K' hK => h a w (fun x u hx => hs.st.fr.eval hx) hs.st.ss K' _ fun v w' hr => hK _ _ (by
    rw [if_neg (by rw [hl]; simp), hd]; exact k v w' hr a hs.st.fr)
theorem go_r0 (hl : late.contains i = false) (hi : l.toArray[i]? = some o) (hg : o.guard = none) (hd : o.dst = none) (h : OpR P L (SS w0 B H) o R) (k : KN ds n L R (GK P l K late (SS w0 B Hs) fuel m (i :: done))) : CT (StG ds n w0 B L H Hs) (GO P l K late (SS w0 B Hs) fuel m done i) := fun a w hs =>
  wpOp_of hi (by simp [Region.wanted, hg]) fun K' hK => h a w (fun x u hx => hs.st.fr.eval hx) hs.st.ss K' _ fun v w' hr => hK _ _ (by
    rw [if_neg (by rw [hl]; simp), hd]; exact k v w' hr a hs.st.fr)
theorem go_late (hl : late.contains i = true) (hi : l.toArray[i]? = some o) (hg : o.guard = none) (hd : o.dst = some d) (h : OpR P L (SS w0 B H) o R) (k : KT ds n d L R (wpAny P .any l.toArray (onlyN K) fuel (set1 m (i :: done)))) : CT (StG ds n w0 B L H Hs) (GO P l K late (SS w0 B Hs) fuel m done i) := fun a w hs =>
  wpOp_of hi (by simp [Region.wanted, hg]) fun K' hK => h a w (fun x u hx => hs.st.fr.eval hx) hs.st.ss K' _ fun v w' hr => hK _ _ (by
    rw [if_pos hl, hd]; exact k v w' hr a hs.st.fr)
theorem go_late0 (hl : late.contains i = true) (hi : l.toArray[i]? = some o) (hg : o.guard = none) (hd : o.dst = none) (h : OpR P L (SS w0 B H) o R) (k : KN ds n L R (wpAny P .any l.toArray (onlyN K) fuel (set1 m (i :: done)))) : CT (StG ds n w0 B L H Hs) (GO P l K late (SS w0 B Hs) fuel m done i) := fun a w hs =>
  wpOp_of hi (by simp [Region.wanted, hg]) fun K' hK => h a w (fun x u hx => hs.st.fr.eval hx) hs.st.ss K' _ fun v w' hr => hK _ _ (by
    rw [if_pos hl, hd]; exact k v w' hr a hs.st.fr)
/-- guarded: the guard says yes -/
theorem go_rg {j gs : Nat} {b : Bool} {op : Op} {T : TypeId} {pos : String} {af : Array Edge} (hl : late.contains i = false) (hi : l.toArray[i]? = some ⟨some d, op, T, pos, af, some (j, b)⟩) (hj : (l.toArray[j]?).bind (·.dst) = some gs) (hb : look L gs = some (.bool b)) (h : OpR P L (SS w0 B H) ⟨some d, op, T, pos, af, none⟩ R) (k : KT ds n d L R (GK P l K late (SS w0 B Hs) fuel m (i :: done))) : CT (StG ds n w0 B L H Hs) (GO P l K late (SS w0 B Hs) fuel m done i) := fun a w hs => by
  have h2 := hs.st.fr.at_ gs _ hb (hs.st.fr.lt gs _ hb)
  refine wpOp_of hi (by simp only [Region.wanted, yielded, hj, Option.bind_some, h2]; simp) fun K' hK => ?_
  exact h a w (fun x u hx => hs.st.fr.eval hx) hs.st.ss K' _ fun v w' hr => hK _ _ (by
    rw [if_neg (by rw [hl]; simp)]; exact k v w' hr a hs.st.fr)
theorem wa_r {i : Nat} (hr : Region.ready .any l.toArray (set1 m done) = [i]) (hi : l.toArray[i]? = some o) (hg : o.guard = none) (hd : o.dst = some d) (h : OpR P L (SS w0 B H) o R) (k : KT ds n d L R (wpAny P .any l.toArray (onlyN K) fuel (set1 m (i :: done)))) : CT (St ds n w0 B L H) (wpAny P .any l.toArray (onlyN K) (fuel + 1) (set1 m done)) := fun a w hs => by
  refine ⟨fun h => (by rw [hr] at h; cases h), fun j hj => ?_⟩
  rw [hr] at hj
  rcases List.mem_singleton.1 hj with rfl
  exact wpOp_of hi (by simp [Region.wanted, hg]) fun K' hK => h a w (fun x u hx => hs.fr.eval hx) hs.ss K' _ fun v w' hr => hK _ _ (by rw [hd]; exact k v w' hr a hs.fr)
theorem wa_r0 {i : Nat} (hr : Region.ready .any l.toArray (set1 m done) = [i]) (hi : l.toArray[i]? = some o) (hg : o.guard = none) (hd : o.dst = none) (h : OpR P L (SS w0 B H) o R) (k : KN ds n L R (wpAny P .any l.toArray (onlyN K) fuel (set1 m (i :: done)))) : CT (St ds n w0 B L H) (wpAny P .any l.toArray (onlyN K) (fuel + 1) (set1 m done)) := fun a w hs => by
  refine ⟨fun h => (by rw [hr] at h; cases h), fun j hj => ?_⟩
  rw [hr] at hj
  rcases List.mem_singleton.1 hj with rfl
  exact wpOp_of hi (by simp [Region.wanted, hg]) fun K' hK => h a w (fun x u hx => hs.fr.eval hx) hs.ss K' _ fun v w' hr => hK _ _ (by rw [hd]; exact k v w' hr a hs.fr)
theorem wa_done (hr : Region.ready .any l.toArray (set1 m done) = []) (k : CT (St ds n w0 B L H) K) : CT (St ds n w0 B L H) (wpAny P .any l.toArray (onlyN K) fuel (set1 m done)) := fun a w hs => by
  cases fuel with
  | zero => exact ⟨hr, k a w hs⟩
  | succ f => exact ⟨fun _ => k a w hs, by rw [hr]; simp⟩
end
end

theorem made_of {α : Type} {f : α → List Value} (z : α) (zs : Array Value) (h : zs.toList = f z) (m : Nat) : (madeCells zs (m * zs.size)).toList = cells f (List.replicate m z) := by
  induction m with
  | zero => simp [madeCells, cells]
  | succ m ih =>
    have e : cells f (List.replicate (m + 1) z) = cells f (List.replicate m z) ++ f z := by
      rw [List.replicate_succ', ← cells_append]; simp [cells]
    rw [e, ← ih]
    simp only [madeCells, Array.toList_map, Array.toList_range]
    rw [Nat.succ_mul, List.range_add, List.map_append, List.map_map]
    congr 1
    rw [← h]
    apply List.ext_getElem
    · simp
    · intro i h1 h2
      simp at h1
      have h3 : i < zs.size := by simpa using h1
      have h4 : (m * zs.size + i) % zs.size = i := by rw [Nat.add_comm, Nat.add_mul_mod_self_right, Nat.mod_eq_of_lt h3]
      simp only [List.getElem_map, List.getElem_range, Function.comp, h4]
      simp [h3]
theorem made_fI (m : Nat) : (madeCells (Value.int .i64 0).cells (m * 1)).toList = cells fI (List.replicate m 0) := made_of (f := fI) 0 _ rfl m
theorem made_fB (m : Nat) : (madeCells (Value.bool false).cells (m * 1)).toList = cells fB (List.replicate m false) := made_of (f := fB) false _ rfl m
theorem made_fL (m : Nat) : (madeCells (Value.slice none 0 0).cells (m * 1)).toList = cells fL (List.replicate m (none, 0, 0)) := made_of (f := fL) (none, 0, 0) _ rfl m
theorem made_fE (m : Nat) : (madeCells (Value.agg #[.int .i64 0, .int .i64 0]).cells (m * 2)).toList = cells fE (List.replicate m (0, 0)) := made_of (f := fE) (0, 0) _ rfl m
theorem bt {p : Prop} [Decidable p] (h : p) : Value.bool true = .bool (decide p) := by simp [h]
theorem bf {p : Prop} [Decidable p] (h : ¬ p) : Value.bool false = .bool (decide p) := by simp [h]

section
variable {P : Program} {L : List (Nat × Value)} {M : World → Prop} {o : Oper}
theorem OpV.dec {b : Bool} (h : OpV P L M o (.bool b)) : OpV P L M o (.bool (decide (b = true))) := by cases b <;> exact h
theorem holds_dropC {α : Type} {f : α → List Value} {sz : Nat} {A : Option Addr} {xs : List α} {c l : Nat} (hf : ∀ x, (f x).length = sz) (h : Holds M A (cells f xs)) (hle : xs.length ≤ c) : Holds M (dropA A c l sz) (cells f (xs.drop l)) := by
  rw [← cells_drop hf]
  exact holds_dropA h (cells_length hf) hle
theorem holds_takeC {α : Type} {f : α → List Value} {sz : Nat} {A : Option Addr} {xs : List α} {k : Nat} (hf : ∀ x, (f x).length = sz) (h : Holds M A (cells f xs)) : Holds M A (cells f (xs.take k)) := by
  rw [← cells_take hf]
  exact holds_take h
end
theorem ct_none {n : Nat} {w0 : World} {B : Nat} {L : List (Nat × Value)} {H : List Ent} {X : Act → World → Prop} {α : Type} (f : α → List Value) (e : TypeId) (size : Nat) (h : CT (St ds n w0 B L (row e size none 0 0 (cells f []) :: H)) X) : CT (St ds n w0 B L H) X := fun a w hs =>
  h a w ⟨hs.fr, row_none e size hs.ss⟩
theorem splice_fE0 {xs : List (Int × Int)} {k : Nat} (hk : k < xs.length) (y : Int) : splice (cells fE xs) (k * 2 + 0) [.int .i64 y] = cells fE (xs.set k (y, (xs.getD k (0, 0)).2)) := by
  rw [← cells_splice fE_len hk]
  have h := cells_elem (xs := xs) fE_len (0, 0) hk
  unfold splice
  have h2 : (cells fE xs).drop (k * 2 + 0 + 1) = .int .i64 (xs.getD k (0, 0)).2 :: (cells fE xs).drop (k * 2 + 2) := by
    have h3 := get_fE1 hk
    have hl : k * 2 + 1 < (cells fE xs).length := (List.getElem?_eq_some_iff.1 h3).1
    rw [Nat.add_zero, List.drop_eq_getElem_cons hl]
    rw [List.getElem?_eq_getElem hl] at h3
    injection h3 with h3
    rw [h3]
  simp only [List.length_cons, List.length_nil] at *
  rw [h2]
  simp [fE]
theorem splice_fE1 {xs : List (Int × Int)} {k : Nat} (hk : k < xs.length) (y : Int) : splice (cells fE xs) (k * 2 + 1) [.int .i64 y] = cells fE (xs.set k ((xs.getD k (0, 0)).1, y)) := by
  rw [← cells_splice fE_len hk]
  unfold splice
  have h2 : (cells fE xs).take (k * 2 + 1) = (cells fE xs).take (k * 2) ++ [.int .i64 (xs.getD k (0, 0)).1] := by
    have h3 := get_fE0 hk
    have hl : k * 2 + 0 < (cells fE xs).length := (List.getElem?_eq_some_iff.1 h3).1
    rw [List.take_succ_eq_append_getElem (by omega)]
    rw [List.getElem?_eq_getElem hl] at h3
    injection h3 with h3
    simp only [Nat.add_zero] at h3
    rw [h3]
  rw [h2]
  simp [fE]

/-! ### more operations -/
section
variable {P : Program} {w0 : World} {B : Nat} {L : List (Nat × Value)} {H H' : List Ent} {x y z : Operand} {u v : Value} {d : Option Nat} {T U : TypeId} {pos : String} {af : Array Edge} {g : Option (Nat × Bool)}
theorem run_append_fit {w : World} {e : TypeId} {size by_ : Nat} {ag : Bool} {zv : Value} {a : Addr} {m c m2 c2 : Nat} {A2 : Option Addr} {cs2 : List Value} {R : Result Unit} (hU : sliceI P U = some e) (hE : tyI P e = some (ag, size, by_, zv)) (h2 : At w A2 cs2) (hl2 : cs2.length = m2 * size) (hc : m + m2 ≤ c) (hst : (storeCells (a.add (m * size)) cs2).run P w = R) (ty : TypeId) :
    (Builtin.append_ #[U, U] ty #[.slice (some a) m c, .slice A2 m2 c2]).run P w = R.andThen fun _ w' => .ok (.slice (some a) (m + m2) c) w' := by
  obtain ⟨ud, i, hu, hi, hg, hsz, hby, hzz⟩ := tyI_spec hE
  have hf : (Builtin.firstCells i.size m2 (.slice A2 m2 c2)).run P w = .ok cs2.toArray w := by
    rcases A2 with _ | ad
    · have hn : cs2 = [] := by
        rcases cs2 with _ | ⟨u, r⟩
        · rfl
        · obtain ⟨a, ha, _⟩ := h2 0 u rfl; cases ha
      subst hn
      simp [Builtin.firstCells]
    · exact run_firstCells_some (P := P) w i.size m2 ad m2 c2 cs2 (by rw [hsz]; exact hl2) fun j u hu => by
        obtain ⟨a, ha, hc⟩ := h2 j u hu; injection ha with ha; subst ha; exact hc
  subst hsz
  simp [Builtin.append_, run_underlying (sliceI_spec hU), sizeOf, typeInfo, hi, Builtin.lenOf, hc, hf, hst]
/-- append within a row of one's own: what stands behind j is moved to i -/
theorem or_append_self {e : TypeId} {size by_ i n c c0 c2 m2 : Nat} {ag : Bool} {zv : Value} {A A2 : Option Addr} {cs cs2 cs' : List Value} (hU : sliceI P U = some e) (hE : tyI P e = some (ag, size, by_, zv)) (hx : ev L x = some (.slice A i c)) (hy : ev L y = some (.slice A2 m2 c2))
    (hp : Pick (row e size A n c0 cs) H H') (hh : Holds (SS w0 B H) A2 cs2) (hl : cs2.length = m2 * size) (h1 : ∀ u ∈ cs2, u.oneCell' = true) (hA : ∃ a, A = some a) (hc : i + m2 ≤ c) (hn : i + m2 ≤ n) (hcs : splice cs (i * size) cs2 = cs') :
    OpR P L (SS w0 B H) ⟨d, .call { callee := .builtin .append, args := #[x, y], argTypes := #[U, U] }, T, pos, af, g⟩ (fun v w' => v = .slice A (i + m2) c ∧ SS w0 B (row e size A n c0 cs' :: H') w') :=
  OpR.of_run fun a w he hM => by
    obtain ⟨b, rfl⟩ := hA
    have hlen : cs.length = n * size := (hp.ss hM).hp.1.1
    have hle : (i + m2) * size ≤ n * size := Nat.mul_le_mul_right _ hn
    rw [Nat.add_mul] at hle
    obtain ⟨w', hrun, hs⟩ := ss_storeCells (P := P) (q := i * size) hM hp h1 (by omega) b rfl
    subst hcs
    have := run_append_fit (P := P) (U := U) (c2 := c2) hU hE (hh w hM) hl hc hrun T
    refine ⟨_, w', ?_, rfl, hs⟩
    simp only [execOp, resolve, invoke, builtin, Sem.run_bind, Sem.run_pure, Result.andThen_ok, List.map_toArray, List.map_cons, List.map_nil, he x _ hx, he y _ hy, this]
theorem cells_splices {α : Type} {f : α → List Value} {sz : Nat} (hf : ∀ x, (f x).length = sz) (xs ys : List α) (k : Nat) : splice (cells f xs) (k * sz) (cells f ys) = cells f (xs.take k ++ ys ++ xs.drop (k + ys.length)) := by
  unfold splice
  rw [cells_length hf, ← Nat.add_mul, cells_take hf, cells_drop hf, cells_append, cells_append]
theorem zeroCells_of {α : Type} {f : α → List Value} {z : α} {zs : Array Value} (h : zs.toList = f z) (m : Nat) : (Builtin.zeroCells zs m).toList = cells f (List.replicate m z) := by
  have := made_of (f := f) z zs h m
  rw [← this]
  simp [Builtin.zeroCells, madeCells]
theorem or_clear {α : Type} {f : α → List Value} {z0 : α} {e : TypeId} {size by_ i k n c c0 : Nat} {ag : Bool} {zv : Value} {A : Option Addr} {cs cs' : List Value} (hU : sliceI P U = some e) (hE : tyI P e = some (ag, size, by_, zv)) (hz : zv.cells.toList = f z0) (hf : ∀ x, (f x).length = size) (h1 : ∀ x, ∀ u ∈ f x, u.oneCell' = true) (hx : ev L x = some (.slice (dropA A c i size) k (c - i)))
    (hp : Pick (row e size A n c0 cs) H H') (hn : i + k ≤ n) (hic : i < c ∨ k = 0) (hA : ∃ a, A = some a) (hcs : splice cs (i * size) (cells f (List.replicate k z0)) = cs') :
    OpR P L (SS w0 B H) ⟨none, .call { callee := .builtin .clear, args := #[x], argTypes := #[U] }, T, pos, af, g⟩ (fun v w' => v = .tuple #[] ∧ SS w0 B (row e size A n c0 cs' :: H') w') :=
  OpR.of_run fun a w he hM => by
    obtain ⟨b, rfl⟩ := hA
    have hlen : cs.length = n * size := (hp.ss hM).hp.1.1
    have hle : (i + k) * size ≤ n * size := Nat.mul_le_mul_right _ hn
    rw [Nat.add_mul] at hle
    obtain ⟨w', hrun, hs⟩ := ss_storeCells (P := P) (q := i * size) (vs := cells f (List.replicate k z0)) hM hp (one_cells h1 _) (by rw [cells_length hf]; simp; omega) b rfl
    subst hcs
    simp only [execOp, resolve, invoke, builtin, Sem.run_bind, Sem.run_pure, Result.andThen_ok, List.map_toArray, List.map_cons, List.map_nil, he x _ hx]
    rcases Nat.eq_zero_or_pos k with rfl | hk
    · refine ⟨_, w, ?_, rfl, ?_⟩
      · by_cases hci : c = i
        · simp [Builtin.clear_, dropA, hci, run_underlying (sliceI_spec hU)]
        · simp [Builtin.clear_, dropA, hci, run_underlying (sliceI_spec hU)]
      · have : splice cs (i * size) (cells f (List.replicate 0 z0)) = cs := by simp [splice, cells]
        rw [this]; exact hp.ss hM
    · have hne : ¬ c = i := by omega
      refine ⟨_, w', ?_, rfl, hs⟩
      obtain ⟨k, rfl⟩ : ∃ j, k = j + 1 := ⟨k - 1, by omega⟩
      simp only [Builtin.clear_, dropA, if_neg hne, Option.map_some]
      simp [run_underlying (sliceI_spec hU), run_zeroValue hE, zeroCells_of hz, hrun]
theorem ov_eqlnil {M : World → Prop} {E T' : TypeId} {A : Option Addr} {n c : Nat} (hU : sliceI P U = some E) (hx : ev L x = some (.slice A n c)) (hy : ev L y = some (.slice none 0 0)) : OpV P L M ⟨d, .binOp .eql U x y T', T, pos, af, g⟩ (.bool (decide (A = none))) := fun a w he _ => by
  have e := run_equal_slice_nil (P := P) w U E A n c (sliceI_spec hU)
  have e2 : A.isNone = decide (A = none) := by cases A <;> simp
  simp only [execOp, he x _ hx, he y _ hy, binOp]; simp [go_sem, e, e2]
/-- a call that turns one piece -/
theorem call_m {F : FuncId} {as_ : Array Value} {e e' : Ent} (hp : Pick e H H') (h : ∀ w, SS w0 B (e :: H') w → Calls P F as_ w (Ret fun v w' => v = u ∧ SS w0 B (e' :: H') w')) : ∀ w, SS w0 B H w → Calls P F as_ w (Ret fun v w' => v = u ∧ SS w0 B (e' :: H') w') :=
  fun w hw => h w (hp.ss hw)
end
theorem at_none {α : Type} {f : α → List Value} {sz : Nat} (hf : ∀ x, (f x).length = sz) (h0 : 0 < sz) {w : World} {xs : List α} (h : At w none (cells f xs)) : xs = [] := by
  rcases xs with _ | ⟨x, xs⟩
  · rfl
  · have hl := hf x
    rcases hx : f x with _ | ⟨u, r⟩
    · rw [hx] at hl; simp at hl; omega
    · obtain ⟨a, ha, _⟩ := h 0 u (by simp [cells, hx]); cases ha
/-- a type is a struct of so many integers, one behind the other -/
def eqE (P : Program) (U : TypeId) (k : Nat) : Bool :=
  !P.eqGuardType P.depth U && ((match P.underlying U with | some (.struct _) => true | _ => false) && !P.stoodInHeld U && (P.fieldsOf U).toList.length == k
    && ((P.fieldsOf U).toList.zipIdx.all fun q => decide (q.1.name ≠ "_") && q.1.offset == q.2 && (match P.underlying q.1.type with | some (.int _) => true | _ => false)))
theorem run_eqInts {P : Program} {w : World} (d : Nat) (as_ bs : List Int) : ∀ (l : List Field) (o : Nat), o + l.length = as_.length → as_.length = bs.length → ((l.zipIdx o).all fun q => decide (q.1.name ≠ "_") && q.1.offset == q.2 && (match P.underlying q.1.type with | some (.int _) => true | _ => false)) = true →
    (Op.eqFields (d + 1) (as_.map (Value.int .i64)).toArray (bs.map (Value.int .i64)).toArray l).run P w = .ok (decide (as_.drop o = bs.drop o)) w
  | [], o, h1, h2, _ => by
    simp only [List.length_nil, Nat.add_zero] at h1
    have e1 : as_.drop o = [] := List.drop_of_length_le (by omega)
    have e2 : bs.drop o = [] := List.drop_of_length_le (by omega)
    simp [Op.eqFields, e1, e2]
  | f :: fs, o, h1, h2, h3 => by
    simp only [List.length_cons] at h1
    simp only [List.zipIdx_cons, List.all_cons, Bool.and_eq_true, decide_eq_true_eq, beq_iff_eq] at h3
    obtain ⟨⟨⟨hn, ho⟩, ht⟩, hr⟩ := h3
    have ih := run_eqInts (P := P) (w := w) d as_ bs fs (o + 1) (by omega) h2 (by simpa using hr)
    have hla : o < as_.length := by omega
    have hlb : o < bs.length := by omega
    obtain ⟨kd, hk⟩ : ∃ kd, P.underlying f.type = some (.int kd) := by
      split at ht
      · rename_i kd e; exact ⟨kd, e⟩
      · simp at ht
    have hpk : P.plainKey f.type = true := by simp [Program.plainKey, hk]
    have e1 : as_.drop o = as_[o] :: as_.drop (o + 1) := List.drop_eq_getElem_cons hla
    have e2 : bs.drop o = bs[o] :: bs.drop (o + 1) := List.drop_eq_getElem_cons hlb
    have p1 := run_part_plain (P := P) (w := w) hpk (xs := (as_.map (Value.int .i64)).toArray) (off := f.offset) (v := .int .i64 as_[o]) (by rw [ho]; simp [hla])
    have p2 := run_part_plain (P := P) (w := w) hpk (xs := (bs.map (Value.int .i64)).toArray) (off := f.offset) (v := .int .i64 bs[o]) (by rw [ho]; simp [hlb])
    have p3 := run_equalIn_int (P := P) w d f.type .i64 kd as_[o] bs[o] hk
    simp only [Op.eqFields, if_pos hn, Sem.run_bind, p1, p2, p3, Result.andThen_ok, Sem.run_ite, Sem.run_pure, ih, e1, e2]
    by_cases hc : as_[o] = bs[o]
    · simp [hc, -List.getElem_cons_drop]
    · simp [hc, -List.getElem_cons_drop]
theorem run_eqE {P : Program} {U : TypeId} {k : Nat} (h : eqE P U k = true) {as_ bs : List Int} (ha : as_.length = k) (hb : bs.length = k) (w : World) :
    (Op.equalIn 10000 U (.agg (as_.map (Value.int .i64)).toArray) (.agg (bs.map (Value.int .i64)).toArray)).run P w = .ok (decide (as_ = bs)) w := by
  simp only [eqE, Bool.and_eq_true, beq_iff_eq] at h
  obtain ⟨_, ⟨⟨h1, h2⟩, h3⟩, h4⟩ := h
  have ht : P.underlying U = some (.struct (P.fieldsOf U)) := by
    unfold Program.fieldsOf
    split at h1
    · rename_i e; simp [e]
    · simp at h1
  rw [run_equalIn_agg w 9999 U _ _ ht (by simpa using h2)]
  have := run_eqInts (P := P) (w := w) 9998 as_ bs (P.fieldsOf U).toList 0 (by omega) (by omega) h4
  simpa using this
section
variable {P : Program} {L : List (Nat × Value)} {x y : Operand} {d : Option Nat} {T U : TypeId} {pos : String} {af : Array Edge} {g : Option (Nat × Bool)} {M : World → Prop}
theorem ov_eqlE2 {a b a' b' : Int} {T' : TypeId} (hU : eqE P U 2 = true) (hx : ev L x = some (.agg #[.int .i64 a, .int .i64 b])) (hy : ev L y = some (.agg #[.int .i64 a', .int .i64 b'])) : OpV P L M ⟨d, .binOp .eql U x y T', T, pos, af, g⟩ (.bool (decide (a = a' ∧ b = b'))) := fun ac w he _ => by
  have e := run_eqE hU (as_ := [a, b]) (bs := [a', b']) rfl rfl w
  simp only [List.map_cons, List.map_nil] at e
  have hg : P.eqGuardType P.depth U = false := by simp only [eqE, Bool.and_eq_true, Bool.not_eq_true'] at hU; exact hU.1
  simp only [execOp, he x _ hx, he y _ hy]
  simp [run_eql_struct, e, run_eqGuard_agg (P := P) w .eql U x y _ _ hg]
end
theorem FrOk.dup {n i : Nat} {v : Value} {L : List (Nat × Value)} {a : Act} (h : FrOk ds n L a) (hb : look L i = some v) : FrOk ds n ((i, v) :: L) a := by
  have key : ∀ j u, look ((i, v) :: L) j = some u → look L j = some u := by
    intro j u hu
    rw [look_cons] at hu
    split at hu
    · rename_i e; subst e; rw [← hu]; exact hb
    · exact hu
  exact ⟨h.size, h.defers, fun j u hu => h.at_ j u (key j u hu), fun j u hu => h.lt j u (key j u hu)⟩
theorem ct_bool {n i : Nat} {w0 : World} {B : Nat} {L : List (Nat × Value)} {H : List Ent} {X : Act → World → Prop} {b : Bool} (hb : look L i = some (.bool b)) (k1 : b = true → CT (St ds n w0 B ((i, .bool true) :: L) H) X) (k2 : b = false → CT (St ds n w0 B ((i, .bool false) :: L) H) X) : CT (St ds n w0 B L H) X := fun a w hs => by
  cases b
  · exact k2 rfl a w ⟨hs.fr.dup hb, hs.ss⟩
  · exact k1 rfl a w ⟨hs.fr.dup hb, hs.ss⟩
theorem kt_ifb {n d : Nat} {w0 : World} {B : Nat} {L : List (Nat × Value)} {H' : List Ent} {X : Act → World → Prop} {b : Bool} (hlt : Nat.blt d n = true) (k1 : b = true → CT (St ds n w0 B ((d, .bool true) :: L) H') X) (k2 : b = false → CT (St ds n w0 B ((d, .bool false) :: L) H') X) : KT ds n d L (fun v w' => v = .bool b ∧ SS w0 B H' w') X := by
  rintro v w' ⟨rfl, hs⟩ a ha
  cases b
  · exact k2 rfl _ _ ⟨ha.put (by simpa [Nat.blt_eq] using hlt) _, hs⟩
  · exact k1 rfl _ _ ⟨ha.put (by simpa [Nat.blt_eq] using hlt) _, hs⟩

/-! ### taking what hangs on no world -/
section
variable {P : Program} {ops : Array Oper} {Q : Exit → Act → World → Prop} {late : List Nat} {C : World → Prop}
theorem wpG_firstp {i : Nat} {oi : Oper} {v : Value} (hi : ops[i]? = some oi) (hsel : ∀ (j : Nat) (o : Oper) cs b, ops[j]? = some o → o.op ≠ .select cs b) (hQ : ∀ c a w, Q (.panic c) (a.put oi.dst v) w → Q (.panic c) a w) :
    ∀ (fuel : Nat) (listed : Array Bool) (a : Act) (w : World),
      (∀ j oj, ops[j]? = some oj → j ≠ i → listed.getD j true = false → (∀ e ∈ oj.after, Region.binds .any e = true → e.on ≠ i) → oi.apart ops oj = true) → late.contains i = false →
      i ∈ Region.ready .any ops listed → Yields P ops oi v a → C w → wpG P ops Q late C fuel (listed.setIfInBounds i true) (a.put oi.dst v) w → wpG P ops Q late C (fuel + 1) listed a w := by
  intro fuel
  induction fuel with
  | zero =>
    intro listed a w _ hl hr hy hC H
    refine ⟨fun h => (by rw [h] at hr; cases hr), fun j hj => ?_⟩
    by_cases hji : j = i
    · subst hji
      refine hy.wpOp hi ?_
      rw [if_neg (by rw [hl]; simp)]
      exact ⟨hC, H⟩
    · have := ready_mono hj hji
      rw [H.1] at this
      cases this
  | succ fuel ih =>
    intro listed a w hfree hl hr hy hC H
    refine ⟨fun h => (by rw [h] at hr; cases hr), fun j hj => ?_⟩
    by_cases hji : j = i
    · subst hji
      refine hy.wpOp hi ?_
      rw [if_neg (by rw [hl]; simp)]
      exact ⟨hC, H⟩
    · have h1 := H.2 j (ready_mono hj hji)
      obtain ⟨hjun, oj, hoj, hall⟩ := mem_ready.1 hj
      have hnot : ∀ e ∈ oj.after, Region.binds .any e = true → e.on ≠ i := fun e he hb heq => by
        have h1 := hall e he hb
        have h0 := (mem_ready.1 hr).1
        rw [heq] at h1
        rcases Nat.lt_or_ge i listed.size with h' | h'
        · simp [h'] at h0 h1; rw [h0] at h1; cases h1
        · simp [Array.getElem?_eq_none h'] at h1
      have hap := hfree j oj hoj hji hjun hnot
      have h2 := wpOp_put hoj hap (fun cs b => hsel i oi cs b hi) (fun cs b => hsel j oj cs b hoj) hQ hy h1
      have hfree' : ∀ k ok, ops[k]? = some ok → k ≠ i → (listed.setIfInBounds j true).getD k true = false → (∀ e ∈ ok.after, Region.binds .any e = true → e.on ≠ i) → oi.apart ops ok = true := fun k ok hk hki hun hno => by
        refine hfree k ok hk hki ?_ hno
        by_cases hjk : j = k
        · subst hjk; exact hjun
        · rw [getD_set_ne true hjk] at hun; exact hun
      refine wpOp_mono (fun a' w' h3 => ?_) h2
      obtain ⟨h4, h5⟩ := h3
      split at h5
      · rename_i hlj
        rw [if_pos hlj]
        refine wpAny_first hi hsel hQ fuel _ a' w' hfree' (ready_mono hr (Ne.symm hji)) h4 ?_
        rw [Array.setIfInBounds_comm _ _ hji]
        exact h5
      · rename_i hlj
        rw [if_neg hlj]
        refine ⟨h5.1, ih (listed.setIfInBounds j true) a' w' hfree' hl (ready_mono hr (Ne.symm hji)) h4 h5.1 ?_⟩
        rw [Array.setIfInBounds_comm _ _ hji]
        exact h5.2
end
section
variable {P : Program} {K : Act → World → Prop} {n m fuel : Nat} {w0 : World} {B : Nat} {L : List (Nat × Value)} {H Hs : List Ent} {l : List Oper} {late done : List Nat} {o : Oper} {i d : Nat} {v : Value}
theorem wg_takep (hi : l.toArray[i]? = some o) (h : OpV P L (fun _ => True) o v) (hg : o.guard = none) (hd : o.dst = some d) (hlt : Nat.blt d n = true) (hs : Region.noSelect l.toArray = true) (hf : Region.free .any l.toArray (set1 m done) i = true) (hr : (Region.ready .any l.toArray (set1 m done)).contains i = true) (hl : late.contains i = false)
    (k : CT (StG ds n w0 B ((d, v) :: L) H Hs) (wpG P l.toArray (onlyN K) late (SS w0 B Hs) fuel (set1 m (i :: done)))) : CT (StG ds n w0 B L H Hs) (wpG P l.toArray (onlyN K) late (SS w0 B Hs) (fuel + 1) (set1 m done)) := fun a w hst =>
  wpG_firstp hi (Region.noSelect_spec hs) (fun _ _ _ h => h) fuel _ a w (fun j oj hj hne hun hno => Region.free_spec hi hf j oj hj hne hun hno) hl (by simpa using hr) (.inl ⟨by simp [Region.wanted, hg], fun w' => h a w' (fun x u hx => hst.st.fr.eval hx) trivial⟩) hst.cl (k _ _ ⟨⟨put_dst hst.st.fr hd hlt v, hst.st.ss⟩, hst.cl⟩)
theorem stg_some {A : Option Addr} {X : Act → World → Prop} (h : ∀ w, SS w0 B Hs w → ∃ a, A = some a) (k : (∃ a, A = some a) → CT (StG ds n w0 B L H Hs) X) : CT (StG ds n w0 B L H Hs) X := fun a w hs => k (h w hs.cl) a w hs
theorem wg_takep_if {p : Prop} [Decidable p] (hi : l.toArray[i]? = some o) (h : OpV P L (fun _ => True) o (.bool (decide p))) (hg : o.guard = none) (hd : o.dst = some d) (hlt : Nat.blt d n = true) (hs : Region.noSelect l.toArray = true) (hf : Region.free .any l.toArray (set1 m done) i = true) (hr : (Region.ready .any l.toArray (set1 m done)).contains i = true) (hl : late.contains i = false)
    (k1 : p → CT (StG ds n w0 B ((d, .bool true) :: L) H Hs) (wpG P l.toArray (onlyN K) late (SS w0 B Hs) fuel (set1 m (i :: done)))) (k2 : ¬ p → CT (StG ds n w0 B ((d, .bool false) :: L) H Hs) (wpG P l.toArray (onlyN K) late (SS w0 B Hs) fuel (set1 m (i :: done)))) :
    CT (StG ds n w0 B L H Hs) (wpG P l.toArray (onlyN K) late (SS w0 B Hs) (fuel + 1) (set1 m done)) := by
  by_cases hp : p
  · have e : decide p = true := by simp [hp]
    rw [e] at h; exact wg_takep hi h hg hd hlt hs hf hr hl (k1 hp)
  · have e : decide p = false := by simp [hp]
    rw [e] at h; exact wg_takep hi h hg hd hlt hs hf hr hl (k2 hp)
end
end Go.Sx
