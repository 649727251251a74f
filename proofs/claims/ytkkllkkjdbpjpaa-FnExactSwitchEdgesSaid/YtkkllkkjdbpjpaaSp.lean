/- Maps from pairs of whole numbers to whole numbers, in the small logic; rows of structs of three whole numbers. Conditions: those of each theorem. -/
import Derived.Test.YtkkllkkjdbpjpaaSz
import Derived.Maps.RangeRun
import Derived.MapKept
import Derived.Carry
import Derived.Test.YtkkllkkjdbpjpaaPm
namespace Go.Sx
open Go.RowKit

/-! ### structs of three -/
def fJ (x : Int × Int × Int) : List Value := [.int .i64 x.1, .int .i64 x.2.1, .int .i64 x.2.2]
theorem fJ_len : ∀ x, (fJ x).length = 3 := fun _ => rfl
theorem fJ_one : ∀ x, ∀ u ∈ fJ x, u.oneCell' = true := by intro x u hu; simp [fJ] at hu; rcases hu with rfl | rfl | rfl <;> rfl
theorem get_fJ0 {xs : List (Int × Int × Int)} {k : Nat} (h : k < xs.length) : (cells fJ xs)[k * 3 + 0]? = some (.int .i64 (xs.getD k (0, 0, 0)).1) := cells_get fJ_len (0, 0, 0) h (by omega)
theorem get_fJ1 {xs : List (Int × Int × Int)} {k : Nat} (h : k < xs.length) : (cells fJ xs)[k * 3 + 1]? = some (.int .i64 (xs.getD k (0, 0, 0)).2.1) := cells_get fJ_len (0, 0, 0) h (by omega)
theorem get_fJ2 {xs : List (Int × Int × Int)} {k : Nat} (h : k < xs.length) : (cells fJ xs)[k * 3 + 2]? = some (.int .i64 (xs.getD k (0, 0, 0)).2.2) := cells_get fJ_len (0, 0, 0) h (by omega)
theorem ov_neqE3 {P : Program} {L : List (Nat × Value)} {M : World → Prop} {x y : Operand} {d : Option Nat} {T U : TypeId} {pos : String} {af : Array Edge} {g : Option (Nat × Bool)} {a b c a' b' c' : Int} {T' : TypeId} (hU : eqE P U 3 = true) (hx : ev L x = some (.agg #[.int .i64 a, .int .i64 b, .int .i64 c])) (hy : ev L y = some (.agg #[.int .i64 a', .int .i64 b', .int .i64 c'])) : OpV P L M ⟨d, .binOp .neq U x y T', T, pos, af, g⟩ (.bool (decide (¬(a = a' ∧ b = b' ∧ c = c')))) := fun ac w he _ => by
  have e := run_eqE hU (as_ := [a, b, c]) (bs := [a', b', c']) rfl rfl w
  simp only [List.map_cons, List.map_nil] at e
  have hg : P.eqGuardType P.depth U = false := by simp only [eqE, Bool.and_eq_true, Bool.not_eq_true'] at hU; exact hU.1
  simp only [execOp, he x _ hx, he y _ hy]
  simp [run_neq_struct, e, run_eqGuard_agg (P := P) w .neq U x y _ _ hg]

/-! ### plain maps: a list of pairs with their numbers, in the order in which they came -/
abbrev Jt := Int × Int × Int
def hitI : List Jt → Int → Int → Nat
  | [], _, _ => 0
  | p :: L, a, b => if p.1 = a ∧ p.2.1 = b then 0 else hitI L a b + 1
def valI : List Jt → Int → Int → Int
  | [], _, _ => 0
  | p :: L, a, b => if p.1 = a ∧ p.2.1 = b then p.2.2 else valI L a b
def putI : List Jt → Int → Int → Int → List Jt
  | [], a, b, v => [(a, b, v)]
  | p :: L, a, b, v => if p.1 = a ∧ p.2.1 = b then (a, b, v) :: L else p :: putI L a b v
/-- the pair has a place from here on -/
def addI (L : List Jt) (a b : Int) : List Jt := putI L a b (valI L a b)
theorem hitI_le : ∀ (L : List Jt) (a b : Int), hitI L a b ≤ L.length
  | [], _, _ => Nat.le_refl _
  | p :: L, a, b => by have := hitI_le L a b; unfold hitI; split <;> simp <;> omega
theorem hitI_get : ∀ {L : List Jt} {a b : Int}, hitI L a b < L.length → L[hitI L a b]? = some (a, b, valI L a b)
  | p :: L, a, b, h => by
    unfold hitI valI at *
    split
    · rename_i e
      obtain ⟨e1, e2⟩ := e
      simp [← e1, ← e2]
    · rename_i e
      rw [if_neg e] at h
      simpa using hitI_get (L := L) (by simpa using h)
theorem valI_none : ∀ {L : List Jt} {a b : Int}, hitI L a b = L.length → valI L a b = 0
  | [], _, _, _ => rfl
  | p :: L, a, b, h => by
    unfold hitI at h
    unfold valI
    split
    · rename_i e; rw [if_pos e] at h; simp at h
    · rename_i e; rw [if_neg e] at h; exact valI_none (by simpa using h)
theorem putI_set : ∀ {L : List Jt} {a b : Int} (v : Int), hitI L a b < L.length → putI L a b v = L.set (hitI L a b) (a, b, v)
  | p :: L, a, b, v, h => by
    unfold hitI putI at *
    split
    · rfl
    · rename_i e
      rw [if_neg e] at h
      rw [List.set_cons_succ, putI_set v (by simpa using h)]
theorem putI_push : ∀ {L : List Jt} {a b : Int} (v : Int), hitI L a b = L.length → putI L a b v = L ++ [(a, b, v)]
  | [], _, _, _, _ => rfl
  | p :: L, a, b, v, h => by
    unfold hitI at h
    unfold putI
    split
    · rename_i e; rw [if_pos e] at h; simp at h
    · rename_i e; rw [if_neg e] at h; rw [putI_push v (by simpa using h)]; rfl
theorem addI_hit {L : List Jt} {a b : Int} (h : hitI L a b < L.length) : addI L a b = L := by
  unfold addI
  rw [putI_set _ h]
  apply List.ext_getElem?
  intro i
  rw [List.getElem?_set]
  split
  · rename_i e; subst e; rw [hitI_get h]
  · rfl
theorem addI_new {L : List Jt} {a b : Int} (h : hitI L a b = L.length) : addI L a b = L ++ [(a, b, 0)] := by
  unfold addI; rw [putI_push _ h, valI_none h]
theorem addI_put (L : List Jt) (a b v : Int) : (addI L a b).set (hitI L a b) (a, b, v) = putI L a b v := by
  rcases Nat.lt_or_ge (hitI L a b) L.length with h | h
  · rw [addI_hit h, putI_set v h]
  · have h := Nat.le_antisymm (hitI_le L a b) h
    rw [addI_new h, putI_push v h, h]
    apply List.ext_getElem?
    intro i
    rw [List.getElem?_set]
    split
    · rename_i e; subst e; simp
    · rename_i e
      simp only [List.getElem?_append]
      split
      · rfl
      · have : i - L.length ≠ 0 := by omega
        rw [List.getElem?_eq_none (by simp; omega), List.getElem?_eq_none (by simp; omega)]
theorem addI_len (L : List Jt) (a b : Int) : hitI L a b < (addI L a b).length := by
  rcases Nat.lt_or_ge (hitI L a b) L.length with h | h
  · rw [addI_hit h]; exact h
  · have h := Nat.le_antisymm (hitI_le L a b) h
    rw [addI_new h, h]; simp
theorem valI_add (L : List Jt) (a b : Int) : valI (addI L a b) a b = valI L a b := by
  have key : ∀ (L : List Jt) (v : Int), valI (putI L a b v) a b = v := by
    intro L v
    induction L with
    | nil => simp [putI, valI]
    | cons p L ih =>
      unfold putI
      split
      · simp [valI]
      · rename_i e; simp only [valI, if_neg e]; exact ih
  exact key _ _

/-! ### the pieces -/
def entI (i : Nat) (p : Jt) : MapEntry := { key := .agg #[.int .i64 p.1, .int .i64 p.2.1], val := .int .i64 p.2.2, born := i }
def entsI (L : List Jt) : Array MapEntry := (L.mapIdx entI).toArray
theorem entsI_size (L : List Jt) : (entsI L).size = L.length := by simp [entsI]
theorem entsI_get (L : List Jt) (i : Nat) : (entsI L)[i]? = L[i]?.map (entI i) := by simp [entsI]
def mapE (b : Nat) (L : List Jt) : Ent := ⟨fun k => k = b, fun w => w.heap[b]? = some (.map (entsI L) L.length), fun _ _ h1 h2 => (h1 b rfl).trans h2⟩
def iterE (r b n : Nat) (S : List Nat) : Ent := ⟨fun k => k = r, fun w => w.heap[r]? = some (.mapIter (some b) n S.toArray n), fun _ _ h1 h2 => (h1 r rfl).trans h2⟩

section
variable {P : Program} {K : TypeId}
theorem struct_of_eqE (h : eqE P K 2 = true) : ∃ f0 f1, P.underlying K = some (.struct #[f0, f1]) ∧ f0.name ≠ "_" ∧ f1.name ≠ "_" ∧ f0.offset = 0 ∧ f1.offset = 1 ∧ P.plainKey f0.type = true ∧ P.plainKey f1.type = true
    ∧ (∃ k, P.underlying f0.type = some (.int k)) ∧ (∃ k, P.underlying f1.type = some (.int k)) := by
  simp only [eqE, Bool.and_eq_true, beq_iff_eq] at h
  obtain ⟨_, ⟨⟨h1, h2⟩, h3⟩, h4⟩ := h
  have ht : P.underlying K = some (.struct (P.fieldsOf K)) := by
    unfold Program.fieldsOf
    split at h1
    · rename_i e; simp [e]
    · simp at h1
  obtain ⟨f0, f1, hf⟩ : ∃ f0 f1, (P.fieldsOf K).toList = [f0, f1] := by
    rcases hl : (P.fieldsOf K).toList with _ | ⟨f0, _ | ⟨f1, _ | ⟨f2, r⟩⟩⟩ <;> simp [hl] at h3
    exact ⟨f0, f1, rfl⟩
  rw [hf] at h4
  simp only [List.zipIdx_cons, List.zipIdx_nil, List.all_cons, List.all_nil, Bool.and_eq_true, decide_eq_true_eq, beq_iff_eq, and_true, Nat.zero_add] at h4
  obtain ⟨⟨⟨n0, o0⟩, t0⟩, ⟨⟨n1, o1⟩, t1⟩⟩ := h4
  have ex : ∀ f : Field, (match P.underlying f.type with | some (.int _) => true | _ => false) = true → ∃ k, P.underlying f.type = some (.int k) := by
    intro f hf
    split at hf
    · rename_i kd e; exact ⟨kd, e⟩
    · simp at hf
  obtain ⟨k0, u0⟩ := ex f0 t0
  obtain ⟨k1, u1⟩ := ex f1 t1
  have hfe : P.fieldsOf K = #[f0, f1] := by apply Array.ext'; simpa using hf
  rw [hfe] at ht
  exact ⟨f0, f1, ht, n0, n1, o0, o1, by simp [Program.plainKey, u0], by simp [Program.plainKey, u1], ⟨k0, u0⟩, ⟨k1, u1⟩⟩
theorem run_checkI (h : eqE P K 2 = true) (em : Bool) (a b : Int) (w : World) : (Instr.checkKey em 10000 K (.agg #[.int .i64 a, .int .i64 b])).run P w = .ok () w := by
  obtain ⟨f0, f1, ht, n0, n1, o0, o1, p0, p1, ⟨k0, u0⟩, ⟨k1, u1⟩⟩ := struct_of_eqE h
  have q0 := run_part_plain (P := P) (w := w) p0 (xs := #[.int .i64 a, .int .i64 b]) (off := f0.offset) (v := .int .i64 a) (by rw [o0]; rfl)
  have q1 := run_part_plain (P := P) (w := w) p1 (xs := #[.int .i64 a, .int .i64 b]) (off := f1.offset) (v := .int .i64 b) (by rw [o1]; rfl)
  have c : ∀ (f : Field) (k : IntKind) (x : Int), P.underlying f.type = some (.int k) → (Instr.checkKey em 9999 f.type (.int .i64 x)).run P w = .ok () w := by
    intro f k x hu
    rw [show (9999 : Nat) = 9998 + 1 from rfl, Instr.checkKey]
    simp [run_underlying hu]
  rw [show (10000 : Nat) = 9999 + 1 from rfl, Instr.checkKey]
  simp only [Sem.run_bind, run_underlying ht, Result.andThen_ok]
  simp [n0, n1, q0, q1, c f0 k0 a u0, c f1 k1 b u1]
theorem run_equalI (h : eqE P K 2 = true) (a b a' b' : Int) (w : World) : (Op.equal K (.agg #[.int .i64 a, .int .i64 b]) (.agg #[.int .i64 a', .int .i64 b'])).run P w = .ok (decide (a' = a ∧ b' = b)) w := by
  have e := run_eqE h (as_ := [a, b]) (bs := [a', b']) rfl rfl w
  simp only [List.map_cons, List.map_nil] at e
  have e2 : decide ([a, b] = [a', b']) = decide (a' = a ∧ b' = b) := by
    rw [decide_eq_decide]; simp [eq_comm]
  rw [e2] at e
  exact e
theorem run_askI (h : eqE P K 2 = true) (a b : Int) (w : World) : ∀ (L : List Jt) (o i : Nat), (Instr.findAsking K (.agg #[.int .i64 a, .int .i64 b]) (L.mapIdx fun j p => entI (o + j) p) i).run P w = .ok (if hitI L a b < L.length then some (i + hitI L a b, .int .i64 (valI L a b)) else none) w
  | [], o, i => by simp [Instr.findAsking]
  | p :: L, o, i => by
    have ih := run_askI h a b w L (o + 1) (i + 1)
    have e1 : ((p :: L).mapIdx fun j p => entI (o + j) p) = entI o p :: (L.mapIdx fun j p => entI (o + 1 + j) p) := by
      rw [List.mapIdx_cons]
      simp only [Nat.add_zero]
      congr 1
      apply List.ext_getElem?
      intro j
      simp [Nat.add_assoc, Nat.add_comm 1 j]
    rw [e1]
    have e2 := run_equalI h a b p.1 p.2.1 w
    simp only [Instr.findAsking, Sem.run_bind, entI, e2, Result.andThen_ok]
    unfold hitI valI
    by_cases hp : p.1 = a ∧ p.2.1 = b
    · simp [hp]
    · simp only [hp, if_false, decide_false]
      simp only [Bool.false_eq_true, if_false, List.length_cons, Nat.add_lt_add_iff_right]
      have e3 : (fun j p => entI (o + 1 + j) p) = fun (j : Nat) (p : Jt) => ({ key := Value.agg #[Value.int IntKind.i64 p.1, Value.int IntKind.i64 p.2.1], val := Value.int IntKind.i64 p.2.2, born := o + 1 + j } : MapEntry) := rfl
      rw [e3] at ih
      rw [ih]
      by_cases hl : hitI L a b < L.length
      · rw [if_pos hl, if_pos hl, Nat.add_assoc, Nat.add_comm 1]
      · rw [if_neg hl, if_neg hl]
theorem run_findI (h : eqE P K 2 = true) (L : List Jt) (a b : Int) (w : World) : (Instr.findKey K (.agg #[.int .i64 a, .int .i64 b]) (entsI L).toList).run P w = .ok (if hitI L a b < L.length then some (hitI L a b, .int .i64 (valI L a b)) else none) w := by
  obtain ⟨f0, f1, ht, _⟩ := struct_of_eqE h
  unfold Instr.findKey
  simp only [Sem.run_bind, run_underlying ht, Result.andThen_ok]
  rcases L with _ | ⟨p, L⟩
  · simp [entsI, Instr.findNow]
  · have e : Instr.findNow (.struct #[f0, f1]) (.agg #[.int .i64 a, .int .i64 b]) (entsI (p :: L)).toList 0 = none := by
      simp [entsI, Instr.findNow, Instr.sameNow]
    rw [e]
    have := run_askI h a b w (p :: L) 0 0
    simpa [entsI] using this
end

/-! ### the operations -/
section
variable {P : Program} {w0 : World} {B : Nat} {L : List (Nat × Value)} {H H' : List Ent} {x y z : Operand} {d : Option Nat} {T U K V : TypeId} {pos : String} {af : Array Edge} {g : Option (Nat × Bool)}
theorem or_makeMap : OpR P L (SS w0 B H) ⟨d, .makeMap U none, T, pos, af, g⟩ (fun v w' => ∃ b, v = .map (some b) ∧ SS w0 B (mapE b [] :: H) w') :=
  OpR.of_run fun a w _ hM => by
    refine ⟨_, w.alloc (.map #[] 0), ?_, w.heap.size, rfl, hM.fresh ((Below.refl _ _).alloc (Nat.le_refl _) _) (heap_alloc_new w _) fun k hk => by have : k = w.heap.size := hk; subst this; simp⟩
    simp only [execOp]
    simp [run_makeMap]
theorem mapE_at {b : Nat} {M : List Jt} (hp : mapE b M ∈ H) {w : World} (hs : SS w0 B H w) : w.heap[b]? = some (.map (entsI M) M.length) := hs.hp.mem _ hp
theorem ov_lookup {b : Nat} {M : List Jt} {k1 k2 : Int} (hU : P.underlying U = some (.map K V)) (hK : eqE P K 2 = true) {ag : Bool} {sz by_ : Nat} (hV : tyI P V = some (ag, sz, by_, .int .i64 0)) (hp : mapE b M ∈ H) (hx : ev L x = some (.map (some b))) (hy : ev L y = some (.agg #[.int .i64 k1, .int .i64 k2])) :
    OpV P L (SS w0 B H) ⟨d, .lookup U x y false, T, pos, af, g⟩ (.int .i64 (valI M k1 k2)) := fun a w he hM => by
  have hb := mapE_at hp hM
  have h1 := run_findI hK M k1 k2 w
  simp only [execOp, he x _ hx, he y _ hy]
  simp only [Instr.lookup, Sem.run_bind, run_underlying hU, MapKept.run_getObj_map hb, Result.andThen_ok, Sem.run_pure, run_checkI hK, h1]
  by_cases hh : hitI M k1 k2 < M.length
  · simp [hh]
  · have := valI_none (Nat.le_antisymm (hitI_le M k1 k2) (by omega))
    simp [hh, run_zeroValue hV, this]
theorem ov_lookupA {b : Nat} {M : List Jt} {k1 k2 : Int} (hU : P.underlying U = some (.map K V)) (hK : eqE P K 2 = true) {ag : Bool} {sz by_ : Nat} (hV : tyI P V = some (ag, sz, by_, .int .i64 0)) (hp : mapE b (addI M k1 k2) ∈ H) (hx : ev L x = some (.map (some b))) (hy : ev L y = some (.agg #[.int .i64 k1, .int .i64 k2])) :
    OpV P L (SS w0 B H) ⟨d, .lookup U x y false, T, pos, af, g⟩ (.int .i64 (valI M k1 k2)) := by
  have h := ov_lookup (w0 := w0) (B := B) (d := d) (T := T) (pos := pos) (af := af) (g := g) hU hK hV hp hx hy
  rw [valI_add] at h
  exact h
theorem setM {w : World} {b : Nat} {es : Array MapEntry} {c : Nat} (hb : w.heap[b]? = some (.map es c)) (o : Obj) : ({ w with heap := w.heap.setIfInBounds b o } : World).heap[b]? = some o := by
  have hlt : b < w.heap.size := by
    rcases Nat.lt_or_ge b w.heap.size with h | h
    · exact h
    · simp [Array.getElem?_eq_none h] at hb
  show (w.heap.setIfInBounds b o)[b]? = some o
  rw [Array.getElem?_setIfInBounds]
  simp [hlt]
theorem ss_setM {b : Nat} {M M' : List Jt} {w : World} (hs : SS w0 B (mapE b M :: H') w) : SS w0 B (mapE b M' :: H') { w with heap := w.heap.setIfInBounds b (.map (entsI M') M'.length) } :=
  hs.upd rfl rfl rfl (by simp) (fun k _ hk => by
      show (w.heap.setIfInBounds b _)[k]? = w.heap[k]?
      rw [Array.getElem?_setIfInBounds, if_neg (fun e => hk e.symm)]) (setM hs.hp.1 _) fun k hk => ⟨.inl hk, by
      have : k = b := hk
      subst this
      show k < (w.heap.setIfInBounds k _).size
      simpa using (hs.hp.2.1 k rfl).2⟩
theorem or_mapEntry {b : Nat} {M : List Jt} {k1 k2 : Int} (hU : P.underlying U = some (.map K V)) (hK : eqE P K 2 = true) {ag : Bool} {sz by_ : Nat} (hV : tyI P V = some (ag, sz, by_, .int .i64 0)) (hp : Pick (mapE b M) H H') (hx : ev L x = some (.map (some b))) (hy : ev L y = some (.agg #[.int .i64 k1, .int .i64 k2])) :
    OpR P L (SS w0 B H) ⟨d, .mapEntry U x y, T, pos, af, g⟩ (fun v w' => v = .tuple #[.int .i64 (valI M k1 k2), .int .i64 ((hitI M k1 k2 : Nat) : Int)] ∧ SS w0 B (mapE b (addI M k1 k2) :: H') w') :=
  OpR.of_run fun a w he hM => by
    have hs := hp.ss hM
    have hb : w.heap[b]? = some (.map (entsI M) M.length) := hs.hp.1
    have h1 := run_findI hK M k1 k2 w
    refine ⟨_, { w with heap := w.heap.setIfInBounds b (.map (entsI (addI M k1 k2)) (addI M k1 k2).length) }, ?_, rfl, ss_setM hs⟩
    simp only [execOp, he x _ hx, he y _ hy]
    simp only [Instr.mapEntry, Sem.run_bind, run_underlying hU, MapKept.run_getObj_map hb, Result.andThen_ok, run_checkI hK, h1]
    by_cases hh : hitI M k1 k2 < M.length
    · have hg : (entsI M)[hitI M k1 k2]? = some (entI (hitI M k1 k2) (k1, k2, valI M k1 k2)) := by rw [entsI_get, hitI_get hh]; rfl
      have hk : (Instr.keyThatStays (.agg #[.int .i64 k1, .int .i64 k2]) (.agg #[.int .i64 k1, .int .i64 k2])).run P w = .ok (.agg #[.int .i64 k1, .int .i64 k2]) w := by
        have : Instr.sameBits 10000 (.agg #[.int .i64 k1, .int .i64 k2]) (.agg #[.int .i64 k1, .int .i64 k2]) = true := by
          rw [show (10000 : Nat) = 9998 + 1 + 1 from rfl]
          simp [Instr.sameBits]
        simp [Instr.keyThatStays, this]
      have hm : ((entsI M).modify (hitI M k1 k2) fun e => { e with key := Value.agg #[.int .i64 k1, .int .i64 k2] }) = entsI (addI M k1 k2) := by
        rw [addI_hit hh]
        apply Array.ext_getElem?
        intro i
        rw [Array.getElem?_modify]
        split
        · rename_i e; subst e; rw [hg]; rfl
        · rfl
      rw [if_pos hh]
      simp only [hg, Option.map_some, Option.getD_some, entI, Sem.run_bind, hk, Result.andThen_ok, hm, MapKept.run_setObj_map _ hb, Sem.run_pure, goInt]
      rw [addI_hit hh]
    · have hn := Nat.le_antisymm (hitI_le M k1 k2) (by omega)
      have hm : (entsI M).push { key := .agg #[.int .i64 k1, .int .i64 k2], val := .int .i64 0, born := M.length } = entsI (addI M k1 k2) := by
        rw [addI_new hn]
        unfold entsI
        simp [entI, List.mapIdx_append]
      rw [if_neg hh]
      simp only [Sem.run_bind, run_zeroValue hV, Result.andThen_ok, hm, MapKept.run_setObj_map _ hb, Sem.run_pure, goInt]
      have hl : (addI M k1 k2).length = M.length + 1 := by rw [addI_new hn]; simp
      rw [hl, valI_none hn, hn]
theorem or_entryStore {b : Nat} {M : List Jt} {k1 k2 v : Int} (hp : Pick (mapE b (addI M k1 k2)) H H') (hx : ev L x = some (.map (some b))) (hy : ev L y = some (.int .i64 ((hitI M k1 k2 : Nat) : Int))) (hz : ev L z = some (.int .i64 v)) :
    OpR P L (SS w0 B H) ⟨d, .entryStore U x y z, T, pos, af, g⟩ (fun u w' => u = undef ∧ SS w0 B (mapE b (putI M k1 k2 v) :: H') w') :=
  OpR.of_skip fun a w he hM => by
    have hs := hp.ss hM
    have hb : w.heap[b]? = some (.map (entsI (addI M k1 k2)) (addI M k1 k2).length) := hs.hp.1
    refine ⟨{ w with heap := w.heap.setIfInBounds b (.map (entsI (putI M k1 k2 v)) (putI M k1 k2 v).length) }, ?_, rfl, ss_setM hs⟩
    have hlt := addI_len M k1 k2
    have hf : (entsI (addI M k1 k2)).findIdx? (fun e => (e.born : Int) == ((hitI M k1 k2 : Nat) : Int)) = some (hitI M k1 k2) := by
      rw [Array.findIdx?_eq_some_iff_getElem]
      refine ⟨by rw [entsI_size]; exact hlt, ?_, fun j hj => ?_⟩
      · simp [entsI, entI]
      · simp [entsI, entI]; omega
    have hm : ((entsI (addI M k1 k2)).modify (hitI M k1 k2) fun e => { e with val := Value.int .i64 v }) = entsI (putI M k1 k2 v) := by
      rw [← addI_put]
      apply Array.ext_getElem?
      intro i
      have hkey : (addI M k1 k2)[hitI M k1 k2]? = some (k1, k2, valI M k1 k2) := by
        rcases Nat.lt_or_ge (hitI M k1 k2) M.length with h | h
        · rw [addI_hit h, hitI_get h]
        · have h := Nat.le_antisymm (hitI_le M k1 k2) h
          rw [addI_new h, valI_none h, h]; simp
      rw [Array.getElem?_modify, entsI_get, entsI_get, List.getElem?_set]
      split
      · rename_i e; subst e; rw [hkey]; rfl
      · rfl
    have hl : (putI M k1 k2 v).length = (addI M k1 k2).length := by rw [← addI_put, List.length_set]
    simp only [execOp, he x _ hx, he y _ hy, he z _ hz]
    simp only [Instr.entryStore, Sem.run_bind, MapKept.run_getObj_map hb, Result.andThen_ok, asInt, asIntOf, Sem.run_pure, hf, hm, MapKept.run_setObj_map _ hb, hl]
theorem or_range {b : Nat} {M : List Jt} (hU : P.underlying U = some (.map K V)) (hp : mapE b M ∈ H) (hx : ev L x = some (.map (some b))) :
    OpR P L (SS w0 B H) ⟨d, .range U x, T, pos, af, g⟩ (fun v w' => ∃ r, v = .pointer (some ⟨r, 0, none⟩) ∧ SS w0 B (iterE r b M.length [] :: H) w') :=
  OpR.of_run fun a w he hM => by
    have hb := mapE_at hp hM
    refine ⟨_, w.alloc (.mapIter (some b) M.length #[] M.length), ?_, w.heap.size, rfl, hM.fresh ((Below.refl _ _).alloc (Nat.le_refl _) _) (heap_alloc_new w _) fun k hk => by have : k = w.heap.size := hk; subst this; simp⟩
    simp only [execOp, he x _ hx]
    simp [run_range_map w U K V b _ _ hU hb]
/-- what the iterator hands out: an entry that it has not handed out, if there is one -/
def nxI (M : List Jt) (S : List Nat) (i : Nat) : Value := if S.length < M.length then .tuple #[.bool true, .agg #[.int .i64 (M.getD i (0, 0, 0)).1, .int .i64 (M.getD i (0, 0, 0)).2.1], .int .i64 (M.getD i (0, 0, 0)).2.2] else .tuple #[.bool false]
def nxS (M : List Jt) (S : List Nat) (i : Nat) : List Nat := if S.length < M.length then S ++ [i] else S
/-- the places that the iterator has handed out -/
structure Seen (M : List Jt) (S : List Nat) : Prop where
  nodup : S.Nodup
  lt : ∀ i ∈ S, i < M.length
theorem Seen.nil (M : List Jt) : Seen M [] := ⟨List.nodup_nil, fun _ h => by cases h⟩
theorem Seen.le {M : List Jt} {S : List Nat} (h : Seen M S) : S.length ≤ M.length := by
  have := Go.Plain.nodup_len h.nodup (b := List.range M.length) fun i hi => List.mem_range.2 (h.lt i hi)
  simpa using this
theorem Seen.all {M : List Jt} {S : List Nat} (h : Seen M S) (hl : M.length ≤ S.length) : S.Perm (List.range M.length) :=
  Go.Plain.nodup_perm h.nodup List.nodup_range fun x => ⟨fun hx => List.mem_range.2 (h.lt x hx), fun hx => Go.Plain.nodup_full h.nodup (fun i hi => List.mem_range.2 (h.lt i hi)) (by simpa using hl) x hx⟩
theorem Seen.snoc {M : List Jt} {S : List Nat} (h : Seen M S) {i : Nat} (hi : i < M.length ∧ i ∉ S) : Seen M (S ++ [i]) :=
  ⟨by rw [List.nodup_append]; exact ⟨h.nodup, by simp, fun a ha b hb => by rw [List.mem_singleton] at hb; subst hb; intro e; subst e; exact hi.2 ha⟩,
   fun j hj => by
    rcases List.mem_append.1 hj with h1 | h1
    · exact h.lt j h1
    · rw [List.mem_singleton] at h1; subst h1; exact hi.1⟩
theorem mem_leftI {M : List Jt} {S : List Nat} {e : MapEntry} (h : e ∈ (leftOf (entsI M) S.toArray).toList) : ∃ i, i < M.length ∧ i ∉ S ∧ e = entI i (M.getD i (0, 0, 0)) := by
  simp only [leftOf, Array.toList_filter, List.mem_filter, entsI, List.mem_mapIdx] at h
  obtain ⟨⟨i, hi, rfl⟩, hn⟩ := h
  refine ⟨i, hi, ?_, by rw [List.getD_eq_getElem?_getD, List.getElem?_eq_getElem hi]; rfl⟩
  simpa [entI] using hn
theorem left_none {M : List Jt} {S : List Nat} (h : (leftOf (entsI M) S.toArray).size = 0) : ∀ i, i < M.length → i ∈ S := by
  intro i hi
  have he : leftOf (entsI M) S.toArray = #[] := Array.eq_empty_of_size_eq_zero h
  unfold leftOf at he
  rw [Array.filter_eq_empty_iff] at he
  have hm : entI i M[i] ∈ entsI M := by
    simp only [entsI, List.mem_toArray, List.mem_mapIdx]
    exact ⟨i, hi, rfl⟩
  have := he _ hm
  simpa [entI] using this
theorem or_next {b r : Nat} {M : List Jt} {S : List Nat} (hS : Seen M S) (hp : Pick (iterE r b M.length S) H H') (hm : mapE b M ∈ H') (hx : ev L x = some (.pointer (some ⟨r, 0, none⟩))) :
    OpR P L (SS w0 B H) ⟨d, .next x false, T, pos, af, g⟩ (fun v w' => ∃ i, (S.length < M.length → i < M.length ∧ i ∉ S) ∧ v = nxI M S i ∧ SS w0 B (iterE r b M.length (nxS M S i) :: H') w') :=
  OpR.of_run fun a w he hM => by
    have hs := hp.ss hM
    have hr : w.heap[r]? = some (.mapIter (some b) M.length S.toArray M.length) := hs.hp.1
    have hb : w.heap[b]? = some (.map (entsI M) M.length) := hs.hp.mem _ (List.mem_cons_of_mem _ hm)
    have hold : ∀ e ∈ (entsI M).toList, e.born < M.length := by
      intro e he
      simp only [entsI, List.mem_mapIdx] at he
      obtain ⟨i, hi, rfl⟩ := he
      exact hi
    rcases run_next_at (P := P) w T r b M.length M.length S.toArray (entsI M) M.length hr hb hold (Nat.le_refl _) with ⟨h1, h2⟩ | ⟨e, h1, w1, h2, h3⟩
    · have hall := left_none h1
      have hlen : ¬ S.length < M.length := by
        intro hlt
        have := Go.Plain.nodup_len (a := List.range M.length) (b := S) List.nodup_range fun i hi => hall i (List.mem_range.1 hi)
        simp at this
        omega
      refine ⟨.tuple #[.bool false], w, ?_, 0, fun h => absurd h hlen, by unfold nxI; rw [if_neg hlen], by unfold nxS; rw [if_neg hlen]; exact hs⟩
      simp only [execOp, he x _ hx]
      simp [h2]
    · obtain ⟨i, hi, hni, rfl⟩ := mem_leftI h1
      have hlen : S.length < M.length := by
        rcases Nat.lt_or_ge S.length M.length with h | h
        · exact h
        · exact absurd ((hS.all h).mem_iff.2 (List.mem_range.2 hi)) hni
      have hs1 : SS w0 B (iterE r b M.length S :: H') w1 := by
        rcases h2 with rfl | rfl
        · exact hs
        · exact hs.draw
      refine ⟨_, ChangeMaps.setBlock w1 r (.mapIter (some b) M.length (S.toArray.push i) M.length), ?_, i, fun _ => ⟨hi, hni⟩, by unfold nxI; rw [if_pos hlen], ?_⟩
      · simp only [execOp, he x _ hx]
        simp only [Sem.run_bind, h3, Result.andThen_ok, Sem.run_pure, entI]
      · unfold nxS
        rw [if_pos hlen]
        have hlt : r < w1.heap.size := (hs1.hp.2.1 r rfl).2
        refine hs1.upd rfl rfl rfl (by simp [ChangeMaps.setBlock]) (fun k _ hk => ?_) ?_ fun k hk => ⟨.inl hk, ?_⟩
        · show (w1.heap.setIfInBounds r _)[k]? = w1.heap[k]?
          rw [Array.getElem?_setIfInBounds, if_neg (fun e => hk e.symm)]
        · show (w1.heap.setIfInBounds r _)[r]? = _
          rw [Array.getElem?_setIfInBounds]
          simp [hlt]
        · have : k = r := hk
          subst this
          show k < (w1.heap.setIfInBounds k _).size
          simpa using hlt
theorem ov_entry {b r i : Nat} {M : List Jt} {S : List Nat} (hi : i < M.length) (hr : iterE r b M.length (S ++ [i]) ∈ H) (hm : mapE b M ∈ H) (hx : ev L x = some (.pointer (some ⟨r, 0, none⟩))) :
    OpV P L (SS w0 B H) ⟨d, .entry x, T, pos, af, g⟩ (.tuple #[.agg #[.int .i64 (M.getD i (0, 0, 0)).1, .int .i64 (M.getD i (0, 0, 0)).2.1], .int .i64 (M.getD i (0, 0, 0)).2.2]) := fun a w he hM => by
  have hr' : w.heap[r]? = some (.mapIter (some b) M.length (S.toArray.push (entI i (M.getD i (0, 0, 0))).born) M.length) := by
    have := hM.hp.mem _ hr
    simpa [iterE, entI] using this
  have hb := mapE_at hm hM
  have hmem : entI i (M.getD i (0, 0, 0)) ∈ (entsI M).toList := by
    simp only [entsI, List.mem_mapIdx]
    exact ⟨i, hi, by rw [List.getD_eq_getElem?_getD, List.getElem?_eq_getElem hi]; rfl⟩
  have hnd : ((entsI M).toList.map (·.born)).Nodup := by
    have : (entsI M).toList.map (·.born) = List.range M.length := by
      apply List.ext_getElem
      · simp [entsI]
      · intro j h1 h2
        simp [entsI, entI]
    rw [this]
    exact List.nodup_range
  have h1 := run_entry_at (P := P) w r b M.length S.toArray (entsI M) M.length _ hr' hb hmem hnd
  simp only [execOp, he x _ hx]
  simp only [Sem.run_bind, h1, Result.andThen_ok, Sem.run_pure]
  rfl
end
end Go.Sx
