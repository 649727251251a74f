/- A range over a function, in the small logic: code in a round of such a loop, the loop's record, the marks among the deferred calls, an iterator that goes through a slice from its end. Conditions: those of each theorem. -/
import Derived.Test.YtkkllkkjdbpjpaaSs
import Derived.Laws.IdiomStrings
import Derived.RangeFuncIn
import Derived.RangeFuncRecord
import Derived.RangeFuncLeaves
import Derived.RangeFuncCalls
import Derived.OrdersIn
import Derived.TacticsIn
namespace Go.Sx
open Go.RowKit
variable {ds : List Deferred}

/-! ### code in a round -/
/-- no fence but the round's frame -/
abbrev FW (ro : Option Nat) : Fence := { Fence.wide with round := ro }
/-- a post that never lets a way out of memory pass -/
def NL (Q : Exit → Act → World → Prop) : Prop := ∀ a w, ¬ Q .outgrown a w
def noDef (l : List Oper) : Bool := l.all fun o => match o.op with | .defer _ => false | _ => true
theorem noDef_spec {l : List Oper} (h : noDef l = true) : ∀ o ∈ l, ∀ c, o.op ≠ .defer c := by
  intro o ho c e
  have := List.all_eq_true.1 h o ho
  rw [e] at this
  cases this
section
variable {P : Program} {ops : Array Oper} {Q : Exit → Act → World → Prop} {K : Act → World → Prop} {a : Act} {w : World} {o : Oper} {ro : Option Nat}
theorem calls_fw {f : FuncId} {args : Array Value} {R : Ending → World → Prop} (h : Calls P f args w R) : CallsIn (FW ro) 0 P f args w R := by
  have h1 : CallsIn Fence.wide 0 P f args w R := callsIn_wide.2 h
  cases ro with
  | none => exact h1
  | some l => exact h1.inRound l
theorem rows_fw {row : String} {args : Array Value} {R : Value → World → Prop} (h : Rows P row args w R) : RowsIn (FW ro) 0 P row args w R := fun c cs _ => by
  obtain ⟨v, w', hr, hs⟩ := h c cs
  exact ⟨v, w', hr, stepsIn_wide.2 hs⟩
theorem op_in (hd : ∀ c, o.op ≠ .defer c) (nl : NL Q) (h : o.wp P a w K Q ∨ (o.asks P a w ∧ LetsOut Q)) : o.wpIn (FW ro) 0 P a w K Q := by
  rcases h with h | ⟨_, a', w', h⟩
  · refine ⟨fun _ _ => trivial, ?_⟩
    rw [Oper.semAt_eq _ _ _ hd]
    unfold Oper.wp at h
    cases hr : (execOp a.eval o).run P w with
    | ok nx w' =>
      rw [hr] at h
      cases nx with
      | value v => exact h
      | skip => exact h
      | defer d => exact h
      | enter f args => exact ⟨fun e => by simp [Fence.wide] at e, calls_fw h⟩
      | row r args => exact ⟨fun e => by simp [Fence.wide] at e, rows_fw h⟩
      | _ => exact h.elim
    | halt x w' =>
      rw [hr] at h
      cases x with
      | panic v => exact h
      | _ => exact h.elim
  · exact (nl a' w' h).elim
theorem op_in_mono {K' : Act → World → Prop} (hd : ∀ c, o.op ≠ .defer c) (nl : NL Q) (hk : ∀ a w, K a w → K' a w) (h : o.wp P a w K Q ∨ (o.asks P a w ∧ LetsOut Q)) : o.wpIn (FW ro) 0 P a w K' Q :=
  Oper.wpIn_mono hk (op_in hd nl h)
theorem list_in {rest : List Oper} (nl : NL Q) : ∀ (l : List Oper) (a : Act) (w : World), (∀ o ∈ l, ∀ c, o.op ≠ .defer c) → wpList P ops (Exit.then (wpListIn (FW ro) 0 P ops Q rest) Q) l a w → wpListIn (FW ro) 0 P ops Q (l ++ rest) a w
  | [], a, w, _, h => h
  | o :: l, a, w, hd, h => by
    have ih := list_in (rest := rest) nl l
    unfold wpList at h
    show wpListIn (FW ro) 0 P ops Q (o :: (l ++ rest)) a w
    unfold wpListIn
    split
    · rename_i hw
      rw [if_pos hw] at h
      have h2 : o.wp P a w (wpList P ops (Exit.then (wpListIn (FW ro) 0 P ops Q rest) Q) l) (Exit.then (wpListIn (FW ro) 0 P ops Q rest) Q) := by
        rcases h with h | ⟨_, a', w', h⟩
        · exact h
        · exact (nl a' w' h).elim
      have h3 := op_in (ro := ro) (hd o (List.mem_cons_self ..)) (Q := Exit.then (wpListIn (FW ro) 0 P ops Q rest) Q) (fun a' w' h' => nl a' w' h') (.inl h2)
      have h4 := Oper.wpIn_mono (K' := wpListIn (FW ro) 0 P ops Q (l ++ rest)) (fun a' w' h' => ih a' w' (fun o' ho' => hd o' (List.mem_cons_of_mem _ ho')) h') h3
      refine ⟨h4.1, ?_⟩
      have h5 := h4.2
      revert h5
      generalize (o.semAt (FW ro).round a.eval).run P w = r
      intro h5
      cases r with
      | ok nx w' => cases nx <;> exact h5
      | halt x w' => cases x <;> exact h5
    · rename_i hw
      rw [if_neg hw] at h
      exact ⟨fun _ _ => trivial, ih _ _ (fun o' ho' => hd o' (List.mem_cons_of_mem _ ho')) h⟩
theorem any_in {md : Region.Mode} (nl : NL Q) (hd : ∀ o ∈ ops.toList, ∀ c, o.op ≠ .defer c) : ∀ (fuel : Nat) (listed : Array Bool) (a : Act) (w : World), wpAny P md ops Q fuel listed a w → wpAnyIn (FW ro) 0 P md ops Q fuel listed a w
  | 0, _, _, _, h => h
  | fuel + 1, listed, a, w, h => ⟨h.1, fun i hi => by
      have h2 := h.2 i hi
      unfold wpOp at h2
      unfold wpOpIn
      split
      · rename_i ho
        rw [ho] at h2
        exact any_in nl hd fuel _ _ _ h2
      · rename_i o ho
        rw [ho] at h2
        have hmem : o ∈ ops.toList := by
          have := Array.getElem?_eq_some_iff.1 ho
          obtain ⟨h3, h4⟩ := this
          rw [← h4]; simp
        split
        · rename_i hw
          simp only [hw, if_true] at h2
          exact op_in_mono (hd o hmem) nl (fun a' w' h' => any_in nl hd fuel _ _ _ h') h2
        · rename_i hw
          simp only [hw] at h2
          exact ⟨fun _ _ => trivial, any_in nl hd fuel _ _ _ h2⟩⟩
end

abbrev CWI (ro : Option Nat) (P : Program) (c : Code) (Q : Exit → Act → World → Prop) (S : Act → World → Prop) : Prop := CT S (c.wpIn (FW ro) 0 P Q)
section
variable {P : Program} {Q : Exit → Act → World → Prop} {S : Act → World → Prop} {K : Act → World → Prop} {ro : Option Nat}
theorem cwi_seq {x y : Code} (h : CWI ro P x (Exit.then (y.wpIn (FW ro) 0 P Q) Q) S) : CWI ro P (.seq x y) Q S := fun a w hs => wpIn_seq (h a w hs)
theorem cwi_block {id : Nat} {c : Code} (h : CWI ro P c (Exit.inBlock id Q) S) : CWI ro P (.block id c) Q S := fun a w hs => wpIn_block (h a w hs)
theorem cwi_skip (h : CE Q .normal S) : CWI ro P .skip Q S := fun a w hs => wpIn_skip (h a w hs)
theorem cwi_exit {id : Nat} (h : CE Q (.exit id) S) : CWI ro P (.exit id) Q S := fun a w hs => wpIn_exit (h a w hs)
theorem cwi_ret (h : CE Q .ret S) : CWI ro P .ret Q S := fun a w hs => wpIn_ret (h a w hs)
theorem cei_then {y : Code} (h : CWI ro P y Q S) : CE (Exit.then (y.wpIn (FW ro) 0 P Q) Q) .normal S := h
theorem wli_of {ops : Array Oper} {l : List Oper} (nl : NL Q) (hd : noDef l = true) (h : WL P ops Q S l) : CT S (wpListIn (FW ro) 0 P ops Q l) := fun a w hs => by
  have h1 := list_in (ro := ro) (P := P) (ops := ops) (rest := []) nl l a w (noDef_spec hd) ?_
  · rwa [List.append_nil] at h1
  · have e : Exit.then (wpListIn (FW ro) 0 P ops Q []) Q = Q := by
      funext e' a' w'
      cases e' <;> rfl
    rw [e]; exact h a w hs
theorem cwi_region {id : Nat} {l : List Oper} (nl : NL Q) (hd : noDef l = true) (h : WL P l.toArray Q S l) : CWI ro P (.region id l.toArray false) Q S := fun a w hs =>
  wpIn_region_lit (wli_of nl hd h a w hs)
theorem cwi_region_at {id k : Nat} {l : List Oper} (nl : NL Q) (hd : noDef (l.take k) = true) (h : WL P l.toArray (Exit.then (wpListIn (FW ro) 0 P l.toArray Q (l.drop k)) Q) S (l.take k)) : CWI ro P (.region id l.toArray false) Q S := fun a w hs => by
  have h1 := list_in (ro := ro) (P := P) (ops := l.toArray) (rest := l.drop k) nl (l.take k) a w (noDef_spec hd) (h a w hs)
  rw [List.take_append_drop] at h1
  exact wpIn_region_lit h1
variable {n : Nat} {w0 : World} {B : Nat} {L : List (Nat × Value)} {H : List Ent}
theorem cwi_true {c : Operand} {x y : Code} (hc : ev L c = some (.bool true)) (h : CWI ro P x Q (St ds n w0 B L H)) : CWI ro P (.cond c x y) Q (St ds n w0 B L H) :=
  fun a w hs => wpIn_cond_true (hs.fr.eval hc) (h a w hs)
theorem cwi_false {c : Operand} {x y : Code} (hc : ev L c = some (.bool false)) (h : CWI ro P y Q (St ds n w0 B L H)) : CWI ro P (.cond c x y) Q (St ds n w0 B L H) :=
  fun a w hs => wpIn_cond_false (hs.fr.eval hc) (h a w hs)
theorem cwi_draw {id m : Nat} {Hs : List Ent} {l : List Oper} (hd : noDef l = true) (hm : P.follows .mixedOrders = true) (late : List Nat) (hk : Keep H Hs) (hlen : l.length = m) (h : CT (StG ds n w0 B L H Hs) (wpG P l.toArray (onlyN (Q .normal)) late (SS w0 B Hs) m (set1 m []))) : CWI ro P (.region id l.toArray true) Q (St ds n w0 B L H) := fun a w hs => by
  subst hlen
  refine wpIn_mono (Q := onlyN (Q .normal)) (wpIn_region_any hm ?_) fun e a' w' q => ?_
  · have h1 := h a { w with drawn := w.drawn + 1 } ⟨⟨hs.fr, hs.ss.draw⟩, (hk.ss hs.ss).draw⟩
    refine any_in (fun _ _ h' => h') (by simpa using noDef_spec hd) _ _ _ _ ?_
    simpa [set1] using wpAny_of_G _ _ _ _ h1
  · cases e <;> first | exact q | exact q.elim
/-- a loop whose head goes by a number that falls -/
theorem cwi_down {c : Code} (Lf : Nat → List (Nat × Value)) (Hf : Nat → List Ent) (φ : Nat → Prop) (m : Nat) (h0 : φ m) (hl : Sub L (Lf m)) (hh : Keep H (Hf m))
    (round : ∀ (R : Act → World → Prop) (x : Nat), φ x → (∀ y, φ y → y < x → ∀ a w, St ds n w0 B (Lf y) (Hf y) a w → R a w) → CWI ro P c (Exit.then R Q) (St ds n w0 B (Lf x) (Hf x))) : CWI ro P (.loop c) Q (St ds n w0 B L H) := by
  intro a w hs
  classical
  let I : Act → World → Prop := fun a w => ∃ y, φ y ∧ St ds n w0 B (Lf y) (Hf y) a w
  have least : ∀ a w, I a w → ∃ k, (φ k ∧ St ds n w0 B (Lf k) (Hf k) a w) ∧ ∀ j, (φ j ∧ St ds n w0 B (Lf j) (Hf j) a w) → k ≤ j := by
    intro a w ⟨y, hy⟩
    induction y using Nat.strongRecOn with
    | _ y ih =>
      by_cases hex : ∃ j, j < y ∧ (φ j ∧ St ds n w0 B (Lf j) (Hf j) a w)
      · obtain ⟨j, hj, hm⟩ := hex; exact ih j hj hm
      · exact ⟨y, hy, fun j hj => Nat.le_of_not_lt fun hlt => hex ⟨j, hlt, hj⟩⟩
  let ν : Act → World → Nat := fun a w => if h : I a w then Classical.choose (least a w h) else 0
  refine wpIn_loop I ν ⟨m, h0, hs.weaken hl hh⟩ fun a w hI => ?_
  have hν : ν a w = Classical.choose (least a w hI) := by simp [ν, hI]
  obtain ⟨⟨hy, hsy⟩, _⟩ := Classical.choose_spec (least a w hI)
  refine wpIn_mono (round (fun a' w' => ∃ z, φ z ∧ z < Classical.choose (least a w hI) ∧ St ds n w0 B (Lf z) (Hf z) a' w') _ hy (fun z hz hlt a' w' h' => ⟨z, hz, hlt, h'⟩) a w hsy) fun e a' w' q => ?_
  cases e with
  | normal =>
    obtain ⟨z, hz, hlt, hsz⟩ := (q : ∃ z, φ z ∧ z < _ ∧ St ds n w0 B (Lf z) (Hf z) a' w')
    have hI' : I a' w' := ⟨z, hz, hsz⟩
    refine ⟨hI', ?_⟩
    have h1 : ν a' w' ≤ z := by
      simp only [ν, hI', dif_pos]
      exact (Classical.choose_spec (least a' w' hI')).2 _ ⟨hz, hsz⟩
    omega
  | _ => exact q
end

/-! ### the loop's record, and the blocks for deferred calls -/
def loopE (l : Nat) (r : Loop) : Ent := ⟨fun k => k = l, fun w => w.heap[l]? = some (.loop r), fun _ _ h1 h2 => (h1 l rfl).trans h2⟩
def defE (rs : List Nat) : Ent := ⟨fun k => k ∈ rs, fun w => rs.Nodup ∧ ∀ r ∈ rs, w.heap[r]? = some (.deferred (some [])), fun _ _ h1 h2 => ⟨h2.1, fun r hr => (h1 r hr).trans (h2.2 r hr)⟩⟩
def mkD (r : Nat) : Deferred := { target := .collected r, args := #[] }
section
variable {P : Program} {w0 w : World} {B n : Nat} {L : List (Nat × Value)} {H H' : List Ent} {X : Act → World → Prop}
theorem ct_def0 (h : CT (St ds n w0 B L (defE [] :: H)) X) : CT (St ds n w0 B L H) X := fun a w hs =>
  h a w ⟨hs.fr, hs.ss.fresh (Below.refl _ _) ⟨List.nodup_nil, fun _ h => by cases h⟩ fun k hk => by cases hk⟩
theorem putObj_at {b : Nat} {o o' : Obj} (hb : w.heap[b]? = some o) : (w.putObj b o').heap[b]? = some o' := by
  refine World.putObj_heap_same ?_
  rcases Nat.lt_or_ge b w.heap.size with h | h
  · exact h
  · simp [Array.getElem?_eq_none h] at hb
theorem ss_putL {l : Nat} {r r' : Loop} (hs : SS w0 B (loopE l r :: H) w) : SS w0 B (loopE l r' :: H) (w.putObj l (.loop r')) :=
  hs.upd rfl rfl rfl (by simp [World.putObj]) (fun k _ hk => World.putObj_heap_other (fun e => hk e)) (putObj_at hs.hp.1) fun k hk => ⟨.inl hk, by
    have : k = l := hk
    subst this
    simpa [World.putObj] using (hs.hp.2.1 k rfl).2⟩
/-- a mark is taken: the others stand -/
theorem ss_take {r : Nat} {rs : List Nat} (hs : SS w0 B (defE (r :: rs) :: H) w) : SS w0 B (defE rs :: H) (w.putObj r (.deferred none)) := by
  have hn := hs.hp.1.1
  rw [List.nodup_cons] at hn
  refine hs.upd rfl rfl rfl (by simp [World.putObj]) (fun k _ hk => World.putObj_heap_other (fun e => hk (by show k ∈ r :: rs; rw [e]; exact List.mem_cons_self ..))) ⟨hn.2, fun q hq => ?_⟩ fun k hk => ⟨.inl (List.mem_cons_of_mem _ hk), ?_⟩
  · exact (World.putObj_heap_other (fun e => hn.1 (by rw [← e]; exact hq))).trans (hs.hp.1.2 q (List.mem_cons_of_mem _ hq))
  · have := (hs.hp.2.1 k (List.mem_cons_of_mem _ hk)).2
    simpa [World.putObj] using this
theorem leaves_marks {fn : Func} {tmps : Array Value} {R : Ending → World → Prop} : ∀ (rs : List Nat) (w : World), SS w0 B (defE rs :: H) w → (∀ w', SS w0 B H w' → ∃ v, (results fn tmps).run P w' = .ok v w' ∧ R (.returned v) w') → LeavesInM Fence.wide 0 P fn tmps R (rs.map mkD) .returning w
  | [], w, hs, h => h w ⟨hs.below, hs.hp.2.2.2, hs.le⟩
  | r :: rs, w, hs, h => ⟨by simp, .inl ⟨r, w.putObj r (.deferred none), rfl, run_takeDeferred (hs.hp.1.2 r (List.mem_cons_self ..)), leaves_marks rs _ (ss_take hs) h⟩⟩
theorem ce_resultsM {fn : Func} {R : Value → World → Prop} {rs : List Nat} (hp : Pick (defE rs) H H') {v : Value} (hr : ∀ a w, St [] n w0 B L H' a w → (results fn a.tmps).run P w = .ok v w) (h : ∀ w, SS w0 B H' w → R v w) : CE (bodyPostM Fence.wide 0 P fn (Ret R)) .ret (St (rs.map mkD) n w0 B L H) := fun a w hs => by
  show LeavesInM Fence.wide 0 P fn a.tmps (Ret R) a.defers .returning w
  rw [hs.fr.defers]
  exact leaves_marks rs w (hp.ss hs.ss) fun w' hs' => ⟨v, hr { a with defers := [] } w' ⟨⟨hs.fr.size, rfl, hs.fr.at_, hs.fr.lt⟩, hs'⟩, v, rfl, h w' hs'⟩
theorem fn_enterM {F : FuncId} {fn : Func} {R : Value → World → Prop} {c : Code} {args : List Value} (hf : P.funcs[F]? = some fn) (hb : fn.body = some c) (hn : fn.ntmps = n) (hle : Nat.ble args.length n = true) (hs : SS w0 B H w) (h : CT (St [] n w0 B (argL 0 args) H) (c.wp P (bodyPostM Fence.wide 0 P fn (Ret R)))) : Calls P F args.toArray w (Ret R) := by
  have hle' : args.length ≤ n := by simpa using hle
  refine callsIn_wide.1 (callsIn_of_wp_marks (n := 0) hf hb trivial (wpIn_wide.2 (h _ _ ⟨⟨?_, rfl, fun i v hv hi => ?_, fun i v hv => ?_⟩, hs⟩)))
  · simp [hn]; omega
  · obtain ⟨_, h2⟩ := argL_look _ _ _ _ hv
    rw [Nat.sub_zero] at h2
    have hlt : i < args.length := (List.getElem?_eq_some_iff.1 h2).1
    rw [Array.getElem?_append_left (by simpa using hlt)]
    simpa using h2
  · obtain ⟨_, h2⟩ := argL_look _ _ _ _ hv
    rw [Nat.sub_zero] at h2
    have hlt : i < args.length := (List.getElem?_eq_some_iff.1 h2).1
    omega
end

/-! ### the iterator -/
/-- what a round of the loop l leaves: it goes on, or it has broken off -/
def RoundR (w0 : World) (B : Nat) (l : Nat) (r0 : Loop) (Hs : List Ent) (C : Prop) (X : World → Prop) : Ending → World → Prop := fun e w' =>
  (e = .returned (.bool true) ∧ C ∧ SS w0 B (loopE l r0 :: Hs) w') ∨ (e = .returned (.bool false) ∧ X w')
def rtmps (r0 : Loop) (j : Nat) (x : Int) : Array Value := (r0.params.zip #[.int .i64 (j : Int), .int .i64 x]).foldl (fun t (p, v) => t.setIfInBounds p v) r0.tmps
/-- a function that goes through the slice in the block gb from its end -/
def BackC (P : Program) (gf : FuncId) (bt : TypeId) : Prop := ∀ (w w0 : World) (Bd : Nat) (Hs : List Ent) (l gb : Nat) (A : Option Addr) (m c : Nat) (xs : List Int) (r0 : Loop) (C : Nat → Prop) (X : Nat → World → Prop),
  SS w0 Bd (loopE l r0 :: Hs) w → r0.params.size = 2 → xs.length = m → m ≤ 1000000 → blk gb [.slice A m c] bt ∈ Hs → Holds (SS w0 Bd (loopE l r0 :: Hs)) A (cells fI xs) →
  (∀ j, j < m → ∀ w1, SS w0 Bd (loopE l r0 :: Hs) w1 → RoundIn (FW none) 0 P l r0.fn (rtmps r0 j (xs.getD j 0)) r0.assign r0.body w1 (RoundR w0 Bd l r0 Hs (C j) (X j))) →
  CallsIn (FW none) 0 P gf #[.func (.yield l) #[] #[], .pointer (some ⟨gb, 0, none⟩)] w fun e w' => (∃ v, e = .returned v) ∧ (((∀ j, j < m → C j) ∧ SS w0 Bd (loopE l r0 :: Hs) w') ∨ ∃ j, j < m ∧ (∀ i, j < i → i < m → C i) ∧ X j w')
section
variable {P : Program} {Q : Exit → Act → World → Prop} {n : Nat} {w0 : World} {B : Nat} {L : List (Nat × Value)} {H Hs : List Ent} {ops : Array Oper} {rest : List Oper}
/-- states of which only the frame is told -/
def FX (ds : List Deferred) (n : Nat) (L : List (Nat × Value)) (Y : World → Prop) : Act → World → Prop := fun a w => FrOk ds n L a ∧ Y w
/-- yield is called: a round -/
theorem wli_yield {l d : Nat} {r0 : Loop} {f x y : Operand} {ts : Array TypeId} {T : TypeId} {pos : String} {af : Array Edge} {j : Nat} {v : Int} {C : Prop} {X : World → Prop} (hx : ev L x = some (.int .i64 (j : Int))) (hy : ev L y = some (.int .i64 v)) (hf : ev L f = some (.func (.yield l) #[] #[])) (hps : r0.params.size = 2) (hlt : Nat.blt d n = true)
    (hround : ∀ w1, SS w0 B (loopE l r0 :: Hs) w1 → RoundIn (FW none) 0 P l r0.fn (rtmps r0 j v) r0.assign r0.body w1 (RoundR w0 B l r0 Hs C X))
    (k1 : C → CT (St ds n w0 B ((d, .bool true) :: L) (loopE l r0 :: Hs)) (wpListIn (FW none) 0 P ops Q rest))
    (k2 : CT (FX ds n ((d, .bool false) :: L) X) (wpListIn (FW none) 0 P ops Q rest)) :
    CT (St ds n w0 B L (loopE l r0 :: Hs)) (wpListIn (FW none) 0 P ops Q (⟨some d, .call { callee := .value f, args := #[x, y], argTypes := ts }, T, pos, af, none⟩ :: rest)) := fun a w hs => by
  refine wpListIn_plain rfl fun K hK => ⟨fun _ _ => trivial, ?_⟩
  have hl : w.heap[l]? = some (.loop r0) := hs.ss.hp.1
  have hrun : (execOp a.eval ⟨some d, .call { callee := .value f, args := #[x, y], argTypes := ts }, T, pos, af, none⟩).run P w = .ok (.round l r0.fn (rtmps r0 j v) r0.assign r0.body) w := by
    have h1 := run_yield (P := P) (args := #[.int .i64 (j : Int), .int .i64 v]) hl (by simp [hps])
    simp only [execOp, resolve, Deferred.ofValue, hs.fr.eval hf, invoke, Sem.run_bind, Sem.run_pure, Result.andThen_ok]
    simpa [hs.fr.eval hx, hs.fr.eval hy, rtmps] using h1
  rw [Oper.semAt_eq _ _ _ (by intro c h; cases h), hrun]
  refine ⟨fun e => by simp [Fence.wide] at e, (hround w hs.ss).mono fun e w' h => ?_⟩
  rcases h with ⟨rfl, hC, hs'⟩ | ⟨rfl, hX⟩
  · exact hK _ _ (k1 hC _ _ ⟨hs.fr.put (by simpa [Nat.blt_eq] using hlt) _, hs'⟩)
  · exact hK _ _ (k2 _ _ ⟨hs.fr.put (by simpa [Nat.blt_eq] using hlt) _, hX⟩)

theorem fn_enterI {w : World} {F : FuncId} {fn : Func} {R : Ending → World → Prop} {c : Code} {args : List Value} (hf : P.funcs[F]? = some fn) (hb : fn.body = some c) (hn : fn.ntmps = n) (hle : Nat.ble args.length n = true) (hs : SS w0 B H w) (h : CT (St [] n w0 B (argL 0 args) H) (c.wpIn (FW none) 0 P (bodyPost P fn R))) : CallsIn (FW none) 0 P F args.toArray w R := by
  have hle' : args.length ≤ n := by simpa using hle
  refine callsIn_of_wp hf hb trivial (h _ _ ⟨⟨?_, rfl, fun i v hv hi => ?_, fun i v hv => ?_⟩, hs⟩) rfl
  · simp [hn]; omega
  · obtain ⟨_, h2⟩ := argL_look _ _ _ _ hv
    rw [Nat.sub_zero] at h2
    have hlt : i < args.length := (List.getElem?_eq_some_iff.1 h2).1
    rw [Array.getElem?_append_left (by simpa using hlt)]
    simpa using h2
  · obtain ⟨_, h2⟩ := argL_look _ _ _ _ hv
    rw [Nat.sub_zero] at h2
    have hlt : i < args.length := (List.getElem?_eq_some_iff.1 h2).1
    omega
theorem wlx_v {Y : World → Prop} {o : Oper} {d : Nat} {v : Value} (h : OpV P L Y o v) (hg : o.guard = none) (hd : o.dst = some d) (hlt : Nat.blt d n = true) (hnd : noDef [o] = true) (k : CT (FX ds n ((d, v) :: L) Y) (wpListIn (FW none) 0 P ops Q rest)) : CT (FX ds n L Y) (wpListIn (FW none) 0 P ops Q (o :: rest)) := fun a w hs => by
  refine wpListIn_plain hg fun K hK => ⟨fun _ _ => trivial, ?_⟩
  rw [Oper.semAt_eq _ _ _ (noDef_spec hnd o (List.mem_singleton.2 rfl)), h a w (fun x u hx => hs.1.eval hx) hs.2]
  exact hK _ _ (k _ _ ⟨put_dst hs.1 hd hlt v, hs.2⟩)
theorem cwx_true {Y : World → Prop} {c : Operand} {x y : Code} (hc : ev L c = some (.bool true)) (h : CWI none P x Q (FX ds n L Y)) : CWI none P (.cond c x y) Q (FX ds n L Y) :=
  fun a w hs => wpIn_cond_true (hs.1.eval hc) (h a w hs)
/-! ### a round -/
variable {l : Nat} {r0 : Loop} {H1 : List Ent} {body : Code} {C : Prop} {X : World → Prop}
def Begun (P : Program) (l : Nat) (body : Code) (Q : Exit → Act → World → Prop) : Act → World → Prop := fun a₁ w₁ => ∃ w₂, (Instr.beginRound l).run P w₁ = .ok () w₂ ∧ body.wpIn (FW (some l)) 0 P Q a₁ w₂
theorem nl_begun : NL (Exit.then (Begun P l body Q) (fun _ _ _ => False)) := fun _ _ h => h
theorem nl_round {R : Ending → World → Prop} : NL (roundPost P l R) := fun _ _ h => h
theorem ce_begin (hr : r0.state = .ready) (k : CWI (some l) P body Q (St ds n w0 B L (loopE l { r0 with state := .busy } :: H1))) : CE (Exit.then (Begun P l body Q) (fun _ _ _ => False)) .normal (St ds n w0 B L (loopE l r0 :: H1)) := fun _ _ hs =>
  ⟨_, run_beginRound hs.ss.hp.1 hr, k _ _ ⟨hs.fr, ss_putL hs.ss⟩⟩
theorem ce_goon (hr : r0.state = .ready ∧ r0.pending = none) (hk : Keep H1 (loopE l { r0 with state := .busy } :: Hs)) (hC : C) : CE (roundPost P l (RoundR w0 B l r0 Hs C X)) .normal (St ds n w0 B L H1) := fun _ _ hs => by
  have hs2 := hk.ss hs.ss
  have h1 := run_endRound (P := P) none hs2.hp.1
  refine ⟨_, _, h1, .inl ⟨rfl, hC, ?_⟩⟩
  have h3 : ({ { r0 with state := LoopState.busy } with state := .ready, pending := none } : Loop) = r0 := by
    obtain ⟨h4, h5⟩ := hr
    cases r0
    simp_all
  have h2 := ss_putL (r' := { { r0 with state := LoopState.busy } with state := .ready, pending := none }) hs2
  rw [h3] at h2
  simpa [h3] using h2
theorem ce_broke {eb : Nat} {γ : Type} {φ : γ → Prop} {Hx : γ → List Ent} (y : γ) (hy : φ y) (hk : Keep H1 (loopE l { r0 with state := .busy } :: Hx y)) : CE (roundPost P l (RoundR w0 B l r0 Hs C (fun w' => ∃ y, φ y ∧ SS w0 B (loopE l { r0 with state := .done, pending := some (.exit eb) } :: Hx y) w'))) (.exit eb) (St ds n w0 B L H1) := fun _ _ hs => by
  have hs2 := hk.ss hs.ss
  have h1 := run_endRound (P := P) (some (.exit eb)) hs2.hp.1
  refine ⟨_, _, h1, .inr ⟨rfl, y, hy, ?_⟩⟩
  have h2 := ss_putL (r' := { { r0 with state := LoopState.busy } with state := .done, pending := some (.exit eb) }) hs2
  simpa using h2

/-! ### the statement -/
theorem cw_range {gf : FuncId} {bt : TypeId} {g : Operand} {p1 p2 gb eb m c : Nat} {A : Option Addr} {xs : List Int} {assign body : Code} {rs : List Nat} {γ : Type} (C : Nat → Prop) (φ : Nat → γ → Prop) (Hx : Nat → γ → List Ent)
    (hb : BackC P gf bt) (en : Enters P gf) (hg : ev L g = some (.func (.func gf) #[] #[elp (some ⟨gb, 0, none⟩) 0])) (hbox : blk gb [.slice A m c] bt ∈ H) (hm : xs.length = m) (hmb : m ≤ 1000000) (hrow : ∀ H2, Keep H2 H → Holds (SS w0 B H2) A (cells fI xs)) (hp1 : Nat.blt p1 n = true) (hp2 : Nat.blt p2 n = true)
    (hround : ∀ j, j < m → ∀ (l D : Nat) (r0 : Loop), r0.state = .ready ∧ r0.pending = none →
      CWI (some l) P assign (Exit.then (Begun P l body (roundPost P l (RoundR w0 B l r0 (defE (D :: rs) :: H) (C j) (fun w' => ∃ y, φ j y ∧ SS w0 B (loopE l { r0 with state := .done, pending := some (.exit eb) } :: defE (D :: rs) :: Hx j y) w')))) (fun _ _ _ => False))
        (St [] n w0 B ((p2, .int .i64 (xs.getD j 0)) :: (p1, .int .i64 (j : Int)) :: L) (loopE l r0 :: defE (D :: rs) :: H)))
    (hdone : ∀ D, (∀ j, j < m → C j) → CE Q .normal (St ((D :: rs).map mkD) n w0 B L (defE (D :: rs) :: H)))
    (hstop : ∀ D j y, j < m → (∀ i, j < i → i < m → C i) → φ j y → CE Q (.exit eb) (St ((D :: rs).map mkD) n w0 B L (defE (D :: rs) :: Hx j y))) :
    CW P (.rangeFunc g #[p1, p2] assign body) Q (St (rs.map mkD) n w0 B L (defE rs :: H)) := fun a w hs => by
  refine (wpIn_wide (n := 0)).1 (wpIn_rangeFunc (F := FW none) ?_)
  intro fn _
  obtain ⟨rec, hrec⟩ : ∃ rec : LoopState → Option Code → Loop, rec = fun st pe => { state := st, pending := pe, fn, tmps := a.tmps, params := #[p1, p2], assign, body, defers := w.heap.size } := ⟨_, rfl⟩
  obtain ⟨W1, hW1⟩ : ∃ W1, (w.alloc (.deferred (some []))).alloc (.loop (rec .ready none)) = W1 := ⟨_, rfl⟩
  have hev : a.eval g = .func (.func gf) #[] #[.pointer (some ⟨gb, 0, none⟩)] := by
    have := hs.fr.eval hg
    rwa [elp_zero] at this
  have hss0 : SS w0 B (defE (w.heap.size :: rs) :: H) (w.alloc (.deferred (some []))) := by
    have h1 : SS w0 B (defE rs :: H) (w.alloc (.deferred (some []))) := hs.ss.later ((Below.refl _ _).alloc (Nat.le_refl _) _)
    have hnew : (w.alloc (.deferred (some []))).heap[w.heap.size]? = some (.deferred (some [])) := World.alloc_heap_new w _
    have hnot : w.heap.size ∉ rs := fun h => by have := (hs.ss.hp.2.1 _ h).2; omega
    obtain ⟨hb1, ⟨hh, hf, hd, hrest⟩, hle⟩ := h1
    refine ⟨hb1, ⟨⟨List.nodup_cons.2 ⟨hnot, hh.1⟩, fun r hr => ?_⟩, fun k hk => ?_, fun e he k hk hk' => ?_, hrest⟩, hle⟩
    · rcases List.mem_cons.1 hr with rfl | hr
      · exact hnew
      · exact hh.2 r hr
    · rcases List.mem_cons.1 hk with rfl | hk
      · exact ⟨hs.ss.le, by simp⟩
      · exact hf k hk
    · rcases List.mem_cons.1 hk with rfl | hk
      · have := (hs.ss.hp.2.2.2.foot e he _ hk').2; omega
      · exact hd e he k hk hk'
  have hss1 : SS w0 B (loopE (w.heap.size + 1) (rec .ready none) :: defE (w.heap.size :: rs) :: H) W1 := by
    rw [← hW1]
    refine hss0.fresh ((Below.refl _ _).alloc (Nat.le_refl _) _) ?_ fun k hk => ?_
    · have := World.alloc_heap_new (w.alloc (.deferred (some []))) (.loop (rec .ready none)); rwa [World.size_alloc] at this
    · have : k = w.heap.size + 1 := hk
      subst this; simp
  refine ⟨w.heap.size + 1, [{ target := .collected w.heap.size, args := #[] }], W1, { target := .fn (.func gf) #[.pointer (some ⟨gb, 0, none⟩)], args := #[.func (.yield (w.heap.size + 1)) #[] #[]] }, W1, gf,
    #[.func (.yield (w.heap.size + 1)) #[] #[]] ++ #[.pointer (some ⟨gb, 0, none⟩)], W1, ?_, ?_, fun _ _ => trivial, ?_, fun e => by simp [Fence.wide] at e, ?_⟩
  · rw [← hW1, hrec]; exact run_enterLoop_outer _ _ _ _ _
  · simp only [resolve, hev]
    simp [go_sem]
  · have := en (#[.func (.yield (w.heap.size + 1)) #[] #[]] ++ #[.pointer (some ⟨gb, 0, none⟩)]) W1
    simp only [invoke]
    simpa using this
  · refine (hb W1 w0 B (defE (w.heap.size :: rs) :: H) (w.heap.size + 1) gb A m c xs (rec .ready none) C (fun j w' => ∃ y, φ j y ∧ SS w0 B (loopE (w.heap.size + 1) { rec .ready none with state := .done, pending := some (.exit eb) } :: defE (w.heap.size :: rs) :: Hx j y) w') hss1 (by rw [hrec]; rfl) hm hmb (List.mem_cons_of_mem _ hbox) (hrow _ (.drop (.drop .refl))) ?_).mono ?_
    · intro j hj w1 hs1
      refine roundIn_of_wpIn (F := FW none) trivial ?_
      have e1 : (rec .ready none).assign = assign := by rw [hrec]
      have e2 : (rec .ready none).body = body := by rw [hrec]
      rw [e1, e2]
      refine hround j hj (w.heap.size + 1) w.heap.size (rec .ready none) (by rw [hrec]; exact ⟨rfl, rfl⟩) _ _ ⟨?_, hs1⟩
      have h0 : FrOk [] n L { tmps := a.tmps, defers := [] } := ⟨hs.fr.size, rfl, hs.fr.at_, hs.fr.lt⟩
      have h1 := h0.put (d := p1) (by simpa [Nat.blt_eq] using hp1) (.int .i64 (j : Int))
      have h2 := h1.put (d := p2) (by simpa [Nat.blt_eq] using hp2) (.int .i64 (xs.getD j 0))
      have e3 : rtmps (rec .ready none) j (xs.getD j 0) = (a.tmps.setIfInBounds p1 (.int .i64 (j : Int))).setIfInBounds p2 (.int .i64 (xs.getD j 0)) := by rw [hrec]; simp [rtmps]
      rw [e3]
      exact h2
    · rintro e w' ⟨⟨v, rfl⟩, ⟨hall, hs'⟩ | ⟨j, hj, hlater, y, hy, hs'⟩⟩
      · have h1 := run_endLoop (P := P) hs'.hp.1 (by rw [hrec]; simp)
        have e3 : (rec .ready none).pending = none := by rw [hrec]
        have h2 := ss_putL (r' := { rec .ready none with state := .exhausted }) hs'
        obtain ⟨W2, hW2⟩ : ∃ W2, w'.putObj (w.heap.size + 1) (.loop { rec .ready none with state := .exhausted }) = W2 := ⟨_, rfl⟩
        rw [hW2] at h1 h2
        rw [e3] at h1
        exact ⟨none, W2, h1, hdone w.heap.size hall _ _ ⟨⟨hs.fr.size, by show _ :: a.defers = _; rw [hs.fr.defers]; rfl, hs.fr.at_, hs.fr.lt⟩, ⟨h2.below, h2.hp.2.2.2, h2.le⟩⟩⟩
      · have h1 := run_endLoop (P := P) hs'.hp.1 (by simp)
        refine ⟨_, _, h1, ?_⟩
        have h2 := ss_putL (r' := { { rec .ready none with state := .done, pending := some (.exit eb) } with state := .exhausted }) hs'
        exact wpIn_exit (hstop w.heap.size j y hj hlater hy _ _ ⟨⟨hs.fr.size, by rw [hs.fr.defers]; rfl, hs.fr.at_, hs.fr.lt⟩, ⟨h2.below, h2.hp.2.2.2, h2.le⟩⟩)
end
/-- a loop over states with marks -/
theorem cw_loopD {P : Program} {Q : Exit → Act → World → Prop} {n : Nat} {w0 : World} {B : Nat} {L : List (Nat × Value)} {H : List Ent} {α : Type} {c : Code} (Df : α → List Deferred) (Lf : α → List (Nat × Value)) (Hf : α → List Ent) (φ : α → Prop) (μ : α → Nat) (x0 : α) (h0 : φ x0) (hd : ds = Df x0) (hl : Sub L (Lf x0)) (hh : Keep H (Hf x0))
    (round : ∀ (R : Act → World → Prop) x, φ x → (∀ y, φ y → μ y < μ x → ∀ a w, St (Df y) n w0 B (Lf y) (Hf y) a w → R a w) → CW P c (Exit.then R Q) (St (Df x) n w0 B (Lf x) (Hf x))) : CW P (.loop c) Q (St ds n w0 B L H) := by
  intro a w hs
  subst hd
  have key : ∀ m x, μ x = m → φ x → ∀ a w, St (Df x) n w0 B (Lf x) (Hf x) a w → (Code.loop c).wp P Q a w := by
    classical
    intro m x _ hx a w hst
    let I : Act → World → Prop := fun a w => ∃ y, φ y ∧ St (Df y) n w0 B (Lf y) (Hf y) a w
    let M : Act → World → Nat → Prop := fun a w k => ∃ y, φ y ∧ μ y = k ∧ St (Df y) n w0 B (Lf y) (Hf y) a w
    have least : ∀ a w, I a w → ∃ k, M a w k ∧ ∀ j, M a w j → k ≤ j := by
      intro a w ⟨y, hy, hsy⟩
      have : ∀ k, M a w k → ∃ k', M a w k' ∧ ∀ j, M a w j → k' ≤ j := by
        intro k
        induction k using Nat.strongRecOn with
        | _ k ih =>
          intro hk
          by_cases hex : ∃ j, j < k ∧ M a w j
          · obtain ⟨j, hj, hm⟩ := hex; exact ih j hj hm
          · exact ⟨k, hk, fun j hj => Nat.le_of_not_lt fun hlt => hex ⟨j, hlt, hj⟩⟩
      exact this (μ y) ⟨y, hy, rfl, hsy⟩
    let ν : Act → World → Nat := fun a w => if h : I a w then Classical.choose (least a w h) else 0
    refine wp_loop I ν ⟨x, hx, hst⟩ fun a w hI => ?_
    have hν : ν a w = Classical.choose (least a w hI) := by simp [ν, hI]
    obtain ⟨⟨y, hy, hyk, hsy⟩, _⟩ := Classical.choose_spec (least a w hI)
    refine wp_mono (round (fun a' w' => ∃ z, φ z ∧ μ z < μ y ∧ St (Df z) n w0 B (Lf z) (Hf z) a' w') y hy (fun z hz hlt a' w' h' => ⟨z, hz, hlt, h'⟩) a w hsy) fun e a' w' q => ?_
    cases e with
    | normal =>
      obtain ⟨z, hz, hlt, hsz⟩ := (q : ∃ y', φ y' ∧ μ y' < μ y ∧ St (Df y') n w0 B (Lf y') (Hf y') a' w')
      have hI' : I a' w' := ⟨z, hz, hsz⟩
      refine ⟨hI', ?_⟩
      have h1 : ν a' w' ≤ μ z := by
        simp only [ν, hI', dif_pos]
        exact (Classical.choose_spec (least a' w' hI')).2 _ ⟨z, hz, rfl, hsz⟩
      omega
    | _ => exact q
  exact key _ x0 rfl h0 a w (hs.weaken hl hh)
theorem cw_loopD6 {P : Program} {Q : Exit → Act → World → Prop} {n : Nat} {w0 : World} {B : Nat} {L : List (Nat × Value)} {H : List Ent} {α1 α2 α3 α4 α5 α6 : Type} {c : Code} (Df : α1 → α2 → α3 → α4 → α5 → α6 → List Deferred) (Lf : α1 → α2 → α3 → α4 → α5 → α6 → List (Nat × Value)) (Hf : α1 → α2 → α3 → α4 → α5 → α6 → List Ent) (φ : α1 → α2 → α3 → α4 → α5 → α6 → Prop) (μ : α1 → α2 → α3 → α4 → α5 → α6 → Nat) (x1 : α1) (x2 : α2) (x3 : α3) (x4 : α4) (x5 : α5) (x6 : α6) (h0 : φ x1 x2 x3 x4 x5 x6) (hd : ds = Df x1 x2 x3 x4 x5 x6) (hl : Sub L (Lf x1 x2 x3 x4 x5 x6)) (hh : Keep H (Hf x1 x2 x3 x4 x5 x6))
    (round : ∀ (R : Act → World → Prop) (x1 : α1) (x2 : α2) (x3 : α3) (x4 : α4) (x5 : α5) (x6 : α6), φ x1 x2 x3 x4 x5 x6 → (∀ y1 y2 y3 y4 y5 y6, φ y1 y2 y3 y4 y5 y6 → μ y1 y2 y3 y4 y5 y6 < μ x1 x2 x3 x4 x5 x6 → ∀ a w, St (Df y1 y2 y3 y4 y5 y6) n w0 B (Lf y1 y2 y3 y4 y5 y6) (Hf y1 y2 y3 y4 y5 y6) a w → R a w) → CW P c (Exit.then R Q) (St (Df x1 x2 x3 x4 x5 x6) n w0 B (Lf x1 x2 x3 x4 x5 x6) (Hf x1 x2 x3 x4 x5 x6))) : CW P (.loop c) Q (St ds n w0 B L H) :=
  cw_loopD (α := α1 × α2 × α3 × α4 × α5 × α6) (fun x => Df (x.1) (x.2.1) (x.2.2.1) (x.2.2.2.1) (x.2.2.2.2.1) (x.2.2.2.2.2)) (fun x => Lf (x.1) (x.2.1) (x.2.2.1) (x.2.2.2.1) (x.2.2.2.2.1) (x.2.2.2.2.2)) (fun x => Hf (x.1) (x.2.1) (x.2.2.1) (x.2.2.2.1) (x.2.2.2.2.1) (x.2.2.2.2.2)) (fun x => φ (x.1) (x.2.1) (x.2.2.1) (x.2.2.2.1) (x.2.2.2.2.1) (x.2.2.2.2.2)) (fun x => μ (x.1) (x.2.1) (x.2.2.1) (x.2.2.2.1) (x.2.2.2.2.1) (x.2.2.2.2.2)) ⟨x1, x2, x3, x4, x5, x6⟩ h0 hd hl hh (fun R x hx hR => round R (x.1) (x.2.1) (x.2.2.1) (x.2.2.2.1) (x.2.2.2.2.1) (x.2.2.2.2.2) hx fun y1 y2 y3 y4 y5 y6 h1 h2 a w h3 => hR ⟨y1, y2, y3, y4, y5, y6⟩ h1 h2 a w h3)
theorem wg_three {P : Program} {K : Act → World → Prop} {n m fuel : Nat} {w0 : World} {B : Nat} {L : List (Nat × Value)} {H Hs : List Ent} {l : List Oper} {late done : List Nat} {i1 i2 i3 : Nat} (hr : Region.ready .any l.toArray (set1 m done) = [i1, i2, i3]) (k1 : CT (StG ds n w0 B L H Hs) (GO P l K late (SS w0 B Hs) fuel m done i1)) (k2 : CT (StG ds n w0 B L H Hs) (GO P l K late (SS w0 B Hs) fuel m done i2)) (k3 : CT (StG ds n w0 B L H Hs) (GO P l K late (SS w0 B Hs) fuel m done i3)) : CT (StG ds n w0 B L H Hs) (wpG P l.toArray (onlyN K) late (SS w0 B Hs) (fuel + 1) (set1 m done)) := fun a w hs => by
  refine ⟨fun h0 => (by rw [hr] at h0; cases h0), fun i hi => ?_⟩
  rw [hr] at hi
  simp only [List.mem_cons, List.not_mem_nil, or_false] at hi
  rcases hi with rfl | rfl | rfl
  · exact k1 a w hs
  · exact k2 a w hs
  · exact k3 a w hs
theorem wg_four {P : Program} {K : Act → World → Prop} {n m fuel : Nat} {w0 : World} {B : Nat} {L : List (Nat × Value)} {H Hs : List Ent} {l : List Oper} {late done : List Nat} {i1 i2 i3 i4 : Nat} (hr : Region.ready .any l.toArray (set1 m done) = [i1, i2, i3, i4]) (k1 : CT (StG ds n w0 B L H Hs) (GO P l K late (SS w0 B Hs) fuel m done i1)) (k2 : CT (StG ds n w0 B L H Hs) (GO P l K late (SS w0 B Hs) fuel m done i2)) (k3 : CT (StG ds n w0 B L H Hs) (GO P l K late (SS w0 B Hs) fuel m done i3)) (k4 : CT (StG ds n w0 B L H Hs) (GO P l K late (SS w0 B Hs) fuel m done i4)) : CT (StG ds n w0 B L H Hs) (wpG P l.toArray (onlyN K) late (SS w0 B Hs) (fuel + 1) (set1 m done)) := fun a w hs => by
  refine ⟨fun h0 => (by rw [hr] at h0; cases h0), fun i hi => ?_⟩
  rw [hr] at hi
  simp only [List.mem_cons, List.not_mem_nil, or_false] at hi
  rcases hi with rfl | rfl | rfl | rfl
  · exact k1 a w hs
  · exact k2 a w hs
  · exact k3 a w hs
  · exact k4 a w hs
theorem ov_convb {P : Program} {L : List (Nat × Value)} {M : World → Prop} {x : Operand} {d : Option Nat} {T U D e : TypeId} {pos : String} {af : Array Edge} {g : Option (Nat × Bool)} {A : Option Addr} {m c : Nat} {l : List UInt8} (hs : sliceI P U = some e) (he : P.underlying e = some (.int .u8)) (hd : P.underlying D = some .string) (hh : Holds M A (cells fY (l.map UInt8.toNat))) (hl : l.length = m ∧ 0 < m) (hx : ev L x = some (.slice A m c)) : OpV P L M ⟨d, .convert U D x, T, pos, af, g⟩ (.string (bstr l)) := fun a w hev hM => by
  obtain ⟨hl, hpos⟩ := hl
  subst hl
  have hcell : ∀ j (hj : j < l.length), ∃ b, A = some b ∧ w.cell? (b.add j) = some (.int .u8 (l[j].toNat : Int)) := fun j hj => by
    refine hh w hM j _ ?_
    have := get_fY (xs := l.map UInt8.toNat) (k := j) (by simpa using hj)
    rw [Nat.mul_one] at this
    rw [this]
    simp [hj]
  obtain ⟨b, rfl, _⟩ := hcell 0 hpos
  have h := run_convert_bytes_back (P := P) w U D e b c l (sliceI_spec hs) he hd fun j hj => by
    obtain ⟨b', hb, hc⟩ := hcell j hj
    injection hb with hb; subst hb; exact hc
  simp only [execOp, hev x _ hx]
  simp [h, bstr]
end Go.Sx
