/- More of the small logic: calls that turn several own pieces, bytes, conversions, bits. Conditions: those of each theorem. -/
import Derived.Test.YtkkllkkjdbpjpaaSy
import Derived.Lib.AppendZeros
namespace Go.Sx
open Go.RowKit
variable {ds : List Deferred}
section
variable {P : Program} {w0 : World} {B : Nat}
/-- a call that is told some of the pieces, in an order of its own -/
theorem call_o {H G : List Ent} {F : FuncId} {as_ : Array Value} {R : Ending → World → Prop} (k : Keep H G) (h : ∀ w, SS w0 B G w → Calls P F as_ w R) : ∀ w, SS w0 B H w → Calls P F as_ w R := fun w hw => h w (k.ss hw)
theorem Holds.keepF {H G : List Ent} {A : Option Addr} {cs : List Value} (h : Holds (SS w0 B G) A cs) (k : Keep H G) : Holds (SS w0 B H) A cs := fun w hw => h w (k.ss hw)
end
/-! ### bytes -/
def fY (n : Nat) : List Value := [.int .u8 (n : Int)]
theorem fY_len : ∀ x, (fY x).length = 1 := fun _ => rfl
theorem fY_one : ∀ x, ∀ u ∈ fY x, u.oneCell' = true := by intro x u hu; simp [fY] at hu; subst hu; rfl
theorem get_fY {xs : List Nat} {k : Nat} (h : k < xs.length) : (cells fY xs)[k * 1]? = some (.int .u8 ((xs.getD k 0 : Nat) : Int)) := cells_get fY_len (j := 0) 0 h (by omega)
theorem made_fY (m : Nat) : (madeCells (Value.int .u8 0).cells (m * 1)).toList = cells fY (List.replicate m 0) := made_of (f := fY) 0 _ rfl m
section
variable {P : Program} {L : List (Nat × Value)} {M : World → Prop} {x y : Operand} {d : Option Nat} {T U : TypeId} {pos : String} {af : Array Edge} {g : Option (Nat × Bool)} {i j : Int}
theorem ov_convi {S D : TypeId} {n : Int} {k : IntKind} (hs : (P.underlying S).isSome = true) (hd : P.underlying D = some (.int .i64)) (hx : ev L x = some (.int k n)) (hb : -9223372036854775808 ≤ n ∧ n ≤ 9223372036854775807) : OpV P L M ⟨d, .convert S D x, T, pos, af, g⟩ (.int .i64 n) := fun a w he _ => by
  have e : P.intKind D = .i64 := by simp [Program.intKind, hd]
  have h := run_convert_int (P := P) w S D k n hs (by rw [e]; exact hd)
  rw [e, wrap_in hb] at h
  simp only [execOp, he x _ hx]; simp [h]
theorem ov_subw (hx : ev L x = some (.int .i64 i)) (hy : ev L y = some (.int .i64 j)) : OpV P L M ⟨d, .binOp .sub U x y T, T, pos, af, g⟩ (.int .i64 (IntKind.i64.wrap (i - j))) := fun a w he _ => by
  simp only [execOp, he x _ hx, he y _ hy]; simp [go_sem]
theorem ov_nilCheckP {a : Addr} {q : Nat} (hx : ev L x = some (elp (some a) q)) : OpV P L M ⟨d, .nilCheck x, T, pos, af, g⟩ (elp (some a) q) := fun ac w he _ => by
  simp only [execOp, he x _ hx, elp, Option.map_some]; simp [go_sem]
theorem row_eq {e : TypeId} {s : Nat} {A : Option Addr} {c m m' : Nat} {cs cs' : List Value} (h : m = m') (h2 : cs = cs') : row e s A m c cs = row e s A m' c cs' := by rw [h, h2]
def xorI (i j : Int) : Int := IntKind.i64.wrap (((BitVec.ofInt 64 i) ^^^ (BitVec.ofInt 64 j)).toNat : Nat)
theorem xorI_bd (h0 : 0 ≤ i ∧ i < 4611686018427387904) (h1 : 0 ≤ j ∧ j < 4611686018427387904) : 0 ≤ xorI i j ∧ xorI i j < 4611686018427387904 := by
  unfold xorI
  have e : ((BitVec.ofInt 64 i) ^^^ (BitVec.ofInt 64 j)).toNat < 2 ^ 62 := by
    rw [BitVec.toNat_xor]
    refine Nat.xor_lt_two_pow ?_ ?_
    · rw [BitVec.toNat_ofInt]; omega
    · rw [BitVec.toNat_ofInt]; omega
  have e2 : (2 : Nat) ^ 62 = 4611686018427387904 := by decide
  rw [e2] at e
  rw [wrap_in (by omega)]
  omega
theorem ov_xor {T' : TypeId} (hx : ev L x = some (.int .i64 i)) (hy : ev L y = some (.int .i64 j)) : OpV P L M ⟨d, .binOp .xor U x y T', T, pos, af, g⟩ (.int .i64 (xorI i j)) := fun a w he _ => by
  have e : Op.intBits .xor .i64 i j = pure (.int .i64 (xorI i j)) := rfl
  simp only [execOp, he x _ hx, he y _ hy]; simp [go_sem, e]
end
/-! ### rows that a list of slices names -/
abbrev Hd := Option Addr × Nat × Nat
def NestH (e : TypeId) (sz : Nat) {α : Type} (f : α → List Value) (w : World) : List Hd → List (List α) → Prop
  | [], [] => True
  | h :: hs, xs :: xss => (xs.length = h.2.1 ∧ h.2.1 ≤ h.2.2 ∧ ∃ c, (row e sz h.1 h.2.1 c (cells f xs)).holds w) ∧ (∀ h' ∈ hs, ∀ a a' : Addr, h.1 = some a → h'.1 = some a' → a.block ≠ a'.block) ∧ NestH e sz f w hs xss
  | _, _ => False
theorem NestH.loc {e : TypeId} {sz : Nat} {α : Type} {f : α → List Value} {w w' : World} : ∀ {hs : List Hd} {xss : List (List α)}, (∀ k, (∃ h ∈ hs, ∃ a, h.1 = some a ∧ k = a.block) → w'.heap[k]? = w.heap[k]?) → NestH e sz f w hs xss → NestH e sz f w' hs xss
  | [], [], _, _ => trivial
  | h :: hs, xs :: xss, hk, hh => by
    obtain ⟨⟨h1, h2, c, h3⟩, h4, h5⟩ := hh
    exact ⟨⟨h1, h2, c, (row e sz h.1 h.2.1 c (cells f xs)).loc w w' (fun k hf => hk k (by obtain ⟨a, ha, rfl⟩ := hf; exact ⟨h, by simp, a, ha, rfl⟩)) h3⟩, h4, NestH.loc (fun k hf => hk k (by obtain ⟨h', hh', r⟩ := hf; exact ⟨h', by simp [hh'], r⟩)) h5⟩
  | [], _ :: _, _, hh => hh.elim
  | _ :: _, [], _, hh => hh.elim
def nest (e : TypeId) (sz : Nat) {α : Type} (f : α → List Value) (hs : List Hd) (xss : List (List α)) : Ent :=
  ⟨fun k => ∃ h ∈ hs, ∃ a, h.1 = some a ∧ k = a.block, fun w => NestH e sz f w hs xss, fun _ _ hk hh => NestH.loc hk hh⟩
section
variable {e : TypeId} {sz : Nat} {α : Type} {f : α → List Value} {w : World} {w0 : World} {B : Nat}
def NestF (hs : List Hd) (xss : List (List α)) : Prop := hs.length = xss.length ∧ ∀ i, i < xss.length → (hs.getD i (none, 0, 0)).2.1 = (xss.getD i []).length ∧ (xss.getD i []).length ≤ (hs.getD i (none, 0, 0)).2.2
theorem NestH.facts : ∀ {hs : List Hd} {xss : List (List α)}, NestH e sz f w hs xss → NestF hs xss
  | [], [], _ => ⟨rfl, fun i hi => absurd hi (Nat.not_lt_zero _)⟩
  | h :: hs, xs :: xss, hh => by
    obtain ⟨⟨h1, h2, _⟩, _, h5⟩ := hh
    obtain ⟨r1, r2⟩ := h5.facts
    refine ⟨by simp [r1], fun i hi => ?_⟩
    cases i with
    | zero => simp only [List.getD_cons_zero]; omega
    | succ i => simp only [List.getD_cons_succ]; exact r2 i (by simpa using hi)
theorem NestH.at_ : ∀ {hs : List Hd} {xss : List (List α)}, NestH e sz f w hs xss → ∀ i, i < xss.length → At w (hs.getD i (none, 0, 0)).1 (cells f (xss.getD i []))
  | [], [], _, _, hi => absurd hi (Nat.not_lt_zero _)
  | [], _ :: _, hh, _, _ => hh.elim
  | _ :: _, [], hh, _, _ => hh.elim
  | h :: hs, xs :: xss, hh, i, hi => by
    obtain ⟨⟨h1, h2, c, h3⟩, _, h5⟩ := hh
    cases i with
    | zero => simp only [List.getD_cons_zero]; exact at_row h3
    | succ i => simp only [List.getD_cons_succ]; exact h5.at_ i (by simpa using hi)
theorem NestH.push {A : Option Addr} {n c k : Nat} {xs : List α} (hl : xs.length = n) (hc : n ≤ k) (hr : (row e sz A n c (cells f xs)).holds w) : ∀ {hs : List Hd} {xss : List (List α)}, NestH e sz f w hs xss → (∀ h ∈ hs, ∀ a a' : Addr, h.1 = some a → A = some a' → a.block ≠ a'.block) → NestH e sz f w (hs ++ [(A, n, k)]) (xss ++ [xs])
  | [], [], _, _ => ⟨⟨hl, hc, c, hr⟩, fun _ h => (by cases h), trivial⟩
  | h :: hs, xs' :: xss, hh, hd => by
    obtain ⟨h1, h4, h5⟩ := hh
    refine ⟨h1, fun h' hh' a a' e1 e2 => ?_, h5.push hl hc hr fun q hq => hd q (by simp [hq])⟩
    rcases List.mem_append.1 hh' with hx | hx
    · exact h4 h' hx a a' e1 e2
    · simp only [List.mem_singleton] at hx; subst hx; exact hd h (by simp) a a' e1 e2
theorem ss_nest0 {H : List Ent} (h : SS w0 B H w) : SS w0 B (nest e sz f [] [] :: H) w :=
  ⟨h.below, ⟨trivial, fun _ ⟨_, hh, _⟩ => (by cases hh), fun _ _ _ ⟨_, hh, _⟩ => (by cases hh), h.hp⟩, h.le⟩
theorem ss_push {H : List Ent} {hs : List Hd} {xss : List (List α)} {A : Option Addr} {n c k : Nat} {xs : List α} (h : SS w0 B (nest e sz f hs xss :: row e sz A n c (cells f xs) :: H) w) (hl : xs.length = n) (hc : n ≤ k) : SS w0 B (nest e sz f (hs ++ [(A, n, k)]) (xss ++ [xs]) :: H) w := by
  obtain ⟨hb, ⟨h1, h2, h3, h4, h5, h6, h7⟩, hle⟩ := h
  refine ⟨hb, ⟨NestH.push hl hc h4 h1 fun q hq a a' e1 e2 e3 => h3 _ (List.mem_cons_self ..) a.block ⟨q, hq, a, e1, rfl⟩ ⟨a', e2, e3⟩, fun j hj => ?_, fun x hx j hj => ?_, h7⟩, hle⟩
  · obtain ⟨q, hq, a, ha, rfl⟩ := hj
    rcases List.mem_append.1 hq with hx | hx
    · exact h2 _ ⟨q, hx, a, ha, rfl⟩
    · simp only [List.mem_singleton] at hx; subst hx; exact h5 _ ⟨a, ha, rfl⟩
  · obtain ⟨q, hq, a, ha, rfl⟩ := hj
    rcases List.mem_append.1 hq with hy | hy
    · exact h3 x (List.mem_cons_of_mem _ hx) _ ⟨q, hy, a, ha, rfl⟩
    · simp only [List.mem_singleton] at hy; subst hy; exact h6 x hx _ ⟨a, ha, rfl⟩
variable {n : Nat} {L : List (Nat × Value)} {H Hs : List Ent} {X : Act → World → Prop}
theorem ct_nest0 (e : TypeId) (sz : Nat) (f : α → List Value) (h : CT (St ds n w0 B L (nest e sz f [] [] :: H)) X) : CT (St ds n w0 B L H) X := fun a w hs => h a w ⟨hs.fr, ss_nest0 hs.ss⟩
theorem ct_push {H0 : List Ent} {hs : List Hd} {xss : List (List α)} {A : Option Addr} {m c k : Nat} {xs : List α} (kp : Keep H0 (nest e sz f hs xss :: row e sz A m c (cells f xs) :: H)) (hl : xs.length = m) (hc : m ≤ k) (h : CT (St ds n w0 B L (nest e sz f (hs ++ [(A, m, k)]) (xss ++ [xs]) :: H)) X) : CT (St ds n w0 B L H0) X := fun a w hs => h a w ⟨hs.fr, ss_push (kp.ss hs.ss) hl hc⟩
theorem ct_fact {p : Prop} (h : ∀ w, SS w0 B H w → p) (k : p → CT (St ds n w0 B L H) X) : CT (St ds n w0 B L H) X := fun a w hs => k (h w hs.ss) a w hs
theorem stg_fact {p : Prop} (h : ∀ w, SS w0 B Hs w → p) (k : p → CT (StG ds n w0 B L H Hs) X) : CT (StG ds n w0 B L H Hs) X := fun a w hs => k (h w hs.cl) a w hs
theorem holds_nest {hs : List Hd} {xss : List (List α)} {i : Nat} (h : nest e sz f hs xss ∈ H) (hi : i < xss.length) : Holds (SS w0 B H) (hs.getD i (none, 0, 0)).1 (cells f (xss.getD i [])) := fun _ hw => NestH.at_ (hw.hp.mem _ h) i hi
theorem nest_facts {hs : List Hd} {xss : List (List α)} (h : nest e sz f hs xss ∈ H) : ∀ w, SS w0 B H w → NestF hs xss := fun _ hw => NestH.facts (hw.hp.mem _ h)
theorem get_fLn {hs : List Hd} {xss : List (List α)} (hf : NestF hs xss) {i : Nat} (hi : i < xss.length) : (cells fL hs)[i * 1]? = some (.slice (hs.getD i (none, 0, 0)).1 (xss.getD i []).length (hs.getD i (none, 0, 0)).2.2) := by
  rw [get_fL (by rw [hf.1]; exact hi), (hf.2 i hi).1]
/-- the first elements of a row -/
theorem row_first {A : Option Addr} {m k c : Nat} {ys : List α} (hf : ∀ x, (f x).length = sz) (hk : k ≤ m) (h : (row e sz A m c (cells f ys)).holds w) : (row e sz A k c (cells f (ys.take k))).holds w := by
  have h1 := row_cut hk h
  have e1 : (cells f ys).take (k * sz) = cells f (ys.take k) := cells_take hf _
  rwa [e1] at h1
theorem ct_first {H0 : List Ent} {A : Option Addr} {m c k : Nat} {ys : List α} (kp : Keep H0 (row e sz A m c (cells f ys) :: H)) (hf : ∀ x, (f x).length = sz) (hk : k ≤ m) (h : CT (St ds n w0 B L (row e sz A k c (cells f (ys.take k)) :: H)) X) : CT (St ds n w0 B L H0) X := fun a w hs => by
  have h1 := kp.ss hs.ss
  exact h a w ⟨hs.fr, h1.below, ⟨row_first hf hk h1.hp.1, h1.hp.2.1, h1.hp.2.2.1, h1.hp.2.2.2⟩, h1.le⟩
end
theorem ov_neqE2 {P : Program} {L : List (Nat × Value)} {M : World → Prop} {x y : Operand} {d : Option Nat} {T U : TypeId} {pos : String} {af : Array Edge} {g : Option (Nat × Bool)} {a b a' b' : Int} {T' : TypeId} (hU : eqE P U 2 = true) (hx : ev L x = some (.agg #[.int .i64 a, .int .i64 b])) (hy : ev L y = some (.agg #[.int .i64 a', .int .i64 b'])) : OpV P L M ⟨d, .binOp .neq U x y T', T, pos, af, g⟩ (.bool (decide (¬(a = a' ∧ b = b')))) := fun ac w he _ => by
  have e := run_eqE hU (as_ := [a, b]) (bs := [a', b']) rfl rfl w
  simp only [List.map_cons, List.map_nil] at e
  have hg : P.eqGuardType P.depth U = false := by simp only [eqE, Bool.and_eq_true, Bool.not_eq_true'] at hU; exact hU.1
  simp only [execOp, he x _ hx, he y _ hy]
  simp [run_neq_struct, e, run_eqGuard_agg (P := P) w .neq U x y _ _ hg]
/-! ### append of zeros onto nil -/
theorem zero_cells (k : Nat) : (Builtin.zeroCells (Value.int .i64 0).cells k).toList = List.replicate k (.int .i64 0) := by
  have e : (Value.int .i64 0).cells = #[.int .i64 0] := rfl
  rw [e]; unfold Builtin.zeroCells
  apply List.ext_getElem
  · simp
  · intro j h1 h2; simp [Nat.mod_one]
theorem cells_zeros (k : Nat) : cells fI (List.replicate k 0) = List.replicate k (.int .i64 0) := by
  induction k with
  | zero => rfl
  | succ k ih => rw [List.replicate_succ, List.replicate_succ, ← ih]; rfl
theorem or_appendz {P : Program} {w0 : World} {B : Nat} {L : List (Nat × Value)} {H : List Ent} {U T2 e T : TypeId} {x y : Operand} {d : Option Nat} {pos : String} {af : Array Edge} {g : Option (Nat × Bool)} {k : Nat} {kn : IntKind} (hU : sliceI P U = some e) (hE : tyI P e = some (false, 1, 8, .int .i64 0)) (h2 : P.underlying T2 = some (.int kn))
    (hx : ev L x = some (.slice none 0 0)) (hy : ev L y = some (.int .i64 (k : Int))) (h0 : 0 < k) (hk : k ≤ 4000000) :
    OpR P L (SS w0 B H) ⟨d, .call { callee := .builtin .append, args := #[x, y], argTypes := #[U, T2] }, T, pos, af, g⟩ (fun v w' => ∃ A' c', k ≤ c' ∧ v = .slice A' k c' ∧ SS w0 B (row e 1 A' k c' (cells fI (List.replicate k 0)) :: H) w') :=
  OpR.of_run fun a w he hM => by
    obtain ⟨u, i, hu, hi, hg, hsz, hby, hzz⟩ := tyI_spec hE
    have hrun := Lib.run_append_nil_zeros (P := P) w U T2 T e i _ .i64 kn (sliceI_spec hU) h2 hi hzz k h0 (by omega) (by omega) (by rw [hby]; omega)
    refine ⟨_, w.drew.alloc (.cells (Builtin.zeroCells (Value.int .i64 0).cells k ++ Builtin.zeroCells (Value.int .i64 0).cells (grownCap w k 0 e - k)) e), ?_, some ⟨w.heap.size, 0, none⟩, grownCap w k 0 e, grownCap_ge w k 0 e, rfl, ?_⟩
    · simp only [execOp, resolve, invoke, builtin, Sem.run_bind, Sem.run_pure, Result.andThen_ok, List.map_toArray, List.map_cons, List.map_nil, he x _ hx, he y _ hy, hrun]
    · have hge := grownCap_ge w k 0 e
      refine hM.fresh ((Below.refl _ _).drew.alloc (Nat.le_refl _) _) ⟨?_, hge, grownCap_le_maxLen w k 0 e (by simp only [maxLen]; omega), .inr ⟨_, List.replicate (grownCap w k 0 e) (.int .i64 0), rfl, ?_, by simp, ?_⟩⟩ fun j ⟨a, ha, hj⟩ => ?_
      · rw [cells_length fI_len]; simp
      · have e2 : Builtin.zeroCells (Value.int .i64 0).cells k ++ Builtin.zeroCells (Value.int .i64 0).cells (grownCap w k 0 e - k) = (List.replicate (grownCap w k 0 e) (Value.int .i64 0)).toArray := by
          apply Array.toList_inj.1
          rw [Array.toList_append, zero_cells, zero_cells, List.replicate_append_replicate]
          congr 1; omega
        rw [e2]; exact heap_alloc_new _ _
      · rw [cells_zeros, List.take_replicate]; congr 1; omega
      · injection ha with ha; subst ha; subst hj
        refine ⟨Nat.le_refl _, ?_⟩
        show w.heap.size < (w.heap.push _).size
        rw [Array.size_push]; omega
theorem ov_cap {P : Program} {L : List (Nat × Value)} {M : World → Prop} {x : Operand} {d : Option Nat} {T U : TypeId} {pos : String} {af : Array Edge} {g : Option (Nat × Bool)} {E : TypeId} {A : Option Addr} {m c : Nat} (hU : P.underlying U = some (.slice E)) (hx : ev L x = some (.slice A m c)) :
    OpV P L M ⟨d, .call { callee := .builtin .cap, args := #[x], argTypes := #[U] }, T, pos, af, g⟩ (.int .i64 (c : Int)) := fun a w he _ => by
  simp only [execOp, resolve, invoke, builtin, Sem.run_bind, Sem.run_pure, Result.andThen_ok, List.map_toArray, List.map_cons, List.map_nil, he x _ hx, Builtin.cap_]
  simp [run_underlying hU, goInt]
/-- two slices, handed on together -/
theorem heads2 {w : World} {A1 A2 : Option Addr} {n1 c1 n2 c2 : Nat} {xs ys : List Int} (h1 : At w A1 (cells fI xs)) (h2 : At w A2 (cells fI ys)) (e1 : xs.length = n1) (e2 : ys.length = n2) (l1 : n1 ≤ c1) (l2 : n2 ≤ c2) : ∀ i, i < [xs, ys].length → At w (([(A1, n1, c1), (A2, n2, c2)] : List Hd).getD i (none, 0, 0)).1 (cells fI ([xs, ys].getD i [])) ∧ ([xs, ys].getD i []).length = (([(A1, n1, c1), (A2, n2, c2)] : List Hd).getD i (none, 0, 0)).2.1 ∧ (([(A1, n1, c1), (A2, n2, c2)] : List Hd).getD i (none, 0, 0)).2.1 ≤ (([(A1, n1, c1), (A2, n2, c2)] : List Hd).getD i (none, 0, 0)).2.2 := fun i hi => by
  match i with
  | 0 => exact ⟨h1, e1, l1⟩
  | 1 => exact ⟨h2, e2, l2⟩
  | i + 2 => simp at hi; omega
/-! ### pieces bound together; graphs in a list -/
section
variable {w0 : World} {B n : Nat} {L : List (Nat × Value)} {H H0 : List Ent} {X : Act → World → Prop}
def bun2 (e1 e2 : Ent) : Ent :=
  ⟨fun k => e1.foot k ∨ e2.foot k, fun w => e1.holds w ∧ e2.holds w ∧ ∀ k, e1.foot k → ¬ e2.foot k, fun w w' hk h => ⟨e1.loc w w' (fun k hf => hk k (.inl hf)) h.1, e2.loc w w' (fun k hf => hk k (.inr hf)) h.2.1, h.2.2⟩⟩
theorem ss_bun {w : World} {e1 e2 : Ent} (h : SS w0 B (e1 :: e2 :: H) w) : SS w0 B (bun2 e1 e2 :: H) w := by
  obtain ⟨hb, ⟨h1, h2, h3, h4, h5, h6, h7⟩, hle⟩ := h
  refine ⟨hb, ⟨⟨h1, h4, h3 e2 (List.mem_cons_self ..)⟩, fun k hk => hk.elim (h2 k) (h5 k), fun x hx k hk => ?_, h7⟩, hle⟩
  exact hk.elim (h3 x (List.mem_cons_of_mem _ hx) k) (h6 x hx k)
theorem ss_unbun {w : World} {e1 e2 : Ent} (h : SS w0 B (bun2 e1 e2 :: H) w) : SS w0 B (e1 :: e2 :: H) w := by
  obtain ⟨hb, ⟨⟨h1, h2, h3⟩, h4, h5, h6⟩, hle⟩ := h
  refine ⟨hb, ⟨h1, fun k hk => h4 k (.inl hk), fun x hx k hk => ?_, h2, fun k hk => h4 k (.inr hk), fun x hx k hk => h5 x hx k (.inr hk), h6⟩, hle⟩
  rcases List.mem_cons.1 hx with rfl | hx
  · exact h3 k hk
  · exact h5 x hx k (.inl hk)
theorem ss_second {w : World} {e1 e2 e3 : Ent} (h : SS w0 B (e1 :: e2 :: H) w) (k : ∀ H', SS w0 B (e2 :: H') w → SS w0 B (e3 :: H') w) : SS w0 B (e1 :: e3 :: H) w := by
  have h1 : SS w0 B (e2 :: e1 :: H) w := (Keep.cons (.tail .head) (.cons .head .refl)).ss h
  exact (Keep.cons (.tail .head) (.cons .head .refl)).ss (k _ h1)
theorem ss_bun3 {w : World} {e1 e2 e3 : Ent} (h : SS w0 B (e1 :: e2 :: e3 :: H) w) : SS w0 B (bun2 e1 (bun2 e2 e3) :: H) w := by
  have h1 : SS w0 B (e2 :: e3 :: e1 :: H) w := (Keep.cons (.tail .head) (.cons (.tail .head) (.cons .head .refl))).ss h
  have h2 : SS w0 B (e1 :: bun2 e2 e3 :: H) w := (Keep.cons (.tail .head) (.cons .head .refl)).ss (ss_bun h1)
  exact ss_bun h2
theorem ss_unbun3 {w : World} {e1 e2 e3 : Ent} (h : SS w0 B (bun2 e1 (bun2 e2 e3) :: H) w) : SS w0 B (e1 :: e2 :: e3 :: H) w := by
  have h1 : SS w0 B (bun2 e2 e3 :: e1 :: H) w := (Keep.cons (.tail .head) (.cons .head .refl)).ss (ss_unbun h)
  exact (Keep.cons (.tail (.tail .head)) (.cons .head (.cons .head .refl))).ss (ss_unbun h1)
theorem ct_bun3 {e1 e2 e3 : Ent} (kp : Keep H0 (e1 :: e2 :: e3 :: H)) (h : CT (St ds n w0 B L (bun2 e1 (bun2 e2 e3) :: H)) X) : CT (St ds n w0 B L H0) X := fun a w hs => h a w ⟨hs.fr, ss_bun3 (kp.ss hs.ss)⟩
theorem ct_unbun3 {e1 e2 e3 : Ent} (kp : Keep H0 (bun2 e1 (bun2 e2 e3) :: H)) (h : CT (St ds n w0 B L (e1 :: e2 :: e3 :: H)) X) : CT (St ds n w0 B L H0) X := fun a w hs => h a w ⟨hs.fr, ss_unbun3 (kp.ss hs.ss)⟩
theorem row_room {w : World} {e : TypeId} {s : Nat} {A : Option Addr} {m c : Nat} {cs : List Value} (h : (row e s A m c cs).holds w) : m ≤ c := h.2.1
theorem room_fact {e : TypeId} {s : Nat} {A : Option Addr} {m c : Nat} {cs : List Value} (h : row e s A m c cs ∈ H) : ∀ w, SS w0 B H w → m ≤ c := fun _ hw => row_room (hw.hp.mem _ h)
end
/-- the heads of graphs on m vertices -/
def gsOf (m : Nat) (hs : List Hd) : List (Int × Option Addr × Nat × Nat) := hs.map fun h => ((m : Int), h)
theorem gsOf_length (m : Nat) (hs : List Hd) : (gsOf m hs).length = hs.length := List.length_map ..
theorem gsOf_app (m : Nat) (hs hs' : List Hd) : gsOf m (hs ++ hs') = gsOf m hs ++ gsOf m hs' := List.map_append ..
theorem elem_fG {α : Type} {m : Nat} {hs : List Hd} {xss : List (List α)} (hf : NestF hs xss) {i : Nat} (hi : i < xss.length) : ((cells fG (gsOf m hs)).drop (i * 2)).take 2 = [.int .i64 ((m : Nat) : Int), .slice (hs.getD i (none, 0, 0)).1 (xss.getD i []).length (hs.getD i (none, 0, 0)).2.2] := by
  have hi2 : i < hs.length := by rw [hf.1]; exact hi
  rw [cells_elem fG_len (0, none, 0, 0) (by rw [gsOf_length]; exact hi2), ← (hf.2 i hi).1]
  have e : (gsOf m hs).getD i (0, none, 0, 0) = ((m : Int), hs.getD i (none, 0, 0)) := by simp [gsOf, hi2]
  rw [e]; rfl
theorem elem_fG0 {m : Nat} {hs : List Hd} {n i : Nat} (hi : i < hs.length) (he : n = (hs.getD i (none, 0, 0)).2.1) : ((cells fG (gsOf m hs)).drop (i * 2)).take 2 = [.int .i64 ((m : Nat) : Int), .slice (hs.getD i (none, 0, 0)).1 n (hs.getD i (none, 0, 0)).2.2] := by
  rw [cells_elem fG_len (0, none, 0, 0) (by rw [gsOf_length]; exact hi), he]
  have e : (gsOf m hs).getD i (0, none, 0, 0) = ((m : Int), hs.getD i (none, 0, 0)) := by simp [gsOf, hi]
  rw [e]; rfl
theorem gs_at {α : Type} {m : Nat} {hs : List Hd} {xss : List (List α)} (hf : NestF hs xss) {i : Nat} (hi : i < xss.length) : fG ((gsOf m hs).getD i (0, none, 0, 0)) = [.int .i64 ((m : Nat) : Int), .slice (hs.getD i (none, 0, 0)).1 (xss.getD i []).length (hs.getD i (none, 0, 0)).2.2] := by
  have hi2 : i < hs.length := by rw [hf.1]; exact hi
  have e : (gsOf m hs).getD i (0, none, 0, 0) = ((m : Int), hs.getD i (none, 0, 0)) := by simp [gsOf, hi2]
  rw [e, ← (hf.2 i hi).1]; rfl
section
variable {e : TypeId} {sz : Nat} {α : Type} {f : α → List Value} {w : World} {w0 : World} {B n : Nat} {L : List (Nat × Value)} {H H0 : List Ent} {X : Act → World → Prop}
theorem NestH.pull : ∀ {hs : List Hd} {xss : List (List α)}, NestH e sz f w hs xss → ∀ i, i < xss.length → ∃ c, (row e sz (hs.getD i (none, 0, 0)).1 (hs.getD i (none, 0, 0)).2.1 c (cells f (xss.getD i []))).holds w
  | [], [], _, _, hi => absurd hi (Nat.not_lt_zero _)
  | [], _ :: _, hh, _, _ => hh.elim
  | _ :: _, [], hh, _, _ => hh.elim
  | h :: hs, xs :: xss, hh, i, hi => by
    obtain ⟨⟨h1, h2, c, h3⟩, _, h5⟩ := hh
    cases i with
    | zero => exact ⟨c, h3⟩
    | succ i => obtain ⟨c', h'⟩ := h5.pull i (by simpa using hi); exact ⟨c', h'⟩
/-- one row out of a nest; the others are left behind -/
theorem ct_pull {hs : List Hd} {xss : List (List α)} {i : Nat} (kp : Keep H0 (nest e sz f hs xss :: H)) (hi : i < xss.length) (h : ∀ c, CT (St ds n w0 B L (row e sz (hs.getD i (none, 0, 0)).1 (xss.getD i []).length c (cells f (xss.getD i [])) :: H)) X) : CT (St ds n w0 B L H0) X := fun a w hs_ => by
  have h1 := kp.ss hs_.ss
  obtain ⟨hb, ⟨h2, h3, h4, h5⟩, hle⟩ := h1
  obtain ⟨c, hc⟩ := NestH.pull h2 i hi
  have hf := NestH.facts h2
  rw [(hf.2 i hi).1] at hc
  have hm : hs.getD i (none, 0, 0) ∈ hs := by
    have hi2 : i < hs.length := by rw [hf.1]; exact hi
    rw [List.getD_eq_getElem?_getD, List.getElem?_eq_getElem hi2]; exact List.getElem_mem _
  refine h c a w ⟨hs_.fr, hb, ⟨hc, fun k hk => ?_, fun x hx k hk => ?_, h5⟩, hle⟩
  · obtain ⟨q, hq, rfl⟩ := hk; exact h3 _ ⟨_, hm, q, hq, rfl⟩
  · obtain ⟨q, hq, rfl⟩ := hk; exact h4 x hx _ ⟨_, hm, q, hq, rfl⟩
theorem NestH.app : ∀ {hs hs' : List Hd} {xss xss' : List (List α)}, NestH e sz f w hs xss → NestH e sz f w hs' xss' → (∀ h ∈ hs, ∀ h' ∈ hs', ∀ a a' : Addr, h.1 = some a → h'.1 = some a' → a.block ≠ a'.block) → NestH e sz f w (hs ++ hs') (xss ++ xss')
  | [], _, [], _, _, h2, _ => h2
  | [], _, _ :: _, _, h1, _, _ => h1.elim
  | _ :: _, _, [], _, h1, _, _ => h1.elim
  | h :: hs, hs', xs :: xss, xss', h1, h2, hd => by
    obtain ⟨a1, a2, a3⟩ := h1
    refine ⟨a1, fun h' hh' a a' e1 e2 => ?_, a3.app h2 fun q hq => hd q (by simp [hq])⟩
    rcases List.mem_append.1 hh' with hx | hx
    · exact a2 h' hx a a' e1 e2
    · exact hd h (by simp) h' hx a a' e1 e2
/-- two nests are one -/
theorem ss_nestapp {hs hs' : List Hd} {xss xss' : List (List α)} (h : SS w0 B (nest e sz f hs xss :: nest e sz f hs' xss' :: H) w) : SS w0 B (nest e sz f (hs ++ hs') (xss ++ xss') :: H) w := by
  obtain ⟨hb, ⟨h1, h2, h3, h4, h5, h6, h7⟩, hle⟩ := h
  refine ⟨hb, ⟨NestH.app h1 h4 fun q hq q' hq' a a' e1 e2 e3 => h3 _ (List.mem_cons_self ..) a.block ⟨q, hq, a, e1, rfl⟩ ⟨q', hq', a', e2, e3⟩, fun j hj => ?_, fun x hx j hj => ?_, h7⟩, hle⟩
  · obtain ⟨q, hq, a, ha, rfl⟩ := hj
    rcases List.mem_append.1 hq with hx | hx
    · exact h2 _ ⟨q, hx, a, ha, rfl⟩
    · exact h5 _ ⟨q, hx, a, ha, rfl⟩
  · obtain ⟨q, hq, a, ha, rfl⟩ := hj
    rcases List.mem_append.1 hq with hy | hy
    · exact h3 x (List.mem_cons_of_mem _ hx) _ ⟨q, hy, a, ha, rfl⟩
    · exact h6 x hx _ ⟨q, hy, a, ha, rfl⟩
theorem ct_nestapp {hs hs' : List Hd} {xss xss' : List (List α)} (kp : Keep H0 (nest e sz f hs xss :: nest e sz f hs' xss' :: H)) (h : CT (St ds n w0 B L (nest e sz f (hs ++ hs') (xss ++ xss') :: H)) X) : CT (St ds n w0 B L H0) X := fun a w hs_ => h a w ⟨hs_.fr, ss_nestapp (kp.ss hs_.ss)⟩
end
/-! ### late operations that wait for number i by way of others -/
section
variable {P : Program} {ops : Array Oper} {Q : Exit → Act → World → Prop} {late : List Nat} {C : World → Prop}
/-- each of these waits for number i or for another of them -/
def depOk (ops : Array Oper) (dep : List Nat) (listed : Array Bool) (i : Nat) : Bool :=
  dep.all fun j => !listed.getD j true && match ops[j]? with
    | some o => o.after.any fun e => Region.binds .any e && (e.on == i || (dep.contains e.on && e.on != j))
    | none => false
theorem wpG_firstc {i : Nat} {oi : Oper} {v : Value} (dep : List Nat) (hi : ops[i]? = some oi) (hsel : ∀ (j : Nat) (o : Oper) cs b, ops[j]? = some o → o.op ≠ .select cs b) (hQ : ∀ c a w, Q (.panic c) (a.put oi.dst v) w → Q (.panic c) a w) (hlate : ∀ j, late.contains j = true → dep.contains j = true) :
    ∀ (fuel : Nat) (listed : Array Bool) (a : Act) (w : World), depOk ops dep listed i = true →
      (∀ j oj, ops[j]? = some oj → j ≠ i → listed.getD j true = false → (∀ e ∈ oj.after, Region.binds .any e = true → e.on ≠ i) → oi.apart ops oj = true) → late.contains i = false →
      i ∈ Region.ready .any ops listed → YieldsIf P ops C oi v a → C w → wpG P ops Q late C fuel (listed.setIfInBounds i true) (a.put oi.dst v) w → wpG P ops Q late C (fuel + 1) listed a w := by
  intro fuel
  have key : ∀ {listed : Array Bool} {j : Nat}, depOk ops dep listed i = true → i ∈ Region.ready .any ops listed → j ∈ Region.ready .any ops listed → dep.contains j = false := by
    intro listed j hd hr hj
    rw [← Bool.not_eq_true]
    intro hc
    simp only [depOk, List.all_eq_true] at hd
    have h1 := hd j (by simpa using hc)
    obtain ⟨_, oj, hoj, hall⟩ := mem_ready.1 hj
    rw [hoj, Bool.and_eq_true] at h1
    simp only [Array.any_eq_true'] at h1
    obtain ⟨_, e, he, h2⟩ := h1
    simp only [Bool.and_eq_true, Bool.or_eq_true, beq_iff_eq, bne_iff_ne] at h2
    have h3 := hall e he h2.1
    have hun : ∀ k, listed.getD k true = false → listed.getD k false = true → False := fun k h4 h5 => by
      rw [Array.getD_eq_getD_getElem?] at h4 h5
      rcases hq : listed[k]? with _ | b
      · rw [hq] at h4; cases h4
      · rw [hq] at h4 h5; simp at h4 h5; rw [h4] at h5; cases h5
    rcases h2.2 with h4 | ⟨h4, _⟩
    · rw [h4] at h3; exact hun i (mem_ready.1 hr).1 h3
    · have h5 := hd e.on (by simpa using h4)
      rw [Bool.and_eq_true, Bool.not_eq_true'] at h5
      exact hun e.on h5.1 h3
  induction fuel with
  | zero =>
    intro listed a w hd _ hl hr hy hC H
    refine ⟨fun h => (by rw [h] at hr; cases hr), fun j hj => ?_⟩
    by_cases hji : j = i
    · subst hji
      refine hy.wpOp hi hC ?_
      rw [if_neg (by rw [hl]; simp)]
      exact ⟨hC, H⟩
    · have := ready_mono hj hji
      rw [H.1] at this
      cases this
  | succ fuel ih =>
    intro listed a w hd hfree hl hr hy hC H
    refine ⟨fun h => (by rw [h] at hr; cases hr), fun j hj => ?_⟩
    by_cases hji : j = i
    · subst hji
      refine hy.wpOp hi hC ?_
      rw [if_neg (by rw [hl]; simp)]
      exact ⟨hC, H⟩
    · have hjd := key hd hr hj
      have h1 := H.2 j (ready_mono hj hji)
      obtain ⟨hjun, oj, hoj, hall⟩ := mem_ready.1 hj
      have hnot : ∀ e ∈ oj.after, Region.binds .any e = true → e.on ≠ i := fun e he hb heq => by
        have h1 := hall e he hb
        have h0 := (mem_ready.1 hr).1
        rw [heq] at h1
        rcases Nat.lt_or_ge i listed.size with h' | h'
        · simp [h'] at h0 h1; rw [h0] at h1; cases h1
        · simp [Array.getElem?_eq_none h'] at h1
      have hap := hfree j oj hoj hji hjun hnot
      have hlj : late.contains j = false := by
        rw [← Bool.not_eq_true]; intro hc; rw [hlate j hc] at hjd; cases hjd
      have h2 := wpOp_putIf hoj hap (fun cs b => hsel i oi cs b hi) (fun cs b => hsel j oj cs b hoj) hQ hy h1
      refine wpOp_mono (fun a' w' h3 => ?_) h2
      obtain ⟨h4, h5⟩ := h3
      rw [if_neg (by rw [hlj]; simp)] at h5 ⊢
      refine ⟨h5.1, ih (listed.setIfInBounds j true) a' w' ?_ (fun k ok hk hki hun hno => ?_) hl (ready_mono hr (Ne.symm hji)) h4 h5.1 ?_⟩
      · simp only [depOk, List.all_eq_true, Bool.and_eq_true] at hd ⊢
        intro k hk
        have hkj : j ≠ k := fun e => by subst e; rw [show dep.contains j = true by simpa using hk] at hjd; cases hjd
        rw [getD_set_ne true hkj]
        exact hd k hk
      · refine hfree k ok hk hki ?_ hno
        by_cases hjk : j = k
        · subst hjk; exact hjun
        · rw [getD_set_ne true hjk] at hun; exact hun
      · rw [Array.setIfInBounds_comm _ _ hji]
        exact h5.2
end
section
variable {P : Program} {Q : Exit → Act → World → Prop} {K : Act → World → Prop} {n m fuel : Nat} {w0 : World} {B : Nat} {L : List (Nat × Value)} {H Hs : List Ent} {l : List Oper} {late done : List Nat} {o : Oper} {i d : Nat} {v : Value}
def lateIn (late dep : List Nat) (i : Nat) : Bool := !late.contains i && late.all fun j => dep.contains j
theorem wg_takec (dep : List Nat) (hi : l.toArray[i]? = some o) (h : OpV P L (SS w0 B Hs) o v) (hg : o.guard = none) (hd : o.dst = some d) (hlt : Nat.blt d n = true) (hs : Region.noSelect l.toArray = true) (hf : Region.free .any l.toArray (set1 m done) i = true) (hr : (Region.ready .any l.toArray (set1 m done)).contains i = true) (hl : (lateIn late dep i && depOk l.toArray dep (set1 m done) i) = true)
    (k : CT (StG ds n w0 B ((d, v) :: L) H Hs) (wpG P l.toArray (onlyN K) late (SS w0 B Hs) fuel (set1 m (i :: done)))) : CT (StG ds n w0 B L H Hs) (wpG P l.toArray (onlyN K) late (SS w0 B Hs) (fuel + 1) (set1 m done)) := fun a w hst => by
  rw [Bool.and_eq_true, lateIn, Bool.and_eq_true, Bool.not_eq_true', List.all_eq_true] at hl
  exact wpG_firstc dep hi (Region.noSelect_spec hs) (fun _ _ _ h => h) (fun j hj => hl.1.2 j (by simpa using hj)) fuel _ a w hl.2 (fun j oj hj hne hun hno => Region.free_spec hi hf j oj hj hne hun hno) hl.1.1 (by simpa using hr) (.inl ⟨by simp [Region.wanted, hg], fun w' hw' => h a w' (fun x u hx => hst.st.fr.eval hx) hw'⟩) hst.cl (k _ _ ⟨⟨put_dst hst.st.fr hd hlt v, hst.st.ss⟩, hst.cl⟩)
theorem wg_takec_if {p : Prop} [Decidable p] (dep : List Nat) (hi : l.toArray[i]? = some o) (h : OpV P L (SS w0 B Hs) o (.bool (decide p))) (hg : o.guard = none) (hd : o.dst = some d) (hlt : Nat.blt d n = true) (hs : Region.noSelect l.toArray = true) (hf : Region.free .any l.toArray (set1 m done) i = true) (hr : (Region.ready .any l.toArray (set1 m done)).contains i = true) (hl : (lateIn late dep i && depOk l.toArray dep (set1 m done) i) = true)
    (k1 : p → CT (StG ds n w0 B ((d, .bool true) :: L) H Hs) (wpG P l.toArray (onlyN K) late (SS w0 B Hs) fuel (set1 m (i :: done)))) (k2 : ¬ p → CT (StG ds n w0 B ((d, .bool false) :: L) H Hs) (wpG P l.toArray (onlyN K) late (SS w0 B Hs) fuel (set1 m (i :: done)))) :
    CT (StG ds n w0 B L H Hs) (wpG P l.toArray (onlyN K) late (SS w0 B Hs) (fuel + 1) (set1 m done)) := by
  by_cases hp : p
  · have e : decide p = true := by simp [hp]
    rw [e] at h; exact wg_takec dep hi h hg hd hlt hs hf hr hl (k1 hp)
  · have e : decide p = false := by simp [hp]
    rw [e] at h; exact wg_takec dep hi h hg hd hlt hs hf hr hl (k2 hp)
end
end Go.Sx
