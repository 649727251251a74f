/- Still more of the small logic: matrices (rows that a list of slices names, told from outside), a row out of a nest and back, stores into nested rows, calls that hand back more. Conditions: those of each theorem. -/
import Derived.Test.YtkkllkkjdbpjpaaSz
import Derived.ArgAppend
namespace Go.Sx
open Go.RowKit
variable {ds : List Deferred}
section
variable {P : Program} {n d : Nat} {w0 : World} {B : Nat} {L : List (Nat × Value)} {H : List Ent} {X : Act → World → Prop}
theorem kt7p {α1 α2 α3 α4 α5 α6 α7 : Type} {φ : α1 → α2 → α3 → α4 → α5 → α6 → α7 → Prop} {V : α1 → α2 → α3 → α4 → α5 → α6 → α7 → Value} {H' : α1 → α2 → α3 → α4 → α5 → α6 → α7 → List Ent} (hlt : Nat.blt d n = true) (k : ∀ x1 x2 x3 x4 x5 x6 x7, φ x1 x2 x3 x4 x5 x6 x7 → CT (St ds n w0 B ((d, V x1 x2 x3 x4 x5 x6 x7) :: L) (H' x1 x2 x3 x4 x5 x6 x7)) X) : KT ds n d L (fun v w' => ∃ x1 x2 x3 x4 x5 x6 x7, φ x1 x2 x3 x4 x5 x6 x7 ∧ v = V x1 x2 x3 x4 x5 x6 x7 ∧ SS w0 B (H' x1 x2 x3 x4 x5 x6 x7) w') X := by
  rintro v w' ⟨x1, x2, x3, x4, x5, x6, x7, hx, rfl, hs⟩ a ha
  exact k _ _ _ _ _ _ _ hx _ _ ⟨ha.put (by simpa [Nat.blt_eq] using hlt) _, hs⟩
theorem kt8p {α1 α2 α3 α4 α5 α6 α7 α8 : Type} {φ : α1 → α2 → α3 → α4 → α5 → α6 → α7 → α8 → Prop} {V : α1 → α2 → α3 → α4 → α5 → α6 → α7 → α8 → Value} {H' : α1 → α2 → α3 → α4 → α5 → α6 → α7 → α8 → List Ent} (hlt : Nat.blt d n = true) (k : ∀ x1 x2 x3 x4 x5 x6 x7 x8, φ x1 x2 x3 x4 x5 x6 x7 x8 → CT (St ds n w0 B ((d, V x1 x2 x3 x4 x5 x6 x7 x8) :: L) (H' x1 x2 x3 x4 x5 x6 x7 x8)) X) : KT ds n d L (fun v w' => ∃ x1 x2 x3 x4 x5 x6 x7 x8, φ x1 x2 x3 x4 x5 x6 x7 x8 ∧ v = V x1 x2 x3 x4 x5 x6 x7 x8 ∧ SS w0 B (H' x1 x2 x3 x4 x5 x6 x7 x8) w') X := by
  rintro v w' ⟨x1, x2, x3, x4, x5, x6, x7, x8, hx, rfl, hs⟩ a ha
  exact k _ _ _ _ _ _ _ _ hx _ _ ⟨ha.put (by simpa [Nat.blt_eq] using hlt) _, hs⟩
theorem kt9p {α1 α2 α3 α4 α5 α6 α7 α8 α9 : Type} {φ : α1 → α2 → α3 → α4 → α5 → α6 → α7 → α8 → α9 → Prop} {V : α1 → α2 → α3 → α4 → α5 → α6 → α7 → α8 → α9 → Value} {H' : α1 → α2 → α3 → α4 → α5 → α6 → α7 → α8 → α9 → List Ent} (hlt : Nat.blt d n = true) (k : ∀ x1 x2 x3 x4 x5 x6 x7 x8 x9, φ x1 x2 x3 x4 x5 x6 x7 x8 x9 → CT (St ds n w0 B ((d, V x1 x2 x3 x4 x5 x6 x7 x8 x9) :: L) (H' x1 x2 x3 x4 x5 x6 x7 x8 x9)) X) : KT ds n d L (fun v w' => ∃ x1 x2 x3 x4 x5 x6 x7 x8 x9, φ x1 x2 x3 x4 x5 x6 x7 x8 x9 ∧ v = V x1 x2 x3 x4 x5 x6 x7 x8 x9 ∧ SS w0 B (H' x1 x2 x3 x4 x5 x6 x7 x8 x9) w') X := by
  rintro v w' ⟨x1, x2, x3, x4, x5, x6, x7, x8, x9, hx, rfl, hs⟩ a ha
  exact k _ _ _ _ _ _ _ _ _ hx _ _ ⟨ha.put (by simpa [Nat.blt_eq] using hlt) _, hs⟩
theorem kt10p {α1 α2 α3 α4 α5 α6 α7 α8 α9 α10 : Type} {φ : α1 → α2 → α3 → α4 → α5 → α6 → α7 → α8 → α9 → α10 → Prop} {V : α1 → α2 → α3 → α4 → α5 → α6 → α7 → α8 → α9 → α10 → Value} {H' : α1 → α2 → α3 → α4 → α5 → α6 → α7 → α8 → α9 → α10 → List Ent} (hlt : Nat.blt d n = true) (k : ∀ x1 x2 x3 x4 x5 x6 x7 x8 x9 x10, φ x1 x2 x3 x4 x5 x6 x7 x8 x9 x10 → CT (St ds n w0 B ((d, V x1 x2 x3 x4 x5 x6 x7 x8 x9 x10) :: L) (H' x1 x2 x3 x4 x5 x6 x7 x8 x9 x10)) X) : KT ds n d L (fun v w' => ∃ x1 x2 x3 x4 x5 x6 x7 x8 x9 x10, φ x1 x2 x3 x4 x5 x6 x7 x8 x9 x10 ∧ v = V x1 x2 x3 x4 x5 x6 x7 x8 x9 x10 ∧ SS w0 B (H' x1 x2 x3 x4 x5 x6 x7 x8 x9 x10) w') X := by
  rintro v w' ⟨x1, x2, x3, x4, x5, x6, x7, x8, x9, x10, hx, rfl, hs⟩ a ha
  exact k _ _ _ _ _ _ _ _ _ _ hx _ _ ⟨ha.put (by simpa [Nat.blt_eq] using hlt) _, hs⟩
theorem kt11p {α1 α2 α3 α4 α5 α6 α7 α8 α9 α10 α11 : Type} {φ : α1 → α2 → α3 → α4 → α5 → α6 → α7 → α8 → α9 → α10 → α11 → Prop} {V : α1 → α2 → α3 → α4 → α5 → α6 → α7 → α8 → α9 → α10 → α11 → Value} {H' : α1 → α2 → α3 → α4 → α5 → α6 → α7 → α8 → α9 → α10 → α11 → List Ent} (hlt : Nat.blt d n = true) (k : ∀ x1 x2 x3 x4 x5 x6 x7 x8 x9 x10 x11, φ x1 x2 x3 x4 x5 x6 x7 x8 x9 x10 x11 → CT (St ds n w0 B ((d, V x1 x2 x3 x4 x5 x6 x7 x8 x9 x10 x11) :: L) (H' x1 x2 x3 x4 x5 x6 x7 x8 x9 x10 x11)) X) : KT ds n d L (fun v w' => ∃ x1 x2 x3 x4 x5 x6 x7 x8 x9 x10 x11, φ x1 x2 x3 x4 x5 x6 x7 x8 x9 x10 x11 ∧ v = V x1 x2 x3 x4 x5 x6 x7 x8 x9 x10 x11 ∧ SS w0 B (H' x1 x2 x3 x4 x5 x6 x7 x8 x9 x10 x11) w') X := by
  rintro v w' ⟨x1, x2, x3, x4, x5, x6, x7, x8, x9, x10, x11, hx, rfl, hs⟩ a ha
  exact k _ _ _ _ _ _ _ _ _ _ _ hx _ _ ⟨ha.put (by simpa [Nat.blt_eq] using hlt) _, hs⟩
theorem call_x7 {α1 α2 α3 α4 α5 α6 α7 : Type} {F : FuncId} {as_ : Array Value} {φ : α1 → α2 → α3 → α4 → α5 → α6 → α7 → Prop} {V : α1 → α2 → α3 → α4 → α5 → α6 → α7 → Value} {N : α1 → α2 → α3 → α4 → α5 → α6 → α7 → List Ent} (h : ∀ w, SS w0 B H w → Calls P F as_ w (Ret fun v w' => ∃ x1 x2 x3 x4 x5 x6 x7, φ x1 x2 x3 x4 x5 x6 x7 ∧ v = V x1 x2 x3 x4 x5 x6 x7 ∧ New w w' (N x1 x2 x3 x4 x5 x6 x7))) : ∀ w, SS w0 B H w → Calls P F as_ w (Ret fun v w' => ∃ x1 x2 x3 x4 x5 x6 x7, φ x1 x2 x3 x4 x5 x6 x7 ∧ v = V x1 x2 x3 x4 x5 x6 x7 ∧ SS w0 B (N x1 x2 x3 x4 x5 x6 x7 ++ H) w') :=
  fun w hw => (h w hw).mono fun _ _ ⟨v, he, x1, x2, x3, x4, x5, x6, x7, hx, hv, hn⟩ => ⟨v, he, x1, x2, x3, x4, x5, x6, x7, hx, hv, hw.new hn⟩
theorem call_x8 {α1 α2 α3 α4 α5 α6 α7 α8 : Type} {F : FuncId} {as_ : Array Value} {φ : α1 → α2 → α3 → α4 → α5 → α6 → α7 → α8 → Prop} {V : α1 → α2 → α3 → α4 → α5 → α6 → α7 → α8 → Value} {N : α1 → α2 → α3 → α4 → α5 → α6 → α7 → α8 → List Ent} (h : ∀ w, SS w0 B H w → Calls P F as_ w (Ret fun v w' => ∃ x1 x2 x3 x4 x5 x6 x7 x8, φ x1 x2 x3 x4 x5 x6 x7 x8 ∧ v = V x1 x2 x3 x4 x5 x6 x7 x8 ∧ New w w' (N x1 x2 x3 x4 x5 x6 x7 x8))) : ∀ w, SS w0 B H w → Calls P F as_ w (Ret fun v w' => ∃ x1 x2 x3 x4 x5 x6 x7 x8, φ x1 x2 x3 x4 x5 x6 x7 x8 ∧ v = V x1 x2 x3 x4 x5 x6 x7 x8 ∧ SS w0 B (N x1 x2 x3 x4 x5 x6 x7 x8 ++ H) w') :=
  fun w hw => (h w hw).mono fun _ _ ⟨v, he, x1, x2, x3, x4, x5, x6, x7, x8, hx, hv, hn⟩ => ⟨v, he, x1, x2, x3, x4, x5, x6, x7, x8, hx, hv, hw.new hn⟩
theorem call_x9 {α1 α2 α3 α4 α5 α6 α7 α8 α9 : Type} {F : FuncId} {as_ : Array Value} {φ : α1 → α2 → α3 → α4 → α5 → α6 → α7 → α8 → α9 → Prop} {V : α1 → α2 → α3 → α4 → α5 → α6 → α7 → α8 → α9 → Value} {N : α1 → α2 → α3 → α4 → α5 → α6 → α7 → α8 → α9 → List Ent} (h : ∀ w, SS w0 B H w → Calls P F as_ w (Ret fun v w' => ∃ x1 x2 x3 x4 x5 x6 x7 x8 x9, φ x1 x2 x3 x4 x5 x6 x7 x8 x9 ∧ v = V x1 x2 x3 x4 x5 x6 x7 x8 x9 ∧ New w w' (N x1 x2 x3 x4 x5 x6 x7 x8 x9))) : ∀ w, SS w0 B H w → Calls P F as_ w (Ret fun v w' => ∃ x1 x2 x3 x4 x5 x6 x7 x8 x9, φ x1 x2 x3 x4 x5 x6 x7 x8 x9 ∧ v = V x1 x2 x3 x4 x5 x6 x7 x8 x9 ∧ SS w0 B (N x1 x2 x3 x4 x5 x6 x7 x8 x9 ++ H) w') :=
  fun w hw => (h w hw).mono fun _ _ ⟨v, he, x1, x2, x3, x4, x5, x6, x7, x8, x9, hx, hv, hn⟩ => ⟨v, he, x1, x2, x3, x4, x5, x6, x7, x8, x9, hx, hv, hw.new hn⟩
theorem call_x10 {α1 α2 α3 α4 α5 α6 α7 α8 α9 α10 : Type} {F : FuncId} {as_ : Array Value} {φ : α1 → α2 → α3 → α4 → α5 → α6 → α7 → α8 → α9 → α10 → Prop} {V : α1 → α2 → α3 → α4 → α5 → α6 → α7 → α8 → α9 → α10 → Value} {N : α1 → α2 → α3 → α4 → α5 → α6 → α7 → α8 → α9 → α10 → List Ent} (h : ∀ w, SS w0 B H w → Calls P F as_ w (Ret fun v w' => ∃ x1 x2 x3 x4 x5 x6 x7 x8 x9 x10, φ x1 x2 x3 x4 x5 x6 x7 x8 x9 x10 ∧ v = V x1 x2 x3 x4 x5 x6 x7 x8 x9 x10 ∧ New w w' (N x1 x2 x3 x4 x5 x6 x7 x8 x9 x10))) : ∀ w, SS w0 B H w → Calls P F as_ w (Ret fun v w' => ∃ x1 x2 x3 x4 x5 x6 x7 x8 x9 x10, φ x1 x2 x3 x4 x5 x6 x7 x8 x9 x10 ∧ v = V x1 x2 x3 x4 x5 x6 x7 x8 x9 x10 ∧ SS w0 B (N x1 x2 x3 x4 x5 x6 x7 x8 x9 x10 ++ H) w') :=
  fun w hw => (h w hw).mono fun _ _ ⟨v, he, x1, x2, x3, x4, x5, x6, x7, x8, x9, x10, hx, hv, hn⟩ => ⟨v, he, x1, x2, x3, x4, x5, x6, x7, x8, x9, x10, hx, hv, hw.new hn⟩
theorem call_x11 {α1 α2 α3 α4 α5 α6 α7 α8 α9 α10 α11 : Type} {F : FuncId} {as_ : Array Value} {φ : α1 → α2 → α3 → α4 → α5 → α6 → α7 → α8 → α9 → α10 → α11 → Prop} {V : α1 → α2 → α3 → α4 → α5 → α6 → α7 → α8 → α9 → α10 → α11 → Value} {N : α1 → α2 → α3 → α4 → α5 → α6 → α7 → α8 → α9 → α10 → α11 → List Ent} (h : ∀ w, SS w0 B H w → Calls P F as_ w (Ret fun v w' => ∃ x1 x2 x3 x4 x5 x6 x7 x8 x9 x10 x11, φ x1 x2 x3 x4 x5 x6 x7 x8 x9 x10 x11 ∧ v = V x1 x2 x3 x4 x5 x6 x7 x8 x9 x10 x11 ∧ New w w' (N x1 x2 x3 x4 x5 x6 x7 x8 x9 x10 x11))) : ∀ w, SS w0 B H w → Calls P F as_ w (Ret fun v w' => ∃ x1 x2 x3 x4 x5 x6 x7 x8 x9 x10 x11, φ x1 x2 x3 x4 x5 x6 x7 x8 x9 x10 x11 ∧ v = V x1 x2 x3 x4 x5 x6 x7 x8 x9 x10 x11 ∧ SS w0 B (N x1 x2 x3 x4 x5 x6 x7 x8 x9 x10 x11 ++ H) w') :=
  fun w hw => (h w hw).mono fun _ _ ⟨v, he, x1, x2, x3, x4, x5, x6, x7, x8, x9, x10, x11, hx, hv, hn⟩ => ⟨v, he, x1, x2, x3, x4, x5, x6, x7, x8, x9, x10, x11, hx, hv, hw.new hn⟩
end
section
variable {P : Program} {L : List (Nat × Value)} {M : World → Prop} {x y : Operand} {d : Option Nat} {T U : TypeId} {pos : String} {af : Array Edge} {g : Option (Nat × Bool)} {i j : Int}
theorem ov_addw {T' : TypeId} (hx : ev L x = some (.int .i64 i)) (hy : ev L y = some (.int .i64 j)) : OpV P L M ⟨d, .binOp .add U x y T', T, pos, af, g⟩ (.int .i64 (IntKind.i64.wrap (i + j))) := fun a w he _ => by
  simp only [execOp, he x _ hx, he y _ hy]; simp [go_sem]
end
section
variable {P : Program} {L : List (Nat × Value)} {M : World → Prop} {x : Operand} {d : Option Nat} {T U : TypeId} {pos : String} {af : Array Edge} {g : Option (Nat × Bool)}
theorem ov_field {f : Nat} {v0 v : Value} (hx : ev L x = some v0) (hrun : ∀ w, (Instr.field U v0 f).run P w = .ok v w) : OpV P L M ⟨d, .field U x f, T, pos, af, g⟩ v := fun a w he _ => by
  simp only [execOp, he x _ hx]; simp [hrun]
theorem ov_remt {U T' : TypeId} {y : Operand} {i j r : Int} (hx : ev L x = some (.int .i64 i)) (hy : ev L y = some (.int .i64 j)) (h1 : 1 ≤ j) (hr : i.tmod j = r) : OpV P L M ⟨d, .binOp .rem U x y T', T, pos, af, g⟩ (.int .i64 r) := fun a w he _ => by
  have e4 : ¬ j = 0 := by omega
  simp only [execOp, he x _ hx, he y _ hy]; simp [go_sem, Op.intDiv, hr, e4]
theorem ov_shl {U T' : TypeId} {y : Operand} {a b r : Nat} (hx : ev L x = some (.int .i64 (a : Int))) (hy : ev L y = some (.int .i64 (b : Int))) (hb : b ≤ 62) (hr : r = a * 2 ^ b) (hr2 : (r : Int) ≤ 9223372036854775807) : OpV P L M ⟨d, .binOp .shl U x y T', T, pos, af, g⟩ (.int .i64 (r : Int)) := fun ac w he _ => by
  have e0 : (a : Int) * 2 ^ b = (r : Int) := by rw [hr, Int.natCast_mul, Int.natCast_pow]; rfl
  have e : IntKind.i64.wrap ((a : Int) * 2 ^ b) = (r : Int) := by rw [e0, wrap_in (by omega)]
  have e2 : min b IntKind.i64.bits = b := Nat.min_eq_left (by show b ≤ 64; omega)
  simp only [execOp, he x _ hx, he y _ hy]; simp [go_sem]; exact e
theorem ov_shr {U T' : TypeId} {y : Operand} {a b r : Nat} (hx : ev L x = some (.int .i64 (a : Int))) (hy : ev L y = some (.int .i64 (b : Int))) (hb : b ≤ 62) (hr : r = a / 2 ^ b) : OpV P L M ⟨d, .binOp .shr U x y T', T, pos, af, g⟩ (.int .i64 (r : Int)) := fun ac w he _ => by
  have e : (a : Int) / (2 ^ b) = (r : Int) := by rw [hr, Int.natCast_ediv, Int.natCast_pow]; rfl
  have e2 : min b IntKind.i64.bits = b := Nat.min_eq_left (by show b ≤ 64; omega)
  simp only [execOp, he x _ hx, he y _ hy]; simp [go_sem]; exact e
theorem ov_and1 {U T' : TypeId} {y : Operand} {a r : Nat} (hx : ev L x = some (.int .i64 (a : Int))) (hy : ev L y = some (.int .i64 1)) (hr : r = a % 2) : OpV P L M ⟨d, .binOp .and U x y T', T, pos, af, g⟩ (.int .i64 (r : Int)) := fun ac w he _ => by
  have e : Op.intBits .and .i64 (a : Int) 1 = pure (.int .i64 (r : Int)) := by
    show pure (Value.int .i64 (IntKind.i64.wrap (((BitVec.ofInt 64 (a : Int)) &&& (BitVec.ofInt 64 1)).toNat : Nat))) = _
    have e2 : ((BitVec.ofInt 64 (a : Int)) &&& (BitVec.ofInt 64 1)).toNat = r := by
      rw [BitVec.toNat_and, BitVec.toNat_ofInt, BitVec.toNat_ofInt]
      rw [show ((1 : Int) % ((2 ^ 64 : Nat) : Int)).toNat = 1 from by decide, Nat.and_one_is_mod]
      omega
    rw [e2, wrap_in (by omega)]
  simp only [execOp, he x _ hx, he y _ hy]; simp [go_sem, e]
theorem get_fG1n {α : Type} {m : Nat} {hs : List Hd} {xss : List (List α)} (hf : NestF hs xss) {i : Nat} (hi : i < xss.length) : (cells fG (gsOf m hs))[i * 2 + 1]? = some (.slice (hs.getD i (none, 0, 0)).1 (xss.getD i []).length (hs.getD i (none, 0, 0)).2.2) := by
  have hi2 : i < hs.length := by rw [hf.1]; exact hi
  rw [cells_get fG_len (0, none, 0, 0) (by rw [gsOf_length]; exact hi2) (by omega), ← (hf.2 i hi).1]
  have e : (gsOf m hs).getD i (0, none, 0, 0) = ((m : Int), hs.getD i (none, 0, 0)) := by simp [gsOf, hi2]
  rw [e]; rfl
end
/-! ### matrices told from outside -/
abbrev Mx (w : World) (hs : List Hd) (xss : List (List Int)) : Prop := ∀ i, i < xss.length → At w (hs.getD i (none, 0, 0)).1 (cells fI (xss.getD i []))
section
variable {w0 w : World} {B : Nat} {H G F : List Ent} {hs : List Hd} {xss : List (List Int)}
theorem mx_old (h : ∀ i, i < xss.length → AtB w0 B (hs.getD i (none, 0, 0)).1 (cells fI (xss.getD i []))) : ∀ w, SS w0 B H w → Mx w hs xss := fun w hw i hi => holds_old (h i hi) w hw
theorem mx_nest {e : TypeId} {sz : Nat} (h : nest e sz fI hs xss ∈ H) : ∀ w, SS w0 B H w → Mx w hs xss := fun w hw i hi => holds_nest h hi w hw
theorem mx_keep (h : ∀ w, SS w0 B G w → Mx w hs xss) (k : Keep H G) : ∀ w, SS w0 B H w → Mx w hs xss := fun w hw => h w (k.ss hw)
theorem mx_at (h : ∀ w, SS w0 B H w → Mx w hs xss) {i : Nat} (hi : i < xss.length) : Holds (SS w0 B H) (hs.getD i (none, 0, 0)).1 (cells fI (xss.getD i [])) := fun w hw => h w hw i hi
theorem Mx.atB (h : Mx w hs xss) : ∀ i, i < xss.length → AtB w w.heap.size (hs.getD i (none, 0, 0)).1 (cells fI (xss.getD i [])) := fun i hi => (h i hi).atB
end
/-! ### a row out of a nest, and back -/
section
variable {e : TypeId} {sz : Nat} {α : Type} {f : α → List Value} {w : World} {w0 : World} {B n : Nat} {L : List (Nat × Value)} {H H0 : List Ent} {X : Act → World → Prop}
theorem NestH.unapp : ∀ {hs hs' : List Hd} {xss xss' : List (List α)}, hs.length = xss.length → NestH e sz f w (hs ++ hs') (xss ++ xss') → NestH e sz f w hs xss ∧ NestH e sz f w hs' xss' ∧ ∀ h ∈ hs, ∀ h' ∈ hs', ∀ a a' : Addr, h.1 = some a → h'.1 = some a' → a.block ≠ a'.block
  | [], _, [], _, _, h => ⟨trivial, h, fun _ hh => (by cases hh)⟩
  | [], _, _ :: _, _, hl, _ => by simp at hl
  | _ :: _, _, [], _, hl, _ => by simp at hl
  | h :: hs, hs', xs :: xss, xss', hl, hh => by
    obtain ⟨a1, a2, a3⟩ := hh
    obtain ⟨b1, b2, b3⟩ := NestH.unapp (by simpa using hl) a3
    refine ⟨⟨a1, fun h' hh' => a2 h' (List.mem_append_left _ hh'), b1⟩, b2, fun q hq q' hq' => ?_⟩
    rcases List.mem_cons.1 hq with rfl | hq
    · exact a2 q' (List.mem_append_right _ hq')
    · exact b3 q hq q' hq'
theorem ss_unapp {hs hs' : List Hd} {xss xss' : List (List α)} (hl : hs.length = xss.length) (h : SS w0 B (nest e sz f (hs ++ hs') (xss ++ xss') :: H) w) : SS w0 B (nest e sz f hs xss :: nest e sz f hs' xss' :: H) w := by
  obtain ⟨hb, ⟨h1, h2, h3, h4⟩, hle⟩ := h
  obtain ⟨a1, a2, a3⟩ := NestH.unapp hl h1
  refine ⟨hb, ⟨a1, fun k ⟨q, hq, r⟩ => h2 k ⟨q, List.mem_append_left _ hq, r⟩, fun x hx k ⟨q, hq, a, ha, hk⟩ => ?_, a2, fun k ⟨q, hq, r⟩ => h2 k ⟨q, List.mem_append_right _ hq, r⟩, fun x hx k ⟨q, hq, r⟩ => h3 x hx k ⟨q, List.mem_append_right _ hq, r⟩, h4⟩, hle⟩
  rcases List.mem_cons.1 hx with rfl | hx
  · rintro ⟨q', hq', a', ha', hk'⟩
    exact a3 q hq q' hq' a a' ha ha' (hk ▸ hk')
  · exact h3 x hx k ⟨q, List.mem_append_left _ hq, a, ha, hk⟩
theorem ss_uncons {h : Hd} {hs : List Hd} {xs : List α} {xss : List (List α)} (hh : SS w0 B (nest e sz f (h :: hs) (xs :: xss) :: H) w) : ∃ c, SS w0 B (row e sz h.1 xs.length c (cells f xs) :: nest e sz f hs xss :: H) w := by
  obtain ⟨hb, ⟨⟨⟨a1, a2, c, a3⟩, a4, a5⟩, h2, h3, h4⟩, hle⟩ := hh
  refine ⟨c, hb, ⟨by rw [a1]; exact a3, fun k ⟨a, ha, hk⟩ => h2 k ⟨h, by simp, a, ha, hk⟩, fun x hx k ⟨a, ha, hk⟩ => ?_, a5, fun k ⟨q, hq, r⟩ => h2 k ⟨q, by simp [hq], r⟩, fun x hx k ⟨q, hq, r⟩ => h3 x hx k ⟨q, by simp [hq], r⟩, h4⟩, hle⟩
  rcases List.mem_cons.1 hx with rfl | hx
  · rintro ⟨q', hq', a', ha', hk'⟩
    exact a4 q' hq' a a' ha ha' (hk ▸ hk')
  · exact h3 x hx k ⟨h, by simp, a, ha, hk⟩
theorem split_at {β : Type} {l : List β} {i : Nat} (z : β) (h : i < l.length) : l = l.take i ++ l.getD i z :: l.drop (i + 1) := by
  rw [List.getD_eq_getElem?_getD, List.getElem?_eq_getElem h, Option.getD_some, ← List.drop_eq_getElem_cons h, List.take_append_drop]
theorem set_at {β : Type} {l : List β} {i : Nat} (y : β) (h : i < l.length) : l.set i y = l.take i ++ y :: l.drop (i + 1) := by
  rw [List.set_eq_take_append_cons_drop, if_pos h]
theorem ss_open {hs : List Hd} {xss : List (List α)} {i : Nat} (hi : i < xss.length) (h : SS w0 B (nest e sz f hs xss :: H) w) : ∃ c, SS w0 B (row e sz (hs.getD i (none, 0, 0)).1 (xss.getD i []).length c (cells f (xss.getD i [])) :: nest e sz f (hs.take i) (xss.take i) :: nest e sz f (hs.drop (i + 1)) (xss.drop (i + 1)) :: H) w := by
  have hf := NestH.facts (h.hp.1)
  have h2 : SS w0 B (nest e sz f (hs.take i ++ hs.getD i (none, 0, 0) :: hs.drop (i + 1)) (xss.take i ++ xss.getD i [] :: xss.drop (i + 1)) :: H) w := by
    rw [← split_at (none, 0, 0) (by rw [hf.1]; exact hi), ← split_at [] hi]; exact h
  have h3 := ss_unapp (by rw [List.length_take, List.length_take, hf.1]) h2
  have h4 := (Keep.cons (.tail .head) (.cons .head .refl) : Keep _ _).ss h3
  obtain ⟨c, h5⟩ := ss_uncons h4
  exact ⟨c, (Keep.cons .head (.cons (.tail .head) (.cons .head .refl)) : Keep _ _).ss h5⟩
theorem ss_close {hs : List Hd} {xss : List (List α)} {i : Nat} {A : Option Addr} {m c k : Nat} {xs : List α} (hi : i < xss.length) (hh : hs.length = xss.length) (hl : xs.length = m) (hc : m ≤ k) (h : SS w0 B (row e sz A m c (cells f xs) :: nest e sz f (hs.take i) (xss.take i) :: nest e sz f (hs.drop (i + 1)) (xss.drop (i + 1)) :: H) w) : SS w0 B (nest e sz f (hs.set i (A, m, k)) (xss.set i xs) :: H) w := by
  have h1 := (Keep.cons (.tail .head) (.cons .head (.cons .head .refl)) : Keep _ _).ss h
  have h2 := ss_push h1 hl hc
  have h3 := ss_nestapp h2
  rw [set_at _ (by rw [hh]; exact hi), set_at _ hi]
  simpa using h3
theorem set_same {β : Type} {l : List β} {i : Nat} (z : β) (h : i < l.length) : l.set i (l.getD i z) = l := by
  rw [set_at _ h, ← split_at z h]
/-- the row's slice is what it was -/
theorem ss_close0 {hs : List Hd} {xss : List (List α)} {i m c : Nat} {xs : List α} (hi : i < xss.length) (hf : NestF hs xss) (hm : m = (xss.getD i []).length) (hl : xs.length = m) (h : SS w0 B (row e sz (hs.getD i (none, 0, 0)).1 m c (cells f xs) :: nest e sz f (hs.take i) (xss.take i) :: nest e sz f (hs.drop (i + 1)) (xss.drop (i + 1)) :: H) w) : SS w0 B (nest e sz f hs (xss.set i xs) :: H) w := by
  have h2 := ss_close hi hf.1 hl (k := (hs.getD i (none, 0, 0)).2.2) (by rw [hm]; exact (hf.2 i hi).2) h
  have e1 : ((hs.getD i (none, 0, 0)).1, m, (hs.getD i (none, 0, 0)).2.2) = hs.getD i (none, 0, 0) := by rw [hm, ← (hf.2 i hi).1]
  rw [e1, set_same _ (by rw [hf.1]; exact hi)] at h2
  exact h2
theorem ct_put {hs : List Hd} {xss : List (List α)} {i m c k : Nat} {A : Option Addr} {xs : List α} (kp : Keep H0 (row e sz A m c (cells f xs) :: nest e sz f hs xss :: H)) (hi : i < xss.length) (hl : xs.length = m) (hc : m ≤ k) (h : CT (St ds n w0 B L (nest e sz f (hs.set i (A, m, k)) (xss.set i xs) :: H)) X) : CT (St ds n w0 B L H0) X := fun a w hs_ => by
  have h1 := kp.ss hs_.ss
  have hf := NestH.facts h1.hp.2.2.2.1
  have h2 := (Keep.cons (.tail .head) (.cons .head .refl) : Keep _ _).ss h1
  obtain ⟨c', h3⟩ := ss_open hi h2
  have h4 := (Keep.cons (.tail (.tail (.tail .head))) (.cons (.tail .head) (.cons (.tail .head) (.drop .refl))) : Keep _ _).ss h3
  exact h a w ⟨hs_.fr, ss_close hi hf.1 hl hc h4⟩
theorem ct_open {hs : List Hd} {xss : List (List α)} {i : Nat} (kp : Keep H0 (nest e sz f hs xss :: H)) (hi : i < xss.length) (h : ∀ c, CT (St ds n w0 B L (row e sz (hs.getD i (none, 0, 0)).1 (xss.getD i []).length c (cells f (xss.getD i [])) :: nest e sz f (hs.take i) (xss.take i) :: nest e sz f (hs.drop (i + 1)) (xss.drop (i + 1)) :: H)) X) : CT (St ds n w0 B L H0) X := fun a w hs_ => by
  obtain ⟨c, h1⟩ := ss_open hi (kp.ss hs_.ss)
  exact h c a w ⟨hs_.fr, h1⟩
theorem ct_close0 {hs : List Hd} {xss : List (List α)} {i m c : Nat} {xs : List α} (kp : Keep H0 (row e sz (hs.getD i (none, 0, 0)).1 m c (cells f xs) :: nest e sz f (hs.take i) (xss.take i) :: nest e sz f (hs.drop (i + 1)) (xss.drop (i + 1)) :: H)) (hi : i < xss.length) (hf : NestF hs xss) (hm : m = (xss.getD i []).length) (hl : xs.length = m) (h : CT (St ds n w0 B L (nest e sz f hs (xss.set i xs) :: H)) X) : CT (St ds n w0 B L H0) X := fun a w hs_ => h a w ⟨hs_.fr, ss_close0 hi hf hm hl (kp.ss hs_.ss)⟩
theorem NestH.nils : ∀ m : Nat, NestH e sz f w (List.replicate m (none, 0, 0)) (List.replicate m [])
  | 0 => trivial
  | m + 1 => ⟨⟨rfl, Nat.le_refl _, 0, by simp [cells], Nat.le_refl _, Nat.zero_le _, .inl ⟨rfl, rfl⟩⟩, fun _ _ _ _ h => (by cases h), NestH.nils m⟩
theorem ct_nils (e : TypeId) (sz : Nat) (f : α → List Value) (m : Nat) (h : CT (St ds n w0 B L (nest e sz f (List.replicate m (none, 0, 0)) (List.replicate m []) :: H)) X) : CT (St ds n w0 B L H) X := fun a w hs => h a w ⟨hs.fr, hs.ss.below, ⟨NestH.nils m, fun _ ⟨q, hq, x, hx, _⟩ => (by rw [(List.mem_replicate.1 hq).2] at hx; cases hx), fun _ _ _ ⟨q, hq, x, hx, _⟩ => (by rw [(List.mem_replicate.1 hq).2] at hx; cases hx), hs.ss.hp⟩, hs.ss.le⟩
end
section
variable {P : Program} {w0 : World} {B : Nat} {L : List (Nat × Value)} {H H' : List Ent} {x y : Operand} {v : Value} {d : Option Nat} {T U : TypeId} {pos : String} {af : Array Edge} {g : Option (Nat × Bool)}
/-- a store into a row of a nest -/
theorem or_store_nest {e : TypeId} {i q : Nat} {hs : List Hd} {xss : List (List Int)} {z : Int} {ag : Bool} {by_ : Nat} {zv : Value} (hp : Keep H (nest e 1 fI hs xss :: H')) (hf : NestF hs xss) (hi : i < xss.length) (hq : q < (xss.getD i []).length) (hT : tyI P U = some (ag, 1, by_, zv)) (hx : ev L x = some (elp (hs.getD i (none, 0, 0)).1 (q * 1))) (hy : ev L y = some (.int .i64 z)) : OpR P L (SS w0 B H) ⟨d, .store U x y, T, pos, af, g⟩ (fun v w' => v = undef ∧ SS w0 B (nest e 1 fI hs (xss.set i ((xss.getD i []).set q z)) :: H') w') := fun a w he hM K Q hK => by
  obtain ⟨c, h1⟩ := ss_open hi (hp.ss hM)
  have h2 := or_store_row (P := P) (L := L) (d := d) (T := T) (pos := pos) (af := af) (g := g) (w0 := w0) (B := B) (x := x) (y := y) (U := U) (e := e) (size := 1) (m := (xss.getD i []).length) (c := c) (vs := [.int .i64 z]) (cs' := cells fI ((xss.getD i []).set q z)) (H' := nest e 1 fI (hs.take i) (xss.take i) :: nest e 1 fI (hs.drop (i + 1)) (xss.drop (i + 1)) :: H') .head hT hx hy rfl rfl (by rw [cells_length fI_len]; simp only [List.length_cons, List.length_nil]; omega) (by simp) (cells_splice fI_len hq z)
  exact h2 a w he h1 K Q fun v w' ⟨hv, hs'⟩ => hK v w' ⟨hv, ss_close0 hi hf rfl (List.length_set ..) hs'⟩
end
/-! ### some of a nest's rows -/
section
variable {e : TypeId} {sz : Nat} {α : Type} {f : α → List Value} {w : World} {w0 : World} {B n : Nat} {L : List (Nat × Value)} {H H0 : List Ent} {X : Act → World → Prop}
def keepH {α : Type} (p : List α → Bool) : List Hd → List (List α) → List Hd
  | h :: hs, x :: xss => if p x then h :: keepH p hs xss else keepH p hs xss
  | _, _ => []
theorem keepH_mem {p : List α → Bool} : ∀ {hs : List Hd} {xss : List (List α)} {h : Hd}, h ∈ keepH p hs xss → h ∈ hs
  | [], _, _, hh => by simp [keepH] at hh
  | _ :: _, [], _, hh => by simp [keepH] at hh
  | h :: hs, x :: xss, q, hh => by
    unfold keepH at hh
    split at hh
    · rcases List.mem_cons.1 hh with rfl | hh
      · exact List.mem_cons_self ..
      · exact List.mem_cons_of_mem _ (keepH_mem hh)
    · exact List.mem_cons_of_mem _ (keepH_mem hh)
theorem NestH.keep {p : List α → Bool} : ∀ {hs : List Hd} {xss : List (List α)}, NestH e sz f w hs xss → NestH e sz f w (keepH p hs xss) (xss.filter p)
  | [], [], _ => trivial
  | [], _ :: _, h => h.elim
  | _ :: _, [], h => h.elim
  | h :: hs, x :: xss, hh => by
    obtain ⟨h1, h2, h3⟩ := hh
    unfold keepH
    by_cases hp : p x = true
    · rw [if_pos hp, List.filter_cons_of_pos hp]
      exact ⟨h1, fun q hq => h2 q (keepH_mem hq), h3.keep⟩
    · rw [if_neg hp, List.filter_cons_of_neg hp]
      exact h3.keep
theorem ct_keepH {hs : List Hd} {xss : List (List α)} (p : List α → Bool) (kp : Keep H0 (nest e sz f hs xss :: H)) (h : CT (St ds n w0 B L (nest e sz f (keepH p hs xss) (xss.filter p) :: H)) X) : CT (St ds n w0 B L H0) X := fun a w hs_ => by
  obtain ⟨hb, ⟨h1, h2, h3, h4⟩, hle⟩ := kp.ss hs_.ss
  exact h a w ⟨hs_.fr, hb, ⟨h1.keep, fun k ⟨q, hq, r⟩ => h2 k ⟨q, keepH_mem hq, r⟩, fun x hx k ⟨q, hq, r⟩ => h3 x hx k ⟨q, keepH_mem hq, r⟩, h4⟩, hle⟩
theorem keepH_snoc {p : List α → Bool} : ∀ {hs : List Hd} {xss : List (List α)} {h : Hd} {x : List α}, hs.length = xss.length → keepH p (hs ++ [h]) (xss ++ [x]) = keepH p hs xss ++ (if p x then [h] else [])
  | [], [], h, x, _ => by by_cases hp : p x = true <;> simp [keepH, hp]
  | [], _ :: _, _, _, hl => by simp at hl
  | _ :: _, [], _, _, hl => by simp at hl
  | h' :: hs, x' :: xss, h, x, hl => by
    have ih := keepH_snoc (p := p) (hs := hs) (xss := xss) (h := h) (x := x) (by simpa using hl)
    simp only [List.cons_append]
    unfold keepH
    by_cases hp : p x' = true
    · rw [if_pos hp, if_pos hp, ih, List.cons_append]
    · rw [if_neg hp, if_neg hp, ih]
theorem keepH_length {p : List α → Bool} : ∀ {hs : List Hd} {xss : List (List α)}, hs.length = xss.length → (keepH p hs xss).length = (xss.filter p).length
  | [], [], _ => rfl
  | [], _ :: _, hl => by simp at hl
  | _ :: _, [], hl => by simp at hl
  | h' :: hs, x' :: xss, hl => by
    have ih := keepH_length (p := p) (hs := hs) (xss := xss) (by simpa using hl)
    unfold keepH
    by_cases hp : p x' = true
    · rw [if_pos hp, List.filter_cons_of_pos hp]; simp [ih]
    · rw [if_neg hp, List.filter_cons_of_neg hp, ih]
end
/-! ### append onto a slice without room -/
section
variable {P : Program} {w0 : World} {B : Nat} {L : List (Nat × Value)} {H H' : List Ent} {x y : Operand} {v : Value} {d : Option Nat} {T U : TypeId} {pos : String} {af : Array Edge} {g : Option (Nat × Bool)}
theorem or_append_full {e : TypeId} {size by_ m m2 c2 : Nat} {ag : Bool} {zv : Value} {A A2 : Option Addr} {cs cs2 cs' : List Value} (hU : sliceI P U = some e) (hE : tyI P e = some (ag, size, by_, zv)) (hz : zv.cells.size = size) (hs : 0 < size) (hx : ev L x = some (.slice A m m)) (hy : ev L y = some (.slice A2 m2 c2))
    (h0 : Holds (SS w0 B H) A cs) (hl0 : cs.length = m * size) (hh : Holds (SS w0 B H) A2 cs2) (hl : cs2.length = m2 * size) (h1 : ∀ u ∈ cs2, u.oneCell' = true) (hc : cs ++ cs2 = cs') (hpos : 0 < m2) (hb : (m + m2) * by_ ≤ 140737488355328) (hm : m + m2 ≤ 1000000000000) :
    OpR P L (SS w0 B H) ⟨d, .call { callee := .builtin .append, args := #[x, y], argTypes := #[U, U] }, T, pos, af, g⟩ (fun v w' => ∃ A' c', m + m2 ≤ c' ∧ v = .slice A' (m + m2) c' ∧ SS w0 B (row e size A' (m + m2) c' cs' :: H) w') :=
  OpR.of_run fun a w he hM => by
    subst hc
    obtain ⟨u, i, hu, hi, hg, hsz, hby, hzz⟩ := tyI_spec hE
    have key : ∃ A' c' w', (Builtin.append_ #[U, U] T #[.slice A m m, .slice A2 m2 c2]).run P w = .ok (.slice A' (m + m2) c') w' ∧ SS w0 B (row e size A' (m + m2) c' (cs ++ cs2) :: H) w' := by
      have hA2 : ∃ ad, A2 = some ad := by
        rcases cs2 with _ | ⟨u0, r0⟩
        · have : 0 < m2 * size := Nat.mul_pos hpos hs
          simp at hl; omega
        · obtain ⟨ad, ha, _⟩ := hh w hM 0 u0 rfl; exact ⟨ad, ha⟩
      obtain ⟨ad, rfl⟩ := hA2
      rcases A with _ | b
      · have hcs : cs = [] := by
          rcases cs with _ | ⟨u0, r0⟩
          · rfl
          · obtain ⟨ad', ha, _⟩ := h0 w hM 0 u0 rfl; cases ha
        subst hcs
        have hm0 : m = 0 := by
          rcases Nat.eq_zero_or_pos m with h | h
          · exact h
          · have : 0 < m * size := Nat.mul_pos h hs
            simp at hl0; omega
        subst hm0
        obtain ⟨A', c', w', hrun, hss⟩ := ss_append (c2 := c2) (row_none e size hM) .head hU hE hz hs (hh w hM) hl h1 hb (by simp only [maxLen]; omega) T
        exact ⟨A', c', w', hrun, hss⟩
      · obtain ⟨v', w', hrun, h3, h4⟩ := run_append_arg_grows (P := P) (w := w) U T e i zv size by_ (sliceI_spec hU) hi hzz hsz hby hz hs b m m cs hl0 (fun j u hu => by obtain ⟨a', ha, hc⟩ := h0 w hM j u hu; injection ha with ha; subst ha; exact hc) ad m2 c2 cs2 hl (fun j u hu => by obtain ⟨a', ha, hc⟩ := hh w hM j u hu; injection ha with ha; subst ha; exact hc) (by omega) (by simp only [maxLen]; omega) hb
        obtain ⟨A', c', rfl, h6, h7⟩ := owns_row h3
        exact ⟨A', c', w', hrun, hM.fresh ⟨h4.os, h4.tape, h4.output, h4.size, fun k hk => h4.block k hk (by simp)⟩ h6 fun k hk => (h7 k hk).2⟩
    obtain ⟨A', c', w', hrun, hss⟩ := key
    refine ⟨_, w', ?_, A', c', hss.hp.1.2.1, rfl, hss⟩
    simp only [execOp, resolve, invoke, builtin, Sem.run_bind, Sem.run_pure, Result.andThen_ok, List.map_toArray, List.map_cons, List.map_nil, he x _ hx, he y _ hy, hrun]
end
theorem holds_pick {e : TypeId} {sz : Nat} {α : Type} {f : α → List Value} {hs : List Hd} {xss : List (List α)} {w0 : World} {B : Nat} {H : List Ent} {A : Option Addr} {bs : List α} {i : Nat} (hm : nest e sz f hs xss ∈ H) (h : bs = [] ∨ (i < xss.length ∧ bs = xss.getD i [] ∧ A = (hs.getD i (none, 0, 0)).1)) : Holds (SS w0 B H) A (cells f bs) := by
  rcases h with rfl | ⟨h1, rfl, rfl⟩
  · exact fun _ _ => At.nil
  · exact holds_nest hm h1
/-! ### loops by many ghost values -/
section
variable {P : Program} {Q : Exit → Act → World → Prop} {n : Nat} {w0 : World} {B : Nat} {L : List (Nat × Value)} {H : List Ent}
theorem cw_loop9 {α1 α2 α3 α4 α5 α6 α7 α8 α9 : Type} {c : Code} (Lf : α1 → α2 → α3 → α4 → α5 → α6 → α7 → α8 → α9 → List (Nat × Value)) (Hf : α1 → α2 → α3 → α4 → α5 → α6 → α7 → α8 → α9 → List Ent) (φ : α1 → α2 → α3 → α4 → α5 → α6 → α7 → α8 → α9 → Prop) (μ : α1 → α2 → α3 → α4 → α5 → α6 → α7 → α8 → α9 → Nat) (x1 : α1) (x2 : α2) (x3 : α3) (x4 : α4) (x5 : α5) (x6 : α6) (x7 : α7) (x8 : α8) (x9 : α9) (h0 : φ x1 x2 x3 x4 x5 x6 x7 x8 x9) (hl : Sub L (Lf x1 x2 x3 x4 x5 x6 x7 x8 x9)) (hh : Keep H (Hf x1 x2 x3 x4 x5 x6 x7 x8 x9))
    (round : ∀ (R : Act → World → Prop) (x1 : α1) (x2 : α2) (x3 : α3) (x4 : α4) (x5 : α5) (x6 : α6) (x7 : α7) (x8 : α8) (x9 : α9), φ x1 x2 x3 x4 x5 x6 x7 x8 x9 → (∀ y1 y2 y3 y4 y5 y6 y7 y8 y9, φ y1 y2 y3 y4 y5 y6 y7 y8 y9 → μ y1 y2 y3 y4 y5 y6 y7 y8 y9 < μ x1 x2 x3 x4 x5 x6 x7 x8 x9 → ∀ a w, St ds n w0 B (Lf y1 y2 y3 y4 y5 y6 y7 y8 y9) (Hf y1 y2 y3 y4 y5 y6 y7 y8 y9) a w → R a w) → CW P c (Exit.then R Q) (St ds n w0 B (Lf x1 x2 x3 x4 x5 x6 x7 x8 x9) (Hf x1 x2 x3 x4 x5 x6 x7 x8 x9))) : CW P (.loop c) Q (St ds n w0 B L H) :=
  cw_loop (α := α1 × α2 × α3 × α4 × α5 × α6 × α7 × α8 × α9) (fun x => Lf (x.1) (x.2.1) (x.2.2.1) (x.2.2.2.1) (x.2.2.2.2.1) (x.2.2.2.2.2.1) (x.2.2.2.2.2.2.1) (x.2.2.2.2.2.2.2.1) (x.2.2.2.2.2.2.2.2)) (fun x => Hf (x.1) (x.2.1) (x.2.2.1) (x.2.2.2.1) (x.2.2.2.2.1) (x.2.2.2.2.2.1) (x.2.2.2.2.2.2.1) (x.2.2.2.2.2.2.2.1) (x.2.2.2.2.2.2.2.2)) (fun x => φ (x.1) (x.2.1) (x.2.2.1) (x.2.2.2.1) (x.2.2.2.2.1) (x.2.2.2.2.2.1) (x.2.2.2.2.2.2.1) (x.2.2.2.2.2.2.2.1) (x.2.2.2.2.2.2.2.2)) (fun x => μ (x.1) (x.2.1) (x.2.2.1) (x.2.2.2.1) (x.2.2.2.2.1) (x.2.2.2.2.2.1) (x.2.2.2.2.2.2.1) (x.2.2.2.2.2.2.2.1) (x.2.2.2.2.2.2.2.2)) ⟨x1, x2, x3, x4, x5, x6, x7, x8, x9⟩ h0 hl hh (fun x hx => round _ (x.1) (x.2.1) (x.2.2.1) (x.2.2.2.1) (x.2.2.2.2.1) (x.2.2.2.2.2.1) (x.2.2.2.2.2.2.1) (x.2.2.2.2.2.2.2.1) (x.2.2.2.2.2.2.2.2) hx fun y1 y2 y3 y4 y5 y6 y7 y8 y9 h1 h2 _ _ h3 => ⟨⟨y1, y2, y3, y4, y5, y6, y7, y8, y9⟩, h1, h2, h3⟩)
theorem cw_cut9 {α1 α2 α3 α4 α5 α6 α7 α8 α9 : Type} {x y : Code} (Lf : α1 → α2 → α3 → α4 → α5 → α6 → α7 → α8 → α9 → List (Nat × Value)) (Hf : α1 → α2 → α3 → α4 → α5 → α6 → α7 → α8 → α9 → List Ent) (φ : α1 → α2 → α3 → α4 → α5 → α6 → α7 → α8 → α9 → Prop) (h1 : ∀ K : Act → World → Prop, (∀ y1 y2 y3 y4 y5 y6 y7 y8 y9, φ y1 y2 y3 y4 y5 y6 y7 y8 y9 → ∀ a w, St ds n w0 B (Lf y1 y2 y3 y4 y5 y6 y7 y8 y9) (Hf y1 y2 y3 y4 y5 y6 y7 y8 y9) a w → K a w) → CW P x (Exit.then K Q) (St ds n w0 B L H))
    (h2 : ∀ x1 x2 x3 x4 x5 x6 x7 x8 x9, φ x1 x2 x3 x4 x5 x6 x7 x8 x9 → CW P y Q (St ds n w0 B (Lf x1 x2 x3 x4 x5 x6 x7 x8 x9) (Hf x1 x2 x3 x4 x5 x6 x7 x8 x9))) : CW P (.seq x y) Q (St ds n w0 B L H) :=
  cw_cut (α := α1 × α2 × α3 × α4 × α5 × α6 × α7 × α8 × α9) (fun x => Lf (x.1) (x.2.1) (x.2.2.1) (x.2.2.2.1) (x.2.2.2.2.1) (x.2.2.2.2.2.1) (x.2.2.2.2.2.2.1) (x.2.2.2.2.2.2.2.1) (x.2.2.2.2.2.2.2.2)) (fun x => Hf (x.1) (x.2.1) (x.2.2.1) (x.2.2.2.1) (x.2.2.2.2.1) (x.2.2.2.2.2.1) (x.2.2.2.2.2.2.1) (x.2.2.2.2.2.2.2.1) (x.2.2.2.2.2.2.2.2)) (fun x => φ (x.1) (x.2.1) (x.2.2.1) (x.2.2.2.1) (x.2.2.2.2.1) (x.2.2.2.2.2.1) (x.2.2.2.2.2.2.1) (x.2.2.2.2.2.2.2.1) (x.2.2.2.2.2.2.2.2)) (h1 _ fun y1 y2 y3 y4 y5 y6 y7 y8 y9 h1 _ _ h3 => ⟨⟨y1, y2, y3, y4, y5, y6, y7, y8, y9⟩, h1, h3⟩) (fun x hx => h2 (x.1) (x.2.1) (x.2.2.1) (x.2.2.2.1) (x.2.2.2.2.1) (x.2.2.2.2.2.1) (x.2.2.2.2.2.2.1) (x.2.2.2.2.2.2.2.1) (x.2.2.2.2.2.2.2.2) hx)
theorem cw_loop10 {α1 α2 α3 α4 α5 α6 α7 α8 α9 α10 : Type} {c : Code} (Lf : α1 → α2 → α3 → α4 → α5 → α6 → α7 → α8 → α9 → α10 → List (Nat × Value)) (Hf : α1 → α2 → α3 → α4 → α5 → α6 → α7 → α8 → α9 → α10 → List Ent) (φ : α1 → α2 → α3 → α4 → α5 → α6 → α7 → α8 → α9 → α10 → Prop) (μ : α1 → α2 → α3 → α4 → α5 → α6 → α7 → α8 → α9 → α10 → Nat) (x1 : α1) (x2 : α2) (x3 : α3) (x4 : α4) (x5 : α5) (x6 : α6) (x7 : α7) (x8 : α8) (x9 : α9) (x10 : α10) (h0 : φ x1 x2 x3 x4 x5 x6 x7 x8 x9 x10) (hl : Sub L (Lf x1 x2 x3 x4 x5 x6 x7 x8 x9 x10)) (hh : Keep H (Hf x1 x2 x3 x4 x5 x6 x7 x8 x9 x10))
    (round : ∀ (R : Act → World → Prop) (x1 : α1) (x2 : α2) (x3 : α3) (x4 : α4) (x5 : α5) (x6 : α6) (x7 : α7) (x8 : α8) (x9 : α9) (x10 : α10), φ x1 x2 x3 x4 x5 x6 x7 x8 x9 x10 → (∀ y1 y2 y3 y4 y5 y6 y7 y8 y9 y10, φ y1 y2 y3 y4 y5 y6 y7 y8 y9 y10 → μ y1 y2 y3 y4 y5 y6 y7 y8 y9 y10 < μ x1 x2 x3 x4 x5 x6 x7 x8 x9 x10 → ∀ a w, St ds n w0 B (Lf y1 y2 y3 y4 y5 y6 y7 y8 y9 y10) (Hf y1 y2 y3 y4 y5 y6 y7 y8 y9 y10) a w → R a w) → CW P c (Exit.then R Q) (St ds n w0 B (Lf x1 x2 x3 x4 x5 x6 x7 x8 x9 x10) (Hf x1 x2 x3 x4 x5 x6 x7 x8 x9 x10))) : CW P (.loop c) Q (St ds n w0 B L H) :=
  cw_loop (α := α1 × α2 × α3 × α4 × α5 × α6 × α7 × α8 × α9 × α10) (fun x => Lf (x.1) (x.2.1) (x.2.2.1) (x.2.2.2.1) (x.2.2.2.2.1) (x.2.2.2.2.2.1) (x.2.2.2.2.2.2.1) (x.2.2.2.2.2.2.2.1) (x.2.2.2.2.2.2.2.2.1) (x.2.2.2.2.2.2.2.2.2)) (fun x => Hf (x.1) (x.2.1) (x.2.2.1) (x.2.2.2.1) (x.2.2.2.2.1) (x.2.2.2.2.2.1) (x.2.2.2.2.2.2.1) (x.2.2.2.2.2.2.2.1) (x.2.2.2.2.2.2.2.2.1) (x.2.2.2.2.2.2.2.2.2)) (fun x => φ (x.1) (x.2.1) (x.2.2.1) (x.2.2.2.1) (x.2.2.2.2.1) (x.2.2.2.2.2.1) (x.2.2.2.2.2.2.1) (x.2.2.2.2.2.2.2.1) (x.2.2.2.2.2.2.2.2.1) (x.2.2.2.2.2.2.2.2.2)) (fun x => μ (x.1) (x.2.1) (x.2.2.1) (x.2.2.2.1) (x.2.2.2.2.1) (x.2.2.2.2.2.1) (x.2.2.2.2.2.2.1) (x.2.2.2.2.2.2.2.1) (x.2.2.2.2.2.2.2.2.1) (x.2.2.2.2.2.2.2.2.2)) ⟨x1, x2, x3, x4, x5, x6, x7, x8, x9, x10⟩ h0 hl hh (fun x hx => round _ (x.1) (x.2.1) (x.2.2.1) (x.2.2.2.1) (x.2.2.2.2.1) (x.2.2.2.2.2.1) (x.2.2.2.2.2.2.1) (x.2.2.2.2.2.2.2.1) (x.2.2.2.2.2.2.2.2.1) (x.2.2.2.2.2.2.2.2.2) hx fun y1 y2 y3 y4 y5 y6 y7 y8 y9 y10 h1 h2 _ _ h3 => ⟨⟨y1, y2, y3, y4, y5, y6, y7, y8, y9, y10⟩, h1, h2, h3⟩)
theorem cw_cut10 {α1 α2 α3 α4 α5 α6 α7 α8 α9 α10 : Type} {x y : Code} (Lf : α1 → α2 → α3 → α4 → α5 → α6 → α7 → α8 → α9 → α10 → List (Nat × Value)) (Hf : α1 → α2 → α3 → α4 → α5 → α6 → α7 → α8 → α9 → α10 → List Ent) (φ : α1 → α2 → α3 → α4 → α5 → α6 → α7 → α8 → α9 → α10 → Prop) (h1 : ∀ K : Act → World → Prop, (∀ y1 y2 y3 y4 y5 y6 y7 y8 y9 y10, φ y1 y2 y3 y4 y5 y6 y7 y8 y9 y10 → ∀ a w, St ds n w0 B (Lf y1 y2 y3 y4 y5 y6 y7 y8 y9 y10) (Hf y1 y2 y3 y4 y5 y6 y7 y8 y9 y10) a w → K a w) → CW P x (Exit.then K Q) (St ds n w0 B L H))
    (h2 : ∀ x1 x2 x3 x4 x5 x6 x7 x8 x9 x10, φ x1 x2 x3 x4 x5 x6 x7 x8 x9 x10 → CW P y Q (St ds n w0 B (Lf x1 x2 x3 x4 x5 x6 x7 x8 x9 x10) (Hf x1 x2 x3 x4 x5 x6 x7 x8 x9 x10))) : CW P (.seq x y) Q (St ds n w0 B L H) :=
  cw_cut (α := α1 × α2 × α3 × α4 × α5 × α6 × α7 × α8 × α9 × α10) (fun x => Lf (x.1) (x.2.1) (x.2.2.1) (x.2.2.2.1) (x.2.2.2.2.1) (x.2.2.2.2.2.1) (x.2.2.2.2.2.2.1) (x.2.2.2.2.2.2.2.1) (x.2.2.2.2.2.2.2.2.1) (x.2.2.2.2.2.2.2.2.2)) (fun x => Hf (x.1) (x.2.1) (x.2.2.1) (x.2.2.2.1) (x.2.2.2.2.1) (x.2.2.2.2.2.1) (x.2.2.2.2.2.2.1) (x.2.2.2.2.2.2.2.1) (x.2.2.2.2.2.2.2.2.1) (x.2.2.2.2.2.2.2.2.2)) (fun x => φ (x.1) (x.2.1) (x.2.2.1) (x.2.2.2.1) (x.2.2.2.2.1) (x.2.2.2.2.2.1) (x.2.2.2.2.2.2.1) (x.2.2.2.2.2.2.2.1) (x.2.2.2.2.2.2.2.2.1) (x.2.2.2.2.2.2.2.2.2)) (h1 _ fun y1 y2 y3 y4 y5 y6 y7 y8 y9 y10 h1 _ _ h3 => ⟨⟨y1, y2, y3, y4, y5, y6, y7, y8, y9, y10⟩, h1, h3⟩) (fun x hx => h2 (x.1) (x.2.1) (x.2.2.1) (x.2.2.2.1) (x.2.2.2.2.1) (x.2.2.2.2.2.1) (x.2.2.2.2.2.2.1) (x.2.2.2.2.2.2.2.1) (x.2.2.2.2.2.2.2.2.1) (x.2.2.2.2.2.2.2.2.2) hx)
theorem cw_loop11 {α1 α2 α3 α4 α5 α6 α7 α8 α9 α10 α11 : Type} {c : Code} (Lf : α1 → α2 → α3 → α4 → α5 → α6 → α7 → α8 → α9 → α10 → α11 → List (Nat × Value)) (Hf : α1 → α2 → α3 → α4 → α5 → α6 → α7 → α8 → α9 → α10 → α11 → List Ent) (φ : α1 → α2 → α3 → α4 → α5 → α6 → α7 → α8 → α9 → α10 → α11 → Prop) (μ : α1 → α2 → α3 → α4 → α5 → α6 → α7 → α8 → α9 → α10 → α11 → Nat) (x1 : α1) (x2 : α2) (x3 : α3) (x4 : α4) (x5 : α5) (x6 : α6) (x7 : α7) (x8 : α8) (x9 : α9) (x10 : α10) (x11 : α11) (h0 : φ x1 x2 x3 x4 x5 x6 x7 x8 x9 x10 x11) (hl : Sub L (Lf x1 x2 x3 x4 x5 x6 x7 x8 x9 x10 x11)) (hh : Keep H (Hf x1 x2 x3 x4 x5 x6 x7 x8 x9 x10 x11))
    (round : ∀ (R : Act → World → Prop) (x1 : α1) (x2 : α2) (x3 : α3) (x4 : α4) (x5 : α5) (x6 : α6) (x7 : α7) (x8 : α8) (x9 : α9) (x10 : α10) (x11 : α11), φ x1 x2 x3 x4 x5 x6 x7 x8 x9 x10 x11 → (∀ y1 y2 y3 y4 y5 y6 y7 y8 y9 y10 y11, φ y1 y2 y3 y4 y5 y6 y7 y8 y9 y10 y11 → μ y1 y2 y3 y4 y5 y6 y7 y8 y9 y10 y11 < μ x1 x2 x3 x4 x5 x6 x7 x8 x9 x10 x11 → ∀ a w, St ds n w0 B (Lf y1 y2 y3 y4 y5 y6 y7 y8 y9 y10 y11) (Hf y1 y2 y3 y4 y5 y6 y7 y8 y9 y10 y11) a w → R a w) → CW P c (Exit.then R Q) (St ds n w0 B (Lf x1 x2 x3 x4 x5 x6 x7 x8 x9 x10 x11) (Hf x1 x2 x3 x4 x5 x6 x7 x8 x9 x10 x11))) : CW P (.loop c) Q (St ds n w0 B L H) :=
  cw_loop (α := α1 × α2 × α3 × α4 × α5 × α6 × α7 × α8 × α9 × α10 × α11) (fun x => Lf (x.1) (x.2.1) (x.2.2.1) (x.2.2.2.1) (x.2.2.2.2.1) (x.2.2.2.2.2.1) (x.2.2.2.2.2.2.1) (x.2.2.2.2.2.2.2.1) (x.2.2.2.2.2.2.2.2.1) (x.2.2.2.2.2.2.2.2.2.1) (x.2.2.2.2.2.2.2.2.2.2)) (fun x => Hf (x.1) (x.2.1) (x.2.2.1) (x.2.2.2.1) (x.2.2.2.2.1) (x.2.2.2.2.2.1) (x.2.2.2.2.2.2.1) (x.2.2.2.2.2.2.2.1) (x.2.2.2.2.2.2.2.2.1) (x.2.2.2.2.2.2.2.2.2.1) (x.2.2.2.2.2.2.2.2.2.2)) (fun x => φ (x.1) (x.2.1) (x.2.2.1) (x.2.2.2.1) (x.2.2.2.2.1) (x.2.2.2.2.2.1) (x.2.2.2.2.2.2.1) (x.2.2.2.2.2.2.2.1) (x.2.2.2.2.2.2.2.2.1) (x.2.2.2.2.2.2.2.2.2.1) (x.2.2.2.2.2.2.2.2.2.2)) (fun x => μ (x.1) (x.2.1) (x.2.2.1) (x.2.2.2.1) (x.2.2.2.2.1) (x.2.2.2.2.2.1) (x.2.2.2.2.2.2.1) (x.2.2.2.2.2.2.2.1) (x.2.2.2.2.2.2.2.2.1) (x.2.2.2.2.2.2.2.2.2.1) (x.2.2.2.2.2.2.2.2.2.2)) ⟨x1, x2, x3, x4, x5, x6, x7, x8, x9, x10, x11⟩ h0 hl hh (fun x hx => round _ (x.1) (x.2.1) (x.2.2.1) (x.2.2.2.1) (x.2.2.2.2.1) (x.2.2.2.2.2.1) (x.2.2.2.2.2.2.1) (x.2.2.2.2.2.2.2.1) (x.2.2.2.2.2.2.2.2.1) (x.2.2.2.2.2.2.2.2.2.1) (x.2.2.2.2.2.2.2.2.2.2) hx fun y1 y2 y3 y4 y5 y6 y7 y8 y9 y10 y11 h1 h2 _ _ h3 => ⟨⟨y1, y2, y3, y4, y5, y6, y7, y8, y9, y10, y11⟩, h1, h2, h3⟩)
theorem cw_cut11 {α1 α2 α3 α4 α5 α6 α7 α8 α9 α10 α11 : Type} {x y : Code} (Lf : α1 → α2 → α3 → α4 → α5 → α6 → α7 → α8 → α9 → α10 → α11 → List (Nat × Value)) (Hf : α1 → α2 → α3 → α4 → α5 → α6 → α7 → α8 → α9 → α10 → α11 → List Ent) (φ : α1 → α2 → α3 → α4 → α5 → α6 → α7 → α8 → α9 → α10 → α11 → Prop) (h1 : ∀ K : Act → World → Prop, (∀ y1 y2 y3 y4 y5 y6 y7 y8 y9 y10 y11, φ y1 y2 y3 y4 y5 y6 y7 y8 y9 y10 y11 → ∀ a w, St ds n w0 B (Lf y1 y2 y3 y4 y5 y6 y7 y8 y9 y10 y11) (Hf y1 y2 y3 y4 y5 y6 y7 y8 y9 y10 y11) a w → K a w) → CW P x (Exit.then K Q) (St ds n w0 B L H))
    (h2 : ∀ x1 x2 x3 x4 x5 x6 x7 x8 x9 x10 x11, φ x1 x2 x3 x4 x5 x6 x7 x8 x9 x10 x11 → CW P y Q (St ds n w0 B (Lf x1 x2 x3 x4 x5 x6 x7 x8 x9 x10 x11) (Hf x1 x2 x3 x4 x5 x6 x7 x8 x9 x10 x11))) : CW P (.seq x y) Q (St ds n w0 B L H) :=
  cw_cut (α := α1 × α2 × α3 × α4 × α5 × α6 × α7 × α8 × α9 × α10 × α11) (fun x => Lf (x.1) (x.2.1) (x.2.2.1) (x.2.2.2.1) (x.2.2.2.2.1) (x.2.2.2.2.2.1) (x.2.2.2.2.2.2.1) (x.2.2.2.2.2.2.2.1) (x.2.2.2.2.2.2.2.2.1) (x.2.2.2.2.2.2.2.2.2.1) (x.2.2.2.2.2.2.2.2.2.2)) (fun x => Hf (x.1) (x.2.1) (x.2.2.1) (x.2.2.2.1) (x.2.2.2.2.1) (x.2.2.2.2.2.1) (x.2.2.2.2.2.2.1) (x.2.2.2.2.2.2.2.1) (x.2.2.2.2.2.2.2.2.1) (x.2.2.2.2.2.2.2.2.2.1) (x.2.2.2.2.2.2.2.2.2.2)) (fun x => φ (x.1) (x.2.1) (x.2.2.1) (x.2.2.2.1) (x.2.2.2.2.1) (x.2.2.2.2.2.1) (x.2.2.2.2.2.2.1) (x.2.2.2.2.2.2.2.1) (x.2.2.2.2.2.2.2.2.1) (x.2.2.2.2.2.2.2.2.2.1) (x.2.2.2.2.2.2.2.2.2.2)) (h1 _ fun y1 y2 y3 y4 y5 y6 y7 y8 y9 y10 y11 h1 _ _ h3 => ⟨⟨y1, y2, y3, y4, y5, y6, y7, y8, y9, y10, y11⟩, h1, h3⟩) (fun x hx => h2 (x.1) (x.2.1) (x.2.2.1) (x.2.2.2.1) (x.2.2.2.2.1) (x.2.2.2.2.2.1) (x.2.2.2.2.2.2.1) (x.2.2.2.2.2.2.2.1) (x.2.2.2.2.2.2.2.2.1) (x.2.2.2.2.2.2.2.2.2.1) (x.2.2.2.2.2.2.2.2.2.2) hx)
theorem cw_loop12 {α1 α2 α3 α4 α5 α6 α7 α8 α9 α10 α11 α12 : Type} {c : Code} (Lf : α1 → α2 → α3 → α4 → α5 → α6 → α7 → α8 → α9 → α10 → α11 → α12 → List (Nat × Value)) (Hf : α1 → α2 → α3 → α4 → α5 → α6 → α7 → α8 → α9 → α10 → α11 → α12 → List Ent) (φ : α1 → α2 → α3 → α4 → α5 → α6 → α7 → α8 → α9 → α10 → α11 → α12 → Prop) (μ : α1 → α2 → α3 → α4 → α5 → α6 → α7 → α8 → α9 → α10 → α11 → α12 → Nat) (x1 : α1) (x2 : α2) (x3 : α3) (x4 : α4) (x5 : α5) (x6 : α6) (x7 : α7) (x8 : α8) (x9 : α9) (x10 : α10) (x11 : α11) (x12 : α12) (h0 : φ x1 x2 x3 x4 x5 x6 x7 x8 x9 x10 x11 x12) (hl : Sub L (Lf x1 x2 x3 x4 x5 x6 x7 x8 x9 x10 x11 x12)) (hh : Keep H (Hf x1 x2 x3 x4 x5 x6 x7 x8 x9 x10 x11 x12))
    (round : ∀ (R : Act → World → Prop) (x1 : α1) (x2 : α2) (x3 : α3) (x4 : α4) (x5 : α5) (x6 : α6) (x7 : α7) (x8 : α8) (x9 : α9) (x10 : α10) (x11 : α11) (x12 : α12), φ x1 x2 x3 x4 x5 x6 x7 x8 x9 x10 x11 x12 → (∀ y1 y2 y3 y4 y5 y6 y7 y8 y9 y10 y11 y12, φ y1 y2 y3 y4 y5 y6 y7 y8 y9 y10 y11 y12 → μ y1 y2 y3 y4 y5 y6 y7 y8 y9 y10 y11 y12 < μ x1 x2 x3 x4 x5 x6 x7 x8 x9 x10 x11 x12 → ∀ a w, St ds n w0 B (Lf y1 y2 y3 y4 y5 y6 y7 y8 y9 y10 y11 y12) (Hf y1 y2 y3 y4 y5 y6 y7 y8 y9 y10 y11 y12) a w → R a w) → CW P c (Exit.then R Q) (St ds n w0 B (Lf x1 x2 x3 x4 x5 x6 x7 x8 x9 x10 x11 x12) (Hf x1 x2 x3 x4 x5 x6 x7 x8 x9 x10 x11 x12))) : CW P (.loop c) Q (St ds n w0 B L H) :=
  cw_loop (α := α1 × α2 × α3 × α4 × α5 × α6 × α7 × α8 × α9 × α10 × α11 × α12) (fun x => Lf (x.1) (x.2.1) (x.2.2.1) (x.2.2.2.1) (x.2.2.2.2.1) (x.2.2.2.2.2.1) (x.2.2.2.2.2.2.1) (x.2.2.2.2.2.2.2.1) (x.2.2.2.2.2.2.2.2.1) (x.2.2.2.2.2.2.2.2.2.1) (x.2.2.2.2.2.2.2.2.2.2.1) (x.2.2.2.2.2.2.2.2.2.2.2)) (fun x => Hf (x.1) (x.2.1) (x.2.2.1) (x.2.2.2.1) (x.2.2.2.2.1) (x.2.2.2.2.2.1) (x.2.2.2.2.2.2.1) (x.2.2.2.2.2.2.2.1) (x.2.2.2.2.2.2.2.2.1) (x.2.2.2.2.2.2.2.2.2.1) (x.2.2.2.2.2.2.2.2.2.2.1) (x.2.2.2.2.2.2.2.2.2.2.2)) (fun x => φ (x.1) (x.2.1) (x.2.2.1) (x.2.2.2.1) (x.2.2.2.2.1) (x.2.2.2.2.2.1) (x.2.2.2.2.2.2.1) (x.2.2.2.2.2.2.2.1) (x.2.2.2.2.2.2.2.2.1) (x.2.2.2.2.2.2.2.2.2.1) (x.2.2.2.2.2.2.2.2.2.2.1) (x.2.2.2.2.2.2.2.2.2.2.2)) (fun x => μ (x.1) (x.2.1) (x.2.2.1) (x.2.2.2.1) (x.2.2.2.2.1) (x.2.2.2.2.2.1) (x.2.2.2.2.2.2.1) (x.2.2.2.2.2.2.2.1) (x.2.2.2.2.2.2.2.2.1) (x.2.2.2.2.2.2.2.2.2.1) (x.2.2.2.2.2.2.2.2.2.2.1) (x.2.2.2.2.2.2.2.2.2.2.2)) ⟨x1, x2, x3, x4, x5, x6, x7, x8, x9, x10, x11, x12⟩ h0 hl hh (fun x hx => round _ (x.1) (x.2.1) (x.2.2.1) (x.2.2.2.1) (x.2.2.2.2.1) (x.2.2.2.2.2.1) (x.2.2.2.2.2.2.1) (x.2.2.2.2.2.2.2.1) (x.2.2.2.2.2.2.2.2.1) (x.2.2.2.2.2.2.2.2.2.1) (x.2.2.2.2.2.2.2.2.2.2.1) (x.2.2.2.2.2.2.2.2.2.2.2) hx fun y1 y2 y3 y4 y5 y6 y7 y8 y9 y10 y11 y12 h1 h2 _ _ h3 => ⟨⟨y1, y2, y3, y4, y5, y6, y7, y8, y9, y10, y11, y12⟩, h1, h2, h3⟩)
theorem cw_cut12 {α1 α2 α3 α4 α5 α6 α7 α8 α9 α10 α11 α12 : Type} {x y : Code} (Lf : α1 → α2 → α3 → α4 → α5 → α6 → α7 → α8 → α9 → α10 → α11 → α12 → List (Nat × Value)) (Hf : α1 → α2 → α3 → α4 → α5 → α6 → α7 → α8 → α9 → α10 → α11 → α12 → List Ent) (φ : α1 → α2 → α3 → α4 → α5 → α6 → α7 → α8 → α9 → α10 → α11 → α12 → Prop) (h1 : ∀ K : Act → World → Prop, (∀ y1 y2 y3 y4 y5 y6 y7 y8 y9 y10 y11 y12, φ y1 y2 y3 y4 y5 y6 y7 y8 y9 y10 y11 y12 → ∀ a w, St ds n w0 B (Lf y1 y2 y3 y4 y5 y6 y7 y8 y9 y10 y11 y12) (Hf y1 y2 y3 y4 y5 y6 y7 y8 y9 y10 y11 y12) a w → K a w) → CW P x (Exit.then K Q) (St ds n w0 B L H))
    (h2 : ∀ x1 x2 x3 x4 x5 x6 x7 x8 x9 x10 x11 x12, φ x1 x2 x3 x4 x5 x6 x7 x8 x9 x10 x11 x12 → CW P y Q (St ds n w0 B (Lf x1 x2 x3 x4 x5 x6 x7 x8 x9 x10 x11 x12) (Hf x1 x2 x3 x4 x5 x6 x7 x8 x9 x10 x11 x12))) : CW P (.seq x y) Q (St ds n w0 B L H) :=
  cw_cut (α := α1 × α2 × α3 × α4 × α5 × α6 × α7 × α8 × α9 × α10 × α11 × α12) (fun x => Lf (x.1) (x.2.1) (x.2.2.1) (x.2.2.2.1) (x.2.2.2.2.1) (x.2.2.2.2.2.1) (x.2.2.2.2.2.2.1) (x.2.2.2.2.2.2.2.1) (x.2.2.2.2.2.2.2.2.1) (x.2.2.2.2.2.2.2.2.2.1) (x.2.2.2.2.2.2.2.2.2.2.1) (x.2.2.2.2.2.2.2.2.2.2.2)) (fun x => Hf (x.1) (x.2.1) (x.2.2.1) (x.2.2.2.1) (x.2.2.2.2.1) (x.2.2.2.2.2.1) (x.2.2.2.2.2.2.1) (x.2.2.2.2.2.2.2.1) (x.2.2.2.2.2.2.2.2.1) (x.2.2.2.2.2.2.2.2.2.1) (x.2.2.2.2.2.2.2.2.2.2.1) (x.2.2.2.2.2.2.2.2.2.2.2)) (fun x => φ (x.1) (x.2.1) (x.2.2.1) (x.2.2.2.1) (x.2.2.2.2.1) (x.2.2.2.2.2.1) (x.2.2.2.2.2.2.1) (x.2.2.2.2.2.2.2.1) (x.2.2.2.2.2.2.2.2.1) (x.2.2.2.2.2.2.2.2.2.1) (x.2.2.2.2.2.2.2.2.2.2.1) (x.2.2.2.2.2.2.2.2.2.2.2)) (h1 _ fun y1 y2 y3 y4 y5 y6 y7 y8 y9 y10 y11 y12 h1 _ _ h3 => ⟨⟨y1, y2, y3, y4, y5, y6, y7, y8, y9, y10, y11, y12⟩, h1, h3⟩) (fun x hx => h2 (x.1) (x.2.1) (x.2.2.1) (x.2.2.2.1) (x.2.2.2.2.1) (x.2.2.2.2.2.1) (x.2.2.2.2.2.2.1) (x.2.2.2.2.2.2.2.1) (x.2.2.2.2.2.2.2.2.1) (x.2.2.2.2.2.2.2.2.2.1) (x.2.2.2.2.2.2.2.2.2.2.1) (x.2.2.2.2.2.2.2.2.2.2.2) hx)
theorem cw_loop13 {α1 α2 α3 α4 α5 α6 α7 α8 α9 α10 α11 α12 α13 : Type} {c : Code} (Lf : α1 → α2 → α3 → α4 → α5 → α6 → α7 → α8 → α9 → α10 → α11 → α12 → α13 → List (Nat × Value)) (Hf : α1 → α2 → α3 → α4 → α5 → α6 → α7 → α8 → α9 → α10 → α11 → α12 → α13 → List Ent) (φ : α1 → α2 → α3 → α4 → α5 → α6 → α7 → α8 → α9 → α10 → α11 → α12 → α13 → Prop) (μ : α1 → α2 → α3 → α4 → α5 → α6 → α7 → α8 → α9 → α10 → α11 → α12 → α13 → Nat) (x1 : α1) (x2 : α2) (x3 : α3) (x4 : α4) (x5 : α5) (x6 : α6) (x7 : α7) (x8 : α8) (x9 : α9) (x10 : α10) (x11 : α11) (x12 : α12) (x13 : α13) (h0 : φ x1 x2 x3 x4 x5 x6 x7 x8 x9 x10 x11 x12 x13) (hl : Sub L (Lf x1 x2 x3 x4 x5 x6 x7 x8 x9 x10 x11 x12 x13)) (hh : Keep H (Hf x1 x2 x3 x4 x5 x6 x7 x8 x9 x10 x11 x12 x13))
    (round : ∀ (R : Act → World → Prop) (x1 : α1) (x2 : α2) (x3 : α3) (x4 : α4) (x5 : α5) (x6 : α6) (x7 : α7) (x8 : α8) (x9 : α9) (x10 : α10) (x11 : α11) (x12 : α12) (x13 : α13), φ x1 x2 x3 x4 x5 x6 x7 x8 x9 x10 x11 x12 x13 → (∀ y1 y2 y3 y4 y5 y6 y7 y8 y9 y10 y11 y12 y13, φ y1 y2 y3 y4 y5 y6 y7 y8 y9 y10 y11 y12 y13 → μ y1 y2 y3 y4 y5 y6 y7 y8 y9 y10 y11 y12 y13 < μ x1 x2 x3 x4 x5 x6 x7 x8 x9 x10 x11 x12 x13 → ∀ a w, St ds n w0 B (Lf y1 y2 y3 y4 y5 y6 y7 y8 y9 y10 y11 y12 y13) (Hf y1 y2 y3 y4 y5 y6 y7 y8 y9 y10 y11 y12 y13) a w → R a w) → CW P c (Exit.then R Q) (St ds n w0 B (Lf x1 x2 x3 x4 x5 x6 x7 x8 x9 x10 x11 x12 x13) (Hf x1 x2 x3 x4 x5 x6 x7 x8 x9 x10 x11 x12 x13))) : CW P (.loop c) Q (St ds n w0 B L H) :=
  cw_loop (α := α1 × α2 × α3 × α4 × α5 × α6 × α7 × α8 × α9 × α10 × α11 × α12 × α13) (fun x => Lf (x.1) (x.2.1) (x.2.2.1) (x.2.2.2.1) (x.2.2.2.2.1) (x.2.2.2.2.2.1) (x.2.2.2.2.2.2.1) (x.2.2.2.2.2.2.2.1) (x.2.2.2.2.2.2.2.2.1) (x.2.2.2.2.2.2.2.2.2.1) (x.2.2.2.2.2.2.2.2.2.2.1) (x.2.2.2.2.2.2.2.2.2.2.2.1) (x.2.2.2.2.2.2.2.2.2.2.2.2)) (fun x => Hf (x.1) (x.2.1) (x.2.2.1) (x.2.2.2.1) (x.2.2.2.2.1) (x.2.2.2.2.2.1) (x.2.2.2.2.2.2.1) (x.2.2.2.2.2.2.2.1) (x.2.2.2.2.2.2.2.2.1) (x.2.2.2.2.2.2.2.2.2.1) (x.2.2.2.2.2.2.2.2.2.2.1) (x.2.2.2.2.2.2.2.2.2.2.2.1) (x.2.2.2.2.2.2.2.2.2.2.2.2)) (fun x => φ (x.1) (x.2.1) (x.2.2.1) (x.2.2.2.1) (x.2.2.2.2.1) (x.2.2.2.2.2.1) (x.2.2.2.2.2.2.1) (x.2.2.2.2.2.2.2.1) (x.2.2.2.2.2.2.2.2.1) (x.2.2.2.2.2.2.2.2.2.1) (x.2.2.2.2.2.2.2.2.2.2.1) (x.2.2.2.2.2.2.2.2.2.2.2.1) (x.2.2.2.2.2.2.2.2.2.2.2.2)) (fun x => μ (x.1) (x.2.1) (x.2.2.1) (x.2.2.2.1) (x.2.2.2.2.1) (x.2.2.2.2.2.1) (x.2.2.2.2.2.2.1) (x.2.2.2.2.2.2.2.1) (x.2.2.2.2.2.2.2.2.1) (x.2.2.2.2.2.2.2.2.2.1) (x.2.2.2.2.2.2.2.2.2.2.1) (x.2.2.2.2.2.2.2.2.2.2.2.1) (x.2.2.2.2.2.2.2.2.2.2.2.2)) ⟨x1, x2, x3, x4, x5, x6, x7, x8, x9, x10, x11, x12, x13⟩ h0 hl hh (fun x hx => round _ (x.1) (x.2.1) (x.2.2.1) (x.2.2.2.1) (x.2.2.2.2.1) (x.2.2.2.2.2.1) (x.2.2.2.2.2.2.1) (x.2.2.2.2.2.2.2.1) (x.2.2.2.2.2.2.2.2.1) (x.2.2.2.2.2.2.2.2.2.1) (x.2.2.2.2.2.2.2.2.2.2.1) (x.2.2.2.2.2.2.2.2.2.2.2.1) (x.2.2.2.2.2.2.2.2.2.2.2.2) hx fun y1 y2 y3 y4 y5 y6 y7 y8 y9 y10 y11 y12 y13 h1 h2 _ _ h3 => ⟨⟨y1, y2, y3, y4, y5, y6, y7, y8, y9, y10, y11, y12, y13⟩, h1, h2, h3⟩)
theorem cw_cut13 {α1 α2 α3 α4 α5 α6 α7 α8 α9 α10 α11 α12 α13 : Type} {x y : Code} (Lf : α1 → α2 → α3 → α4 → α5 → α6 → α7 → α8 → α9 → α10 → α11 → α12 → α13 → List (Nat × Value)) (Hf : α1 → α2 → α3 → α4 → α5 → α6 → α7 → α8 → α9 → α10 → α11 → α12 → α13 → List Ent) (φ : α1 → α2 → α3 → α4 → α5 → α6 → α7 → α8 → α9 → α10 → α11 → α12 → α13 → Prop) (h1 : ∀ K : Act → World → Prop, (∀ y1 y2 y3 y4 y5 y6 y7 y8 y9 y10 y11 y12 y13, φ y1 y2 y3 y4 y5 y6 y7 y8 y9 y10 y11 y12 y13 → ∀ a w, St ds n w0 B (Lf y1 y2 y3 y4 y5 y6 y7 y8 y9 y10 y11 y12 y13) (Hf y1 y2 y3 y4 y5 y6 y7 y8 y9 y10 y11 y12 y13) a w → K a w) → CW P x (Exit.then K Q) (St ds n w0 B L H))
    (h2 : ∀ x1 x2 x3 x4 x5 x6 x7 x8 x9 x10 x11 x12 x13, φ x1 x2 x3 x4 x5 x6 x7 x8 x9 x10 x11 x12 x13 → CW P y Q (St ds n w0 B (Lf x1 x2 x3 x4 x5 x6 x7 x8 x9 x10 x11 x12 x13) (Hf x1 x2 x3 x4 x5 x6 x7 x8 x9 x10 x11 x12 x13))) : CW P (.seq x y) Q (St ds n w0 B L H) :=
  cw_cut (α := α1 × α2 × α3 × α4 × α5 × α6 × α7 × α8 × α9 × α10 × α11 × α12 × α13) (fun x => Lf (x.1) (x.2.1) (x.2.2.1) (x.2.2.2.1) (x.2.2.2.2.1) (x.2.2.2.2.2.1) (x.2.2.2.2.2.2.1) (x.2.2.2.2.2.2.2.1) (x.2.2.2.2.2.2.2.2.1) (x.2.2.2.2.2.2.2.2.2.1) (x.2.2.2.2.2.2.2.2.2.2.1) (x.2.2.2.2.2.2.2.2.2.2.2.1) (x.2.2.2.2.2.2.2.2.2.2.2.2)) (fun x => Hf (x.1) (x.2.1) (x.2.2.1) (x.2.2.2.1) (x.2.2.2.2.1) (x.2.2.2.2.2.1) (x.2.2.2.2.2.2.1) (x.2.2.2.2.2.2.2.1) (x.2.2.2.2.2.2.2.2.1) (x.2.2.2.2.2.2.2.2.2.1) (x.2.2.2.2.2.2.2.2.2.2.1) (x.2.2.2.2.2.2.2.2.2.2.2.1) (x.2.2.2.2.2.2.2.2.2.2.2.2)) (fun x => φ (x.1) (x.2.1) (x.2.2.1) (x.2.2.2.1) (x.2.2.2.2.1) (x.2.2.2.2.2.1) (x.2.2.2.2.2.2.1) (x.2.2.2.2.2.2.2.1) (x.2.2.2.2.2.2.2.2.1) (x.2.2.2.2.2.2.2.2.2.1) (x.2.2.2.2.2.2.2.2.2.2.1) (x.2.2.2.2.2.2.2.2.2.2.2.1) (x.2.2.2.2.2.2.2.2.2.2.2.2)) (h1 _ fun y1 y2 y3 y4 y5 y6 y7 y8 y9 y10 y11 y12 y13 h1 _ _ h3 => ⟨⟨y1, y2, y3, y4, y5, y6, y7, y8, y9, y10, y11, y12, y13⟩, h1, h3⟩) (fun x hx => h2 (x.1) (x.2.1) (x.2.2.1) (x.2.2.2.1) (x.2.2.2.2.1) (x.2.2.2.2.2.1) (x.2.2.2.2.2.2.1) (x.2.2.2.2.2.2.2.1) (x.2.2.2.2.2.2.2.2.1) (x.2.2.2.2.2.2.2.2.2.1) (x.2.2.2.2.2.2.2.2.2.2.1) (x.2.2.2.2.2.2.2.2.2.2.2.1) (x.2.2.2.2.2.2.2.2.2.2.2.2) hx)
end
/-- memory that is a row, or elder than the call -/
theorem holds_or {e : TypeId} {sz : Nat} {w0 : World} {B : Nat} {H : List Ent} {R A : Option Addr} {m c : Nat} {cs ds : List Value} (hm : row e sz R m c cs ∈ H) (h : (A = R ∧ ds = cs) ∨ AtB w0 B A ds) : Holds (SS w0 B H) A ds := by
  rcases h with ⟨rfl, rfl⟩ | h
  · exact holds_row hm
  · exact holds_old h
/-! ### lists of structs of four integers -/
def fQ (e : Int × Int × Int × Int) : List Value := [.int .i64 e.1, .int .i64 e.2.1, .int .i64 e.2.2.1, .int .i64 e.2.2.2]
theorem fQ_len : ∀ x, (fQ x).length = 4 := fun _ => rfl
theorem fQ_one : ∀ x, ∀ u ∈ fQ x, u.oneCell' = true := by intro x u hu; simp [fQ] at hu; rcases hu with rfl | rfl | rfl | rfl <;> rfl
end Go.Sx
