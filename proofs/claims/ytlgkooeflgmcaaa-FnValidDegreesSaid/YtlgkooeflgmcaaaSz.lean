/- More of the small logic: calls that turn several own pieces, bytes, conversions, bits. Conditions: those of each theorem. -/
import Derived.Test.YtlgkooeflgmcaaaSy
namespace Go.Sx
open Go.RowKit
section
variable {P : Program} {w0 : World} {B : Nat}
/-- a call that is told some of the pieces, in an order of its own -/
theorem call_o {H G : List Ent} {F : FuncId} {as_ : Array Value} {R : Ending → World → Prop} (k : Keep H G) (h : ∀ w, SS w0 B G w → Calls P F as_ w R) : ∀ w, SS w0 B H w → Calls P F as_ w R := fun w hw => h w (k.ss hw)
theorem Holds.keepF {H G : List Ent} {A : Option Addr} {cs : List Value} (h : Holds (SS w0 B G) A cs) (k : Keep H G) : Holds (SS w0 B H) A cs := fun w hw => h w (k.ss hw)
end
/-! ### bytes -/
def fY (n : Nat) : List Value := [.int .u8 (n : Int)]
theorem fY_len : ∀ x, (fY x).length = 1 := fun _ => rfl
theorem fY_one : ∀ x, ∀ u ∈ fY x, u.oneCell' = true := by intro x u hu; simp [fY] at hu; subst hu; rfl
theorem get_fY {xs : List Nat} {k : Nat} (h : k < xs.length) : (cells fY xs)[k * 1]? = some (.int .u8 ((xs.getD k 0 : Nat) : Int)) := cells_get fY_len (j := 0) 0 h (by omega)
theorem made_fY (m : Nat) : (madeCells (Value.int .u8 0).cells (m * 1)).toList = cells fY (List.replicate m 0) := made_of (f := fY) 0 _ rfl m
section
variable {P : Program} {L : List (Nat × Value)} {M : World → Prop} {x y : Operand} {d : Option Nat} {T U : TypeId} {pos : String} {af : Array Edge} {g : Option (Nat × Bool)} {i j : Int}
theorem ov_convi {S D : TypeId} {n : Int} {k : IntKind} (hs : (P.underlying S).isSome = true) (hd : P.underlying D = some (.int .i64)) (hx : ev L x = some (.int k n)) (hb : -9223372036854775808 ≤ n ∧ n ≤ 9223372036854775807) : OpV P L M ⟨d, .convert S D x, T, pos, af, g⟩ (.int .i64 n) := fun a w he _ => by
  have e : P.intKind D = .i64 := by simp [Program.intKind, hd]
  have h := run_convert_int (P := P) w S D k n hs (by rw [e]; exact hd)
  rw [e, wrap_in hb] at h
  simp only [execOp, he x _ hx]; simp [h]
theorem ov_nilCheckP {a : Addr} {q : Nat} (hx : ev L x = some (elp (some a) q)) : OpV P L M ⟨d, .nilCheck x, T, pos, af, g⟩ (elp (some a) q) := fun ac w he _ => by
  simp only [execOp, he x _ hx, elp, Option.map_some]; simp [go_sem]
theorem row_eq {e : TypeId} {s : Nat} {A : Option Addr} {c m m' : Nat} {cs cs' : List Value} (h : m = m') (h2 : cs = cs') : row e s A m c cs = row e s A m' c cs' := by rw [h, h2]
def xorI (i j : Int) : Int := IntKind.i64.wrap (((BitVec.ofInt 64 i) ^^^ (BitVec.ofInt 64 j)).toNat : Nat)
theorem xorI_bd (h0 : 0 ≤ i ∧ i < 4611686018427387904) (h1 : 0 ≤ j ∧ j < 4611686018427387904) : 0 ≤ xorI i j ∧ xorI i j < 4611686018427387904 := by
  unfold xorI
  have e : ((BitVec.ofInt 64 i) ^^^ (BitVec.ofInt 64 j)).toNat < 2 ^ 62 := by
    rw [BitVec.toNat_xor]
    refine Nat.xor_lt_two_pow ?_ ?_
    · rw [BitVec.toNat_ofInt]; omega
    · rw [BitVec.toNat_ofInt]; omega
  have e2 : (2 : Nat) ^ 62 = 4611686018427387904 := by decide
  rw [e2] at e
  rw [wrap_in (by omega)]
  omega
theorem ov_xor {T' : TypeId} (hx : ev L x = some (.int .i64 i)) (hy : ev L y = some (.int .i64 j)) : OpV P L M ⟨d, .binOp .xor U x y T', T, pos, af, g⟩ (.int .i64 (xorI i j)) := fun a w he _ => by
  have e : Op.intBits .xor .i64 i j = pure (.int .i64 (xorI i j)) := rfl
  simp only [execOp, he x _ hx, he y _ hy]; simp [go_sem, e]
end
end Go.Sx
