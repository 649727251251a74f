/- Strings in the small logic: joining, comparing, pieces, bytes. Conditions: those of each theorem. -/
import Derived.Test.YtkkllkkjdbpjpaaSm
import Derived.Laws.Strings
import Derived.Laws.Strings2
import Derived.Laws.Strings3
namespace Go.Sx
open Go.RowKit
/-! ### lists of strings -/
def fS (s : ByteArray) : List Value := [.string s]
theorem fS_len : ∀ x, (fS x).length = 1 := fun _ => rfl
theorem fS_one : ∀ x, ∀ u ∈ fS x, u.oneCell' = true := by intro x u hu; simp [fS] at hu; subst hu; rfl
theorem get_fS {xs : List ByteArray} {k : Nat} (h : k < xs.length) : (cells fS xs)[k * 1]? = some (.string (xs.getD k ByteArray.empty)) := cells_get fS_len (j := 0) ByteArray.empty h (by omega)
/-- the string of some bytes -/
def bstr (l : List UInt8) : ByteArray := ⟨l.toArray⟩
theorem bstr_size (l : List UInt8) : (bstr l).size = l.length := by simp [bstr, ByteArray.size]
theorem bstr_append (a b : List UInt8) : bstr a ++ bstr b = bstr (a ++ b) := by
  apply ByteArray.ext
  simp [bstr, ByteArray.data_append]
theorem bstr_inj {a b : List UInt8} (h : bstr a = bstr b) : a = b := by
  have := congrArg (fun s => s.data.toList) h
  simpa [bstr] using this
theorem bstr_of (s : ByteArray) : bstr s.data.toList = s := by
  apply ByteArray.ext; simp [bstr]
theorem toList_inj {s t : ByteArray} : (s.toList == t.toList) = decide (s = t) := by
  rw [Bool.eq_iff_iff]
  simp only [beq_iff_eq, decide_eq_true_eq]
  constructor
  · intro h
    have h1 : s.data.toList = t.data.toList := by rw [← ByteArray.toList_eq, ← ByteArray.toList_eq, h]
    exact ByteArray.ext (Array.ext' h1)
  · rintro rfl; rfl
section
variable {P : Program} {L : List (Nat × Value)} {M : World → Prop} {d : Option Nat} {x y z : Operand} {U T T' : TypeId} {pos : String} {af : Array Edge} {g : Option (Nat × Bool)} {s t r : ByteArray}
theorem ov_adds (hx : ev L x = some (.string s)) (hy : ev L y = some (.string t)) (hr : s ++ t = r) (hb : s.size + t.size ≤ 1000000) : OpV P L M ⟨d, .binOp .add U x y T', T, pos, af, g⟩ (.string r) := fun a w he _ => by
  subst hr
  have hn : ¬ 9223372036854775807 < (s.size : Int) + (t.size : Int) := by omega
  simp only [execOp, he x _ hx, he y _ hy, binOp_string_add]
  simp [Op.stringOp, eqGuard, hn]
theorem ov_eqls (hx : ev L x = some (.string s)) (hy : ev L y = some (.string t)) : OpV P L M ⟨d, .binOp .eql U x y T', T, pos, af, g⟩ (.bool (decide (s = t))) := fun a w he _ => by
  simp only [execOp, he x _ hx, he y _ hy, binOp_string_eql, toList_inj]; rfl
theorem ov_neqs (hx : ev L x = some (.string s)) (hy : ev L y = some (.string t)) : OpV P L M ⟨d, .binOp .neq U x y T', T, pos, af, g⟩ (.bool (decide (s ≠ t))) := fun a w he _ => by
  simp only [execOp, he x _ hx, he y _ hy, binOp_string_neq, toList_inj, decide_not]; rfl
theorem ov_indexs {k : Nat} (hU : P.underlying U = some .string) (hx : ev L x = some (.string s)) (hy : ev L y = some (.int .i64 (k : Int))) (hk : k < s.size) : OpV P L M ⟨d, .index U x y, T, pos, af, g⟩ (.int .u8 (((s.data.getD k 0).toNat : Nat) : Int)) := fun a w he _ => by
  simp only [execOp, he x _ hx, he y _ hy, Sem.run_bind]
  rw [run_index_string (h := hU), dif_pos ⟨by omega, by omega⟩]
  simp only [Int.toNat_natCast, Result.andThen_ok, Sem.run_pure]
  have e : s[k] = s.data.getD k 0 := by
    rw [Array.getD_eq_getD_getElem?, Array.getElem?_eq_getElem hk]; rfl
  rw [e]
theorem ov_slices_h {k : Nat} (hU : P.underlying U = some .string) (hx : ev L x = some (.string s)) (hy : ev L y = some (.int .i64 (k : Int))) (hk : k ≤ s.size) : OpV P L M ⟨d, .slice U x none (some y) none, T, pos, af, g⟩ (.string (s.extract 0 k)) := fun a w he _ => by
  simp only [execOp, he x _ hx, he y _ hy, Instr.sliceAt, Option.map_some, Option.map_none]
  have h := run_slice_string_to_if (P := P) w U s .i64 (k : Int) hU
  rw [if_pos ⟨by omega, by omega⟩] at h
  rw [Int.toNat_natCast] at h
  simp [run_underlying hU, h]
theorem ov_slices_l {k : Nat} (hU : P.underlying U = some .string) (hx : ev L x = some (.string s)) (hy : ev L y = some (.int .i64 (k : Int))) (hk : k ≤ s.size) : OpV P L M ⟨d, .slice U x (some y) none none, T, pos, af, g⟩ (.string (s.extract k s.size)) := fun a w he _ => by
  simp only [execOp, he x _ hx, he y _ hy, Instr.sliceAt, Option.map_some, Option.map_none]
  have h := run_slice_string_from_if (P := P) w U s .i64 (k : Int) hU
  rw [if_pos ⟨by omega, by omega⟩] at h
  rw [Int.toNat_natCast] at h
  simp [run_underlying hU, h]
end
section
variable {P : Program} {L : List (Nat × Value)} {M : World → Prop} {d : Option Nat} {x y z : Operand} {U T T' : TypeId} {pos : String} {af : Array Edge} {g : Option (Nat × Bool)} {s : ByteArray}
theorem ov_slices_lh {l h : Nat} (hU : P.underlying U = some .string) (hx : ev L x = some (.string s)) (hy : ev L y = some (.int .i64 (l : Int))) (hz : ev L z = some (.int .i64 (h : Int))) (hlh : l ≤ h) (hh : h ≤ s.size) : OpV P L M ⟨d, .slice U x (some y) (some z) none, T, pos, af, g⟩ (.string (s.extract l h)) := fun a w he _ => by
  simp only [execOp, he x _ hx, he y _ hy, he z _ hz, Instr.sliceAt, Option.map_some, Option.map_none]
  have h := run_slice_string (P := P) w U s .i64 .i64 (l : Int) (h : Int) hU (by omega) (by omega) (by omega)
  rw [Int.toNat_natCast, Int.toNat_natCast] at h
  simp [run_underlying hU, h]
end
theorem row_addr {e : TypeId} {s : Nat} {A : Option Addr} {n c : Nat} {cs : List Value} {w0 : World} {B : Nat} {H : List Ent} (hm : row e s A n c cs ∈ H) : ∀ w, SS w0 B H w → ∀ a, A = some a → a = ⟨a.block, 0, none⟩ := fun w hw a ha => by
  rcases (hw.hp.mem _ hm).2.2.2 with ⟨rfl, _⟩ | ⟨g, cur, rfl, _⟩
  · cases ha
  · injection ha with ha; subst ha; rfl
end Go.Sx
