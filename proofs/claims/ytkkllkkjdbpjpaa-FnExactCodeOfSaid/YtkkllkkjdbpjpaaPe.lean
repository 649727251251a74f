/- Margins, strong scores, the number of trees: what the functions compute, and small facts on it. Conditions: those of each theorem. -/
import Derived.Test.YtkkllkkjdbpjpaaPd
namespace Go.Plain
/-! ### margins -/
def ValidM (r c : List Int) : Prop := (1 ≤ r.length ∧ r.length ≤ 5) ∧ (1 ≤ c.length ∧ c.length ≤ 5) ∧ (∀ x ∈ r, 0 ≤ x ∧ x ≤ (c.length : Int)) ∧ ∀ x ∈ c, 0 ≤ x ∧ x ≤ (r.length : Int)
instance (r c : List Int) : Decidable (ValidM r c) := by unfold ValidM; exact inferInstance
theorem ValidM.smallR {r c : List Int} (h : ValidM r c) : Small r := ⟨by have := h.1; omega, fun x hx => by have := h.2.1; have := h.2.2.1 x hx; omega⟩
theorem ValidM.smallC {r c : List Int} (h : ValidM r c) : Small c := ⟨by have := h.2.1; omega, fun x hx => by have := h.1; have := h.2.2.2 x hx; omega⟩
def galeAt (r c : List Int) (k : Nat) : Int := minsum c ((k + 1 : Nat) : Int) - total ((fall r).take (k + 1))
def galeL (r c : List Int) : List Int := (List.range r.length).map (galeAt r c)
def galeV (r c : List Int) : List Int := if ValidM r c then galeL r c else []
theorem galeL_len (r c : List Int) : (galeL r c).length = r.length := by simp [galeL]
theorem galeV_len (r c : List Int) : (galeV r c).length ≤ 5 := by
  unfold galeV; split
  · rename_i h; rw [galeL_len]; exact h.1.2
  · exact Nat.zero_le _
/-- the numbers with the index i on the way -/
def galeTo (r c : List Int) (i q : Nat) : Int := minsum (c.take q) ((i + 1 : Nat) : Int) - total ((fall r).take (i + 1))
theorem galeTo_zero (r c : List Int) (i : Nat) : galeTo r c i 0 = - total ((fall r).take (i + 1)) := by simp [galeTo, minsum, total]
theorem galeTo_succ {r c : List Int} {i q : Nat} (h : q < c.length) : galeTo r c i (q + 1) = galeTo r c i q + min (c.getD q 0) ((i + 1 : Nat) : Int) := by
  unfold galeTo; rw [minsum_take h]; omega
theorem galeTo_end {r c : List Int} {i q : Nat} (h : c.length ≤ q) : galeTo r c i q = galeAt r c i := by
  unfold galeTo galeAt; rw [List.take_of_length_le h]
theorem galeTo_bd {r c : List Int} (h : ValidM r c) {i q : Nat} (hi : i < r.length) (hq : q ≤ c.length) : -200000 ≤ galeTo r c i q ∧ galeTo r c i q ≤ 200000 := by
  have h1 := h.1; have h2 := h.2.1
  have hb := minsum_bd h.smallC (k := ((i + 1 : Nat) : Int)) (by omega) q hq
  have ht := total_bd (small_fall h.smallR) (i + 1) (by rw [fall_length]; omega)
  unfold galeTo
  omega
def BigrP (r c : List Int) : Prop := ValidM r c ∧ total r = total c ∧ noneNeg (galeL r c)
instance (r c : List Int) : Decidable (BigrP r c) := by unfold BigrP; exact inferInstance
instance (a b : List Int) : Decidable (MajP a b) := by unfold MajP; exact inferInstance
/-! ### strong scores -/
def StrongP (xs : List Int) : Prop := (ValidSc xs ∧ noneNeg (scoreL xs) ∧ (scoreL xs).getD (xs.length - 1) 0 = 0) ∧ ∀ k, k < xs.length - 1 → (scoreL xs).getD k 0 ≠ 0
instance (xs : List Int) : Decidable (StrongP xs) := by unfold StrongP; exact inferInstance
theorem scoreL_len (xs : List Int) : (scoreL xs).length = xs.length := by simp [scoreL]
theorem idx_last {L : List Int} {n : Nat} (hl : L.length = n) (h0 : 0 < n) (hz : L.getD (n - 1) 0 = 0) : idxF (fun x => decide (x = 0)) L = (n : Int) - 1 ↔ ∀ k, k < n - 1 → L.getD k 0 ≠ 0 := by
  constructor
  · intro h k hk hz2
    have hex : ∃ q, q < L.length ∧ L.getD q 0 = 0 ∧ ∀ j, j < q → L.getD j 0 ≠ 0 := by
      have key : ∀ m, m ≤ k → (∀ j, j < m → L.getD j 0 ≠ 0) ∨ ∃ q, q < L.length ∧ L.getD q 0 = 0 ∧ (∀ j, j < q → L.getD j 0 ≠ 0) ∧ q ≤ k := by
        intro m
        induction m with
        | zero => intro _; left; intro j hj; omega
        | succ m ih =>
          intro hm
          rcases ih (by omega) with h1 | h1
          · by_cases e : L.getD m 0 = 0
            · right; exact ⟨m, by omega, e, h1, by omega⟩
            · left; intro j hj; rcases Nat.lt_succ_iff_lt_or_eq.1 hj with h2 | rfl
              · exact h1 j h2
              · exact e
          · right; exact h1
      rcases key k (Nat.le_refl _) with h1 | ⟨q, h1, h2, h3, h4⟩
      · exact ⟨k, by omega, hz2, h1⟩
      · exact ⟨q, h1, h2, h3⟩
    obtain ⟨q, hq, hqz, hqf⟩ := hex
    have hqk : q ≤ k := by
      rcases Nat.lt_or_ge k q with h5 | h5
      · exact absurd hz2 (hqf k h5)
      · exact h5
    have e := idxF_found (p := fun x => decide (x = 0)) (xs := L) (k := q) 0 hq (fun x hx => by
      obtain ⟨i, hi, rfl⟩ := List.mem_take_iff_getElem.1 hx
      have h6 := hqf i (by omega)
      have e2 : L.getD i 0 = L[i]'(by omega) := by simp [show i < L.length from by omega]
      rw [e2] at h6
      simpa using h6) (by simpa using hqz)
    rw [e] at h; omega
  · intro h
    have e := idxF_found (p := fun x => decide (x = 0)) (xs := L) (k := n - 1) 0 (by omega) (fun x hx => by
      obtain ⟨i, hi, rfl⟩ := List.mem_take_iff_getElem.1 hx
      have h6 := h i (by omega)
      have e2 : L.getD i 0 = L[i]'(by omega) := by simp [show i < L.length from by omega]
      rw [e2] at h6
      simpa using h6) (by simpa using hz)
    rw [e]; omega
/-! ### the number of trees -/
def fac : Nat → Int
  | 0 => 1
  | n + 1 => ((n + 1 : Nat) : Int) * fac n
theorem fac_pos : ∀ n, 1 ≤ fac n
  | 0 => by decide
  | n + 1 => by
    have := fac_pos n
    unfold fac
    have h1 : (1 : Int) ≤ ((n + 1 : Nat) : Int) := by omega
    calc (1 : Int) = 1 * 1 := rfl
      _ ≤ ((n + 1 : Nat) : Int) * fac n := Int.mul_le_mul h1 this (by decide) (by omega)
theorem fac_le {n : Nat} (h : n ≤ 10) : fac n ≤ 3628800 := by
  have : n = 0 ∨ n = 1 ∨ n = 2 ∨ n = 3 ∨ n = 4 ∨ n = 5 ∨ n = 6 ∨ n = 7 ∨ n = 8 ∨ n = 9 ∨ n = 10 := by omega
  rcases this with rfl | rfl | rfl | rfl | rfl | rfl | rfl | rfl | rfl | rfl | rfl <;> decide
theorem fac_step (a : Int) (k : Nat) : a / fac k / ((k + 1 : Nat) : Int) = a / fac (k + 1) := by
  rw [Int.ediv_ediv_of_nonneg (by have := fac_pos k; omega), fac, Int.mul_comm]
/-- what is left behind the first degrees -/
def treesTo (d : List Int) (j : Nat) : Int := (d.take j).foldl (fun a k => a / fac (k - 1).toNat) (fac (d.length - 2))
theorem treesTo_succ {d : List Int} {j : Nat} (h : j < d.length) : treesTo d (j + 1) = treesTo d j / fac (d.getD j 0 - 1).toNat := by
  unfold treesTo; rw [take_succ 0 h, List.foldl_append]; rfl
theorem treesTo_bd {d : List Int} (h : d.length ≤ 7) : ∀ j, j ≤ d.length → 0 ≤ treesTo d j ∧ treesTo d j ≤ 3628800
  | 0, _ => by
    have h1 := fac_pos (d.length - 2); have h2 := fac_le (n := d.length - 2) (by omega)
    unfold treesTo; simp only [List.take_zero, List.foldl_nil]; omega
  | j + 1, hj => by
    have ih := treesTo_bd h j (by omega)
    rw [treesTo_succ (by omega)]
    have hp := fac_pos (d.getD j 0 - 1).toNat
    exact ⟨Int.ediv_nonneg ih.1 (by omega), Int.le_trans (Int.ediv_le_self _ ih.1) ih.2⟩
def treesV (d : List Int) : Int := if ¬ Valid d then -1 else if ¬ TreeP d then 0 else treesTo d d.length
theorem div_le {a b : Int} (ha : 0 ≤ a ∧ a ≤ 3628800) (hb : 1 ≤ b) : 0 ≤ a / b ∧ a / b ≤ 3628800 := ⟨Int.ediv_nonneg ha.1 (by omega), Int.le_trans (Int.ediv_le_self _ ha.1) ha.2⟩
theorem fac_end {x : Int} {j : Nat} (h1 : j = 0 ∨ ((j + 2 : Nat) : Int) ≤ x) (h2 : ¬ ((j + 2 : Nat) : Int) < x) : fac (x - 1).toNat = fac (j + 1) := by
  rcases h1 with rfl | h1
  · have : (x - 1).toNat = 0 ∨ (x - 1).toNat = 1 := by omega
    rcases this with h | h <;> rw [h] <;> rfl
  · rw [show (x - 1).toNat = j + 1 from by omega]
theorem fac_start {k n : Nat} (h : k = 0 ∨ k + 3 ≤ n) (h2 : ¬ ((k + 2 : Nat) : Int) ≤ (n : Int) - 2) : fac (k + 1) = fac (n - 2) := by
  rcases h with rfl | h
  · have : n - 2 = 0 ∨ n - 2 = 1 := by omega
    rcases this with h | h <;> rw [h] <;> rfl
  · rw [show k + 1 = n - 2 from by omega]
end Go.Plain
