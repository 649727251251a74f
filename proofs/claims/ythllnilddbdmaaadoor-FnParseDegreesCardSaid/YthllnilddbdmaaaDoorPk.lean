/- Texts: digits written and read. No program in sight. Conditions: those of each theorem. -/
import Derived.Test.YthllnilddbdmaaaDoorPf
import Derived.Test.YthllnilddbdmaaaDoorSs
import Derived.Test.YthllnilddbdmaaaDoorPw
import Derived.Lib.ItoaNum
import Derived.Lib.Join
namespace Go.Plain
open Go.Sx
/-! ### writing -/
def dg (x : Int) : List UInt8 := Go.Lib.decDigits x.toNat
def dig (xs : List Int) : List UInt8 := xs.flatMap dg
theorem dg_one {x : Int} (h : 0 ≤ x ∧ x ≤ 9) : dg x = [UInt8.ofNat (48 + x.toNat)] := by
  unfold dg; rw [Go.Lib.decDigits, dif_pos (by omega)]
theorem dg_len {x : Int} (h : x < 100) : (dg x).length ≤ 2 := by
  unfold dg
  rw [Go.Lib.decDigits]
  split
  · simp
  · rw [Go.Lib.decDigits, dif_pos (by omega)]; simp
theorem dig_succ {xs : List Int} {k : Nat} (h : k < xs.length) : dig (xs.take (k + 1)) = dig (xs.take k) ++ dg (xs.getD k 0) := by
  unfold dig; rw [take_succ 0 h, List.flatMap_append]; simp
theorem dig_len : ∀ {xs : List Int}, (∀ x ∈ xs, x < 100) → (dig xs).length ≤ 2 * xs.length
  | [], _ => by simp [dig]
  | x :: r, h => by
    have h1 := dg_len (h x (by simp))
    have h2 := dig_len (xs := r) fun y hy => h y (List.mem_cons_of_mem _ hy)
    unfold dig at *
    rw [List.flatMap_cons, List.length_append, List.length_cons]; omega
theorem dig_one : ∀ {xs : List Int}, (∀ x ∈ xs, 0 ≤ x ∧ x ≤ 9) → dig xs = xs.map fun x => UInt8.ofNat (48 + x.toNat)
  | [], _ => rfl
  | x :: r, h => by
    have h1 := dg_one (h x (by simp))
    have h2 := dig_one (xs := r) fun y hy => h y (List.mem_cons_of_mem _ hy)
    unfold dig at *
    rw [List.flatMap_cons, List.map_cons, h1, h2]; rfl
theorem Valid.dig {d : List Int} (h : Valid d) : ∀ x ∈ d, 0 ≤ x ∧ x ≤ 9 := fun x hx => by have := h.1; have := h.2 x hx; omega
/-- the text of degrees -/
def textV (xs : List Int) : List UInt8 := if Valid xs then dig xs else []
theorem textV_len (xs : List Int) : (textV xs).length ≤ 14 := by
  unfold textV
  split
  · rename_i h
    have h1 := dig_len (xs := xs) fun x hx => by have := h.dig x hx; omega
    have := h.1; omega
  · simp
/-! ### reading -/
def byteI (b : UInt8) : Int := (b.toNat : Int) - 48
def byteJ (b : UInt8) : Int := if byteI b < 0 then 99 else byteI b
def rdS (s : ByteArray) : List Int := s.data.toList.map byteI
def rdI (s : ByteArray) : List Int := s.data.toList.map byteJ
theorem byte_bd (b : UInt8) : -48 ≤ byteI b ∧ byteI b ≤ 207 := by
  have := b.toNat_lt; unfold byteI; omega
theorem rdS_length (s : ByteArray) : (rdS s).length = s.size := by unfold rdS; rw [List.length_map]; rfl
theorem rdI_length (s : ByteArray) : (rdI s).length = s.size := by unfold rdI; rw [List.length_map]; rfl
theorem rdS_get {s : ByteArray} {k : Nat} (h : k < s.size) : (rdS s).getD k 0 = ((s.data.getD k 0).toNat : Int) - 48 := by
  have h2 : k < s.data.size := h
  have e : s.data[k]? = some s.data[k] := Array.getElem?_eq_getElem h2
  unfold rdS
  rw [List.getD_eq_getElem?_getD, List.getElem?_map, Array.getElem?_toList, Array.getD_eq_getD_getElem?, e]; rfl
theorem rdI_get {s : ByteArray} {k : Nat} (h : k < s.size) : (rdI s).getD k 0 = if ((s.data.getD k 0).toNat : Int) - 48 < 0 then 99 else ((s.data.getD k 0).toNat : Int) - 48 := by
  have h2 : k < s.data.size := h
  have e : s.data[k]? = some s.data[k] := Array.getElem?_eq_getElem h2
  unfold rdI
  rw [List.getD_eq_getElem?_getD, List.getElem?_map, Array.getElem?_toList, Array.getD_eq_getD_getElem?, e]; rfl
theorem map_valid {l : List UInt8} (hl : l.length ≤ 7) : (∀ x ∈ l.map byteJ, 0 ≤ x ∧ x ≤ (l.length : Int) - 1) ↔ (∀ x ∈ l.map byteI, 0 ≤ x ∧ x ≤ (l.length : Int) - 1) := by
  simp only [List.mem_map, forall_exists_index, and_imp, forall_apply_eq_imp_iff₂]
  constructor
  · intro h b hb
    have := h b hb
    unfold byteJ at this; split at this <;> omega
  · intro h b hb
    have := h b hb
    unfold byteJ; rw [if_neg (by omega)]; exact this
theorem rd_valid (s : ByteArray) : Valid (rdI s) ↔ Valid (rdS s) := by
  unfold Valid
  rw [rdI_length, rdS_length]
  constructor
  · rintro ⟨h1, h2⟩
    have hl : s.data.toList.length = s.size := rfl
    refine ⟨h1, ?_⟩
    have := (map_valid (l := s.data.toList) (by omega)).1
    rw [hl] at this; exact this h2
  · rintro ⟨h1, h2⟩
    have hl : s.data.toList.length = s.size := rfl
    refine ⟨h1, ?_⟩
    have := (map_valid (l := s.data.toList) (by omega)).2
    rw [hl] at this; exact this h2
theorem rd_same {s : ByteArray} (h : Valid (rdS s)) : rdI s = rdS s := by
  unfold rdI rdS
  refine List.map_congr_left fun b hb => ?_
  have := h.2 (byteI b) (List.mem_map_of_mem hb)
  unfold byteJ; rw [if_neg (by omega)]
/-- the degrees of a text, and whether there are such -/
def parseV (s : ByteArray) : List Int × Bool := if Valid (rdS s) then (rdS s, true) else ([], false)
theorem parseV_I (s : ByteArray) : parseV s = if Valid (rdI s) then (rdI s, true) else ([], false) := by
  unfold parseV
  by_cases h : Valid (rdS s)
  · rw [if_pos h, if_pos ((rd_valid s).2 h), rd_same h]
  · rw [if_neg h, if_neg (fun h2 => h ((rd_valid s).1 h2))]
theorem parseV_len (s : ByteArray) : (parseV s).1.length ≤ 7 := by
  unfold parseV
  split
  · rename_i h; exact h.1
  · simp
theorem byte_digit {x : Int} (h : 0 ≤ x ∧ x ≤ 9) : byteI (UInt8.ofNat (48 + x.toNat)) = x := by
  unfold byteI
  rw [UInt8.toNat_ofNat']; omega
/-- degrees are read back -/
theorem text_back {d : List Int} (h : Valid d) : parseV (bstr (dig d)) = (d, true) := by
  have e : rdS (bstr (dig d)) = d := by
    unfold rdS bstr
    rw [dig_one h.dig]
    simp only [List.toList_toArray, List.map_map]
    conv => rhs; rw [← List.map_id d]
    refine List.map_congr_left fun x hx => ?_
    exact byte_digit (h.dig x hx)
  unfold parseV
  rw [e, if_pos h]
/-- texts are written back -/
theorem back_text {s : ByteArray} (h : Valid (rdS s)) : bstr (dig (rdS s)) = s := by
  rw [dig_one h.dig]
  have e : (rdS s).map (fun x => UInt8.ofNat (48 + x.toNat)) = s.data.toList := by
    unfold rdS
    rw [List.map_map]
    conv => rhs; rw [← List.map_id s.data.toList]
    refine List.map_congr_left fun b hb => ?_
    have h1 := h.dig (byteI b) (List.mem_map_of_mem hb)
    show UInt8.ofNat (48 + (byteI b).toNat) = b
    have h2 : 48 + (byteI b).toNat = b.toNat := by unfold byteI at *; omega
    rw [h2]; exact UInt8.ofNat_toNat
  rw [e]; exact bstr_of s
theorem text_size {d : List Int} (h : Valid d) : (textV d).length = d.length := by rw [textV, if_pos h, dig_one h.dig, List.length_map]
theorem parse_ok {s : ByteArray} (h : (parseV s).2 = true) : Valid (rdS s) ∧ (parseV s).1 = rdS s := by
  unfold parseV at h ⊢
  split at h
  · rename_i hv; exact ⟨hv, by rw [if_pos hv]⟩
  · cases h
/-! ### texts of graphs -/
def dg2 (e : Ed) : List UInt8 := dg e.1 ++ dg e.2
def gtx (N : Int) (es : List Ed) : List UInt8 := dg N ++ [58] ++ Go.Lib.join (es.map dg2) [44]
theorem join_snoc (x : List UInt8) (sep : List UInt8) : ∀ {l : List (List UInt8)}, l ≠ [] → Go.Lib.join (l ++ [x]) sep = Go.Lib.join l sep ++ sep ++ x
  | [], h => absurd rfl h
  | y :: l, _ => by
    rw [List.cons_append, Go.Lib.join_cons, Go.Lib.join_cons]
    simp [Go.Lib.joinTail]
theorem gtx_succ {N : Int} {es : List Ed} {k : Nat} (h : k < es.length) (h0 : 0 < k) : gtx N (es.take (k + 1)) = gtx N (es.take k) ++ [44] ++ dg (es.getD k (0, 0)).1 ++ dg (es.getD k (0, 0)).2 := by
  unfold gtx
  rw [take_succ (0, 0) h, List.map_append, List.map_cons, List.map_nil, join_snoc _ _ (by
    intro e
    have := congrArg List.length e
    rw [List.length_map, List.length_take, List.length_nil] at this
    omega)]
  simp [dg2]
theorem gtx_zero (N : Int) (es : List Ed) : gtx N (es.take 0) = dg N ++ [58] := by simp [gtx, Go.Lib.join_nil]
theorem gtx_first {N : Int} {es : List Ed} (h : 0 < es.length) : gtx N (es.take (0 + 1)) = gtx N (es.take 0) ++ dg (es.getD 0 (0, 0)).1 ++ dg (es.getD 0 (0, 0)).2 := by
  unfold gtx
  rw [take_succ (0, 0) h]
  simp [Go.Lib.join_one, Go.Lib.join_nil, dg2]
theorem join_len {sep : List UInt8} : ∀ {l : List (List UInt8)}, (∀ x ∈ l, x.length ≤ 4) → (Go.Lib.join l sep).length ≤ (4 + sep.length) * l.length
  | [], _ => by simp [Go.Lib.join_nil]
  | y :: l, h => by
    rw [Go.Lib.join_cons, List.length_append]
    have h1 := h y (by simp)
    have h2 : (Go.Lib.joinTail sep l).length ≤ (4 + sep.length) * l.length := by
      have h3 := fun x hx => h x (List.mem_cons_of_mem y hx)
      clear h h1
      unfold Go.Lib.joinTail
      induction l with
      | nil => simp
      | cons z l ih =>
        have h4 := ih fun x hx => h3 x (List.mem_cons_of_mem z hx)
        have h5 := h3 z (by simp)
        rw [List.map_cons, List.flatten_cons, List.length_append, List.length_append, List.length_cons, Nat.mul_succ]; omega
    rw [List.length_cons, Nat.mul_succ]; omega
theorem gtx_len {N : Int} {es : List Ed} (hN : N < 100) (he : ∀ e ∈ es, e.1 < 100 ∧ e.2 < 100) : (gtx N es).length ≤ 3 + 5 * es.length := by
  have h1 := dg_len hN
  have h2 := join_len (sep := [44]) (l := es.map dg2) fun x hx => by
    obtain ⟨e, h, rfl⟩ := List.mem_map.1 hx
    have h3 := he e h
    have h4 := dg_len h3.1
    have h5 := dg_len h3.2
    unfold dg2; rw [List.length_append]; omega
  rw [List.length_map] at h2
  have h6 : ([44] : List UInt8).length = 1 := rfl
  rw [h6] at h2
  unfold gtx
  rw [List.length_append, List.length_append]
  show (dg N).length + 1 + _ ≤ _
  omega
theorem dig_two (a b : Int) : dig [a, b] = dg a ++ dg b := by simp [dig]
theorem dig_single (a : Int) : dig [a] = dg a := by simp [dig]
theorem map_bytes (es : List Ed) : (es.map fun e => bstr (dg2 e)).map (·.data.toList) = es.map dg2 := by
  rw [List.map_map]
  refine List.map_congr_left fun e _ => ?_
  rfl
theorem map_len (es : List Ed) : (es.map fun e => bstr (dg2 e)).length = es.length := List.length_map _
theorem jn_len {es : List Ed} (he : ∀ e ∈ es, e.1 < 100 ∧ e.2 < 100) (hl : es.length ≤ 100) : (Go.Lib.join ((es.map fun e => bstr (dg2 e)).map (·.data.toList)) (bstr [44]).data.toList).length ≤ 500 := by
  rw [map_bytes]
  have h2 := join_len (sep := [44]) (l := es.map dg2) fun x hx => by
    obtain ⟨e, h, rfl⟩ := List.mem_map.1 hx
    have h3 := he e h
    have h4 := dg_len h3.1
    have h5 := dg_len h3.2
    unfold dg2; rw [List.length_append]; omega
  rw [List.length_map] at h2
  have h6 : ([44] : List UInt8).length = 1 := rfl
  rw [h6] at h2
  show (Go.Lib.join (es.map dg2) [44]).length ≤ 500
  omega
/-- the text of a graph -/
def gtxV (N : Int) (es : List Ed) : List UInt8 := if ValidG N es then gtx N es else []
/-! ### what is drawn -/
def Dg (xs : List Int) : Prop := ∀ x ∈ xs, 0 ≤ x ∧ x ≤ 9
theorem Dg.set {xs : List Int} (h : Dg xs) {i : Nat} {v : Int} (hv : 0 ≤ v ∧ v ≤ 9) : Dg (xs.set i v) := fun x hx => by
  rcases List.mem_or_eq_of_mem_set hx with h1 | rfl
  · exact h x h1
  · exact hv
theorem Dg.at_ {xs : List Int} (h : Dg xs) {k : Nat} (hk : k < xs.length) : 0 ≤ xs.getD k 0 ∧ xs.getD k 0 ≤ 9 := h _ (getD_mem 0 hk)
theorem degs_dg {m : Nat} {es : List Ed} (hg : Gr m es) (hm : m ≤ 7) : Dg (degs m es) := (gr_valid hg hm).dig
theorem of8 : ∀ t ∈ [bstr [48], bstr [49], bstr [55], bstr [44], bstr [58], bstr [45], bstr [97], bstr [32]], t.size ≤ 2 := by decide
theorem of4 : ∀ t ∈ [bstr [48], bstr [44], bstr [32], bstr [49, 50]], t.size ≤ 2 := by decide
theorem ext0_size (s : ByteArray) {k : Nat} (h : k ≤ s.size) : (s.extract 0 k).size = k := by rw [ByteArray.size_extract]; omega
theorem ext1_size (s : ByteArray) {k : Nat} (h : k ≤ s.size) : (s.extract k s.size).size = s.size - k := by rw [ByteArray.size_extract]; omega
end Go.Plain
