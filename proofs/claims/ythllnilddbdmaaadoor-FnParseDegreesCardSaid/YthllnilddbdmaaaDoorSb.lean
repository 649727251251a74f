/- The kit's contracts of strings.Builder, strings.Join and strconv.Itoa, laid at this program (by a program, out of what the kit's own tool found), and told in the small logic. Conditions: those of each theorem. -/
import Derived.Test.YthllnilddbdmaaaDoorProg
import Derived.Test.YthllnilddbdmaaaDoorSm
import Derived.Test.YthllnilddbdmaaaDoorPk
import Derived.Shelf.Strings.OnBuilder
import Derived.Shelf.Strings.Builder1
import Derived.Shelf.Strconv.Itoa3
import Derived.KernelRfl
namespace Go.Proofs.YthllnilddbdmaaaDoor.Sb
open Go.Shelf Go.RowKit Go.Sx Go.Plain
def renJ : Ren := ⟨fun x => match x with
  | 156 => 28
  | 165 => 49
  | 166 => 46
  | 169 => 48
  | 240 => 59
  | 241 => 61
  | 276 => 65
  | 277 => 67
  | n => n, fun x => match x with
  | 31 => 47
  | 9 => 9
  | 3 => 3
  | 4 => 4
  | 0 => 0
  | 20 => 20
  | 72 => 67
  | 76 => 70
  | 70 => 65
  | 37 => 38
  | 75 => 69
  | 127 => 82
  | 164 => 86
  | 5 => 5
  | 80 => 72
  | n => n, fun x => x⟩
set_option maxRecDepth 100000 in
theorem layJ : Lays.n156 Tryd.prog renJ where
  mixed := by kernel_rfl
  f156 := Tryd.func28.trans (congrArg some (by kernel_rfl))
  f165 := Tryd.func49.trans (congrArg some (by kernel_rfl))
  f166 := Tryd.func46.trans (congrArg some (by kernel_rfl))
  f169 := Tryd.func48.trans (congrArg some (by kernel_rfl))
  f240 := Tryd.func59.trans (congrArg some (by kernel_rfl))
  f241 := Tryd.func61.trans (congrArg some (by kernel_rfl))
  f276 := Tryd.func65.trans (congrArg some (by kernel_rfl))
  f277 := Tryd.func67.trans (congrArg some (by kernel_rfl))
  t0 := Tryd.underlying0
  a0 := Tryd.isAgg0
  z0 := Tryd.sizeOf0
  v0 := Tryd.zeroValue0
  t3 := Tryd.underlying3
  a3 := Tryd.isAgg3
  z3 := Tryd.sizeOf3
  v3 := Tryd.zeroValue3
  t4 := Tryd.underlying4
  a4 := Tryd.isAgg4
  z4 := Tryd.sizeOf4
  v4 := Tryd.zeroValue4
  t9 := Tryd.underlying9
  a9 := Tryd.isAgg9
  z9 := Tryd.sizeOf9
  v9 := Tryd.zeroValue9
  t20 := Tryd.underlying20
  a20 := Tryd.isAgg20
  z20 := Tryd.sizeOf20
  v20 := Tryd.zeroValue20
  t31 := Tryd.underlying47
  a31 := Tryd.isAgg47
  z31 := Tryd.sizeOf47
  v31 := Tryd.zeroValue47
  t37 := Tryd.underlying38
  a37 := Tryd.isAgg38
  z37 := Tryd.sizeOf38
  v37 := Tryd.zeroValue38
  t70 := Tryd.underlying65
  a70 := Tryd.isAgg65
  z70 := Tryd.sizeOf65
  v70 := Tryd.zeroValue65
  t72 := Tryd.underlying67
  a72 := Tryd.isAgg67
  z72 := Tryd.sizeOf67
  v72 := Tryd.zeroValue67
  t75 := Tryd.underlying69
  a75 := Tryd.isAgg69
  z75 := Tryd.sizeOf69
  v75 := Tryd.zeroValue69
  t76 := Tryd.underlying70
  a76 := Tryd.isAgg70
  z76 := Tryd.sizeOf70
  v76 := Tryd.zeroValue70
  t127 := Tryd.underlying82
  a127 := Tryd.isAgg82
  z127 := Tryd.sizeOf82
  v127 := Tryd.zeroValue82
  t164 := Tryd.underlying86
  a164 := Tryd.isAgg86
  z164 := Tryd.sizeOf86
  v164 := Tryd.zeroValue86
def renI : Ren := ⟨fun x => match x with
  | 171 => 47
  | 243 => 60
  | 246 => 66
  | 283 => 70
  | 284 => 71
  | 285 => 72
  | 286 => 73
  | 129 => 76
  | 317 => 75
  | 318 => 77
  | 319 => 78
  | 320 => 79
  | 337 => 80
  | 338 => 81
  | n => n, fun x => match x with
  | 3 => 3
  | 9 => 9
  | 2 => 2
  | 4 => 4
  | 171 => 92
  | 0 => 0
  | 53 => 93
  | 37 => 38
  | 5 => 5
  | 173 => 96
  | 212 => 100
  | 51 => 101
  | 20 => 20
  | 213 => 102
  | 46 => 103
  | 232 => 106
  | 233 => 107
  | n => n, fun x => match x with
  | 17 => 1
  | 18 => 2
  | 19 => 3
  | n => n⟩
set_option maxRecDepth 100000 in
theorem layI : Lays.n171 Tryd.prog renI where
  mixed := by kernel_rfl
  f129 := Tryd.func76.trans (congrArg some (by kernel_rfl))
  f171 := Tryd.func47.trans (congrArg some (by kernel_rfl))
  f243 := Tryd.func60.trans (congrArg some (by kernel_rfl))
  f246 := Tryd.func66.trans (congrArg some (by kernel_rfl))
  f283 := Tryd.func70.trans (congrArg some (by kernel_rfl))
  f284 := Tryd.func71.trans (congrArg some (by kernel_rfl))
  f285 := Tryd.func72.trans (congrArg some (by kernel_rfl))
  f286 := Tryd.func73.trans (congrArg some (by kernel_rfl))
  f317 := Tryd.func75.trans (congrArg some (by kernel_rfl))
  f318 := Tryd.func77.trans (congrArg some (by kernel_rfl))
  f319 := Tryd.func78.trans (congrArg some (by kernel_rfl))
  f320 := Tryd.func79.trans (congrArg some (by kernel_rfl))
  f337 := Tryd.func80.trans (congrArg some (by kernel_rfl))
  f338 := Tryd.func81.trans (congrArg some (by kernel_rfl))
  t0 := Tryd.underlying0
  a0 := Tryd.isAgg0
  z0 := Tryd.sizeOf0
  v0 := Tryd.zeroValue0
  t2 := Tryd.underlying2
  a2 := Tryd.isAgg2
  z2 := Tryd.sizeOf2
  v2 := Tryd.zeroValue2
  t3 := Tryd.underlying3
  a3 := Tryd.isAgg3
  z3 := Tryd.sizeOf3
  v3 := Tryd.zeroValue3
  t4 := Tryd.underlying4
  a4 := Tryd.isAgg4
  z4 := Tryd.sizeOf4
  v4 := Tryd.zeroValue4
  t5 := Tryd.underlying5
  a5 := Tryd.isAgg5
  z5 := Tryd.sizeOf5
  v5 := Tryd.zeroValue5
  t9 := Tryd.underlying9
  a9 := Tryd.isAgg9
  z9 := Tryd.sizeOf9
  v9 := Tryd.zeroValue9
  t20 := Tryd.underlying20
  a20 := Tryd.isAgg20
  z20 := Tryd.sizeOf20
  v20 := Tryd.zeroValue20
  t37 := Tryd.underlying38
  a37 := Tryd.isAgg38
  z37 := Tryd.sizeOf38
  v37 := Tryd.zeroValue38
  t46 := Tryd.underlying103
  a46 := Tryd.isAgg103
  z46 := Tryd.sizeOf103
  v46 := Tryd.zeroValue103
  t51 := Tryd.underlying101
  a51 := Tryd.isAgg101
  z51 := Tryd.sizeOf101
  v51 := Tryd.zeroValue101
  t53 := Tryd.underlying93
  a53 := Tryd.isAgg93
  z53 := Tryd.sizeOf93
  v53 := Tryd.zeroValue93
  t171 := Tryd.underlying92
  a171 := Tryd.isAgg92
  z171 := Tryd.sizeOf92
  v171 := Tryd.zeroValue92
  t173 := Tryd.underlying96
  a173 := Tryd.isAgg96
  z173 := Tryd.sizeOf96
  v173 := Tryd.zeroValue96
  t212 := Tryd.underlying100
  a212 := Tryd.isAgg100
  z212 := Tryd.sizeOf100
  v212 := Tryd.zeroValue100
  t213 := Tryd.underlying102
  a213 := Tryd.isAgg102
  z213 := Tryd.sizeOf102
  t232 := Tryd.underlying106
  a232 := Tryd.isAgg106
  z232 := Tryd.sizeOf106
  v232 := Tryd.zeroValue106
  t233 := Tryd.underlying107
  a233 := Tryd.isAgg107
  z233 := Tryd.sizeOf107
  v233 := Tryd.zeroValue107
  g17 := by kernel_rfl
  g18 := by kernel_rfl
  g19 := by kernel_rfl
theorem extraJ : Builder.Extra Tryd.prog renJ where
  sizeBuilder := by kernel_rfl
  liesBuilder := by kernel_rfl
  t5 := Tryd.underlying5
  a5 := Tryd.isAgg5
  z5 := Tryd.sizeOf5
  v5 := Tryd.zeroValue5
  infoByte := by kernel_rfl
  cellsByte := by kernel_rfl
  sizeByte := by kernel_rfl
  neB5 := by decide
/-- the bytes of a string, as numbers -/
def bytesN (s : ByteArray) : List Nat := s.data.toList.map UInt8.toNat
theorem cellsN (l : List UInt8) : Go.Sx.cells fY (l.map UInt8.toNat) = Lib.byteCells l := by
  unfold Go.Sx.cells Lib.byteCells
  rw [List.flatMap_map]
  induction l with
  | nil => rfl
  | cons x l ih => rw [List.flatMap_cons, List.map_cons, ih]; rfl
theorem cellsS (s : ByteArray) : Go.Sx.cells fY (bytesN s) = Lib.strCells s := cellsN s.data.toList
theorem itoa_c (w : World) (m : Int) (hm : 0 ≤ m ∧ m < 100) : Calls Tryd.prog 47 #[.int .i64 m] w (Ret fun v w' => v = .string (bstr (dg m)) ∧ New w w' []) := by
  obtain ⟨k, rfl⟩ := Int.eq_ofNat_of_zero_le hm.1
  exact (Any.strconv_Itoa_small layI k (by omega) w).mono fun e w' ⟨he, hw⟩ => ⟨_, he, rfl, by subst hw; exact ⟨Below.refl _ _, trivial⟩⟩
/-- the two pieces of a builder are what the kit calls one -/
theorem builder_of {w w0 : World} {Bd g n c : Nat} {pv : Value} {A : Option Addr} {bs : List Nat} (hpv : pv = .pointer none ∨ pv = .pointer (some ⟨g, 0, none⟩)) (eA : bs.length = n) (hss : SS w0 Bd [blk g [pv, .slice A n c] 67, row 5 1 A n c (Go.Sx.cells fY bs)] w) : Lib.IsBuilder 67 5 Bd g (Go.Sx.cells fY bs) w := by
  obtain ⟨h1, h2, h3, ⟨h4, h5, _, _⟩⟩ := hss.hp
  have hcl : (Go.Sx.cells fY bs).length = n := by rw [cells_length fY_len, eA, Nat.mul_one]
  have key : Lib.BuilderAt 67 5 Bd g pv (Go.Sx.cells fY bs) w := by
    refine ⟨(h2 g rfl).1, .slice A n c, h1, ⟨by omega, ?_⟩, ?_⟩
    · rcases h4.2.2.2 with ⟨rfl, rfl⟩ | ⟨g2, cur, rfl, e2, e3, e4⟩
      · have : n = 0 := by have := h4.2.1; omega
        subst this; exact .inl ⟨rfl, by omega⟩
      · refine .inr ⟨g2, c, cur.toArray, by rw [hcl], (h5 g2 ⟨_, rfl, rfl⟩).1, e2, by rw [hcl]; exact h4.2.1, h4.2.2.1, by simpa using e3, ?_⟩
        rw [hcl]; exact e4
    · rcases h4.2.2.2 with ⟨rfl, rfl⟩ | ⟨g2, cur, rfl, e2, e3, e4⟩
      · intro h; cases h
      · intro h
        have h9 : g2 = g := by simpa [Value.ownBlock] using h
        exact h3 _ (List.mem_singleton.2 rfl) g rfl ⟨⟨g2, 0, none⟩, rfl, h9.symm⟩
  rcases hpv with rfl | rfl
  · exact .inl key
  · exact .inr key
/-- and back -/
theorem of_builder {w w' w0 : World} {Bd g : Nat} {pv : Value} {bs : List Nat} (hle : Bd ≤ w.heap.size) (h0 : Below Bd w0 w) (hb : Lib.BuilderAt 67 5 Bd g pv (Go.Sx.cells fY bs) w') (hbl : Below Bd w w') : ∃ A c, bs.length ≤ c ∧ SS w0 Bd [blk g [pv, .slice A bs.length c] 67, row 5 1 A bs.length c (Go.Sx.cells fY bs)] w' := by
  have hcl : (Go.Sx.cells fY bs).length = bs.length := by rw [cells_length fY_len, Nat.mul_one]
  have hlt := hb.lt
  obtain ⟨h1, v, h2, ⟨h3, h4⟩, h5⟩ := hb
  have hsz := hbl.size
  rcases h4 with ⟨rfl, h6⟩ | ⟨g2, cap, cur, rfl, h6, h7, h8, h9, h10, h11⟩
  · have hn : bs.length = 0 := by omega
    refine ⟨none, 0, by omega, h0.trans hbl, ⟨?_, ?_, ?_, ⟨?_, ?_, ?_, trivial⟩⟩, by omega⟩
    · rw [hn]; exact h2
    · rintro k rfl; exact ⟨h1, hlt⟩
    · intro e' he' k hk hk'
      rw [List.mem_singleton] at he'
      subst he'
      obtain ⟨a, ha, _⟩ := hk'
      cases ha
    · exact ⟨by omega, by omega, Nat.zero_le _, .inl ⟨rfl, rfl⟩⟩
    · rintro k ⟨a, ha, _⟩; cases ha
    · intro e' he'; cases he'
  · rw [hcl] at h2 h5 h8 h11
    have hg2 : g2 < w'.heap.size := by
      rcases Nat.lt_or_ge g2 w'.heap.size with h | h
      · exact h
      · rw [Array.getElem?_eq_none h] at h7; cases h7
    refine ⟨some ⟨g2, 0, none⟩, cap, h8, h0.trans hbl, ⟨h2, ?_, ?_, ⟨?_, ?_, ?_, trivial⟩⟩, by omega⟩
    · rintro k rfl; exact ⟨h1, hlt⟩
    · intro e' he' k hk hk'
      rw [List.mem_singleton] at he'
      subst he'
      obtain ⟨a, ha, hka⟩ := hk'
      injection ha with ha; subst ha
      exact h5 (by simp [Value.ownBlock]; exact hka.symm.trans hk)
    · exact ⟨by omega, h8, h9, .inr ⟨g2, cur.toList, rfl, by simpa using h7, by simpa using h10, by simpa using h11⟩⟩
    · rintro k ⟨a, ha, rfl⟩
      injection ha with ha; subst ha
      exact ⟨h6, hg2⟩
    · intro e' he'; cases he'
theorem wstr_c (w w0 : World) (Bd : Nat) (F : List Ent) (g : Nat) (pv : Value) (A : Option Addr) (n c : Nat) (bs : List Nat) (s : ByteArray) (hF : F = []) (hpv : pv = .pointer none ∨ pv = .pointer (some ⟨g, 0, none⟩)) (eA : bs.length = n) (hn : n + s.size ≤ 1000000) (hss : SS w0 Bd ((blk g [pv, .slice A n c] 67) :: (row 5 1 A n c (Go.Sx.cells fY bs)) :: F) w) :
    Calls Tryd.prog 46 #[.pointer (some ⟨g, 0, none⟩), .string s] w (Ret fun rv w' => ∃ A2 c2, (n + s.size ≤ c2) ∧ rv = .tuple #[.int .i64 ((s.size : Nat) : Int), .nilIface] ∧ SS w0 Bd ((blk g [.pointer (some ⟨g, 0, none⟩), .slice A2 (n + s.size) c2] 67) :: (row 5 1 A2 (n + s.size) c2 (Go.Sx.cells fY (bs ++ bytesN s))) :: F) w') := by
  subst hF
  have hcl : (Go.Sx.cells fY bs).length = n := by rw [cells_length fY_len, eA, Nat.mul_one]
  have hbl : (bs ++ bytesN s).length = n + s.size := by
    rw [List.length_append, eA, bytesN, List.length_map]; rfl
  refine (Any.Builder_WriteString (ρ := renJ) { layJ with } extraJ Bd g (Go.Sx.cells fY bs) s w (builder_of hpv eA hss) (by omega) hss.le).mono fun e w' ⟨he, hb, hw⟩ => ?_
  rw [← cellsS, cells_append] at hb
  obtain ⟨A2, c2, h1, h2⟩ := of_builder hss.le hss.below hb hw
  rw [hbl] at h1 h2
  exact ⟨_, he, A2, c2, h1, rfl, h2⟩
theorem bstring_c (w w0 : World) (Bd : Nat) (F : List Ent) (g : Nat) (pv : Value) (A : Option Addr) (n c : Nat) (bs : List Nat) (l : List UInt8) (hF : F = []) (hpv : pv = .pointer none ∨ pv = .pointer (some ⟨g, 0, none⟩)) (eA : bs.length = n) (hl : bs = l.map UInt8.toNat) (hss : SS w0 Bd ((blk g [pv, .slice A n c] 67) :: (row 5 1 A n c (Go.Sx.cells fY bs)) :: F) w) :
    Calls Tryd.prog 48 #[.pointer (some ⟨g, 0, none⟩)] w (Ret fun rv w' => rv = .string (bstr l) ∧ SS w0 Bd (F) w') := by
  subst hF hl
  have hb := builder_of hpv eA hss
  rw [cellsN] at hb
  exact (Any.Builder_String_any (ρ := renJ) { layJ with } extraJ Bd g l w hb hss.le).mono fun e w' ⟨he, hw⟩ => ⟨_, he, rfl, hss.below.trans hw, trivial, Nat.le_trans hss.le hw.size⟩
/-- strings.Join -/
theorem join_c (w : World) (A : Option Addr) (n c : Nat) (ss : List ByteArray) (sep : ByteArray) (hA : At w A (Go.Sx.cells fS ss)) (eA : ss.length = n) (lA : n ≤ c) (hs : n ≤ 1000) (hz : ∀ a, A = some a → a = ⟨a.block, 0, none⟩) (hlen : (Lib.join (ss.map (·.data.toList)) sep.data.toList).length ≤ 1000000) :
    Calls Tryd.prog 28 #[.slice A n c, .string sep] w (Ret fun v w' => v = .string (bstr (Lib.join (ss.map (·.data.toList)) sep.data.toList)) ∧ New w w' []) := by
  subst eA
  rcases ss with _ | ⟨x, r⟩
  · exact (Any.strings_Join_none layJ extraJ A c sep w).mono fun e w' ⟨he, hw⟩ => ⟨_, he, rfl, by subst hw; exact ⟨Below.refl _ _, trivial⟩⟩
  · have hc : ∀ (j : Nat) y, (x :: r)[j]? = some y → (Go.Sx.cells fS (x :: r))[j]? = some (.string y) := fun j y hy => by
      have hj : j < (x :: r).length := by
        rcases Nat.lt_or_ge j (x :: r).length with h | h
        · exact h
        · rw [List.getElem?_eq_none h] at hy; cases hy
      have h1 := get_fS (xs := x :: r) hj
      rw [Nat.mul_one] at h1
      rw [h1, List.getD_eq_getElem?_getD, hy]; rfl
    obtain ⟨a, rfl, h0⟩ := hA 0 _ (hc 0 x rfl)
    have ha := hz a rfl
    obtain ⟨bk, o, tg⟩ := a
    obtain ⟨rfl, rfl⟩ : o = 0 ∧ tg = none := by simpa using ha
    have hcell : ∀ (j : Nat) y, (x :: r)[j]? = some y → w.cell? ⟨bk, 0 + j, none⟩ = some (.string y) := fun j y hy => by
      obtain ⟨a', ha', h⟩ := hA j _ (hc j y hy)
      injection ha' with ha'; subst ha'
      have e : (⟨bk, 0, none⟩ : Addr).add j = ⟨bk, 0 + j, none⟩ := by
        unfold Addr.add
        by_cases hj : j = 0
        · subst hj; simp
        · simp [hj]
      rw [e] at h; exact h
    have hbk : bk < w.heap.size := by
      have h1 := hcell 0 x rfl
      rcases Nat.lt_or_ge bk w.heap.size with h | h
      · exact h
      · simp [World.cell?, Array.getElem?_eq_none h] at h1
    exact (Any.strings_Join layJ extraJ bk 0 c (x :: r) sep w hcell hbk (by omega) lA (by omega)).mono fun e w' ⟨he, hw⟩ => ⟨_, he, rfl, hw, trivial⟩
end Go.Proofs.YthllnilddbdmaaaDoor.Sb
