/- Blocks: what a cut block, and a longer one, say. -/
import Derived.Test.YtnhidehpacidnaaBlob5
namespace Go.Proofs.Ytnhidehpacidnaa
set_option linter.unusedVariables false
set_option linter.unusedSimpArgs false
theorem val_congr {a b : List UInt8} : ∀ k, (∀ j, j < k → at0 a j = at0 b j) → val a k = val b k
  | 0, _ => rfl
  | k + 1, h => by rw [val, val, val_congr k (fun j hj => h j (by omega)), h k (by omega)]
theorem at0_drop (l : List UInt8) (a j : Nat) : at0 (l.drop a) j = at0 l (a + j) := by simp [at0, List.getElem?_drop]
theorem at0_take {l : List UInt8} {i j : Nat} (h : j < i) : at0 (l.take i) j = at0 l j := by simp [at0, List.getElem?_take, h]
theorem cut_ok {E : Int} {i n : Nat} (hi : i ≤ n) (h1 : i < n → E = 8) (h2 : i = n → E ≠ 8) : (!(decide (E = 8) == decide ((i : Int) < (n : Int)))) = false := by
  rcases Nat.lt_or_ge i n with h | h
  · have := h1 h
    subst this
    simp [show (i : Int) < (n : Int) by omega]
  · have h3 := h2 (by omega)
    simp [h3, show ¬ (i : Int) < (n : Int) by omega]
theorem cutI {x : List UInt8} (hx : x.length = 39) (hp : (parseI x).2 = 0) {i : Nat} (hi : i ≤ x.length) : (!(decide ((parseI (x.take i)).2 = 8) == decide ((i : Int) < (x.length : Int)))) = false := by
  refine cut_ok hi (fun h => ?_) (fun h => ?_)
  · unfold parseI
    rw [if_pos (by simp; omega)]
  · rw [h, List.take_length, hp]
    decide
theorem longI {x : List UInt8} (hx : x.length = 39) (hp : (parseI x).2 = 0) : (parseI (x ++ [0])).2 = 9 := by
  have e1 : at0 (x ++ [0]) 0 = at0 x 0 := at0_append_left (by omega)
  have e2 : parsed (x ++ [0]) = parsed x := by
    unfold parsed
    rw [at0_append_left (by omega), at0_append_left (by omega), List.drop_append_of_le_length (by omega), val_append 4 (by simp; omega), List.drop_append_of_le_length (by omega), List.take_append_of_le_length (by simp; omega)]
  unfold parseI at hp ⊢
  rw [if_neg (by omega)] at hp
  rw [if_neg (by simp; omega)]
  rw [e1, e2]
  split at hp
  · cases hp
  · rename_i h
    rw [if_neg h, if_pos (by simp; omega)]
theorem parseN_ok {x : List UInt8} (hp : parseNE x = 0) : 2 ≤ x.length ∧ ¬ (at0 x 0 ≠ 110 ∨ (at0 x 1).toNat < 1 ∨ 8 < (at0 x 1).toNat) ∧ x.length = 2 + (at0 x 1).toNat * 32 := by
  unfold parseNE at hp
  split at hp
  · cases hp
  · split at hp
    · cases hp
    · rename_i h2
      split at hp
      · cases hp
      · split at hp
        · cases hp
        · exact ⟨by omega, h2, by omega⟩
theorem cutN {x : List UInt8} (hp : parseNE x = 0) {i : Nat} (hi : i ≤ x.length) : (!(decide (parseNE (x.take i) = 8) == decide ((i : Int) < (x.length : Int)))) = false := by
  obtain ⟨h1, h2, h3⟩ := parseN_ok hp
  refine cut_ok hi (fun h => ?_) (fun h => ?_)
  · unfold parseNE
    have hl : (x.take i).length = i := by simp; omega
    rw [hl]
    by_cases h4 : i < 2
    · rw [if_pos h4]
    · rw [if_neg h4, at0_take (by omega), at0_take (by omega), if_neg h2, if_pos (by omega)]
  · rw [h, List.take_length, hp]
    decide
theorem longN {x : List UInt8} (hp : parseNE x = 0) : parseNE (x ++ [0]) = 9 := by
  obtain ⟨h1, h2, h3⟩ := parseN_ok hp
  unfold parseNE
  rw [at0_append_left (by omega), at0_append_left (by omega), if_neg (by simp; omega), if_neg h2, if_neg (by simp; omega), if_pos (by simp; omega)]
theorem pRoot_ok {x : List UInt8} (hp : pRootE x = 0) : 95 ≤ x.length ∧ pRootBad x = false ∧ x.length = 95 + val (x.drop 93) 2 := by
  unfold pRootE at hp
  split at hp
  · cases hp
  · split at hp
    · cases hp
    · rename_i h2
      split at hp
      · cases hp
      · split at hp
        · cases hp
        · exact ⟨by omega, by simpa using h2, by omega⟩
/-- Roots that say the same at the front. -/
theorem pRootBad_congr {x y : List UInt8} (h : ∀ j, j < 95 → at0 y j = at0 x j) : pRootBad y = pRootBad x ∧ val (y.drop 93) 2 = val (x.drop 93) 2 := by
  have e1 : val (y.drop 57) 4 = val (x.drop 57) 4 := val_congr 4 fun j hj => by rw [at0_drop, at0_drop, h _ (by omega)]
  have e2 : val (y.drop 93) 2 = val (x.drop 93) 2 := val_congr 2 fun j hj => by rw [at0_drop, at0_drop, h _ (by omega)]
  unfold pRootBad
  rw [e1, e2, h 0 (by omega)]
  exact ⟨rfl, rfl⟩
theorem cutR {x : List UInt8} (hp : pRootE x = 0) {i : Nat} (hi : i ≤ x.length) : (!(decide (pRootE (x.take i) = 8) == decide ((i : Int) < (x.length : Int)))) = false := by
  obtain ⟨h1, h2, h3⟩ := pRoot_ok hp
  refine cut_ok hi (fun h => ?_) (fun h => ?_)
  · have hl : (x.take i).length = i := by simp; omega
    by_cases h4 : i < 95
    · exact pRootE_cut (by rw [hl]; omega)
    · obtain ⟨g1, g2⟩ := pRootBad_congr (x := x) (y := x.take i) fun j hj => at0_take (by omega)
      rw [pRootE_later (by omega) (by rw [g1, h2]), g2, hl, if_pos (by omega)]
  · rw [h, List.take_length, hp]
    decide
theorem longR {x : List UInt8} (hp : pRootE x = 0) : pRootE (x ++ [0]) = 9 := by
  obtain ⟨h1, h2, h3⟩ := pRoot_ok hp
  obtain ⟨g1, g2⟩ := pRootBad_congr (x := x) (y := x ++ [0]) fun j hj => at0_append_left (by omega)
  rw [pRootE_later (by simp; omega) (by rw [g1, h2]), g2, if_neg (by simp; omega), if_pos (by simp; omega)]
theorem numB_two (n : Int) : numB n 2 = [byte (n.fdiv (2 ^ 8)), byte n] := by
  unfold numB
  simp [List.range_succ]
theorem val_num2 (s : Int) (h0 : 0 ≤ s) (h1 : s < 65536) : (val (numB s 2) 2 : Int) = s := by
  rw [numB_two]
  have e8 := byte_toNat (s.fdiv (2 ^ 8))
  have e0 := byte_toNat s
  have e : s.fdiv (2 ^ 8) = s / 2 ^ 8 := Int.fdiv_eq_ediv_of_nonneg _ (by decide)
  rw [e, show (2 : Int) ^ 8 = 256 from by decide] at e8
  show (((0 * 2 ^ 8 + (byte (s.fdiv (2 ^ 8))).toNat) * 2 ^ 8 + (byte s).toNat : Nat) : Int) = s
  rw [e, show (2 : Int) ^ 8 = 256 from by decide]
  omega
theorem root_length {pl : List UInt8} {ver : Int} {top tl : List UInt8} (hp : pl.length = 56) (ht : top.length = 32) : (rootLs pl ver top tl).flatten.length = 95 + tl.length := by
  simp [rootLs, numB_length, hp, ht]
  omega
theorem parse_root {pl : List UInt8} {ver : Int} {top tl : List UInt8} (hp : pl.length = 56) (hv : 1 ≤ ver ∧ ver ≤ 2147483647) (ht : top.length = 32) (hl : tl.length ≤ 5000) :
    pRootE (rootLs pl ver top tl).flatten = 0 ∧ pRoot (rootLs pl ver top tl).flatten = ⟨pl, ver, top, tl⟩ := by
  have hL := root_length (ver := ver) (tl := tl) hp ht
  have hF : (rootLs pl ver top tl).flatten = [114] ++ (pl ++ (numB ver 4 ++ (top ++ (numB tl.length 2 ++ tl)))) := by simp [rootLs]
  have d57 : (rootLs pl ver top tl).flatten.drop 57 = numB ver 4 ++ (top ++ (numB tl.length 2 ++ tl)) := by
    rw [hF, show 57 = 1 + 56 from rfl, ← List.drop_drop, ← hp]
    simp
  have d61 : (rootLs pl ver top tl).flatten.drop 61 = top ++ (numB tl.length 2 ++ tl) := by
    rw [show 61 = 57 + 4 from rfl, ← List.drop_drop, d57]
    exact List.drop_left' (numB_length _ _)
  have d93 : (rootLs pl ver top tl).flatten.drop 93 = numB tl.length 2 ++ tl := by
    rw [show 93 = 61 + 32 from rfl, ← List.drop_drop, d61, ← ht, List.drop_left]
  have d95 : (rootLs pl ver top tl).flatten.drop 95 = tl := by
    rw [show 95 = 93 + 2 from rfl, ← List.drop_drop, d93]
    exact List.drop_left' (numB_length _ _)
  have v4 : (val ((rootLs pl ver top tl).flatten.drop 57) 4 : Int) = ver := by
    rw [d57, val_append 4 (by rw [numB_length]; omega), val_num ver (by omega) (by omega)]
  have v2 : (val ((rootLs pl ver top tl).flatten.drop 93) 2 : Int) = tl.length := by
    rw [d93, val_append 2 (by rw [numB_length]; omega), val_num2 _ (by omega) (by omega)]
  have hB : pRootBad (rootLs pl ver top tl).flatten = false := by
    unfold pRootBad
    have : at0 (rootLs pl ver top tl).flatten 0 = 114 := by rw [hF]; rfl
    rw [v4, v2, this]
    simp
    omega
  have hE : pRootE (rootLs pl ver top tl).flatten = 0 := by
    rw [pRootE_later (by omega) hB, if_neg (by omega), if_neg (by omega)]
  refine ⟨hE, ?_⟩
  unfold pRoot
  rw [if_pos hE, v4, d95, d61]
  congr 1
  · rw [hF]
    simp [← hp]
  · rw [← ht]
    simp
theorem cuts_node {s : Int} {top : List UInt8} (h0 : 0 ≤ s) (h1 : s < 5000) (ht : s = 0 → top = zeroId) : wrongN 1 s (lev s : Int) top = 0 := by
  unfold wrongN
  rw [if_neg (by omega)]
  have : wrongB s (lev s : Int) top = false := by
    unfold wrongB
    by_cases hs : s = 0
    · rw [ht hs]
      simp [hs]
    · simp [hs]
      omega
  rw [this]
  rfl
theorem pRoot_top (b : List UInt8) : (pRoot b).top.length = 32 := by
  unfold pRoot
  split
  · rename_i h
    have := (pRoot_ok h).1
    simp
    omega
  · rfl
end Go.Proofs.Ytnhidehpacidnaa
