/- Names: what chapter 3 says of a text, in plain words. -/
import Derived.Test.YtjiafaiklmbbeaaDoorSl14
namespace Go.Proofs.YtjiafaiklmbbeaaDoor
open Go.Lib
set_option linter.unusedVariables false
set_option linter.unusedSimpArgs false
/-- May a rune not stand in a name? -/
def wrongR (r : Nat) : Bool := r < 32 || r == 127 || r == 47
/-- Does a text begin with bytes that are no rune? -/
def noRune (l : List UInt8) : Bool := (decodeL l).1 == 65533 && decide ((decodeL l).2 ≤ 1)
def finC (n : Nat) (bad : Bool) : Nat := if bad then 10 else if 12 < n then 5 else 0
def chkF : Nat → List UInt8 → Nat → Bool → Nat
  | 0, _, n, bad => finC n bad
  | f + 1, l, n, bad => if l = [] then finC n bad else if noRune l then 11 else chkF f (l.drop (decodeL l).2) (n + 1) (bad || wrongR (decodeL l).1)
theorem chkF_nil (f n : Nat) (bad : Bool) : chkF f [] n bad = finC n bad := by cases f <;> simp [chkF]
theorem chkF_fuel : ∀ (f g : Nat) (l : List UInt8) (n : Nat) (bad : Bool), l.length ≤ f → l.length ≤ g → chkF f l n bad = chkF g l n bad
  | 0, g, l, n, bad, h, _ => by
    have : l = [] := List.eq_nil_of_length_eq_zero (by omega)
    subst this; rw [chkF_nil, chkF_nil]
  | f + 1, 0, l, n, bad, _, h => by
    have : l = [] := List.eq_nil_of_length_eq_zero (by omega)
    subst this; rw [chkF_nil, chkF_nil]
  | f + 1, g + 1, l, n, bad, h1, h2 => by
    simp only [chkF]
    split
    · rfl
    · split
      · rfl
      · have := decodeL_width l
        exact chkF_fuel f g _ _ _ (by simp; omega) (by simp; omega)
/-- What is wrong with the rest of a name, n runes behind, bad if one of them may not be. -/
def chk (l : List UInt8) (n : Nat) (bad : Bool) : Nat := chkF l.length l n bad
theorem chk_nil (n : Nat) (bad : Bool) : chk [] n bad = finC n bad := chkF_nil _ _ _
theorem chk_none {l : List UInt8} (hl : l ≠ []) (h : noRune l = true) (n : Nat) (bad : Bool) : chk l n bad = 11 := by
  unfold chk
  cases l with
  | nil => exact absurd rfl hl
  | cons x l => rw [List.length_cons, chkF, if_neg hl, if_pos h]
theorem chk_some {l : List UInt8} (hl : l ≠ []) (h : noRune l = false) (n : Nat) (bad : Bool) : chk l n bad = chk (l.drop (decodeL l).2) (n + 1) (bad || wrongR (decodeL l).1) := by
  have hw := decodeL_width l
  unfold chk
  cases l with
  | nil => exact absurd rfl hl
  | cons x l =>
    rw [List.length_cons, chkF, if_neg hl, if_neg (by simp [h])]
    exact chkF_fuel _ _ _ _ _ (by simp at hw ⊢; omega) (Nat.le_refl _)
def bad0 (l : List UInt8) : Bool := l == [] || l == [46] || l == [46, 46]
/-- What is wrong with a name. -/
def checkN (l : List UInt8) : Nat := chk l 0 (bad0 l)
theorem finC_le (n : Nat) (bad : Bool) : finC n bad = 0 ∨ finC n bad = 5 ∨ finC n bad = 10 := by unfold finC; split; simp; split <;> simp
theorem decodeL_le' {l : List UInt8} (h : l ≠ []) : (decodeL l).2 ≤ l.length := decodeL_le l h
/-- The rune and the width that the document reads. -/
def oneR (l : List UInt8) : Nat × Nat := if noRune l then (0, 0) else decodeL l
/-- The first byte's own bits, and how many bytes it asks for. -/
def lead (b : Nat) : Nat × Nat := if 192 ≤ b ∧ b < 224 then (2, b % 32) else if 224 ≤ b ∧ b < 240 then (3, b % 16) else if 240 ≤ b ∧ b < 248 then (4, b % 8) else (0, 0)
/-- The following bytes' bits. -/
def restF (l : List UInt8) (n : Nat) : Nat → Nat → Nat → Option Nat
  | 0, _, v => some v
  | f + 1, k, v => if n ≤ k then some v else if (l.getD k 0).toNat / 64 = 2 then restF l n f (k + 1) (v * 64 + (l.getD k 0).toNat % 64) else none
def finO (n v : Nat) : Nat × Nat := if 1114111 < v ∨ (55296 ≤ v ∧ v ≤ 57343) ∨ (n = 2 ∧ v < 128) ∨ (n = 3 ∧ v < 2048) ∨ (n = 4 ∧ v < 65536) then (0, 0) else (v, n)
def oneM (l : List UInt8) : Nat × Nat :=
  if (l.getD 0 0).toNat < 128 then ((l.getD 0 0).toNat, 1)
  else if (lead (l.getD 0 0).toNat).1 = 0 ∨ l.length < (lead (l.getD 0 0).toNat).1 then (0, 0)
  else match restF l (lead (l.getD 0 0).toNat).1 4 1 (lead (l.getD 0 0).toNat).2 with
    | none => (0, 0)
    | some v => finO (lead (l.getD 0 0).toNat).1 v
theorem restF_end {l : List UInt8} {n k v : Nat} (h : n ≤ k) (f : Nat) : restF l n f k v = some v := by cases f <;> simp [restF, h]
theorem restF_bad {l : List UInt8} {n k v f : Nat} (h : k < n) (hb : ¬ (l.getD k 0).toNat / 64 = 2) : restF l n (f + 1) k v = none := by rw [restF, if_neg (by omega), if_neg hb]
theorem restF_ok {l : List UInt8} {n k v f : Nat} (h : k < n) (hb : (l.getD k 0).toNat / 64 = 2) : restF l n (f + 1) k v = restF l n f (k + 1) (v * 64 + (l.getD k 0).toNat % 64) := by rw [restF, if_neg (by omega), if_pos hb]
theorem oneM_ascii {l : List UInt8} (h : (l.getD 0 0).toNat < 128) : oneM l = ((l.getD 0 0).toNat, 1) := by unfold oneM; rw [if_pos h]
theorem oneM_short {l : List UInt8} {n v : Nat} (h : ¬ (l.getD 0 0).toNat < 128) (hl : lead (l.getD 0 0).toNat = (n, v)) (hn : n = 0 ∨ l.length < n) : oneM l = (0, 0) := by
  unfold oneM; rw [if_neg h, hl, if_pos hn]
theorem oneM_none {l : List UInt8} {n v : Nat} (h : ¬ (l.getD 0 0).toNat < 128) (hl : lead (l.getD 0 0).toNat = (n, v)) (hn : ¬ (n = 0 ∨ l.length < n)) (hr : restF l n 4 1 v = none) : oneM l = (0, 0) := by
  unfold oneM; rw [if_neg h, hl, if_neg hn]; dsimp only; rw [hr]
theorem oneM_some {l : List UInt8} {n v u : Nat} (h : ¬ (l.getD 0 0).toNat < 128) (hl : lead (l.getD 0 0).toNat = (n, v)) (hn : ¬ (n = 0 ∨ l.length < n)) (hr : restF l n 4 1 v = some u) : oneM l = finO n u := by
  unfold oneM; rw [if_neg h, hl, if_neg hn]; dsimp only; rw [hr]
theorem oneR_bad {l : List UInt8} (h : decodeN l.length (l.getD 0 0).toNat (l.getD 1 0).toNat (l.getD 2 0).toNat (l.getD 3 0).toNat = (65533, 1)) : oneR l = (0, 0) := by
  unfold oneR noRune
  rw [decodeL_N, h]
  rfl
theorem oneR_ok {l : List UInt8} {r k : Nat} (h : decodeN l.length (l.getD 0 0).toNat (l.getD 1 0).toNat (l.getD 2 0).toNat (l.getD 3 0).toNat = (r, k)) (hr : r ≠ 65533 ∨ 2 ≤ k) : oneR l = (r, k) := by
  unfold oneR noRune
  rw [decodeL_N, h]
  rw [if_neg]
  intro hc
  simp at hc
  omega
set_option maxRecDepth 10000 in
set_option maxHeartbeats 4000000 in
theorem oneM_eq (l : List UInt8) (hl : l ≠ []) : oneM l = oneR l := by
  have hn : 1 ≤ l.length := List.length_pos_iff.2 hl
  have hbad := @oneR_bad l
  have hok := @oneR_ok l
  have k0 := (l.getD 0 0).toNat_lt
  have k1 := (l.getD 1 0).toNat_lt
  have k2 := (l.getD 2 0).toNat_lt
  have k3 := (l.getD 3 0).toNat_lt
  unfold oneM
  generalize (l.getD 0 0).toNat = b0 at *
  have hb : b0 < 128 ∨ (128 ≤ b0 ∧ b0 < 192) ∨ (192 ≤ b0 ∧ b0 < 224) ∨ (224 ≤ b0 ∧ b0 < 240) ∨ (240 ≤ b0 ∧ b0 < 248) ∨ (248 ≤ b0 ∧ b0 < 256) := by omega
  rcases hb with h | h | h | h | h | h
  · rw [if_pos h]
    exact (hok (by unfold decodeN; (repeat' split) <;> first | rfl | (exfalso; omega)) (.inl (by omega))).symm
  · rw [if_neg (by omega), if_pos (.inl (by unfold lead; rw [if_neg (by omega), if_neg (by omega), if_neg (by omega)]))]
    exact (hbad (by unfold decodeN; (repeat' split) <;> first | rfl | (exfalso; omega))).symm
  · rw [if_neg (by omega)]
    have hlead : lead b0 = (2, b0 % 32) := by unfold lead; rw [if_pos h]
    rw [hlead]
    dsimp only
    simp only [restF]
    generalize (l.getD 1 0).toNat = b1 at *
    generalize (l.getD 2 0).toNat = b2 at *
    generalize (l.getD 3 0).toNat = b3 at *
    by_cases h1 : l.length < 2
    · rw [if_pos (.inr h1)]; exact (hbad (by unfold decodeN; (repeat' split) <;> first | rfl | (exfalso; omega))).symm
    · rw [if_neg (by omega), if_neg (by omega)]
      by_cases h2 : b1 / 64 = 2
      · rw [if_pos h2, if_pos (by omega)]
        dsimp only
        unfold finO
        by_cases h3 : b0 % 32 * 64 + b1 % 64 < 128
        · rw [if_pos (by omega)]; exact (hbad (by unfold decodeN; (repeat' split) <;> first | rfl | (exfalso; omega))).symm
        · rw [if_neg (by omega)]; exact (hok (by unfold decodeN; (repeat' split) <;> first | rfl | (exfalso; omega)) (.inr (by omega))).symm
      · rw [if_neg h2]; exact (hbad (by unfold decodeN; (repeat' split) <;> first | rfl | (exfalso; omega))).symm
  · rw [if_neg (by omega)]
    have hlead : lead b0 = (3, b0 % 16) := by unfold lead; rw [if_neg (by omega), if_pos h]
    rw [hlead]
    dsimp only
    simp only [restF]
    generalize (l.getD 1 0).toNat = b1 at *
    generalize (l.getD 2 0).toNat = b2 at *
    generalize (l.getD 3 0).toNat = b3 at *
    by_cases h1 : l.length < 3
    · rw [if_pos (.inr h1)]; exact (hbad (by unfold decodeN; (repeat' split) <;> first | rfl | (exfalso; omega))).symm
    · rw [if_neg (by omega), if_neg (by omega)]
      by_cases h2 : b1 / 64 = 2
      · rw [if_pos h2, if_neg (by omega)]
        by_cases h3 : b2 / 64 = 2
        · rw [if_pos h3, if_pos (by omega)]
          dsimp only
          unfold finO
          rw [show (b0 % 16 * 64 + b1 % 64) * 64 + b2 % 64 = b0 % 16 * 4096 + b1 % 64 * 64 + b2 % 64 by omega]
          by_cases h4 : b0 % 16 * 4096 + b1 % 64 * 64 + b2 % 64 < 2048 ∨ (55296 ≤ b0 % 16 * 4096 + b1 % 64 * 64 + b2 % 64 ∧ b0 % 16 * 4096 + b1 % 64 * 64 + b2 % 64 ≤ 57343)
          · rw [if_pos (by omega)]; exact (hbad (by unfold decodeN; (repeat' split) <;> first | rfl | (exfalso; omega))).symm
          · rw [if_neg (by omega)]; exact (hok (by unfold decodeN; (repeat' split) <;> first | rfl | (exfalso; omega)) (.inr (by omega))).symm
        · rw [if_neg h3]; exact (hbad (by unfold decodeN; (repeat' split) <;> first | rfl | (exfalso; omega))).symm
      · rw [if_neg h2]; exact (hbad (by unfold decodeN; (repeat' split) <;> first | rfl | (exfalso; omega))).symm
  · rw [if_neg (by omega)]
    have hlead : lead b0 = (4, b0 % 8) := by unfold lead; rw [if_neg (by omega), if_neg (by omega), if_pos h]
    rw [hlead]
    dsimp only
    simp only [restF]
    generalize (l.getD 1 0).toNat = b1 at *
    generalize (l.getD 2 0).toNat = b2 at *
    generalize (l.getD 3 0).toNat = b3 at *
    by_cases h1 : l.length < 4
    · rw [if_pos (.inr h1)]; exact (hbad (by unfold decodeN; (repeat' split) <;> first | rfl | (exfalso; omega))).symm
    · rw [if_neg (by omega), if_neg (by omega)]
      by_cases h2 : b1 / 64 = 2
      · rw [if_pos h2, if_neg (by omega)]
        by_cases h3 : b2 / 64 = 2
        · rw [if_pos h3, if_neg (by omega)]
          by_cases h5 : b3 / 64 = 2
          · rw [if_pos h5, if_pos (by omega)]
            dsimp only
            unfold finO
            rw [show ((b0 % 8 * 64 + b1 % 64) * 64 + b2 % 64) * 64 + b3 % 64 = b0 % 8 * 262144 + b1 % 64 * 4096 + b2 % 64 * 64 + b3 % 64 by omega]
            by_cases h4 : b0 % 8 * 262144 + b1 % 64 * 4096 + b2 % 64 * 64 + b3 % 64 < 65536 ∨ 1114111 < b0 % 8 * 262144 + b1 % 64 * 4096 + b2 % 64 * 64 + b3 % 64
            · rw [if_pos (by omega)]; exact (hbad (by unfold decodeN; (repeat' split) <;> first | rfl | (exfalso; omega))).symm
            · rw [if_neg (by omega)]; exact (hok (by unfold decodeN; (repeat' split) <;> first | rfl | (exfalso; omega)) (.inr (by omega))).symm
          · rw [if_neg h5]; exact (hbad (by unfold decodeN; (repeat' split) <;> first | rfl | (exfalso; omega))).symm
        · rw [if_neg h3]; exact (hbad (by unfold decodeN; (repeat' split) <;> first | rfl | (exfalso; omega))).symm
      · rw [if_neg h2]; exact (hbad (by unfold decodeN; (repeat' split) <;> first | rfl | (exfalso; omega))).symm
  · rw [if_neg (by omega), if_pos (.inl (by unfold lead; rw [if_neg (by omega), if_neg (by omega), if_neg (by omega)]))]
    exact (hbad (by unfold decodeN; (repeat' split) <;> first | rfl | (exfalso; omega))).symm
end Go.Proofs.YtjiafaiklmbbeaaDoor
