/- Ledgers, in plain Lean: what stands on a disk behind records that were torn, and what is told of it. -/
import Derived.Test.YtfjeoggjnibamaaLawLedgerFull
namespace Go.Proofs.Ytfjeoggjnibamaa
open Go.RowKit

theorem bt_append (a b : List UInt8) (x : Nat) : bt (a ++ b) x = if x < a.length then bt a x else bt b (x - a.length) := by
  unfold bt
  rw [List.getElem?_append]
  split <;> rfl
theorem bt_take (a : List UInt8) (k x : Nat) : bt (a.take k) x = if x < k then bt a x else 0 := by
  unfold bt
  rw [List.getElem?_take]
  split <;> rfl
theorem bt_drop (a : List UInt8) (k x : Nat) : bt (a.drop k) x = bt a (k + x) := by
  unfold bt
  rw [List.getElem?_drop]
theorem bt_past (a : List UInt8) (x : Nat) (h : a.length ≤ x) : bt a x = 0 := by
  unfold bt
  rw [List.getElem?_eq_none h]
  rfl
theorem bt_zeros (n x : Nat) : bt (List.replicate n 0) x = 0 := by
  unfold bt
  rw [List.getElem?_replicate]
  split <;> rfl
theorem bt_pad (a : List UInt8) (n x : Nat) : bt (a ++ List.replicate n 0) x = bt a x := by
  rw [bt_append, bt_zeros]
  split
  · rfl
  · rw [bt_past]; omega

theorem isRec_all (l : List UInt8) : isRec l 4 = true ↔ ∀ i, i < 4 → bt l i = ~~~ bt l (4 + i) := by
  unfold isRec
  simp
theorem val_four (l : List UInt8) : val l 4 = (((bt l 0).toNat * 256 + (bt l 1).toNat) * 256 + (bt l 2).toNat) * 256 + (bt l 3).toNat := by
  simp [val]
theorem num_congr {l m : List UInt8} (h : ∀ q, q < 8 → bt l q = bt m q) : num l = num m := by
  have h1 : isRec l 4 = isRec m 4 := by
    rw [Bool.eq_iff_iff, isRec_all, isRec_all]
    constructor
    · intro H i hi; rw [← h i (by omega), ← h (4 + i) (by omega)]; exact H i hi
    · intro H i hi; rw [h i (by omega), h (4 + i) (by omega)]; exact H i hi
  unfold num
  rw [h1, val_four, val_four, h 0 (by omega), h 1 (by omega), h 2 (by omega), h 3 (by omega)]
theorem val_rec (n : Nat) : val (rec n) 4 = n % 4294967296 := by
  rw [val_four]
  simp only [bt, rec, byteOf, List.getElem?_cons_zero, List.getElem?_cons_succ, Option.getD_some, UInt8.toNat_ofNat']
  simp
  omega
theorem rec_isRec (n : Nat) : isRec (rec n) 4 = true := by
  rw [isRec_all]
  intro i hi
  have : i = 0 ∨ i = 1 ∨ i = 2 ∨ i = 3 := by omega
  rcases this with rfl | rfl | rfl | rfl <;> simp [bt, rec]
theorem num_rec (n : Nat) (h : n < 4294967296) : num (rec n) = n := by
  unfold num
  rw [if_pos (rec_isRec n), val_rec, Nat.mod_eq_of_lt h]
/-- A front of a record, filled with zeros, is none or the record's number. -/
theorem num_form {l : List UInt8} {n j : Nat} (h : ∀ q, q < 8 → bt l q = if q < j then bt (rec n) q else 0) : num l ≤ n := by
  unfold num
  split
  · rename_i hr
    rw [isRec_all] at hr
    have h3 := hr 3 (by omega)
    have hj : 3 < j := by
      rcases Nat.lt_or_ge 3 j with hlt | hge
      · exact hlt
      · exfalso
        rw [h 3 (by omega), h 7 (by omega), if_neg (by omega), if_neg (by omega)] at h3
        exact absurd h3 (by decide)
    have hv : val l 4 = val (rec n) 4 := by
      rw [val_four, val_four, h 0 (by omega), h 1 (by omega), h 2 (by omega), h 3 (by omega), if_pos (by omega), if_pos (by omega), if_pos (by omega), if_pos (by omega)]
    rw [hv, val_rec]
    exact Nat.mod_le _ _
  · omega

/-- Each eight bytes are a front of a record of at most N, filled with zeros. -/
def Good (N : Nat) (b : List UInt8) : Prop := ∀ i, ∃ n j, n ≤ N ∧ ∀ q, q < 8 → bt b (8 * i + q) = if q < j then bt (rec n) q else 0

theorem Good.mono {N M : Nat} {b : List UInt8} (h : Good N b) (hm : N ≤ M) : Good M b := fun i => by
  obtain ⟨n, j, h1, h2⟩ := h i
  exact ⟨n, j, by omega, h2⟩
theorem Good.nil (N : Nat) : Good N [] := fun i => ⟨0, 0, Nat.zero_le _, fun q _ => by simp [bt]⟩
theorem Good.take {N : Nat} {b : List UInt8} (h : Good N b) (k : Nat) : Good N (b.take k) := fun i => by
  obtain ⟨n, j, h1, h2⟩ := h i
  refine ⟨n, min j (k - 8 * i), h1, fun q hq => ?_⟩
  rw [bt_take, h2 q hq]
  by_cases hk : 8 * i + q < k
  · rw [if_pos hk]
    by_cases hj : q < j
    · rw [if_pos hj, if_pos (by omega)]
    · rw [if_neg hj, if_neg (by omega)]
  · rw [if_neg hk, if_neg (by omega)]
theorem lacks_mod (b : List UInt8) : ∃ a, b.length + lacks b = 8 * a := by
  refine ⟨(b.length + lacks b) / 8, ?_⟩
  unfold lacks
  omega
theorem bt_line (b : List UInt8) (n x : Nat) : bt (b ++ line b n) x = if x < b.length + lacks b then bt b x else bt (rec n) (x - (b.length + lacks b)) := by
  unfold line
  rw [← List.append_assoc, bt_append, bt_pad]
  simp only [List.length_append, List.length_replicate]
theorem rec_past (n x : Nat) (h : 8 ≤ x) : bt (rec n) x = 0 := bt_past _ _ (by simpa [rec] using h)
theorem Good.line {N : Nat} {b : List UInt8} (h : Good N b) {n : Nat} (hn : n ≤ N) : Good N (b ++ line b n) := fun i => by
  obtain ⟨a, ha⟩ := lacks_mod b
  rcases Nat.lt_trichotomy i a with hi | hi | hi
  · obtain ⟨m, j, h1, h2⟩ := h i
    refine ⟨m, j, h1, fun q hq => ?_⟩
    rw [bt_line, if_pos (by omega), h2 q hq]
  · refine ⟨n, 8, hn, fun q hq => ?_⟩
    rw [bt_line, if_neg (by omega), if_pos hq, ha, hi]
    congr 1
    omega
  · refine ⟨0, 0, Nat.zero_le _, fun q hq => ?_⟩
    rw [bt_line, if_neg (by omega), if_neg (by omega), rec_past]
    omega
theorem Good.scanTo {N : Nat} {b : List UInt8} (h : Good N b) : ∀ k, scanTo b k ≤ N
  | 0 => Nat.zero_le _
  | k + 1 => by
    have h1 := h.scanTo k
    obtain ⟨n, j, h2, h3⟩ := h k
    have h4 : num (b.drop (8 * k)) ≤ n := num_form (j := j) fun q hq => by rw [bt_drop]; exact h3 q hq
    simp only [Proofs.Ytfjeoggjnibamaa.scanTo]
    omega
theorem Good.scan {N : Nat} {b : List UInt8} (h : Good N b) : scan b ≤ N := h.scanTo _

theorem scanTo_mono (b : List UInt8) (k : Nat) : ∀ m, scanTo b k ≤ scanTo b (k + m)
  | 0 => Nat.le_refl _
  | m + 1 => by
    have := scanTo_mono b k m
    rw [← Nat.add_assoc]
    simp only [scanTo]
    omega
theorem scanTo_congr {b c : List UInt8} : ∀ k, (∀ x, x < 8 * k → bt b x = bt c x) → scanTo b k = scanTo c k
  | 0, _ => rfl
  | k + 1, h => by
    have h1 := scanTo_congr k (fun x hx => h x (by omega))
    have h2 : num (b.drop (8 * k)) = num (c.drop (8 * k)) := num_congr fun q hq => by rw [bt_drop, bt_drop]; exact h _ (by omega)
    simp only [scanTo, h1, h2]
theorem scan_append (b c : List UInt8) : scan b ≤ scan (b ++ c) := by
  unfold scan
  have h1 : scanTo b (b.length / 8) = scanTo (b ++ c) (b.length / 8) := scanTo_congr _ fun x hx => by rw [bt_append, if_pos (by omega)]
  rw [h1]
  have h2 : (b ++ c).length / 8 = b.length / 8 + ((b ++ c).length / 8 - b.length / 8) := by
    have : b.length / 8 ≤ (b ++ c).length / 8 := Nat.div_le_div_right (by simp)
    omega
  rw [h2]
  exact scanTo_mono _ _ _
theorem scan_take (b : List UInt8) (j k : Nat) (h : j ≤ k) : scan (b.take j) ≤ scan (b.take k) := by
  have : b.take k = b.take j ++ (b.take k).drop j := by
    have h1 := (List.take_append_drop j (b.take k)).symm
    rw [List.take_take, Nat.min_eq_left h] at h1
    exact h1
  rw [this]
  exact scan_append _ _
/-- The number written last is found. -/
theorem scan_line (b : List UInt8) (n : Nat) (h : n < 4294967296) : n ≤ scan (b ++ line b n) := by
  obtain ⟨a, ha⟩ := lacks_mod b
  have hl : (b ++ line b n).length / 8 = a + 1 := by rw [List.length_append, line_length]; omega
  have hn : num ((b ++ line b n).drop (8 * a)) = n := by
    rw [← num_rec n h]
    rw [num_rec n h]
    conv => rhs; rw [← num_rec n h]
    refine num_congr fun q hq => ?_
    rw [bt_drop, bt_line, if_neg (by omega), ha]
    congr 1
    omega
  unfold scan
  rw [hl]
  simp only [scanTo]
  omega
end Go.Proofs.Ytfjeoggjnibamaa
