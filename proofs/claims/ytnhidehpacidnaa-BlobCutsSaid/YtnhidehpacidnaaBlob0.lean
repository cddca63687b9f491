/- Blocks: plain words. -/
import Derived.Test.YtnhidehpacidnaaSl5
namespace Go.Proofs.Ytnhidehpacidnaa
set_option linter.unusedVariables false
set_option linter.unusedSimpArgs false
/-- How many bytes so many levels lead to. -/
def all8 : Nat → Int
  | 0 => 64
  | n + 1 => all8 n * 8
theorem all8_succ (n : Nat) : all8 n * 8 = all8 (n + 1) := rfl
theorem all8_pos (n : Nat) : 0 < all8 n := by
  induction n with
  | zero => decide
  | succ n ih => simp only [all8]; omega
theorem all8_mono (n : Nat) : ∀ k, all8 n ≤ all8 (n + k)
  | 0 => Int.le_refl _
  | k + 1 => by have := all8_mono n k; have h0 := all8_pos (n + k); show _ ≤ all8 (n + k) * 8; omega
theorem all8_le {n : Nat} (h : n ≤ 7) : all8 n ≤ 134217728 := by
  have := all8_mono n (7 - n)
  rw [show n + (7 - n) = 7 by omega] at this
  exact this
/-- The number of levels of a size. -/
def lev (size : Int) : Nat :=
  if size ≤ 64 then 0 else if size ≤ 512 then 1 else if size ≤ 4096 then 2 else if size ≤ 32768 then 3 else if size ≤ 262144 then 4 else if size ≤ 2097152 then 5 else if size ≤ 16777216 then 6 else 7
theorem lev_of {size : Int} {n : Nat} (h7 : n ≤ 7) (hlo : n = 0 ∨ all8 (n - 1) < size) (hhi : (decide (all8 n < size) && decide ((n : Int) < 7)) = false) : lev size = n := by
  have h : size ≤ all8 n ∨ n = 7 := by simp at hhi; omega
  clear hhi
  have : n = 0 ∨ n = 1 ∨ n = 2 ∨ n = 3 ∨ n = 4 ∨ n = 5 ∨ n = 6 ∨ n = 7 := by omega
  unfold lev
  rcases this with rfl | rfl | rfl | rfl | rfl | rfl | rfl | rfl <;> simp [all8] at hlo h <;> (repeat' split) <;> omega
/-- A number as sz bytes, the highest first. -/
def numB (n : Int) (sz : Nat) : List UInt8 := (List.range sz).map fun j => byte (n.fdiv (2 ^ (8 * (sz - 1 - j))))
/-- The last k of them. -/
def numTo (n : Int) (sz k : Nat) : List UInt8 := (List.range sz).map fun j => if sz - k ≤ j then byte (n.fdiv (2 ^ (8 * (sz - 1 - j)))) else 0
theorem numB_length (n : Int) (sz : Nat) : (numB n sz).length = sz := by simp [numB]
theorem numTo_length (n : Int) (sz k : Nat) : (numTo n sz k).length = sz := by simp [numTo]
theorem numTo_zero (n : Int) (sz : Nat) : bs (numTo n sz 0) = List.replicate sz (.int .u8 0) := by
  apply List.ext_getElem?
  intro j
  simp only [bs, numTo, List.map_map]
  rw [List.getElem?_map]
  by_cases hj : j < sz
  · rw [List.getElem?_range hj, List.getElem?_replicate]
    simp only [Option.map_some, hj, if_true, Nat.sub_zero]
    show some (bv (if sz ≤ j then _ else 0)) = _
    rw [if_neg (by omega)]
    rfl
  · rw [List.getElem?_eq_none (by simpa using hj), List.getElem?_eq_none (by simpa using hj)]
    rfl
theorem numTo_all (n : Int) (sz k : Nat) (hk : k ≤ sz) (h : ¬ (k : Int) < (sz : Int)) : numTo n sz k = numB n sz := by
  unfold numTo numB
  apply List.map_congr_left
  intro j _
  rw [if_pos (by omega)]
theorem numTo_set (n : Int) (sz k : Nat) (h : k < sz) : (bs (numTo n sz k)).set ((sz : Int) - 1 - (k : Int)).toNat (bv (byte (n.fdiv (2 ^ (8 * k))))) = bs (numTo n sz (k + 1)) := by
  have e : ((sz : Int) - 1 - (k : Int)).toNat = sz - 1 - k := by omega
  rw [e]
  apply List.ext_getElem?
  intro j
  rw [List.getElem?_set, bs_get, bs_get]
  unfold numTo
  rw [List.getElem?_map, List.getElem?_map]
  by_cases hj : j < sz
  · rw [List.getElem?_range hj]
    by_cases h1 : sz - 1 - k = j
    · subst h1
      simp only [Option.map_some, if_true]
      rw [if_pos (by rw [bs_length, List.length_map, List.length_range]; omega), if_pos (by omega), show sz - 1 - (sz - 1 - k) = k by omega]
    · rw [if_neg h1]
      simp only [Option.map_some]
      by_cases h2 : sz - k ≤ j
      · rw [if_pos h2, if_pos (by omega)]
      · rw [if_neg h2, if_neg (by omega)]
  · rw [List.getElem?_eq_none (by simpa using hj)]
    simp
    omega
theorem of_and_l {p q : Prop} [Decidable p] [Decidable q] (h : (decide p && decide q) = true) : p := by simp at h; exact h.1
theorem of_and_r {p q : Prop} [Decidable p] [Decidable q] (h : (decide p && decide q) = true) : q := by simp at h; exact h.2
/-- An inode's cells. -/
def nodeC (k s l : Int) (top : List UInt8) : List Value := [.int .i64 k, .int .i64 s, .int .i64 l] ++ bs top
def nodeV (k s l : Int) (top : List UInt8) : Value := .agg (nodeC k s l top).toArray
/-- What is wrong with an inode. -/
def wrongB (s l : Int) (top : List UInt8) : Bool := decide (s < 0) || decide (1048576 < s) || !decide (l = (lev s : Int)) || decide (s = 0) && !(top == zeroId)
def wrongN (k s l : Int) (top : List UInt8) : Int := if k ≠ 1 ∧ k ≠ 2 then 3 else if wrongB s l top then 1 else 0
theorem wrongN_kind {k s l : Int} {top : List UInt8} (h : (!decide (k = 1) && !decide (k = 2)) = true) : 3 = wrongN k s l top := by
  simp at h; unfold wrongN; rw [if_pos h]
theorem wrongN_bad {k s l : Int} {top : List UInt8} (h : (!decide (k = 1) && !decide (k = 2)) = false) (h2 : wrongB s l top = true) : 1 = wrongN k s l top := by
  unfold wrongN
  rw [if_neg (by simp at h; omega), if_pos h2]
theorem wrongN_ok {k s l : Int} {top : List UInt8} (h : (!decide (k = 1) && !decide (k = 2)) = false) (h2 : wrongB s l top = false) : 0 = wrongN k s l top := by
  unfold wrongN
  rw [if_neg (by simp at h; omega), if_neg (by simp [h2])]
theorem int_val {k : IntKind} {a b : Int} (h : a = b) : Value.int k a = Value.int k b := by rw [h]
/-- An inode, written. -/
def inodeB (k s l : Int) (top : List UInt8) : List UInt8 := [105, byte k] ++ numB s 4 ++ [byte l] ++ top
theorem take_top {k s l : Int} {top : List UInt8} (ht : top.length = 32) : ((nodeC k s l top).drop 3).take 32 = bs top := by
  show (bs top).take 32 = _
  rw [List.take_of_length_le (by rw [bs_length, ht]; omega)]
theorem one_node (k s l : Int) (top : List UInt8) : ∀ x ∈ nodeC k s l top, x.oneCell' = true := by
  intro x hx
  simp only [nodeC, List.mem_append] at hx
  rcases hx with hx | hx
  · simp at hx; rcases hx with rfl | rfl | rfl <;> rfl
  · exact bs_one _ x hx
theorem node_over {k s l : Int} {z top : List UInt8} (hz : z.length = 32) (ht : top.length = 32) : over (nodeC k s l z) 3 (bs top) = nodeC k s l top := by
  have := over_mid [Value.int .i64 k, .int .i64 s, .int .i64 l] (bs z) (bs top) [] (by rw [bs_length, bs_length, hz, ht])
  simpa [nodeC] using this
theorem zeroId_length : zeroId.length = 32 := rfl
/-- The number that bytes say. -/
def val (l : List UInt8) : Nat → Nat
  | 0 => 0
  | k + 1 => val l k * 2 ^ 8 + (at0 l k).toNat
theorem val_lt (l : List UInt8) : ∀ k, val l k < 2 ^ (8 * k)
  | 0 => by simp [val]
  | k + 1 => by
    have := val_lt l k
    have h := (at0 l k).toNat_lt
    have e : 2 ^ (8 * (k + 1)) = 2 ^ (8 * k) * 256 := by rw [Nat.mul_add, Nat.pow_add]
    rw [val, e]
    omega
theorem val_small (l : List UInt8) {k : Nat} (h : k ≤ 7) : val l k < 72057594037927936 := by
  have := val_lt l k
  have h2 : 2 ^ (8 * k) ≤ 2 ^ (8 * 7) := Nat.pow_le_pow_right (by omega) (by omega)
  omega
theorem val_take (l : List UInt8) (n : Nat) : ∀ k, k ≤ n → val (l.take n) k = val l k
  | 0, _ => rfl
  | k + 1, h => by
    rw [val, val, val_take l n k (by omega)]
    congr 2
    simp [at0, List.getElem?_take, show k < n by omega]
/-- An inode, read: what is read, the error. -/
def parsed (b : List UInt8) : Int × Int × Int × List UInt8 := ((at0 b 1).toNat, val (b.drop 2) 4, (at0 b 6).toNat, (b.drop 7).take 32)
def parseI (b : List UInt8) : (Int × Int × Int × List UInt8) × Int :=
  if b.length < 39 then ((0, 0, 0, zeroId), 8)
  else if at0 b 0 ≠ 105 ∨ wrongN (parsed b).1 (parsed b).2.1 (parsed b).2.2.1 (parsed b).2.2.2 ≠ 0 then ((0, 0, 0, zeroId), 11)
  else if 39 < b.length then ((0, 0, 0, zeroId), 9)
  else (parsed b, 0)
theorem node_copy {k s l : Int} {z top : List UInt8} (hz : z.length = 32) (ht : top.length = 32) : over (nodeC k s l z) 3 ((bs top).take (min top.length 32)) = nodeC k s l top := by
  rw [List.take_of_length_le (by rw [bs_length]; omega)]
  exact node_over hz ht
theorem parsed_top {b : List UInt8} (h : 39 ≤ b.length) : ((b.drop 7).take 32).length = 32 := by simp; omega
theorem val_lt6 (l : List UInt8) {k : Nat} (h : k ≤ 6) : val l k < 281474976710656 := by
  have := val_lt l k
  have h2 : 2 ^ (8 * k) ≤ 2 ^ (8 * 6) := Nat.pow_le_pow_right (by omega) (by omega)
  omega
theorem parseI_cut {b : List UInt8} (h : (b.length : Int) < 39) : parseI b = ((0, 0, 0, zeroId), 8) := by unfold parseI; rw [if_pos (by omega)]
theorem parseI_bad {b : List UInt8} (h : 39 ≤ b.length) (h2 : (!decide (((at0 b 0).toNat : Int) = 105) || !decide (wrongN (parsed b).1 (parsed b).2.1 (parsed b).2.2.1 (parsed b).2.2.2 = 0)) = true) : parseI b = ((0, 0, 0, zeroId), 11) := by
  unfold parseI
  rw [if_neg (by omega), if_pos]
  simp at h2
  rcases h2 with h2 | h2
  · left; intro e; rw [e] at h2; exact h2 rfl
  · exact .inr h2
theorem parseI_good {b : List UInt8} (h2 : (!decide (((at0 b 0).toNat : Int) = 105) || !decide (wrongN (parsed b).1 (parsed b).2.1 (parsed b).2.2.1 (parsed b).2.2.2 = 0)) = false) : ¬ (at0 b 0 ≠ 105 ∨ wrongN (parsed b).1 (parsed b).2.1 (parsed b).2.2.1 (parsed b).2.2.2 ≠ 0) := by
  simp at h2
  intro h
  rcases h with h | h
  · exact h (UInt8.toNat_inj.1 (by have := h2.1; simp; omega))
  · exact h h2.2
theorem parseI_more {b : List UInt8} (h : 39 ≤ b.length) (h2 : (!decide (((at0 b 0).toNat : Int) = 105) || !decide (wrongN (parsed b).1 (parsed b).2.1 (parsed b).2.2.1 (parsed b).2.2.2 = 0)) = false) (h3 : decide ((39 : Int) < (b.length : Int)) = true) : parseI b = ((0, 0, 0, zeroId), 9) := by
  have := of_decide_eq_true h3
  unfold parseI
  rw [if_neg (by omega), if_neg (parseI_good h2), if_pos (by omega)]
theorem parseI_ok {b : List UInt8} (h : 39 ≤ b.length) (h2 : (!decide (((at0 b 0).toNat : Int) = 105) || !decide (wrongN (parsed b).1 (parsed b).2.1 (parsed b).2.2.1 (parsed b).2.2.2 = 0)) = false) (h3 : decide ((39 : Int) < (b.length : Int)) = false) : parseI b = (parsed b, 0) := by
  have := of_decide_eq_false h3
  unfold parseI
  rw [if_neg (by omega), if_neg (parseI_good h2), if_neg (by omega)]
/-- What Inode answers. -/
def inodeR (k s l : Int) (top : List UInt8) : List UInt8 := if wrongN k s l top = 0 then inodeB k s l top else []
end Go.Proofs.Ytnhidehpacidnaa
