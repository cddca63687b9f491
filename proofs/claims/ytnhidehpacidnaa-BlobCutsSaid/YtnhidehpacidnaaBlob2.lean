/- Blocks: plain words on bytes with some turned. -/
import Derived.Test.YtnhidehpacidnaaBlob1
import Derived.Test.YtnhidehpacidnaaSl7
namespace Go.Proofs.Ytnhidehpacidnaa
set_option linter.unusedVariables false
set_option linter.unusedSimpArgs false
/-- The first k turns. -/
def turnTo (x : List UInt8) (a : List Int) (y : List UInt8) : Nat → List UInt8
  | 0 => x
  | k + 1 => (turnTo x a y k).set (a.getD k 0 % ((turnTo x a y k).length : Int)).toNat (at0 (turnTo x a y k) (a.getD k 0 % ((turnTo x a y k).length : Int)).toNat + at0 y k)
/-- How many turns there are. -/
def turnN (x : List UInt8) (a : List Int) (y : List UInt8) : Nat := if x.length = 0 then 0 else min (min a.length y.length) 3
theorem turnTo_length (x : List UInt8) (a : List Int) (y : List UInt8) (k : Nat) : (turnTo x a y k).length = x.length := by
  induction k with
  | zero => rfl
  | succ k ih => simp [turnTo, ih]
theorem turnTo_set (x : List UInt8) (a : List Int) (y : List UInt8) (k : Nat) : (bs (turnTo x a y k)).set (a.getD k 0 % ((turnTo x a y k).length : Int)).toNat (bv (at0 (turnTo x a y k) (a.getD k 0 % ((turnTo x a y k).length : Int)).toNat + at0 y k)) = bs (turnTo x a y (k + 1)) := by
  simp [turnTo, bs, List.map_set]
theorem turn_guard {k a b c : Nat} (h : (decide ((k : Int) < (a : Int)) && decide ((k : Int) < (b : Int)) && decide ((k : Int) < 3) && decide ((0 : Int) < (c : Int))) = true) : k < a ∧ k < b ∧ k < 3 ∧ 0 < c := by
  simp at h; omega
theorem turn_end {x : List UInt8} {a : List Int} {y : List UInt8} {k : Nat} (hk : k ≤ turnN x a y) (h : (decide ((k : Int) < (a.length : Int)) && decide ((k : Int) < (y.length : Int)) && decide ((k : Int) < 3) && decide ((0 : Int) < ((turnTo x a y k).length : Int))) = false) : k = turnN x a y := by
  rw [turnTo_length] at h
  unfold turnN at hk ⊢
  split at hk
  · rename_i h0; rw [if_pos h0]; omega
  · rename_i h0
    rw [if_neg h0]
    have hp : decide ((0 : Int) < (x.length : Int)) = true := by simp; omega
    rw [hp, Bool.and_true] at h
    simp at h
    omega
theorem turn_le {x : List UInt8} {a : List Int} {y : List UInt8} {k : Nat} (h1 : k < a.length) (h2 : k < y.length) (h3 : k < 3) (hp : 0 < x.length) : k + 1 ≤ turnN x a y := by
  unfold turnN
  rw [if_neg (by omega)]
  omega
theorem tmod_odd {c : Int} (h : c.tmod 2 = 1) : 0 < c := by
  rcases Int.lt_or_le 0 c with h1 | h1
  · exact h1
  · obtain ⟨d, rfl⟩ : ∃ d, c = -d := ⟨-c, by omega⟩
    rw [Int.neg_tmod] at h
    have := Int.tmod_nonneg 2 (show 0 ≤ d by omega)
    omega
/-- Bytes with some turned, or cut off. -/
def turned (x : List UInt8) (a : List Int) (y : List UInt8) : List UInt8 := turnTo x a y (turnN x a y)
def bentX (x : List UInt8) (a : List Int) (y : List UInt8) (cut : Int) : List UInt8 := if cut.tmod 2 = 1 then (turned x a y).take ((cut / 2) % ((turned x a y).length + 1)).toNat else turned x a y
end Go.Proofs.Ytnhidehpacidnaa
