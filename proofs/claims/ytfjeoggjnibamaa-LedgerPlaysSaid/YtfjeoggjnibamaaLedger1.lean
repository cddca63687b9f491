/- Records: the plain functions, and the two inner functions of the ledger. -/
import Derived.Test.YtfjeoggjnibamaaLawDiskStays
import Derived.Laws.BitsLemmas
import Derived.Laws.BitsAllLaws
import Derived.IntWalk
namespace Go.Proofs.Ytfjeoggjnibamaa
open Go.RowKit

/-- The k-th byte of a number of four bytes, the highest first. -/
def byteOf (n k : Nat) : UInt8 := UInt8.ofNat (n / 256 ^ (3 - k))
def rec (n : Nat) : List UInt8 := [byteOf n 0, byteOf n 1, byteOf n 2, byteOf n 3, ~~~ byteOf n 0, ~~~ byteOf n 1, ~~~ byteOf n 2, ~~~ byteOf n 3]
def bt (l : List UInt8) (i : Nat) : UInt8 := l[i]?.getD 0
def isRec (l : List UInt8) (k : Nat) : Bool := (List.range k).all fun i => bt l i == ~~~ bt l (4 + i)
def val (l : List UInt8) : Nat → Nat
  | 0 => 0
  | k + 1 => val l k * 256 + (bt l k).toNat
/-- The number of eight bytes; 0: none. -/
def num (l : List UInt8) : Nat := if isRec l 4 = true then val l 4 else 0

theorem val_lt (l : List UInt8) : ∀ k, val l k < 256 ^ k
  | 0 => by simp [val]
  | k + 1 => by
    have := val_lt l k
    have h := (bt l k).toNat_lt
    simp only [val, Nat.pow_succ]
    omega

theorem xor_255 : ∀ x : Nat, x < 256 → 255 ^^^ x = 255 - x := by decide +kernel
theorem not_nat (x : UInt8) : (~~~ x).toNat = 255 - x.toNat := by
  have hx := x.toNat_lt
  rw [UInt8.toNat_not]
  simp only [UInt8.size] at hx ⊢
theorem not_u8 (x : UInt8) : bits .xor .u8 (if IntKind.u8.signed = true then -1 else IntKind.u8.max) (x.toNat : Int) = ((255 - x.toNat : Nat) : Int) := by
  have h1 : (if IntKind.u8.signed = true then (-1 : Int) else IntKind.u8.max) = ((255 : Nat) : Int) := by decide
  have hx := x.toNat_lt
  have h2 : 255 ^^^ x.toNat = 255 - x.toNat := xor_255 _ (by simpa using hx)
  rw [h1, u8_xor_nat 255 x.toNat (by omega) (by simpa using hx), h2]
theorem or_byte (a : Nat) (x : UInt8) (ha : a < 4294967296) : bits .or .i64 (wrap64 ((a : Int) * 256)) (wrap64 (x.toNat : Int)) = ((a * 256 + x.toNat : Nat) : Int) := by
  have hx := x.toNat_lt
  simp at hx
  have h1 : wrap64 ((a : Int) * 256) = (a : Int) * 256 := by unfold wrap64; omega
  have h2 : wrap64 (x.toNat : Int) = (x.toNat : Int) := by unfold wrap64; omega
  rw [h1, h2, bits_join .i64 62 (by decide) (fun n h0 h1 => by rw [IntKind.wrap_i64]; simp at h1; omega) 8 _ _ (by omega) (by simp) (by simp; omega) (by omega) (by simp; omega) (by simp; omega)]
  simp

theorem isRec_succ (l : List UInt8) (k : Nat) : isRec l (k + 1) = (isRec l k && (bt l k == ~~~ bt l (4 + k))) := by
  unfold isRec
  rw [List.range_succ, List.all_append]
  simp
theorem isRec_mono (l : List UInt8) (k : Nat) (h : isRec l (k + 1) = false) (hk : k < 4) : isRec l 4 = false := by
  have hh : ∀ m, k + 1 ≤ m → isRec l m = false := by
    intro m hm
    induction m with
    | zero => omega
    | succ m ih =>
      by_cases e : m = k
      · subst e; exact h
      · rw [isRec_succ, ih (by omega)]; rfl
  exact hh 4 (by omega)

set_option maxHeartbeats 800000 in
theorem number_any (v : Value) (l : List UInt8) (w : World) (h : RdB w v l) (hl : 8 ≤ l.length) :
    Calls Try.prog 36 #[v] w fun e w' => e = .returned (.int .i64 (num l)) ∧ ∃ n, w' = w.drewN n := by
  obtain ⟨hlen, A, c, rfl, hnc, h0, hrd⟩ := h
  have hA : ∃ ad, A = some ad := by
    cases A with
    | none => have := h0 rfl; omega
    | some ad => exact ⟨ad, rfl⟩
  obtain ⟨ad, rfl⟩ := hA
  have hcell : ∀ j, j < l.length → w.cell? (ad.add j) = some (bv (bt l j)) := by
    intro j hj
    refine (hrd ad rfl).2 j _ ?_
    rw [bs_get, List.getElem?_eq_getElem hj]
    simp [bt, List.getElem?_eq_getElem hj]
  have HC := Lib.hid hcell; clear hcell hrd
  go_enter Try.func36, Try.ntmps36
  go_wp2_with fail
  go_loopw [3, 5] (fun n i wr => ∃ k : Nat, k ≤ 4 ∧ i = .int .i64 k ∧ n = .int .i64 (val l k) ∧ isRec l k = true ∧ ∃ m, wr = w.drewN m) (fun _ i _ => 4 - (intOf i).toNat)
  case atStart => exact ⟨0, Nat.zero_le _, rfl, rfl, rfl, 0, rfl⟩
  case round =>
    obtain ⟨k, hk, rfl, rfl, hrec, m, rfl⟩ := hrel
    by_cases hlt : k < 4
    · have c1 := HC.out k (by omega)
      have c2 := HC.out (4 + k) (by omega)
      have c2' := c2
      rw [show ad.add (4 + k) = ⟨ad.block, ad.off + (4 + k), none⟩ from by simp [Addr.add]] at c2
      simp only [bv] at c1 c2 c2'
      have hv1 := val_lt l k
      have hi0 : (0 : Int) ≤ (k : Int) := by omega
      have hi1 : (k : Int) < (l.length : Int) := by omega
      have hi2 : (4 : Int) + (k : Int) < (l.length : Int) := by omega
      have hi3 : IntKind.i64.wrap ((4 : Int) + (k : Int)) = (4 : Int) + (k : Int) := IntWalk.i64_in _ (by omega)
      have hi4 : ((4 : Int) + (k : Int)).toNat = 4 + k := by omega
      have hi5 : (0 : Int) ≤ (4 : Int) + (k : Int) := by omega
      have hx := not_u8 (bt l (4 + k))
      have ho := or_byte (val l k) (bt l k) (Nat.lt_of_lt_of_le hv1 (by have : 256 ^ k ≤ 256 ^ 4 := Nat.pow_le_pow_right (by omega) (by omega); omega))
      by_cases heq : (bt l k == ~~~ bt l (4 + k)) = true
      · have hb : (((bt l k).toNat : Int) != ((255 - (bt l (4 + k)).toNat : Nat) : Int)) = false := by
          have := eq_of_beq heq
          rw [this, not_nat]
          simp
        have hrec' : isRec l (k + 1) = true := by rw [isRec_succ, hrec, heq]; rfl
        have hV : ((val l k * 256 + (bt l k).toNat : Nat) : Int) = ((val l (k + 1) : Nat) : Int) := rfl
        have HH := Lib.hid hrec'
        rw [hV] at ho
        clear hrec' heq hV hv1
        go_wp2
        go_quiet (fail)
        clear hi3 hi4 hi5 hx hb
        go_wp2
        go_roundw
        case rel => exact ⟨k + 1, by omega, by go_num, rfl, HH.out, _, rfl⟩
        case measure => simp [intOf]; omega
      · have heq' : (bt l k == ~~~ bt l (4 + k)) = false := by simpa using heq
        have hb : (((bt l k).toNat : Int) != ((255 - (bt l (4 + k)).toNat : Nat) : Int)) = true := by
          rw [bne_iff_ne]
          intro e
          have : (bt l k).toNat = (~~~ bt l (4 + k)).toNat := by rw [not_nat]; exact_mod_cast e
          rw [UInt8.toNat_inj] at this
          rw [this] at heq'
          simp at heq'
        have hfin : num l = 0 := by
          have h1 : isRec l (k + 1) = false := by rw [isRec_succ, hrec, heq']; rfl
          simp [num, isRec_mono l k h1 hlt]
        have HH := Lib.hid hfin
        clear hfin heq heq' hv1
        go_wp2
        go_quiet (fail)
        go_wp2
        go_ret
        rw [HH.out]
        exact ⟨rfl, m + nq, by simp⟩
    · have hk4 : k = 4 := by omega
      subst hk4
      have hfin : num l = val l 4 := by simp [num, hrec]
      have HH := Lib.hid hfin
      clear hfin
      go_wp2
      go_ret
      rw [HH.out]
      exact ⟨rfl, _, rfl⟩
end Go.Proofs.Ytfjeoggjnibamaa
