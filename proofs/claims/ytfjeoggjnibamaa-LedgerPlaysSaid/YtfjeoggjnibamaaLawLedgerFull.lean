/- LedgerFull: the walk of the law. -/
import Derived.Test.YtfjeoggjnibamaaLedger5
namespace Go.Proofs.Ytfjeoggjnibamaa
open Go.RowKit
set_option linter.unusedSimpArgs false

theorem nextD_easy {s : Dk} {last : Nat} (h1 : last < 4294967295) (hd : s.dead = false) (hl : s.left = 0) (hr : s.b.length + lacks s.b + 8 ≤ s.room) :
    nextD s last = ({ s with b := s.b ++ line s.b (last + 1), synced := s.b.length + lacks s.b + 8, ops := s.ops + 2 }, last + 1, 0) := by
  have ha : s.append (line s.b (last + 1)) = ({ s with b := s.b ++ line s.b (last + 1), ops := s.ops + 1 }, 0) := by
    have : ¬ s.room < s.b.length + (line s.b (last + 1)).length := by rw [line_length]; omega
    simp [Dk.append, hd, this, Dk.spend, hl]
  have hy : Dk.sync { s with b := s.b ++ line s.b (last + 1), ops := s.ops + 1 } = ({ s with b := s.b ++ line s.b (last + 1), synced := s.b.length + lacks s.b + 8, ops := s.ops + 2 }, 0) := by
    simp [Dk.sync, hd, Dk.spend, hl, line_length]
    omega
  rw [nextD_good (by omega) (by rw [ha]) (by rw [ha]; simp only []; rw [hy]), ha]
  simp only []
  rw [hy]
theorem nextD_full {s : Dk} {last : Nat} (h1 : last < 4294967295) (hd : s.dead = false) (hr : s.room < s.b.length + lacks s.b + 8) :
    nextD s last = (s, last, 16) := by
  have ha : s.append (line s.b (last + 1)) = (s, 16) := by
    have : s.room < s.b.length + (line s.b (last + 1)).length := by rw [line_length]; omega
    simp [Dk.append, hd, this]
  rw [nextD_append (by omega) (by rw [ha]; simp), ha]

/-- The disk of R bytes behind k numbers asked for. -/
structure Full (R k : Nat) (s : Dk) : Prop where
  room : s.room = R
  dead : s.dead = false
  left : s.left = 0
  size : s.b.length = 8 * min k (R / 8)
  ops : s.ops ≤ 2 * k

theorem Full.next {R k : Nat} {s : Dk} (h : Full R k s) (hk : k < 20) : Full R (k + 1) (nextD s (min k (R / 8))).1 ∧ (nextD s (min k (R / 8))).2.1 = min (k + 1) (R / 8) ∧ (nextD s (min k (R / 8))).2.2 = if 8 * (k + 1) ≤ R then 0 else 16 := by
  obtain ⟨h1, h2, h3, h4, h5⟩ := h
  have hl : lacks s.b = 0 := by unfold lacks; omega
  by_cases hR : 8 * (k + 1) ≤ R
  · rw [nextD_easy (by omega) h2 h3 (by omega), if_pos hR]
    exact ⟨⟨h1, h2, h3, by simp [line_length, hl]; omega, by simp; omega⟩, by simp; omega, rfl⟩
  · rw [nextD_full (by omega) h2 (by omega), if_neg hR]
    exact ⟨⟨h1, h2, h3, by simp only []; omega, by simp only []; omega⟩, by simp; omega, rfl⟩

set_option maxHeartbeats 2000000 in
theorem ledgerFull_any (w : World) (room : Int) (_ : -9223372036854775808 ≤ room) (_ : room ≤ 9223372036854775807) :
    Calls Try.prog 7 #[.int .i64 room] w fun e w' => e = .returned (.bool true) ∧ Chg [] w w' := by
  have HW := fun w => lwithin_any room 100 w (by omega) (by omega)
  have hR1 := Int.emod_nonneg room (b := 100) (by omega)
  have hR2 := Int.emod_lt_of_pos room (b := 100) (by omega)
  obtain ⟨m, hm⟩ := Int.eq_ofNat_of_zero_le hR1
  rw [hm] at HW hR2
  clear hR1 hm
  have HWH := Lib.hid HW; clear HW
  go_enter Try.func7, Try.ntmps7
  go_wp2_with fail
  refine (lknown_any _).mono ?_
  rintro e w1 ⟨rfl, hc1⟩
  go_wp2_with fail
  refine (HWH.out _).mono ?_
  rintro e w1' ⟨rfl, rfl⟩
  go_wp2_with fail
  refine (dsk_new w (1 + (m : Int)) _ (by omega) (by omega) hc1).mono ?_
  rintro e w2 ⟨g, rfl, hd⟩
  rw [show (1 + (m : Int)).toNat = m + 1 by omega] at hd
  go_wp2_with fail
  refine (dsk_open hd rfl).mono ?_
  rintro e w3 ⟨p, rfl, hd3, hl3, _, hp, _⟩
  have hf : Full (m + 1) 0 (Dk.new (m + 1)) := ⟨rfl, rfl, rfl, by simp [Dk.new], by simp [Dk.new]⟩
  have hl4 : LgAt w3 p g (min 0 ((m + 1) / 8)) := by
    rw [Nat.zero_min]
    have : scan (Dk.new (m + 1)).b = 0 := by simp [scan, Dk.new, scanTo]
    rw [this] at hl3
    exact hl3
  clear hl3 hd
  generalize Dk.new (m + 1) = s0 at *
  go_wp2_with fail
  go_loopw [7] (fun i wr => ∃ k : Nat, k ≤ 15 ∧ i = .int .i64 (k + 1) ∧ ∃ (v : Value) (s : Dk), Full (m + 1) k s ∧ Dsk w wr g v s ∧ LgAt wr p g (min k ((m + 1) / 8))) (fun i _ => 16 - (intOf i).toNat)
  case atStart => exact ⟨0, Nat.zero_le _, rfl, _, s0, hf, hd3, hl4⟩
  case round =>
    clear hf hd3 hl4
    obtain ⟨k, hk, rfl, v, s, hf, hd, hl⟩ := hrel
    by_cases hlt : k < 15
    · obtain ⟨hf', hn1, hn2⟩ := hf.next (by omega)
      have HN := dsk_next hd hl hp (by have := hf.ops; omega)
      by_cases hR : 8 * (k + 1) ≤ m + 1
      · have hm1 : min (k + 1) ((m + 1) / 8) = k + 1 := by omega
        have hR' : 8 * ((k : Int) + 1) ≤ 1 + (m : Int) := by omega
        rw [if_pos hR] at hn2
        rw [hm1] at hn1
        go_wp2_with fail
        refine HN.mono ?_
        rw [hn1, hn2]
        rintro e w4 ⟨v4, rfl, hd4, hl4⟩
        simp only [answer, if_pos rfl]
        go_wp2
        go_roundw
        case rel => exact ⟨k + 1, by omega, by go_num, v4, _, hf', hd4, by rw [hm1]; exact hl4⟩
        case measure => simp [intOf]; omega
      · have hm1 : min (k + 1) ((m + 1) / 8) = min k ((m + 1) / 8) := by omega
        have hR' : ¬ 8 * ((k : Int) + 1) ≤ 1 + (m : Int) := by omega
        have hq : ((min k ((m + 1) / 8) : Nat) : Int) = (1 + (m : Int)) / 8 := by omega
        rw [if_neg hR] at hn2
        rw [hm1] at hn1
        have hL := fun w h => last_any p g (min k ((m + 1) / 8)) w h
        rw [hq] at hL
        have HL := Lib.hid hL; clear hL
        go_wp2_with fail
        refine HN.mono ?_
        rw [hn1, hn2]
        rintro e w4 ⟨v4, rfl, hd4, hl4⟩
        simp only [answer]
        go_wp2_with fail
        refine (HL.out _ hl4).mono ?_
        rintro e w5 ⟨rfl, rfl⟩
        go_wp2
        go_roundw
        case rel => exact ⟨k + 1, by omega, by go_num, v4, _, hf', hd4, by rw [hm1]; exact hl4⟩
        case measure => simp [intOf]; omega
    · go_wp2
      go_ret
      exact ⟨rfl, hd.chg⟩
end Go.Proofs.Ytfjeoggjnibamaa
