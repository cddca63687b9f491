/- LedgerTorn: the walk of the law. -/
import Derived.Test.YtfjeoggjnibamaaLawLedgerOnce
namespace Go.Proofs.Ytfjeoggjnibamaa
open Go.RowKit
set_option linter.unusedSimpArgs false

/-- The disk behind k numbers. -/
structure Whole (k : Nat) (s : Dk) : Prop where
  room : s.room = 10000
  dead : s.dead = false
  left : s.left = 0
  size : s.b.length = 8 * k
  syn : s.synced = 8 * k
  ops : s.ops ≤ 2 * k
  good : Good k s.b
  low : k ≤ scan s.b

theorem Whole.next {k : Nat} {s : Dk} (h : Whole k s) (hk : k < 100) : (nextD s k).2.2 = 0 ∧ (nextD s k).2.1 = k + 1 ∧ Whole (k + 1) (nextD s k).1 := by
  obtain ⟨h1, h2, h3, h4, h5, h6, h7, h8⟩ := h
  have hl : lacks s.b = 0 := by unfold lacks; omega
  have hlen : (s.b ++ line s.b (k + 1)).length = s.b.length + lacks s.b + 8 := by rw [List.length_append, line_length]; omega
  rw [nextD_easy (by omega) h2 h3 (by omega)]
  exact ⟨rfl, rfl, h1, h2, h3, by simp only [hlen]; omega, by simp only []; omega, by simp only []; omega, (h7.mono (by omega)).line (Nat.le_refl _), scan_line _ _ (by omega)⟩

/-- The record that was written and not synced, of which q bytes stay. -/
theorem Whole.torn {n : Nat} {s : Dk} (h : Whole n s) (hn : n < 100) (keep : Int) :
    (nextD (s.stop 2) n).2.2 = 17 ∧ (nextD (s.stop 2) n).2.1 = n ∧ (nextD (s.stop 2) n).1.ok = (nextD (s.stop 2) n).1.ok ∧
    ∃ q, (nextD (s.stop 2) n).1.pick keep = q ∧ q ≤ 8 ∧
      ((nextD (s.stop 2) n).1.crash keep).room = 10000 ∧ ((nextD (s.stop 2) n).1.crash keep).dead = false ∧ ((nextD (s.stop 2) n).1.crash keep).left = 0 ∧ ((nextD (s.stop 2) n).1.crash keep).ops ≤ 300 ∧
      ((nextD (s.stop 2) n).1.crash keep).b.length = 8 * n + q ∧ Good (n + 1) ((nextD (s.stop 2) n).1.crash keep).b ∧ scan ((nextD (s.stop 2) n).1.crash keep).b = if q = 8 then n + 1 else n := by
  obtain ⟨h1, h2, h3, h4, h5, h6, h7, h8⟩ := h
  have hl : lacks s.b = 0 := by unfold lacks; omega
  have hlen : (s.b ++ line s.b (n + 1)).length = 8 * n + 8 := by rw [List.length_append, line_length]; omega
  have hleft : (s.stop 2).left = 2 := rfl
  have hN : nextD (s.stop 2) n = ({ s with b := s.b ++ line s.b (n + 1), left := 0, dead := true, ops := s.ops + 1 }, n, 17) := by
    rcases nextD_ways (s := s.stop 2) (ll := n) (by omega) h2 (by show s.b.length + lacks s.b + 8 ≤ s.room; omega) with ⟨_, h, _⟩ | ⟨_, h⟩ | ⟨h, _⟩
    · exact absurd hleft h
    · rw [h]; rfl
    · rw [hleft] at h; omega
  rw [hN]
  simp only []
  obtain ⟨S, hS⟩ : ∃ S : Dk, S = { s with b := s.b ++ line s.b (n + 1), left := 0, dead := true, ops := s.ops + 1 } := ⟨_, rfl⟩
  rw [← hS]
  have f1 : S.room = 10000 := by rw [hS]; exact h1
  have f2 : S.b = s.b ++ line s.b (n + 1) := by rw [hS]
  have f3 : S.synced = 8 * n := by rw [hS]; exact h5
  have f4 : S.ops = s.ops + 1 := by rw [hS]
  clear hS hN hleft
  have hp := pick_le S keep
  rw [f2, f3, hlen] at hp
  have hc : (S.crash keep).b = (s.b ++ line s.b (n + 1)).take (8 * n + S.pick keep) := by simp only [Dk.crash, f2, f3]
  generalize hq0 : S.pick keep = q at *
  refine ⟨trivial, trivial, trivial, q, rfl, by omega, f1, rfl, rfl, by show S.ops ≤ 300; omega, ?_, ?_, ?_⟩
  · rw [hc, List.length_take, hlen]
    omega
  · rw [hc]
    exact ((h7.mono (by omega)).line (Nat.le_refl _)).take _
  · rw [hc]
    by_cases hq : q = 8
    · rw [if_pos hq, List.take_of_length_le (by omega)]
      have u1 := scan_line s.b (n + 1) (by omega)
      have u2 := ((h7.mono (Nat.le_succ n)).line (n := n + 1) (Nat.le_refl _)).scan
      omega
    · rw [if_neg hq]
      have e1 : ((s.b ++ line s.b (n + 1)).take (8 * n + q)).length / 8 = n := by rw [List.length_take, hlen]; omega
      have e2 : s.b.length / 8 = n := by omega
      have u2 := h7.scan
      unfold scan at h8 u2 ⊢
      rw [e2] at h8 u2
      rw [e1, scanTo_congr (b := (s.b ++ line s.b (n + 1)).take (8 * n + q)) (c := s.b) n fun x hx => by rw [bt_take, if_pos (by omega), bt_append, if_pos (by omega)]]
      omega

/-- The disk behind k more numbers, above W. -/
structure More (n W k : Nat) (s : Dk) : Prop where
  room : s.room = 10000
  dead : s.dead = false
  left : s.left = 0
  size : s.b.length ≤ 1000 + 16 * k
  ops : s.ops ≤ 300 + 2 * k
  good : Good (max (n + 1) (W + k)) s.b
  low : 1 ≤ k → W + k ≤ scan s.b ∧ s.b.length % 8 = 0

theorem More.next {n W k : Nat} {s : Dk} (h : More n W k s) (hk : k < 100) (hW : n ≤ W) (hn : W < 1000) : (nextD s (W + k)).2.2 = 0 ∧ (nextD s (W + k)).2.1 = W + k + 1 ∧ More n W (k + 1) (nextD s (W + k)).1 := by
  obtain ⟨h1, h2, h3, h4, h5, h6, h7⟩ := h
  have hl := lacks_lt s.b
  obtain ⟨a, ha⟩ := lacks_mod s.b
  have hlen : (s.b ++ line s.b (W + k + 1)).length = s.b.length + lacks s.b + 8 := by rw [List.length_append, line_length]; omega
  rw [nextD_easy (by omega) h2 h3 (by omega)]
  exact ⟨rfl, rfl, h1, h2, h3, by simp only [hlen]; omega, by simp only []; omega, (h6.mono (by omega)).line (by omega), fun _ => ⟨scan_line _ _ (by omega), by simp only [hlen]; omega⟩⟩
theorem More.done {n W k : Nat} {s : Dk} (h : More n W k s) (hk : 1 ≤ k) (hW : n ≤ W) : scan s.b = W + k := by
  have h1 := h.good.scan
  have h2 := (h.low hk).1
  omega

set_option maxRecDepth 100000 in
set_option maxHeartbeats 2000000 in
theorem ledgerTorn_any (w : World) (n0 : Int) (_ : -9223372036854775808 ≤ n0) (_ : n0 ≤ 9223372036854775807) (keep : Int) (_ : -9223372036854775808 ≤ keep) (_ : keep ≤ 9223372036854775807) (more : Int) (_ : -9223372036854775808 ≤ more) (_ : more ≤ 9223372036854775807) :
    Calls Try.prog 10 #[.int .i64 n0, .int .i64 keep, .int .i64 more] w fun e w' => e = .returned (.bool true) ∧ Chg [] w w' := by
  have HW := fun w => lwithin_any n0 20 w (by omega) (by omega)
  have hR1 := Int.emod_nonneg n0 (b := 20) (by omega)
  have hn := Int.emod_lt_of_pos n0 (b := 20) (by omega)
  obtain ⟨n, hm⟩ := Int.eq_ofNat_of_zero_le hR1
  rw [hm] at HW hn
  clear hR1 hm
  have HWN := Lib.hid HW; clear HW
  have HW := fun w => lwithin_any more 4 w (by omega) (by omega)
  have hR1 := Int.emod_nonneg more (b := 4) (by omega)
  have hm4 := Int.emod_lt_of_pos more (b := 4) (by omega)
  obtain ⟨m, hm⟩ := Int.eq_ofNat_of_zero_le hR1
  rw [hm] at HW hm4
  clear hR1 hm
  have HWM := Lib.hid HW; clear HW
  go_enter Try.func10, Try.ntmps10
  go_wp2_with fail
  refine (lknown_any _).mono ?_
  rintro e w1 ⟨rfl, hc1⟩
  go_wp2_with fail
  refine (HWN.out _).mono ?_
  rintro e w1' ⟨rfl, rfl⟩
  go_wp2_with fail
  refine (dsk_new w 10000 _ (by omega) (by omega) hc1).mono ?_
  rintro e w2 ⟨g, rfl, hd⟩
  rw [show (10000 : Int).toNat = 10000 by rfl] at hd
  go_wp2_with fail
  refine (dsk_open hd rfl).mono ?_
  rintro e w3 ⟨p, rfl, hd3, hl3, _, hp, _⟩
  have hs0 : scan (Dk.new 10000).b = 0 := by simp [scan, Dk.new, scanTo]
  rw [hs0] at hl3
  have hwh : Whole 0 (Dk.new 10000) := ⟨rfl, rfl, rfl, by simp [Dk.new], by simp [Dk.new], by simp [Dk.new], Good.nil _, Nat.zero_le _⟩
  clear hd hs0
  generalize Dk.new 10000 = s0 at *
  go_wp2_with fail
  go_loopw [11] (fun i wr => ∃ k : Nat, k ≤ n ∧ i = .int .i64 (k + 1) ∧ ∃ (v : Value) (s : Dk), Whole k s ∧ Dsk w wr g v s ∧ LgAt wr p g k) (fun i _ => 21 - (intOf i).toNat)
  case atStart => exact ⟨0, Nat.zero_le _, rfl, _, s0, hwh, hd3, hl3⟩
  case round =>
    clear hwh hd3 hl3
    obtain ⟨k, hk, rfl, v, s, hwh, hd, hl⟩ := hrel
    by_cases hlt : k < n
    · have HN := dsk_next hd hl hp (by have := hwh.ops; omega)
      obtain ⟨hn1, hn2, hn3⟩ := hwh.next (by omega)
      rw [hn1, hn2] at HN
      generalize (nextD s k).1 = s4 at *
      have HN' := Lib.hid HN; clear HN hn1 hn2
      go_wp2_with fail
      refine HN'.out.mono ?_
      rintro e w4 ⟨v4, rfl, hd4, hl4⟩
      simp only [answer, if_pos rfl]
      go_wp2
      go_roundw
      case rel => exact ⟨k + 1, by omega, by go_num, v4, s4, hn3, hd4, hl4⟩
      case measure => simp [intOf]; omega
    · have hkn : k = n := by omega
      subst hkn
      go_wp2_with fail
      refine (dsk_stop hd 2 (by omega)).mono ?_
      rintro e w5 ⟨rfl, hd5, hc5⟩
      have hl5 := hl.apart hd.at_ hc5
      have HN := dsk_next hd5 hl5 hp (by have := hwh.ops; show s.ops < 90000; omega)
      obtain ⟨hn1, hn2, _, q, hq, hq8, t1, t2, t3, t4, t5, t6, t7⟩ := hwh.torn (by omega) keep
      rw [hn1, hn2] at HN
      generalize (nextD (s.stop 2) k).1 = s6 at *
      have HN' := Lib.hid HN; clear HN hn1 hn2
      go_wp2_with fail
      refine HN'.out.mono ?_
      rintro e w6 ⟨v6, rfl, hd6, hl6⟩
      simp only [answer]
      go_wp2_with fail
      refine (dsk_crash hd6 keep).mono ?_
      rw [hq]
      rintro e w7 ⟨v7, rfl, hd7, hc7⟩
      have hl7 := hl6.apart hd6.at_ hc7
      clear hd hl hd5 hl5 HN' hd6 hl6 hc5 hc7 hwh hq
      generalize s6.crash keep = s7 at *
      go_wp2_with fail
      refine (dsk_open hd7 t2).mono ?_
      rintro e w8 ⟨p8, rfl, hd8, hl8, _, hp8, hc8⟩
      have hl8' := hl7.chg hc8 (by simp)
      clear hd7 hl7
      go_wp2_with fail
      refine (last_any p g k _ hl8').mono ?_
      rintro e w9 ⟨rfl, rfl⟩
      obtain ⟨W, hW⟩ : ∃ W, W = scan s7.b := ⟨_, rfl⟩
      rw [← hW] at hl8 t7
      have hmo : More k W 0 s7 := ⟨t1, t2, t3, by omega, by omega, t6.mono (by omega), fun h => absurd h (by omega)⟩
      clear hW t1 t2 t3 t4 t5 t6
      have hkW : k ≤ W ∧ W < 1000 := by split at t7 <;> omega
      go_upto_if 90 with fail
      go_cut [19] (fun vw wx => vw = .int .i64 W ∧ wx = w8)
      case first =>
        by_cases hq' : q = 8
        · rw [if_pos hq'] at t7
          go_wp2
          go_meet
          exact ⟨by rw [t7]; go_num, rfl⟩
        · rw [if_neg hq'] at t7
          go_wp2
          go_meet
          exact ⟨by rw [t7], rfl⟩
      case rest =>
        obtain ⟨rfl, rfl⟩ := hcut
        clear t7 hl8'
        go_wp2_with fail
        refine (last_any p8 g W _ hl8).mono ?_
        rintro e w10 ⟨rfl, rfl⟩
        go_wp2_with fail
        go_loopw [20] (fun i wr => ∃ j : Nat, j ≤ 1 + m ∧ i = .int .i64 (j + 1) ∧ ∃ (v : Value) (s : Dk), More k W j s ∧ Dsk w wr g v s ∧ LgAt wr p8 g (W + j)) (fun i _ => 6 - (intOf i).toNat)
        case atStart => exact ⟨0, Nat.zero_le _, rfl, v7, s7, hmo, hd8, hl8⟩
        case round =>
          clear hmo hd8 hl8
          obtain ⟨j, hj, rfl, v, s, hmo, hd, hl⟩ := hrel
          by_cases hjm : j < 1 + m
          · have HN := dsk_next hd hl hp8 (by have := hmo.ops; omega)
            obtain ⟨hn1, hn2, hn3⟩ := hmo.next (by omega) hkW.1 hkW.2
            have hcast : ((W + j + 1 : Nat) : Int) = (W : Int) + ((j : Int) + 1) := by omega
            have hjm' : (j : Int) + 1 ≤ 1 + (m : Int) := by omega
            rw [hn1, hn2] at HN
            generalize (nextD s (W + j)).1 = s9 at *
            have HN' := Lib.hid HN; clear HN hn1 hn2
            go_wp2_with fail
            refine (HWM.out _).mono ?_
            rintro e w11 ⟨rfl, rfl⟩
            go_wp2_with fail
            refine HN'.out.mono ?_
            rintro e w12 ⟨v12, rfl, hd12, hl12⟩
            simp only [answer, if_pos rfl, hcast]
            go_wp2
            go_roundw
            case rel => exact ⟨j + 1, by omega, by go_num, v12, s9, hn3, hd12, hl12⟩
            case measure => simp [intOf]; omega
          · have hjm' : ¬ (j : Int) + 1 ≤ 1 + (m : Int) := by omega
            go_wp2_with fail
            refine (HWM.out _).mono ?_
            rintro e w11 ⟨rfl, rfl⟩
            go_wp2_with fail
            refine (dsk_open hd hmo.dead).mono ?_
            rintro e w12 ⟨p12, rfl, hd12, hl12, _, _, _⟩
            have hcast : ((scan s.b : Nat) : Int) = (W : Int) + 1 + (m : Int) := by rw [hmo.done (by omega) hkW.1]; omega
            have hmod : (s.b.length : Int) % 8 = 0 := by have := (hmo.low (by omega)).2; omega
            have hL := fun w h => last_any p12 g (scan s.b) w h
            rw [hcast] at hL
            have HL := Lib.hid hL; clear hL
            go_wp2_with fail
            refine (HL.out _ hl12).mono ?_
            rintro e w13 ⟨rfl, rfl⟩
            go_wp2_with fail
            refine (HWM.out _).mono ?_
            rintro e w14 ⟨rfl, rfl⟩
            go_wp2_with fail
            refine (bytes_any g v s _ hd12.at_ hd12.ok).mono ?_
            rintro e w15 ⟨v15, rfl, ho15, hc15, _⟩
            obtain ⟨A15, c15, rfl, _⟩ := own_form ho15
            go_wp2
            go_ret
            exact ⟨by simp [hmod], hd12.chg.trans hc15 (by simp)⟩
end Go.Proofs.Ytfjeoggjnibamaa
