/- LedgerOnce: the walk of the law. -/
import Derived.Test.YtfjeoggjnibamaaLedger6
import Derived.Deep.DeepCutAuto
import Derived.Deep.CutBlock
namespace Go.Proofs.Ytfjeoggjnibamaa
open Go.RowKit
set_option linter.unusedSimpArgs false

/-- The disk behind K numbers asked for; ll is the ledger's last number, last the last one that was answered. -/
structure Once (K : Nat) (s : Dk) (ll last : Nat) : Prop where
  room : s.room = 10000
  size : s.b.length ≤ 15 * K
  ops : s.ops ≤ 2 * K
  le : ll ≤ K
  good : Good K s.b
  up : last ≤ ll
  kept : last ≤ scan (s.b.take s.synced)
  syn : s.synced ≤ s.b.length

theorem Dk.sync_good {s : Dk} (hd : s.dead = false) (hl : s.left ≠ 1) : s.sync = ({ s with synced := s.b.length, left := s.left - 1, ops := s.ops + 1 }, 0) := by
  rcases Nat.lt_or_ge 0 s.left with h | h
  · simp [Dk.sync, hd, Dk.spend, h, hl]
  · have : s.left = 0 := by omega
    simp [Dk.sync, hd, Dk.spend, this]
theorem Dk.sync_stop {s : Dk} (hd : s.dead = false) (hl : s.left = 1) : s.sync = ({ s with left := 0, dead := true }, 17) := by
  simp [Dk.sync, hd, Dk.spend, hl]
theorem Dk.append_good {s : Dk} {l : List UInt8} (hd : s.dead = false) (hl : s.left ≠ 1) (hr : s.b.length + l.length ≤ s.room) : s.append l = ({ s with b := s.b ++ l, left := s.left - 1, ops := s.ops + 1 }, 0) := by
  have hr' : ¬ s.room < s.b.length + l.length := by omega
  rcases Nat.lt_or_ge 0 s.left with h | h
  · simp [Dk.append, hd, Dk.spend, h, hl, hr']
  · have : s.left = 0 := by omega
    simp [Dk.append, hd, Dk.spend, this, hr']
theorem Dk.append_stop {s : Dk} {l : List UInt8} (hd : s.dead = false) (hl : s.left = 1) (hr : s.b.length + l.length ≤ s.room) : s.append l = ({ s with b := s.b ++ l, left := 0, dead := true }, 17) := by
  have hr' : ¬ s.room < s.b.length + l.length := by omega
  simp [Dk.append, hd, Dk.spend, hl, hr']

/-- The three ways of a number asked for, where there is room. -/
theorem nextD_ways {s : Dk} {ll : Nat} (h1 : ll < 4294967295) (hd : s.dead = false) (hr : s.b.length + lacks s.b + 8 ≤ s.room) :
    (s.left ≠ 1 ∧ s.left ≠ 2 ∧ nextD s ll = ({ s with b := s.b ++ line s.b (ll + 1), synced := s.b.length + lacks s.b + 8, left := s.left - 2, ops := s.ops + 2 }, ll + 1, 0))
    ∨ (s.left = 2 ∧ nextD s ll = ({ s with b := s.b ++ line s.b (ll + 1), left := 0, dead := true, ops := s.ops + 1 }, ll, 17))
    ∨ (s.left = 1 ∧ nextD s ll = ({ s with b := s.b ++ line s.b (ll + 1), left := 0, dead := true }, ll, 17)) := by
  have hr' : s.b.length + (line s.b (ll + 1)).length ≤ s.room := by rw [line_length]; omega
  by_cases hl1 : s.left = 1
  · refine .inr (.inr ⟨hl1, ?_⟩)
    have ha := Dk.append_stop hd hl1 hr'
    rw [nextD_append (by omega) (by rw [ha]; simp), ha]
  · have ha := Dk.append_good hd hl1 hr'
    by_cases hl2 : s.left = 2
    · refine .inr (.inl ⟨hl2, ?_⟩)
      have hy := Dk.sync_stop (s := { s with b := s.b ++ line s.b (ll + 1), left := s.left - 1, ops := s.ops + 1 }) hd (by simp [hl2])
      rw [nextD_sync (by omega) (by rw [ha]) (by rw [ha]; simp only []; rw [hy]; simp), ha]
      simp only []
      rw [hy]
    · refine .inl ⟨hl1, hl2, ?_⟩
      have hy := Dk.sync_good (s := { s with b := s.b ++ line s.b (ll + 1), left := s.left - 1, ops := s.ops + 1 }) hd (by simp; omega)
      rw [nextD_good (by omega) (by rw [ha]) (by rw [ha]; simp only []; rw [hy]), ha]
      simp only []
      rw [hy]
      simp only [List.length_append, line_length]
      rw [show s.left - 1 - 1 = s.left - 2 by omega, ← Nat.add_assoc]

theorem Once.next {K : Nat} {s : Dk} {ll last : Nat} (h : Once K s ll last) (hd : s.dead = false) (hK : K < 400) :
    ((nextD s ll).2.2 = 0 ∧ (nextD s ll).2.1 = ll + 1 ∧ Once (K + 1) (nextD s ll).1 (ll + 1) (ll + 1)) ∨ ((nextD s ll).2.2 = 17 ∧ (nextD s ll).2.1 = ll ∧ Once (K + 1) (nextD s ll).1 ll last) := by
  obtain ⟨h1, h2, h3, h4, h5, h6, h7, h8⟩ := h
  have hlt := lacks_lt s.b
  have hg : Good (K + 1) (s.b ++ line s.b (ll + 1)) := (h5.mono (by omega)).line (by omega)
  have hlen : (s.b ++ line s.b (ll + 1)).length = s.b.length + lacks s.b + 8 := by rw [List.length_append, line_length]; omega
  have hk : last ≤ scan ((s.b ++ line s.b (ll + 1)).take s.synced) := by rw [List.take_append_of_le_length h8]; exact h7
  rcases nextD_ways (s := s) (ll := ll) (by omega) hd (by omega) with ⟨_, _, hn⟩ | ⟨_, hn⟩ | ⟨_, hn⟩
  · refine .inl ?_
    rw [hn]
    refine ⟨rfl, rfl, h1, by simp only [hlen]; omega, by simp only []; omega, by omega, hg, Nat.le_refl _, ?_, by simp only [hlen]; exact Nat.le_refl _⟩
    simp only []
    rw [← hlen, List.take_length]
    exact scan_line _ _ (by omega)
  · refine .inr ?_
    rw [hn]
    exact ⟨rfl, rfl, h1, by simp only [hlen]; omega, by simp only []; omega, by omega, hg, h6, hk, by simp only [hlen]; omega⟩
  · refine .inr ?_
    rw [hn]
    exact ⟨rfl, rfl, h1, by simp only [hlen]; omega, by simp only []; omega, by omega, hg, h6, hk, by simp only [hlen]; omega⟩

theorem Once.stop {K : Nat} {s : Dk} {ll last : Nat} (h : Once K s ll last) (n : Int) : Once K (s.stop n) ll last :=
  ⟨h.room, h.size, h.ops, h.le, h.good, h.up, h.kept, h.syn⟩
theorem Once.crash {K : Nat} {s : Dk} {ll last : Nat} (h : Once K s ll last) (n : Int) : Once K (s.crash n) (scan (s.crash n).b) last ∧ (s.crash n).dead = false := by
  obtain ⟨h1, h2, h3, h4, h5, h6, h7, h8⟩ := h
  have hp := pick_le s n
  have hsc : last ≤ scan (s.crash n).b := Nat.le_trans h7 (scan_take s.b _ _ (Nat.le_add_right _ _))
  have hg : Good K (s.crash n).b := h5.take _
  refine ⟨⟨h1, ?_, h3, hg.scan, hg, hsc, ?_, ?_⟩, rfl⟩
  · simp [Dk.crash]; omega
  · have : (s.crash n).b.take (s.crash n).synced = (s.crash n).b := by simp [Dk.crash, List.take_take]
    rw [this]
    exact hsc
  · simp [Dk.crash]; omega


set_option maxRecDepth 100000 in
set_option maxHeartbeats 2000000 in
theorem ledgerOnce_any (w : World) (v1 : Value) (zs1 : List Int) (h1 : RdI w v1 zs1) (hz1 : I64 zs1) (hl1 : zs1.length ≤ maxLen) (v2 : Value) (zs2 : List Int) (h2 : RdI w v2 zs2) (hz2 : I64 zs2) (hl2 : zs2.length ≤ maxLen) :
    Calls Try.prog 9 #[v1, v2] w fun e w' => e = .returned (.bool true) ∧ Chg [] w w' := by
  unfold maxLen at hl1 hl2
  obtain ⟨hlen1, A1, c1, rfl, hnc1, h01, hrd1⟩ := h1
  obtain ⟨hlen2, A2, c2, rfl, hnc2, h02, hrd2⟩ := h2
  go_enter Try.func9, Try.ntmps9
  go_wp2_with fail
  refine (lknown_any _).mono ?_
  rintro e w1 ⟨rfl, hc1⟩
  go_wp2_with fail
  refine (dsk_new w 10000 _ (by omega) (by omega) hc1).mono ?_
  rintro e w2 ⟨g, rfl, hd⟩
  rw [show (10000 : Int).toNat = 10000 by rfl] at hd
  go_wp2_with fail
  refine (dsk_open hd rfl).mono ?_
  rintro e w3 ⟨p, rfl, hd3, hl3, _, hp, _⟩
  have hs0 : scan (Dk.new 10000).b = 0 := by simp [scan, Dk.new, scanTo]
  rw [hs0] at hl3
  have hon : Once 0 (Dk.new 10000) 0 0 := ⟨rfl, by simp [Dk.new], by simp [Dk.new], Nat.le_refl _, Good.nil _, Nat.le_refl _, Nat.zero_le _, by simp [Dk.new]⟩
  have hdd : (Dk.new 10000).dead = false := rfl
  clear hd hs0
  generalize Dk.new 10000 = s0 at *
  go_wp2_with fail
  go_loopw [7, 9, 10] (fun vl vn i wr => ∃ k : Nat, k ≤ zs1.length ∧ k ≤ 30 ∧ i = .int .i64 k ∧ ∃ (p ll last : Nat), vl = .pointer (some ⟨p, 0, none⟩) ∧ vn = .int .i64 last ∧ ∃ K, K ≤ 10 * k ∧ ∃ (v : Value) (s : Dk), Once K s ll last ∧ Dsk w wr g v s ∧ LgAt wr p g ll ∧ w.heap.size ≤ p ∧ s.dead = false) (fun _ _ i _ => 31 - (intOf i).toNat)
  case atStart => exact ⟨0, Nat.zero_le _, Nat.zero_le _, rfl, p, 0, 0, rfl, rfl, 0, Nat.le_refl _, _, s0, hon, hd3, hl3, hp, hdd⟩
  case round =>
    clear hon hd3 hl3 hdd hp
    obtain ⟨k, hk1, hk, rfl, p, ll, last, rfl, rfl, K, hK, v, s, hon, hd, hl, hp, hdd⟩ := hrel
    by_cases hlt : k < zs1.length ∧ k < 30
    · obtain ⟨hlt1, hlt2⟩ := hlt
      have hA : ∃ ad, A1 = some ad := by
        cases A1 with
        | none => have := h01 rfl; omega
        | some ad => exact ⟨ad, rfl⟩
      obtain ⟨ad, rfl⟩ := hA
      have hcell : wr.cell? (ad.add k) = some (.int .i64 zs1[k]) := by
        have h1 := (hrd1 ad rfl).2 k (.int .i64 zs1[k]) (by simp [hlt1])
        rw [hd.chg.cell (by rw [block_of_add]; exact (hrd1 ad rfl).1 (by omega)) (by simp)]
        exact h1
      have HW := lwithin_any zs1[k] 9 wr (by omega) (by omega)
      have hq1 := Int.emod_nonneg zs1[k] (b := 9) (by omega)
      have hq2 := Int.emod_lt_of_pos zs1[k] (b := 9) (by omega)
      generalize zs1[k] % 9 = q9 at *
      go_wp2_with fail
      refine HW.mono ?_
      rintro e w4 ⟨rfl, rfl⟩
      go_wp2_with fail
      refine (dsk_stop hd (1 + q9) (by omega)).mono ?_
      rintro e w5 ⟨rfl, hd5, hc5⟩
      have hl5 := hl.apart hd.at_ hc5
      have hon5 := hon.stop (1 + q9)
      have hdd5 : (s.stop (1 + q9)).dead = false := hdd
      generalize s.stop (1 + q9) = s5 at *
      clear hd hl hon hcell HW hdd
      go_upto_block 2 with fail
      go_cut [9] (fun vn wx => ∃ last6 : Nat, vn = .int .i64 last6 ∧ ∃ K6, K6 ≤ 10 * (k + 1) ∧ ∃ (v6 : Value) (s6 : Dk) (ll6 : Nat), Once K6 s6 ll6 last6 ∧ Dsk w wx g v6 s6)
      case first =>
        go_wp2_with fail
        go_loopw [9, 11] (fun vn i wl => ∃ q : Nat, q ≤ 10 ∧ i = .int .i64 q ∧ ∃ (last ll K : Nat), vn = .int .i64 last ∧ K ≤ 10 * k + q ∧ ∃ (v : Value) (s : Dk), Once K s ll last ∧ Dsk w wl g v s ∧ LgAt wl p g ll) (fun _ i _ => 11 - (intOf i).toNat)
        case atStart => exact ⟨0, Nat.zero_le _, rfl, last, ll, K, rfl, hK, v, s5, hon5, hd5, hl5⟩
        case round =>
          clear hon5 hd5 hl5 hdd5 hc5 hK
          obtain ⟨q, hq, rfl, last, ll, K, rfl, hK, v, s, hon, hd, hl⟩ := hrel
          by_cases hq10 : q < 10
          · by_cases hdd : s.dead = true
            · have HD := fun w h => dead_any g v s w h
              rw [hdd] at HD
              have HD' := Lib.hid HD; clear HD hdd
              go_wp2_with fail
              refine (HD'.out _ hd.at_.1).mono ?_
              rintro e w6 ⟨rfl, rfl⟩
              go_wp2
              go_meet
              exact ⟨last, rfl, K, by omega, v, s, ll, hon, hd⟩
            · have hdf : s.dead = false := by simpa using hdd
              have HD := fun w h => dead_any g v s w h
              rw [hdf] at HD
              have HD' := Lib.hid HD; clear HD hdd
              have HN := dsk_next hd hl hp (by have := hon.ops; omega)
              have hle := hon.up
              have hne : ¬ ((ll : Int) + 1 ≤ (last : Int)) := by omega
              rcases hon.next hdf (by omega) with ⟨hn1, hn2, hn3⟩ | ⟨hn1, hn2, hn3⟩
              · rw [hn1, hn2] at HN
                generalize (nextD s ll).1 = s7 at *
                have HN' := Lib.hid HN; clear HN hn1 hn2 hdf
                go_wp2_with fail
                refine (HD'.out _ hd.at_.1).mono ?_
                rintro e w6 ⟨rfl, rfl⟩
                go_wp2_with fail
                refine HN'.out.mono ?_
                rintro e w6' ⟨v6, rfl, hd6, hl6⟩
                simp only [answer, if_pos rfl]
                go_wp2
                go_roundw
                case rel => exact ⟨q + 1, by omega, by go_num, ll + 1, ll + 1, K + 1, by go_num, by omega, v6, s7, hn3, hd6, hl6⟩
                case measure => simp [intOf]; omega
              · rw [hn1, hn2] at HN
                generalize (nextD s ll).1 = s7 at *
                have HN' := Lib.hid HN; clear HN hn1 hn2 hdf
                go_wp2_with fail
                refine (HD'.out _ hd.at_.1).mono ?_
                rintro e w6 ⟨rfl, rfl⟩
                go_wp2_with fail
                refine HN'.out.mono ?_
                rintro e w6' ⟨v6, rfl, hd6, hl6⟩
                simp only [answer]
                go_wp2
                go_roundw
                case rel => exact ⟨q + 1, by omega, by go_num, last, ll, K + 1, rfl, by omega, v6, s7, hn3, hd6, hl6⟩
                case measure => simp [intOf]; omega
          · go_wp2
            go_meet
            exact ⟨last, rfl, K, by omega, v, s, ll, hon, hd⟩
      case rest =>
        obtain ⟨last6, rfl, K6, hK6, v6, s6, ll6, hon6, hd6⟩ := hcut
        clear hon5 hd5 hl5 hdd5 hc5 hK
        by_cases hk2 : k < zs2.length
        · have hB : ∃ ad, A2 = some ad := by
            cases A2 with
            | none => have := h02 rfl; omega
            | some ad => exact ⟨ad, rfl⟩
          obtain ⟨ad2, rfl⟩ := hB
          have hcell : wc.cell? (ad2.add k) = some (.int .i64 zs2[k]) := by
            have h1 := (hrd2 ad2 rfl).2 k (.int .i64 zs2[k]) (by simp [hk2])
            rw [hd6.chg.cell (by rw [block_of_add]; exact (hrd2 ad2 rfl).1 (by omega)) (by simp)]
            exact h1
          generalize zs2[k] = z at *
          go_wp2_with fail
          refine (dsk_crash hd6 z).mono ?_
          rintro e w7 ⟨v7, rfl, hd7, hc7⟩
          obtain ⟨hon7, hdd7⟩ := hon6.crash z
          generalize s6.crash z = s7 at *
          go_wp2_with fail
          refine (dsk_open hd7 hdd7).mono ?_
          rintro e w8 ⟨p8, rfl, hd8, hl8, _, hp8, _⟩
          have hlast : (last6 : Int) ≤ (scan s7.b : Int) := by have := hon7.up; omega
          generalize scan s7.b = ll7 at *
          go_wp2_with fail
          refine (last_any p8 g ll7 _ hl8).mono ?_
          rintro e w9 ⟨rfl, rfl⟩
          go_wp2
          go_roundw
          case rel => exact ⟨k + 1, by omega, by omega, by go_num, p8, _, _, rfl, rfl, K6, by omega, v7, s7, hon7, hd8, hl8, hp8, hdd7⟩
          case measure => simp [intOf]; omega
        · go_wp2_with fail
          refine (dsk_crash hd6 0).mono ?_
          rintro e w7 ⟨v7, rfl, hd7, hc7⟩
          obtain ⟨hon7, hdd7⟩ := hon6.crash 0
          generalize s6.crash 0 = s7 at *
          go_wp2_with fail
          refine (dsk_open hd7 hdd7).mono ?_
          rintro e w8 ⟨p8, rfl, hd8, hl8, _, hp8, _⟩
          have hlast : (last6 : Int) ≤ (scan s7.b : Int) := by have := hon7.up; omega
          generalize scan s7.b = ll7 at *
          go_wp2_with fail
          refine (last_any p8 g ll7 _ hl8).mono ?_
          rintro e w9 ⟨rfl, rfl⟩
          go_wp2
          go_roundw
          case rel => exact ⟨k + 1, by omega, by omega, by go_num, p8, _, _, rfl, rfl, K6, by omega, v7, s7, hon7, hd8, hl8, hp8, hdd7⟩
          case measure => simp [intOf]; omega
    · go_wp2
      all_goals go_ret
      all_goals exact ⟨rfl, hd.chg⟩
end Go.Proofs.Ytfjeoggjnibamaa
