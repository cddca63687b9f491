/- DiskStops: the walk of the law. -/
import Derived.Test.YtfjeoggjnibamaaLawDiskStays
namespace Go.Proofs.Ytfjeoggjnibamaa
open Go.RowKit

/-- The disk behind k operations, that is to stop at the n-th. -/
structure Stp (n k : Nat) (s : Dk) : Prop where
  ok : s.ok
  room : s.room = 1000
  size : s.b.length ≤ k
  early : k < n → s.left = n - k ∧ s.dead = false ∧ s.ops = k
  late : n ≤ k → s.dead = true ∧ s.ops = n - 1

theorem Stp.sync {n k : Nat} {s : Dk} (h : Stp n k s) (hk : k < 20) (hn : n ≤ 15) : s.sync.2 = (if k + 1 < n then 0 else 17) ∧ Stp n (k + 1) s.sync.1 := by
  obtain ⟨ok, room, size, early, late⟩ := h
  obtain ⟨o1, o2, o3, o4, o5⟩ := ok
  rcases Nat.lt_or_ge k n with hlt | hge
  · obtain ⟨e1, e2, e3⟩ := early hlt
    by_cases h1 : k + 1 < n
    · have q1 : 0 < s.left := by omega
      have q2 : ¬ s.left = 1 := by omega
      have : s.sync = ({ s with left := s.left - 1, dead := false, ops := s.ops + 1, synced := s.b.length }, 0) := by simp [Dk.sync, e2, Dk.spend, q1, q2]
      rw [this]
      refine ⟨by simp [h1], ⟨⟨o1, o2, Nat.le_refl _, by simp; omega, by simp; omega⟩, room, by simp; omega, fun _ => ⟨by simp; omega, rfl, by simp; omega⟩, fun h => by omega⟩⟩
    · have q1 : s.left = 1 := by omega
      have : s.sync = ({ s with left := 0, dead := true }, 17) := by simp [Dk.sync, e2, Dk.spend, q1]
      rw [this]
      refine ⟨by simp [h1], ⟨⟨o1, o2, o3, by simp, o5⟩, room, by simp; omega, fun h => by omega, fun _ => ⟨rfl, by simp; omega⟩⟩⟩
  · obtain ⟨e1, e2⟩ := late hge
    have : s.sync = (s, 17) := by simp [Dk.sync, e1]
    rw [this]
    refine ⟨by simp; omega, ⟨⟨o1, o2, o3, o4, o5⟩, room, by simp; omega, fun h => by omega, fun _ => ⟨e1, e2⟩⟩⟩

theorem Stp.append {n k : Nat} {s : Dk} (h : Stp n k s) (hk : k < 20) (hn : n ≤ 15) {l : List UInt8} (hl : l.length = 1) : (s.append l).2 = (if k + 1 < n then 0 else 17) ∧ Stp n (k + 1) (s.append l).1 := by
  obtain ⟨ok, room, size, early, late⟩ := h
  obtain ⟨o1, o2, o3, o4, o5⟩ := ok
  have hr : ¬ s.room < s.b.length + l.length := by omega
  rcases Nat.lt_or_ge k n with hlt | hge
  · obtain ⟨e1, e2, e3⟩ := early hlt
    by_cases h1 : k + 1 < n
    · have q1 : 0 < s.left := by omega
      have q2 : ¬ s.left = 1 := by omega
      have : s.append l = ({ s with b := s.b ++ l, left := s.left - 1, dead := false, ops := s.ops + 1 }, 0) := by simp [Dk.append, e2, hr, Dk.spend, q1, q2]
      rw [this]
      refine ⟨by simp [h1], ⟨⟨o1, by simp; omega, by simp; omega, by simp; omega, by simp; omega⟩, room, by simp; omega, fun _ => ⟨by simp; omega, rfl, by simp; omega⟩, fun h => by omega⟩⟩
    · have q1 : s.left = 1 := by omega
      have : s.append l = ({ s with b := s.b ++ l, left := 0, dead := true }, 17) := by simp [Dk.append, e2, hr, Dk.spend, q1]
      rw [this]
      refine ⟨by simp [h1], ⟨⟨o1, by simp; omega, by simp; omega, by simp, o5⟩, room, by simp; omega, fun h => by omega, fun _ => ⟨rfl, by simp; omega⟩⟩⟩
  · obtain ⟨e1, e2⟩ := late hge
    have : s.append l = (s, 17) := by simp [Dk.append, e1]
    rw [this]
    refine ⟨by simp; omega, ⟨⟨o1, o2, o3, o4, o5⟩, room, by simp; omega, fun h => by omega, fun _ => ⟨e1, e2⟩⟩⟩

theorem one_byte (k : Nat) (h : k < 20) : #[Value.int .u8 ((k : Int) + 1)] = (bs [UInt8.ofNat (k + 1)]).toArray := by
  simp [bs, bv]
  omega

set_option maxHeartbeats 4000000 in
theorem diskStops_any (w : World) (n0 : Int) (_ : -9223372036854775808 ≤ n0) (_ : n0 ≤ 9223372036854775807) (vt : Value) (ts : List Bool) (ht : RdT w vt ts) (htl : ts.length ≤ maxLen) :
    Calls Try.prog 6 #[.int .i64 n0, vt] w fun e w' => e = .returned (.bool true) ∧ Chg [] w w' := by
  unfold maxLen at htl
  obtain ⟨hlen, A, c, rfl, hac, h0, hrd⟩ := ht
  have HW := fun w => within_any n0 15 w (by omega) (by omega)
  have hR1 := Int.emod_nonneg n0 (b := 15) (by omega)
  have hR2 := Int.emod_lt_of_pos n0 (b := 15) (by omega)
  obtain ⟨m, hm⟩ := Int.eq_ofNat_of_zero_le hR1
  rw [hm] at HW hR2
  clear hR1 hm
  have HWH := Lib.hid HW; clear HW
  go_enter Try.func6, Try.ntmps6
  go_wp2_with fail
  refine (known_any _).mono ?_
  rintro e w1 ⟨rfl, hc1⟩
  go_wp2_with fail
  refine (new_ok 1000 _ (by omega) (by omega)).mono ?_
  rintro e w2 ⟨g, rfl, hg, hd, hc2⟩
  have hw1 := hc1.size
  have hc12 := hc1.trans hc2 (by simp)
  go_wp2_with fail
  refine (HWH.out _).mono ?_
  rintro e w2' ⟨rfl, rfl⟩
  go_wp2_with fail
  refine (stop_any g _ _ _ _ hd).mono ?_
  rintro e w3 ⟨rfl, hd3, hc3⟩
  have hst0 : Stp (m + 1) 0 ((Dk.new (1000 : Int).toNat).stop (1 + (m : Int))) := by
    refine ⟨⟨by simp [Dk.stop, Dk.new], by simp [Dk.stop, Dk.new], by simp [Dk.stop, Dk.new], by simp [Dk.stop]; omega, by simp [Dk.stop, Dk.new]⟩, rfl, by simp [Dk.stop, Dk.new], fun _ => ⟨by simp [Dk.stop]; omega, rfl, rfl⟩, fun h => by omega⟩
  have hch3 : Chg [] w w3 := hc12.trans hc3 (by simp; omega)
  generalize (Dk.new (1000 : Int).toNat).stop (1 + (m : Int)) = s0 at *
  go_wp2_with fail
  go_loopw [7] (fun i wr => ∃ k : Nat, k ≤ 20 ∧ i = .int .i64 (k + 1) ∧ ∃ (v : Value) (s : Dk), Stp (m + 1) k s ∧ DkAt wr g v s ∧ Chg [] w wr ∧ (∀ k, v.ownBlock = some k → w.heap.size ≤ k)) (fun i _ => 21 - (intOf i).toNat)
  case atStart => exact ⟨0, Nat.zero_le _, rfl, _, s0, hst0, hd3, hch3, by simp [Value.ownBlock]⟩
  case round =>
    clear hst0 hd3 hch3
    obtain ⟨k, hk20, rfl, v, s, hst, hdk, hch, hvb⟩ := hrel
    have hgl := hdk.1.lt
    by_cases hlt : k < 20
    · by_cases hts : k + 1 < ts.length
      · have hA : ∃ ad, A = some ad := by
          cases A with
          | none => have := h0 rfl; omega
          | some ad => exact ⟨ad, rfl⟩
        obtain ⟨ad, rfl⟩ := hA
        have hcell : wr.cell? (ad.add (k + 1)) = some (.bool ts[k + 1]) := by
          have h1 := (hrd ad rfl).2 (k + 1) (.bool ts[k + 1]) (by simp [hts])
          rw [hch.cell (by rw [block_of_add]; exact (hrd ad rfl).1 (by omega)) (by simp)]
          exact h1
        rw [show ad.add (k + 1) = ⟨ad.block, ad.off + (k + 1), none⟩ from by simp [Addr.add]] at hcell
        generalize ts[k + 1] = b at *
        cases b
        · have hxx : True := trivial
          go_wp2_with fail
          refine (append_any g v _ [UInt8.ofNat (k + 1)] s _ (hdk.chg (F := []) ((Chg.refl [] _).alloc _) (by simp) (by simp)) hst.ok (RdB.mark wr 5 _ (0, 0) [UInt8.ofNat (k + 1)] 1 (by rw [one_byte k (by omega)]) rfl) (by simp [Value.ownBlock]; omega) (by simp)).mono ?_
          rintro e w5 ⟨v', rfl, hdk5, hc5, hv5⟩
          obtain ⟨he5, hst5⟩ := hst.append (l := [UInt8.ofNat (k + 1)]) (by omega) (by omega) rfl
          have hch5 : Chg [] w w5 := round_chg hch ((Chg.refl [] _).alloc _) hc5 (Chg.refl [] _) (by omega) hvb
          have hvb5 := round_own hvb hv5 (by have := hch.size; simp; omega)
          generalize (s.append [UInt8.ofNat (k + 1)]).2 = r at *
          generalize (s.append [UInt8.ofNat (k + 1)]).1 = s1 at *
          by_cases hcase : k + 1 < m + 1
          · rw [if_pos hcase] at he5
            subst he5
            have hb1 : (k : Int) + 1 < 1 + (m : Int) := by omega
            obtain ⟨q1, q2, q3⟩ := hst5.early hcase
            have HD := fun w h => dead_any g v' s1 w h
            have HO := fun w h => ops_any g v' s1 w h
            rw [q2] at HD
            rw [q3] at HO
            have HD' := Lib.hid HD; clear HD
            have HO' := Lib.hid HO; clear HO
            clear q1 q2 q3
            have hmin : (k : Int) + 1 ≤ 1 + (m : Int) - 1 := by omega
            go_wp2_with fail
            refine (HD'.out _ hdk5.1).mono ?_
            rintro e w6 ⟨rfl, rfl⟩
            go_wp2_with fail
            refine (HO'.out _ hdk5.1).mono ?_
            rintro e w6 ⟨rfl, rfl⟩
            go_wp2
            go_roundw
            case rel => exact ⟨k + 1, by omega, by go_num, _, _, hst5, hdk5, hch5, hvb5⟩
            case measure => simp [intOf]; omega
          · rw [if_neg hcase] at he5
            subst he5
            have hb1 : ¬ (k : Int) + 1 < 1 + (m : Int) := by omega
            obtain ⟨q1, q2⟩ := hst5.late (by omega)
            have HD := fun w h => dead_any g v' s1 w h
            have HO := fun w h => ops_any g v' s1 w h
            rw [q1] at HD
            rw [q2] at HO
            have HD' := Lib.hid HD; clear HD
            have HO' := Lib.hid HO; clear HO
            clear q1 q2
            have hmin : ¬ (k : Int) + 1 ≤ 1 + (m : Int) - 1 := by omega
            have hmm : ((m : Int) != 1 + (m : Int) - 1) = false := by rw [bne_eq_false_iff_eq]; omega
            go_wp2_with fail
            refine (HD'.out _ hdk5.1).mono ?_
            rintro e w6 ⟨rfl, rfl⟩
            go_wp2_with fail
            refine (HO'.out _ hdk5.1).mono ?_
            rintro e w6 ⟨rfl, rfl⟩
            go_wp2
            go_roundw
            case rel => exact ⟨k + 1, by omega, by go_num, _, _, hst5, hdk5, hch5, hvb5⟩
            case measure => simp [intOf]; omega
        · have hxx : True := trivial
          go_wp2_with fail
          refine (sync_any g v s _ hdk hst.ok).mono ?_
          rintro e w5 ⟨rfl, hdk5, hc5⟩
          obtain ⟨he5, hst5⟩ := hst.sync (by omega) (by omega)
          have hch5 : Chg [] w w5 := hch.trans hc5 (by simp; omega)
          generalize s.sync.2 = r at *
          generalize s.sync.1 = s1 at *
          by_cases hcase : k + 1 < m + 1
          · rw [if_pos hcase] at he5
            subst he5
            have hb1 : (k : Int) + 1 < 1 + (m : Int) := by omega
            obtain ⟨q1, q2, q3⟩ := hst5.early hcase
            have HD := fun w h => dead_any g v s1 w h
            have HO := fun w h => ops_any g v s1 w h
            rw [q2] at HD
            rw [q3] at HO
            have HD' := Lib.hid HD; clear HD
            have HO' := Lib.hid HO; clear HO
            clear q1 q2 q3
            have hmin : (k : Int) + 1 ≤ 1 + (m : Int) - 1 := by omega
            go_wp2_with fail
            refine (HD'.out _ hdk5.1).mono ?_
            rintro e w6 ⟨rfl, rfl⟩
            go_wp2_with fail
            refine (HO'.out _ hdk5.1).mono ?_
            rintro e w6 ⟨rfl, rfl⟩
            go_wp2
            go_roundw
            case rel => exact ⟨k + 1, by omega, by go_num, _, _, hst5, hdk5, hch5, hvb⟩
            case measure => simp [intOf]; omega
          · rw [if_neg hcase] at he5
            subst he5
            have hb1 : ¬ (k : Int) + 1 < 1 + (m : Int) := by omega
            obtain ⟨q1, q2⟩ := hst5.late (by omega)
            have HD := fun w h => dead_any g v s1 w h
            have HO := fun w h => ops_any g v s1 w h
            rw [q1] at HD
            rw [q2] at HO
            have HD' := Lib.hid HD; clear HD
            have HO' := Lib.hid HO; clear HO
            clear q1 q2
            have hmin : ¬ (k : Int) + 1 ≤ 1 + (m : Int) - 1 := by omega
            have hmm : ((m : Int) != 1 + (m : Int) - 1) = false := by rw [bne_eq_false_iff_eq]; omega
            go_wp2_with fail
            refine (HD'.out _ hdk5.1).mono ?_
            rintro e w6 ⟨rfl, rfl⟩
            go_wp2_with fail
            refine (HO'.out _ hdk5.1).mono ?_
            rintro e w6 ⟨rfl, rfl⟩
            go_wp2
            go_roundw
            case rel => exact ⟨k + 1, by omega, by go_num, _, _, hst5, hdk5, hch5, hvb⟩
            case measure => simp [intOf]; omega
      · have hxx : True := trivial
        go_wp2_with fail
        refine (append_any g v _ [UInt8.ofNat (k + 1)] s _ (hdk.chg (F := []) ((Chg.refl [] _).alloc _) (by simp) (by simp)) hst.ok (RdB.mark wr 5 _ (0, 0) [UInt8.ofNat (k + 1)] 1 (by rw [one_byte k (by omega)]) rfl) (by simp [Value.ownBlock]; omega) (by simp)).mono ?_
        rintro e w5 ⟨v', rfl, hdk5, hc5, hv5⟩
        obtain ⟨he5, hst5⟩ := hst.append (l := [UInt8.ofNat (k + 1)]) (by omega) (by omega) rfl
        have hch5 : Chg [] w w5 := round_chg hch ((Chg.refl [] _).alloc _) hc5 (Chg.refl [] _) (by omega) hvb
        have hvb5 := round_own hvb hv5 (by have := hch.size; simp; omega)
        generalize (s.append [UInt8.ofNat (k + 1)]).2 = r at *
        generalize (s.append [UInt8.ofNat (k + 1)]).1 = s1 at *
        by_cases hcase : k + 1 < m + 1
        · rw [if_pos hcase] at he5
          subst he5
          have hb1 : (k : Int) + 1 < 1 + (m : Int) := by omega
          obtain ⟨q1, q2, q3⟩ := hst5.early hcase
          have HD := fun w h => dead_any g v' s1 w h
          have HO := fun w h => ops_any g v' s1 w h
          rw [q2] at HD
          rw [q3] at HO
          have HD' := Lib.hid HD; clear HD
          have HO' := Lib.hid HO; clear HO
          clear q1 q2 q3
          have hmin : (k : Int) + 1 ≤ 1 + (m : Int) - 1 := by omega
          go_wp2_with fail
          refine (HD'.out _ hdk5.1).mono ?_
          rintro e w6 ⟨rfl, rfl⟩
          go_wp2_with fail
          refine (HO'.out _ hdk5.1).mono ?_
          rintro e w6 ⟨rfl, rfl⟩
          go_wp2
          go_roundw
          case rel => exact ⟨k + 1, by omega, by go_num, _, _, hst5, hdk5, hch5, hvb5⟩
          case measure => simp [intOf]; omega
        · rw [if_neg hcase] at he5
          subst he5
          have hb1 : ¬ (k : Int) + 1 < 1 + (m : Int) := by omega
          obtain ⟨q1, q2⟩ := hst5.late (by omega)
          have HD := fun w h => dead_any g v' s1 w h
          have HO := fun w h => ops_any g v' s1 w h
          rw [q1] at HD
          rw [q2] at HO
          have HD' := Lib.hid HD; clear HD
          have HO' := Lib.hid HO; clear HO
          clear q1 q2
          have hmin : ¬ (k : Int) + 1 ≤ 1 + (m : Int) - 1 := by omega
          have hmm : ((m : Int) != 1 + (m : Int) - 1) = false := by rw [bne_eq_false_iff_eq]; omega
          go_wp2_with fail
          refine (HD'.out _ hdk5.1).mono ?_
          rintro e w6 ⟨rfl, rfl⟩
          go_wp2_with fail
          refine (HO'.out _ hdk5.1).mono ?_
          rintro e w6 ⟨rfl, rfl⟩
          go_wp2
          go_roundw
          case rel => exact ⟨k + 1, by omega, by go_num, _, _, hst5, hdk5, hch5, hvb5⟩
          case measure => simp [intOf]; omega
    · have hk : k = 20 := by omega
      go_wp2_with fail
      refine (crash_any g v s 0 _ hdk hst.ok).mono ?_
      rintro e w5 ⟨v5, rfl, hdk5, hc5, hv5⟩
      have hok5 : (s.crash 0).ok ∧ (s.crash 0).dead = false ∧ (s.crash 0).left = 0 ∧ (s.crash 0).b.length ≤ 1000 ∧ (s.crash 0).room = 1000 ∧ (s.crash 0).ops ≤ 20 := by
        obtain ⟨o1, o2, o3, o4, o5⟩ := hst.ok
        have hroom := hst.room
        have hsz := hst.size
        have := pick_le s 0
        refine ⟨⟨o1, by simp [Dk.crash]; omega, by simp [Dk.crash]; omega, by simp [Dk.crash], o5⟩, rfl, rfl, by simp [Dk.crash]; omega, hroom, ?_⟩
        show s.ops ≤ 20
        rcases Nat.lt_or_ge k (m + 1) with h | h
        · have := (hst.early h).2.2; omega
        · have := (hst.late h).2; omega
      have hch5 : Chg [] w w5 := hch.trans hc5 (by simp; omega)
      have hvb5 : ∀ k, v5.ownBlock = some k → w.heap.size ≤ k := fun k hk => hvb k (by rw [← hv5]; exact hk)
      generalize s.crash 0 = s5 at *
      obtain ⟨k1, k2, k3, k4, k5, k6⟩ := hok5
      have HD := dead_any g v5 s5 w5 hdk5.1
      rw [k2] at HD
      have HD' := Lib.hid HD; clear HD
      have ha : s5.append [] = ({ s5 with ops := s5.ops + 1 }, 0) := by
        have : ¬ s5.room < s5.b.length := by omega
        simp [Dk.append, k2, this, Dk.spend, k3]
      have hs : Dk.sync { s5 with ops := s5.ops + 1 } = ({ s5 with ops := s5.ops + 2, synced := s5.b.length }, 0) := by simp [Dk.sync, k2, Dk.spend, k3]
      have HAp := append_any g v5 (.slice none 0 0) [] s5 w5 hdk5 k1 ⟨rfl, none, 0, rfl, Nat.le_refl _, fun _ => rfl, fun ad h => by cases h⟩ (by simp) (by simp)
      rw [ha] at HAp
      have HAp' := Lib.hid HAp; clear HAp
      have hok6 : Dk.ok { s5 with ops := s5.ops + 1 } := ⟨k1.1, k1.2.1, k1.2.2.1, k1.2.2.2.1, by simp; omega⟩
      clear k2 k3 ha
      go_wp2_with fail
      refine HD'.out.mono ?_
      rintro e w6 ⟨rfl, rfl⟩
      go_wp2_with fail
      refine HAp'.out.mono ?_
      rintro e w6 ⟨v6, rfl, hdk6, hc6, hv6⟩
      go_wp2_with fail
      refine (sync_any g v6 _ _ hdk6 hok6).mono ?_
      rw [hs]
      rintro e w7 ⟨rfl, hdk7, hc7⟩
      go_wp2
      go_ret
      exact ⟨rfl, (round_chg hch5 (Chg.refl [] _) hc6 (Chg.refl [] _) (by omega) hvb5).trans hc7 (by simp; omega)⟩
end Go.Proofs.Ytfjeoggjnibamaa
