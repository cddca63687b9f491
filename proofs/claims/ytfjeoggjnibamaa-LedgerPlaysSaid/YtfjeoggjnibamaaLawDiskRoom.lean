/- DiskRoom: the walk of the law. -/
import Derived.Test.YtfjeoggjnibamaaDisk6
import Derived.Test.YtfjeoggjnibamaaOpen
import Derived.LoopTactic
namespace Go.Proofs.Ytfjeoggjnibamaa
open Go.RowKit

theorem emod_neg {a n : Int} (hn : 0 < n) (h : a.tmod n < 0) : a % n = a.tmod n + n := by
  have h1 := Int.emod_nonneg a (b := n) (by omega)
  rw [Int.tmod_eq_emod] at h ⊢
  split at h
  · omega
  · rw [if_neg ‹_›]; omega
theorem emod_pos {a n : Int} (hn : 0 < n) (h : ¬ a.tmod n < 0) : a % n = a.tmod n := by
  have h1 := Int.emod_lt_of_pos a hn
  rw [Int.tmod_eq_emod] at h ⊢
  split at h
  · rw [if_pos ‹_›]; omega
  · omega

theorem within_any (a n : Int) (w : World) (hn : 0 < n) (hn' : n ≤ 1000000) :
    Calls Try.prog 12 #[.int .i64 a, .int .i64 n] w fun e w' => e = .returned (.int .i64 (a % n)) ∧ w = w' := by
  have hb1 := Int.tmod_lt_of_pos a hn
  have hb2 : -n < a.tmod n := by have := Int.lt_tmod_of_pos a hn; omega
  have hn0 : (n == 0) = false := by simp; omega
  by_cases h : a.tmod n < 0
  · have hE : a % n = a.tmod n + n := emod_neg hn h
    have HE := Lib.hid hE; clear hE
    go_enter Try.func12, Try.ntmps12
    go_wp2
    go_ret
    rw [HE.out]
    exact ⟨rfl, rfl⟩
  · have hE : a % n = a.tmod n := emod_pos hn h
    have HE := Lib.hid hE; clear hE
    go_enter Try.func12, Try.ntmps12
    go_wp2
    go_ret
    rw [HE.out]
    exact ⟨rfl, rfl⟩

theorem round_chg {w wr w4 w5 w6 : World} {g : Nat} {v : Value} (h : Chg [] w wr) (h4 : Chg [] wr w4) (h5 : Chg (g :: v.ownBlock.toList) w4 w5) (h6 : Chg [] w5 w6) (hg : w.heap.size ≤ g) (hv : ∀ k, v.ownBlock = some k → w.heap.size ≤ k) : Chg [] w w6 := by
  refine ((h.trans h4 (by simp)).trans h5 ?_).trans h6 (by simp)
  intro x hx
  rcases List.mem_cons.1 hx with rfl | hx
  · exact .inr hg
  · exact .inr (hv x (by simpa using hx))
theorem round_own {w w4 : World} {v v' : Value} (hv : ∀ k, v.ownBlock = some k → w.heap.size ≤ k) (h : v'.ownBlock = v.ownBlock ∨ NewV w4 v') (hs : w.heap.size ≤ w4.heap.size) : ∀ k, v'.ownBlock = some k → w.heap.size ≤ k := by
  intro k hk
  rcases h with h | h
  · exact hv k (by rw [← h]; exact hk)
  · have := h k hk; omega

set_option maxHeartbeats 1000000 in
theorem diskRoom_any (w : World) (room : Int) (_ : -9223372036854775808 ≤ room) (_ : room ≤ 9223372036854775807) (v : Value) (zs : List Int) (h : RdI w v zs) (hz : I64 zs) (hl : zs.length ≤ maxLen) :
    Calls Try.prog 3 #[.int .i64 room, v] w fun e w' => e = .returned (.bool true) ∧ Chg [] w w' := by
  unfold maxLen at hl
  obtain ⟨hlen, A, c, rfl, hnc, h0, hrd⟩ := h
  go_enter Try.func3, Try.ntmps3
  go_wp2_with fail
  refine (known_any _).mono ?_
  rintro e w1 ⟨rfl, hc1⟩
  go_wp2_with fail
  refine (within_any room 200 _ (by omega) (by omega)).mono ?_
  rintro e w1' ⟨rfl, rfl⟩
  have hR1 := Int.emod_nonneg room (b := 200) (by omega)
  have hR2 := Int.emod_lt_of_pos room (b := 200) (by omega)
  generalize room % 200 = R at *
  go_wp2_with fail
  refine (new_ok (1 + R) _ (by omega) (by omega)).mono ?_
  rintro e w2 ⟨g, rfl, hg, hd, hc2⟩
  go_wp2_with fail
  go_loopw [7, 8] (fun n i wr => ∃ k : Nat, k ≤ zs.length ∧ k ≤ 30 ∧ i = .int .i64 k ∧ ∃ (v : Value) (s : Dk), n = .int .i64 s.b.length ∧ s.ok ∧ (s.room : Int) = 1 + R ∧ s.left = 0 ∧ s.dead = false ∧ s.ops ≤ k ∧ DkAt wr g v s ∧ Chg [] w wr ∧ (∀ k, v.ownBlock = some k → w.heap.size ≤ k)) (fun _ i _ => 30 - (intOf i).toNat)
  case atStart => exact ⟨0, Nat.zero_le _, Nat.zero_le _, rfl, _, Dk.new (1 + R).toNat, rfl, Dk.new_ok _ (by omega), by simp [Dk.new]; omega, rfl, rfl, Nat.zero_le _, hd, hc1.trans hc2 (by simp), by simp [Value.ownBlock]⟩
  case round =>
    obtain ⟨k, hk, hk30, rfl, v, s, rfl, hok, hroom, hleft, hdead, hops, hdk, hch, hvb⟩ := hrel
    by_cases hlt : k < zs.length ∧ k < 30
    · obtain ⟨hlt1, hlt2⟩ := hlt
      have hA : ∃ ad, A = some ad := by
        cases A with
        | none => have := h0 rfl; omega
        | some ad => exact ⟨ad, rfl⟩
      obtain ⟨ad, rfl⟩ := hA
      have hcell : wr.cell? (ad.add k) = some (.int .i64 zs[k]) := by
        have h1 := (hrd ad rfl).2 k (.int .i64 zs[k]) (by simp [hlt1])
        rw [hch.cell (by rw [block_of_add]; exact (hrd ad rfl).1 (by omega)) (by simp)]
        exact h1
      have hzk := hz zs[k] (List.getElem_mem _)
      have hsz : (s.room : Int) = 1 + R := hroom
      have HR := Lib.hid hroom; clear hroom
      obtain ⟨i0, hi, hz0, hz1, hz2⟩ := info_parts byte_info
      have hq1 := Int.emod_nonneg zs[k] (b := 60) (by omega)
      have hq2 := Int.emod_lt_of_pos zs[k] (b := 60) (by omega)
      obtain ⟨q, hq⟩ := Int.eq_ofNat_of_zero_le hq1
      have HW := within_any zs[k] 60 wr (by omega) (by omega)
      rw [hq] at HW hq2
      clear hq hq1
      have HRoom := Lib.hid hsz; clear hsz
      go_wp2_with fail
      refine HW.mono ?_
      rintro e w3 ⟨rfl, rfl⟩
      have H1 := hok.1
      have H2 := hok.2.1
      go_wp2_with (at_make; refine wpList_make_rd rfl (.tmp 37) (.tmp 37) 30 rfl 5 i0 (.int .u8 0) Try.underlying30 hi hz0 hz1 rfl .i64 .i64 q q q rfl rfl rfl rfl (by rw [hz2]; omega) (by unfold maxLen; omega) ?_; intro w4 hown4 hc4)
      have hown : OwnB w4 5 (.slice (some ⟨wr.heap.size, 0, none⟩) q q) (List.replicate q 0) := by
        unfold OwnB
        rw [← zero_byte_row]
        simpa using hown4
      have hgl := hdk.1.lt
      have hdk4 := hdk.chg hc4 (by simp) (by simp)
      have hw1 := hc1.size
      by_cases hfull : s.room < s.b.length + q
      · have hap : s.append (List.replicate q 0) = (s, 16) := by simp [Dk.append, hdead, hfull]
        refine (append_any g v _ _ s _ hdk4 hok hown.rd (by simp [Value.ownBlock]; omega) (by simp; omega)).mono ?_
        rw [hap]
        rintro e w5 ⟨v', rfl, hdk5, hc5, hv5⟩
        have hle : ¬ (s.b.length : Int) + (q : Int) ≤ 1 + R := by have := HRoom.out; omega
        go_wp2_with fail
        refine (bytes_any g v' s _ hdk5 hok).mono ?_
        rintro e w6 ⟨v6, rfl, ho6, hc6, hn6⟩
        obtain ⟨A6, c6, rfl, _, _, _, _⟩ := own_form ho6
        have hfin := round_chg hch hc4 hc5 hc6 (by omega) hvb
        have hvb' := round_own hvb hv5 (show w.heap.size ≤ w4.heap.size by have := hch.size; have := hc4.size; omega)
        go_wp2
        go_roundw
        case rel => exact ⟨k + 1, by omega, by omega, by go_num, v', s, rfl, hok, HR.out, hleft, hdead, by omega, hdk5.chg hc6 (by simp) (by simp), hfin, hvb'⟩
        case measure => simp [intOf]; omega
      · have hap : s.append (List.replicate q 0) = ({ s with b := s.b ++ List.replicate q 0, ops := s.ops + 1 }, 0) := by simp [Dk.append, hdead, hfull, Dk.spend, hleft]
        refine (append_any g v _ _ s _ hdk4 hok hown.rd (by simp [Value.ownBlock]; omega) (by simp; omega)).mono ?_
        rw [hap]
        have hok' : Dk.ok { s with b := s.b ++ List.replicate q 0, ops := s.ops + 1 } := by
          obtain ⟨o1, o2, o3, o4, o5⟩ := hok
          exact ⟨o1, by simp; omega, by simp; omega, o4, by simp; omega⟩
        have hbl : (s.b ++ List.replicate q 0).length = s.b.length + q := by simp
        generalize hs' : ({ s with b := s.b ++ List.replicate q 0, ops := s.ops + 1 } : Dk) = s' at *
        have hb' : s'.b.length = s.b.length + q := by rw [← hs']; exact hbl
        rintro e w5 ⟨v', rfl, hdk5, hc5, hv5⟩
        have hle : (s.b.length : Int) + (q : Int) ≤ 1 + R := by have := HRoom.out; omega
        have HB := Lib.hid hb'; clear hb' hbl hap
        have HS' := Lib.hid hs'; clear hs'
        go_wp2_with fail
        refine (bytes_any g v' s' _ hdk5 hok').mono ?_
        rintro e w6 ⟨v6, rfl, ho6, hc6, hn6⟩
        obtain ⟨A6, c6, rfl, _, _, _, _⟩ := own_form ho6
        have hfin := round_chg hch hc4 hc5 hc6 (by omega) hvb
        have hvb' := round_own hvb hv5 (show w.heap.size ≤ w4.heap.size by have := hch.size; have := hc4.size; omega)
        rw [HB.out]
        go_wp2
        go_roundw
        case rel =>
          have e1 : s'.room = s.room := by rw [← HS'.out]
          have e2 : s'.left = s.left := by rw [← HS'.out]
          have e3 : s'.dead = s.dead := by rw [← HS'.out]
          have e4 : s'.ops = s.ops + 1 := by rw [← HS'.out]
          exact ⟨k + 1, by omega, by omega, by go_num, v', s', by rw [HB.out]; go_num, hok', by rw [e1]; exact HR.out, by rw [e2]; exact hleft, by rw [e3]; exact hdead, by omega, hdk5.chg hc6 (by simp) (by simp), hfin, hvb'⟩
        case measure => simp [intOf]; omega
    · by_cases hlt1 : k < zs.length
      · have hlt2 : ¬ k < 30 := by omega
        go_wp2
        go_ret
        exact ⟨rfl, hch⟩
      · go_wp2
        go_ret
        exact ⟨rfl, hch⟩
end Go.Proofs.Ytfjeoggjnibamaa
