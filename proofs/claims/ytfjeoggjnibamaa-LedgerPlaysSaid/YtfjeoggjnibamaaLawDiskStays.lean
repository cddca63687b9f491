/- DiskStays: the walk of the law. -/
import Derived.Test.YtfjeoggjnibamaaLawDiskRoom
namespace Go.Proofs.Ytfjeoggjnibamaa
open Go.RowKit

theorem RdB.chg {w w' : World} {F : List Nat} {v : Value} {l : List UInt8} (h : RdB w v l) (hc : Chg F w w') (hv : 0 < l.length → ∀ k, v.ownBlock = some k → k ∉ F) : RdB w' v l := Rd.chg h hc hv
theorem RdB.old {w w' : World} {v : Value} {l : List UInt8} (h : RdB w v l) (hc : Chg [] w w') : RdB w' v l := Rd.old h hc
theorem RdB.form {w : World} {v : Value} {l : List UInt8} (h : RdB w v l) : ∃ A c, v = .slice A l.length c ∧ l.length ≤ c := by
  obtain ⟨_, A, c, rfl, hc, _⟩ := h
  exact ⟨A, c, rfl, hc⟩
theorem RdB.block {w : World} {v : Value} {l : List UInt8} (h : RdB w v l) (hl : 0 < l.length) : ∀ k, v.ownBlock = some k → k < w.heap.size := by
  intro k hk
  obtain ⟨_, A, c, rfl, hc, _, hr⟩ := h
  cases A with
  | none => simp [Value.ownBlock] at hk
  | some ad => simp [Value.ownBlock] at hk; subst hk; exact (hr ad rfl).1 hl

/-- The disk that holds a, synced, in front. -/
structure Stays (a : List UInt8) (k : Nat) (s : Dk) : Prop where
  ok : s.ok
  room : s.room = 100000
  left : s.left = 0
  dead : s.dead = false
  sync : a.length ≤ s.synced
  front : s.b.take a.length = a
  size : s.b.length ≤ 300 * (k + 1)
  ops : s.ops ≤ k + 2

theorem Stays.append {a : List UInt8} {k : Nat} {s : Dk} (h : Stays a k s) {l : List UInt8} (hl : l.length ≤ 300) (hk : k < 20) :
    ∃ s', s.append l = (s', 0) ∧ Stays a (k + 1) s' := by
  obtain ⟨ok, room, left, dead, sync, front, size, ops⟩ := h
  obtain ⟨o1, o2, o3, o4, o5⟩ := ok
  refine ⟨{ s with b := s.b ++ l, ops := s.ops + 1 }, ?_, ⟨⟨o1, by simp; omega, by simp; omega, o4, by simp; omega⟩, room, left, dead, sync, ?_, by simp; omega, by simp; omega⟩⟩
  · have : ¬ s.room < s.b.length + l.length := by omega
    simp [Dk.append, dead, this, Dk.spend, left]
  · show (s.b ++ l).take a.length = a
    rw [List.take_append_of_le_length (by omega), front]
theorem Stays.crash {a : List UInt8} {k : Nat} {s : Dk} (h : Stays a k s) (p : Int) : Stays a k (s.crash p) := by
  obtain ⟨ok, room, left, dead, sync, front, size, ops⟩ := h
  obtain ⟨o1, o2, o3, o4, o5⟩ := ok
  have := pick_le s p
  refine ⟨⟨o1, by simp [Dk.crash]; omega, by simp [Dk.crash]; omega, by simp [Dk.crash], o5⟩, room, rfl, rfl, by simp [Dk.crash]; omega, ?_, by simp [Dk.crash]; omega, ops⟩
  show (s.b.take (s.synced + s.pick p)).take a.length = a
  rw [List.take_take, Nat.min_eq_left (by omega), front]

/-- What the last test of a round asks. -/
theorem end_ok {w : World} {vb va : Value} {a : List UInt8} {k : Nat} {s : Dk} (hb : RdB w vb s.b) (ha : RdB w va a) (h : Stays a k s) :
    (∀ A c, vb = .slice A s.b.length c → ∀ n, (convert 30 9 (.slice A a.length c)).run Try.prog (w.drewN n) = .ok (.string (strB a)) (w.drewN n)) ∧
    (∀ n, (convert 30 9 va).run Try.prog (w.drewN n) = .ok (.string (strB a)) (w.drewN n)) ∧ decide ((s.b.length : Int) < (a.length : Int)) = false ∧ a.length ≤ s.b.length := by
  have hle : a.length ≤ s.b.length := by have := h.sync; have := h.ok.2.2.1; omega
  refine ⟨fun A c hv n => ?_, fun n => conv_rd (w := w.drewN n) ha 30 5 Try.underlying30 Try.underlying5 9 Try.underlying9, by simp; omega, hle⟩
  subst hv
  refine conv_rd (w := w.drewN n) ?_ 30 5 Try.underlying30 Try.underlying5 9 Try.underlying9
  obtain ⟨hl, A', c', hv, hn, h0, hr⟩ := hb
  injection hv with e1 e2 e3
  subst e1; subst e3
  refine ⟨by simp [bs_length], A, c, rfl, by omega, h0, fun ad had => ⟨fun hp => (hr ad had).1 (by omega), fun j u hu => (hr ad had).2 j u ?_⟩⟩
  rw [← h.front, bs_take] at hu
  rw [List.getElem?_take] at hu
  split at hu
  · exact hu
  · cases hu

theorem tmod_two (z : Int) : -2 < z.tmod 2 ∧ z.tmod 2 < 2 := ⟨by have := Int.lt_tmod_of_pos z (b := 2) (by omega); omega, Int.tmod_lt_of_pos z (by omega)⟩

set_option maxHeartbeats 4000000 in
theorem diskStays_any (w : World) (va : Value) (a : List UInt8) (ha : RdB w va a) (_ : a.length ≤ maxLen) (vr : Value) (ps : List (Value × List UInt8)) (hr : RdR w vr ps) (hrl : ps.length ≤ maxLen) (vp : Value) (zs : List Int) (hp : RdI w vp zs) (hz : I64 zs) (hzl : zs.length ≤ maxLen) :
    Calls Try.prog 4 #[va, vr, vp] w fun e w' => e = .returned (.bool true) ∧ Chg [] w w' := by
  unfold maxLen at hrl hzl
  have ha' := ha
  obtain ⟨A, c, rfl, hac⟩ := ha'.form
  clear ha'
  obtain ⟨⟨hlen, B, cB, rfl, hnB, h0B, hrB⟩, hrows⟩ := hr
  obtain ⟨hlenP, C, cC, rfl, hnC, h0C, hrC⟩ := hp
  by_cases hbig : 300 < a.length
  · go_enter Try.func4, Try.ntmps4
    go_wp2_with fail
    refine (known_any _).mono ?_
    rintro e w1 ⟨rfl, hc1⟩
    go_wp2
    go_ret
    exact ⟨rfl, hc1⟩
  · go_enter Try.func4, Try.ntmps4
    go_wp2_with fail
    refine (known_any _).mono ?_
    rintro e w1 ⟨rfl, hc1⟩
    go_wp2_with fail
    refine (new_ok 100000 _ (by omega) (by omega)).mono ?_
    rintro e w2 ⟨g, rfl, hg, hd, hc2⟩
    have hw1 := hc1.size
    have hc12 := hc1.trans hc2 (by simp)
    have hb2 := ha.old hc12
    have hblk := ha.block
    have hap : (Dk.new (100000 : Int).toNat).append a = (⟨100000, a, 0, 0, false, 1⟩, 0) := by
      have : ¬ 100000 < a.length := by omega
      simp [Dk.append, Dk.new, this, Dk.spend]
    have hok1 : Dk.ok ⟨100000, a, 0, 0, false, 1⟩ := ⟨by simp, by simp; omega, Nat.zero_le _, by simp, by simp⟩
    go_wp2_with fail
    refine (append_any g _ _ a _ _ hd (Dk.new_ok _ (by decide)) hb2 (fun hp k hk => by have := hblk hp k hk; omega) (by omega)).mono ?_
    rw [hap]
    rintro e w3 ⟨v3, rfl, hd3, hc3, hv3⟩
    clear hap
    go_wp2_with fail
    refine (sync_any g v3 _ _ hd3 hok1).mono ?_
    rw [show Dk.sync ⟨100000, a, 0, 0, false, 1⟩ = (⟨100000, a, a.length, 0, false, 2⟩, 0) from rfl]
    rintro e w4 ⟨rfl, hd4, hc4⟩
    have hst : Stays a 0 ⟨100000, a, a.length, 0, false, 2⟩ := ⟨⟨by simp, by simp; omega, Nat.le_refl _, by simp, by simp⟩, rfl, rfl, rfl, Nat.le_refl _, by simp, by simp; omega, by simp⟩
    have hch4 : Chg [] w w4 := (hc12.trans hc3 (by simp [Value.ownBlock]; omega)).trans hc4 (by simp; omega)
    have hvb4 : ∀ k, v3.ownBlock = some k → w.heap.size ≤ k := by
      intro k hk
      rcases hv3 with h | h
      · rw [h] at hk; simp [Value.ownBlock] at hk
      · have := h k hk; have := hc12.size; omega
    generalize hs0 : (⟨100000, a, a.length, 0, false, 2⟩ : Dk) = s0 at *
    clear hs0
    have HBig := Lib.hid hbig; clear hbig
    go_wp2_with fail
    go_loopw [9] (fun i wr => ∃ k : Nat, k ≤ ps.length ∧ k ≤ 20 ∧ i = .int .i64 k ∧ ∃ (v : Value) (s : Dk), Stays a k s ∧ DkAt wr g v s ∧ Chg [] w wr ∧ (∀ k, v.ownBlock = some k → w.heap.size ≤ k)) (fun i _ => 20 - (intOf i).toNat)
    case atStart => exact ⟨0, Nat.zero_le _, Nat.zero_le _, rfl, v3, s0, hst, hd4, hch4, hvb4⟩
    case round =>
      clear hst hd4 hch4 hvb4 hd3 hc3 hv3 hc4 hd
      obtain ⟨k, hk, hk20, rfl, v, s, hst, hdk, hch, hvb⟩ := hrel
      by_cases hlt : k < ps.length ∧ k < 20
      · obtain ⟨hlt1, hlt2⟩ := hlt
        have hB : ∃ ad, B = some ad := by
          cases B with
          | none => have := h0B rfl; omega
          | some ad => exact ⟨ad, rfl⟩
        obtain ⟨ad, rfl⟩ := hB
        have hrow := hrows ps[k] (List.getElem_mem _)
        have hcell : wr.cell? (ad.add k) = some ps[k].1 := by
          have h1 := (hrB ad rfl).2 k ps[k].1 (by simp [hlt1])
          rw [hch.cell (by rw [block_of_add]; exact (hrB ad rfl).1 (by omega)) (by simp)]
          exact h1
        generalize ps[k] = p at *
        obtain ⟨vv, l⟩ := p
        simp only at hrow hcell
        obtain ⟨A', c', hvv, hlc⟩ := hrow.form
        subst hvv
        by_cases hlong : 300 < l.length
        · go_wp2
          go_roundw
          case rel => exact ⟨k + 1, by omega, by omega, by go_num, v, s, ⟨hst.ok, hst.room, hst.left, hst.dead, hst.sync, hst.front, by have := hst.size; omega, by have := hst.ops; omega⟩, hdk, hch, hvb⟩
          case measure => simp [intOf]; omega
        · obtain ⟨s1, hap1, hst1⟩ := hst.append (l := l) (by omega) hlt2
          have hAp := append_any g v (.slice A' l.length c') l s wr hdk hst.ok (hrow.old hch) (fun hp k hk => by have := hrow.block hp k hk; omega) (by omega)
          rw [hap1] at hAp
          have HAP := Lib.hid hAp; clear hAp hap1
          go_wp2_with fail
          refine HAP.out.mono ?_
          rintro e w5 ⟨v', rfl, hdk5, hc5, hv5⟩
          have hch5 : Chg [] w w5 := round_chg hch (Chg.refl [] _) hc5 (Chg.refl [] _) (by omega) hvb
          have hvb5 := round_own hvb hv5 hch.size
          clear HAP
          have hsel : (∃ adP, C = some adP ∧ ∃ h : k < zs.length, w5.cell? (adP.add k) = some (.int .i64 zs[k])) ∨ ¬ k < zs.length := by
            by_cases hpk : k < zs.length
            · left
              cases C with
              | none => have := h0C rfl; omega
              | some adP =>
                refine ⟨adP, rfl, hpk, ?_⟩
                have h1 := (hrC adP rfl).2 k (.int .i64 zs[k]) (by simp [hpk])
                rw [hch5.cell (by rw [block_of_add]; exact (hrC adP rfl).1 (by omega)) (by simp)]
                exact h1
            · exact .inr hpk
          rcases hsel with ⟨adP, rfl, hpk, hcellP⟩ | hpk
          · have hzk := hz zs[k] (List.getElem_mem _)
            generalize zs[k] = z at *
            have ht2 := tmod_two z
            by_cases ht : z.tmod 2 = 1
            · have hb1 : (z.tmod 2 == 1) = true := by simp [ht]
              clear ht
              go_wp2_with fail
              refine (crash_any g v' s1 _ _ hdk5 hst1.ok).mono ?_
              rintro e w5' ⟨v'', rfl, hdk5', hc5', hv5'⟩
              have hst2 := hst1.crash (z.tdiv 2)
              have hch2 := round_chg (g := g) (v := v') hch5 (Chg.refl [] _) (hc5'.mono (fun x hx => .inl (by simp at hx; simp [hx]))) (Chg.refl [] _) (by omega) hvb5
              have hvb2 : ∀ k, v''.ownBlock = some k → w.heap.size ≤ k := fun k hk => hvb5 k (by rw [← hv5']; exact hk)
              generalize s1.crash (z.tdiv 2) = s2 at *
              clear hdk5 hc5 hv5 hcellP hv5' hc5'
              go_wp2_with fail
              refine (bytes_any g v'' s2 _ hdk5' hst2.ok).mono ?_
              rintro e w6 ⟨v6, rfl, ho6, hc6, hn6⟩
              have hch6 : Chg [] w w6 := hch2.trans hc6 (by simp)
              obtain ⟨hf1, hf2, hf3, hf4⟩ := end_ok ho6.rd (ha.old hch6) hst2
              obtain ⟨A6, c6, rfl, hl6, _, _, _⟩ := own_form ho6
              have hf1' := hf1 _ _ rfl
              have hq2 : (a.length : Int) ≤ (c6 : Int) := by omega
              clear hf1 ho6 hn6
              go_wp2
              go_quiet (fail)
              go_wp2
              go_roundw
              case rel => exact ⟨k + 1, by omega, by omega, by go_num, _, _, hst2, hdk5'.chg (hc6.drewN _) (by simp) (by simp), hch6.drewN _, hvb2⟩
              case measure => simp [intOf]; omega
            · have hb1 : (z.tmod 2 == 1) = false := by simp [ht]
              clear ht
              go_wp2_with fail
              refine (bytes_any g v' s1 _ hdk5 hst1.ok).mono ?_
              rintro e w6 ⟨v6, rfl, ho6, hc6, hn6⟩
              have hch6 : Chg [] w w6 := hch5.trans hc6 (by simp)
              obtain ⟨hf1, hf2, hf3, hf4⟩ := end_ok ho6.rd (ha.old hch6) hst1
              obtain ⟨A6, c6, rfl, hl6, _, _, _⟩ := own_form ho6
              have hf1' := hf1 _ _ rfl
              have hq2 : (a.length : Int) ≤ (c6 : Int) := by omega
              clear hf1 ho6 hn6
              go_wp2
              go_quiet (fail)
              go_wp2
              go_roundw
              case rel => exact ⟨k + 1, by omega, by omega, by go_num, _, _, hst1, hdk5.chg (hc6.drewN _) (by simp) (by simp), hch6.drewN _, hvb5⟩
              case measure => simp [intOf]; omega
          · go_wp2_with fail
            refine (bytes_any g v' s1 _ hdk5 hst1.ok).mono ?_
            rintro e w6 ⟨v6, rfl, ho6, hc6, hn6⟩
            have hch6 : Chg [] w w6 := hch5.trans hc6 (by simp)
            obtain ⟨hf1, hf2, hf3, hf4⟩ := end_ok ho6.rd (ha.old hch6) hst1
            obtain ⟨A6, c6, rfl, hl6, _, _, _⟩ := own_form ho6
            have hf1' := hf1 _ _ rfl
            have hq2 : (a.length : Int) ≤ (c6 : Int) := by omega
            clear hf1 ho6 hn6
            go_wp2
            go_quiet (fail)
            go_wp2
            go_roundw
            case rel => exact ⟨k + 1, by omega, by omega, by go_num, _, _, hst1, hdk5.chg (hc6.drewN _) (by simp) (by simp), hch6.drewN _, hvb5⟩
            case measure => simp [intOf]; omega
      · by_cases hlt1 : k < ps.length
        · have hlt2 : ¬ k < 20 := by omega
          go_wp2
          go_ret
          exact ⟨rfl, hch⟩
        · go_wp2
          go_ret
          exact ⟨rfl, hch⟩
end Go.Proofs.Ytfjeoggjnibamaa
