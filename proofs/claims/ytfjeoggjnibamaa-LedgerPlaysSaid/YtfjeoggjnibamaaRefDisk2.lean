/- The document's own disk: Append and Crash. -/
import Derived.Test.YtfjeoggjnibamaaRefDisk
namespace Go.Proofs.Ytfjeoggjnibamaa
open Go.RowKit

theorem rappend_close {w w1 w3 w4 : World} {g : Nat} {A1 A2 : Option Addr} {c1 c2 : Nat} {v : Value} {s : Dk} {l : List UInt8} (hc1 : Chg [g] w w1) (hb1 : Blk w1 g 47 (s.spend.1.rcells v))
    (hc3 : Chg [] w1 w3) (hat3 : (Value.slice A1 s.b.length c1).ownBlock = some w1.heap.size ∨ (Value.slice A1 s.b.length c1).ownBlock = some (w1.heap.size + 1))
    (hc4 : Chg (Value.slice A1 s.b.length c1).ownBlock.toList w3 w4) (ho4 : w4.ownsRow 0 5 1 (.slice A2 (s.b.length + l.length) c2) (s.b.length + l.length) (bs s.b ++ bs l))
    (hat4 : (Value.slice A2 (s.b.length + l.length) c2).ownBlock = (Value.slice A1 s.b.length c1).ownBlock ∨ (Value.slice A2 (s.b.length + l.length) c2).ownBlock = some w3.heap.size) :
    RkAt (w4.setCell ⟨g, 2, none⟩ (.slice A2 (s.b.length + l.length) c2)) g (.slice A2 (s.b.length + l.length) c2) { s.spend.1 with b := s.b ++ l } ∧
      Chg [g] w (w4.setCell ⟨g, 2, none⟩ (.slice A2 (s.b.length + l.length) c2)) ∧ NewV w (.slice A2 (s.b.length + l.length) c2) ∧ Blk w4 g 47 (s.spend.1.rcells v) := by
  have hs1 := hc1.size
  have hs3 := hc3.size
  have hgl := hb1.lt
  have hb3 := hb1.chg hc3 (by simp)
  have hn1 : ∀ k, (Value.slice A1 s.b.length c1).ownBlock = some k → w1.heap.size ≤ k := by
    intro k hk
    rcases hat3 with h | h <;> rw [h] at hk <;> injection hk with hk <;> omega
  have hb4 := hb3.chg hc4 (by
    intro hm
    have := hn1 g (by simpa using hm)
    omega)
  have hnew : NewV w (.slice A2 (s.b.length + l.length) c2) := by
    intro k hk
    rcases hat4 with h | h
    · rw [h] at hk; have := hn1 k hk; omega
    · rw [h] at hk; injection hk with hk; omega
  refine ⟨⟨blk_eq (hb4.set_ 2 _) (by simp [Dk.rcells]), ?_⟩, ?_, hnew, hb4⟩
  · have h1 := own_chg (F := [g]) ho4 ((Chg.refl [g] w4).setCell (p := ⟨g, 2, none⟩) (.inl (by simp)) (.slice A2 (s.b.length + l.length) c2)) (fun k hk => by
      have := own_ne ho4 hb4 (by decide) k hk
      simpa using this)
    simpa [OwnB, bs_append] using h1
  · refine Chg.setCell ((hc1.trans hc3 ?_).trans hc4 ?_) (.inl (by simp)) _
    · simp
    · intro x hx; right; have := hn1 x (by simpa using hx); omega

set_option maxHeartbeats 800000 in
theorem rappend_any (g : Nat) (v vb : Value) (l : List UInt8) (s : Dk) (w : World) (h : RkAt w g v s) (hs : s.ok) (hr : RdB w vb l) (hg : 0 < l.length → ∀ k, vb.ownBlock = some k → k ≠ g) (hl : l.length ≤ 1000000000) :
    Calls Try.prog 19 #[.pointer (some ⟨g, 0, none⟩), vb] w fun e w' => ∃ v', e = .returned (.int .i64 (s.append l).2) ∧ RkAt w' g v' (s.append l).1 ∧ Chg [g] w w' ∧ (v' = v ∨ NewV w v') := by
  obtain ⟨hb, ho⟩ := h
  have hne : ∀ k, v.ownBlock = some k → k ∉ [g] := fun k hk => by have := own_ne ho hb (by decide) k hk; simpa using this
  obtain ⟨c0, c1, c2, c3, c4, c5, f1, f2, f3, f4, f5⟩ := rkCells hb
  obtain ⟨A, c, hv, hnc, hcm, _, _⟩ := own_form ho
  obtain ⟨hlen, B, cB, rfl, hnB, h0B, hrB⟩ := hr
  have hr : RdB w (.slice B l.length cB) l := ⟨hlen, B, cB, rfl, hnB, h0B, hrB⟩
  clear hlen hrB
  have hok := hs
  obtain ⟨q1, q2, q3, q4, q5⟩ := hok
  subst hv
  unfold maxLen at hcm
  by_cases hd : s.dead = true
  · rw [hd] at c5
    go_enter Try.func19, Try.ntmps19
    go_wp2
    go_ret
    exact ⟨_, ret_i64 (by simp [Dk.append, hd]), by simpa [Dk.append, hd] using ⟨hb, ho⟩, Chg.refl _ _, .inl rfl⟩
  · have hd' : s.dead = false := by simpa using hd
    rw [hd'] at c5
    by_cases hf : s.room < s.b.length + l.length
    · have hfin : s.append l = (s, 16) := by simp [Dk.append, hd', hf]
      have HF := Lib.hid hfin; clear hfin hd' hd
      have hf1 : (s.room : Int) < (s.b.length : Int) + (l.length : Int) := by omega
      go_enter Try.func19, Try.ntmps19
      go_wp2
      go_quiet (fail)
      go_wp2
      go_ret
      rw [HF.out]
      exact ⟨_, rfl, ⟨hb, ho⟩, (Chg.refl _ _).drewN _, .inl rfl⟩
    · have hf1 : ¬ (s.room : Int) < (s.b.length : Int) + (l.length : Int) := by omega
      have hsp := fun w1 h => goes_any g (.slice A s.b.length c) s w1 h hs hd'
      have HS := Lib.hid hsp; clear hsp
      have hfin : s.append l = ({ s.spend.1 with b := s.b ++ l }, if s.spend.2 = true then 0 else 17) := by simp [Dk.append, hd', hf]
      have HF := Lib.hid hfin; clear hfin hd' hd
      obtain ⟨i0, hi, hz0, hz1, hz2⟩ := info_parts byte_info
      go_enter Try.func19, Try.ntmps19
      go_wp2
      go_quiet (fail)
      go_wp2_with fail
      refine (HS.out _ (hb.drewN nq)).mono ?_
      rintro e w1 ⟨rfl, hb1, hc1⟩
      have hc1' : Chg [g] w w1 := ((Chg.refl [g] w).drewN nq).trans hc1 (by simp)
      have ho1 : w1.ownsRow 0 5 1 (.slice A s.b.length c) s.b.length (bs s.b) := own_chg ho hc1' hne
      have hr1 : RdB w1 (.slice B l.length cB) l := Rd.chg hr hc1' (fun hp k hk => by have := hg hp k hk; simpa using this)
      have hgl := hb1.lt
      have hgne : g ≠ w1.heap.size := by omega
      have hal : Chg [] w1 (w1.alloc (.cells #[] 5)) := (Chg.refl [] _).alloc _
      have hs2 : Rd (w1.alloc (.cells #[] 5)) 1 (.slice A s.b.length c) s.b.length (bs s.b) := (Rd.of_own ho1).chg hal (by simp)
      have hr2 : RdB (w1.alloc (.cells #[] 5)) (.slice B l.length cB) l := Rd.chg hr1 hal (by simp)
      have hoE : (w1.alloc (.cells #[] 5)).ownsRow 0 5 1 (.slice (some ⟨w1.heap.size, 0, none⟩) 0 0) 0 [] := World.ownsRow_lit w1 #[] 0 (Nat.zero_le _) (by unfold maxLen; omega) (by simp)
      have hb2 := hb1.chg hal (by simp)
      have hApart : 0 < l.length → ∀ k, (Value.slice B l.length cB).ownBlock = some k → k ∉ [w1.heap.size] := fun hp k hk => by
        obtain ⟨_, B', cB', he, _, _, hrr⟩ := hr1
        injection he with h1 h2 h3
        subst h1
        cases B with
        | none => simp [Value.ownBlock] at hk
        | some ad => simp [Value.ownBlock] at hk; subst hk; have := (hrr ad rfl).1 hp; simp; omega
      obtain ⟨d0, d1, d2, d3, d4, d5, e1, e2, e3, e4, e5⟩ := rkCells hb2
      clear d0 d1 d3 d4 d5 e1 e2 e3 e4 e5 hr c0 c1 c2 c3 c4 c5 f1 f2 f3 f4 f5
      go_wp2_with (first
        | (at_builtin; (with_reducible show wpList _ _ _ (⟨some 31, _, _, _, _, _⟩ :: _) _ _); refine wpList_append_rd rfl (.tmp 26) (.tmp 30) 30 rfl 5 i0 (.int .u8 0) 1 1 Try.underlying30 hi hz0 hz1 hz2 rfl (by omega) (.slice (some ⟨w1.heap.size, 0, none⟩) 0 0) 0 [] rfl hoE (.slice A s.b.length c) s.b.length (bs s.b) rfl hs2 (bs_one _) (by unfold maxLen; omega) (by omega) ?_; intro A1 c1 w3 hown3 hc3 hat3; simp only [Nat.zero_add, List.nil_append] at hown3 hat3; have hr3 := Rd.chg hr2 hc3 (by simpa [Value.ownBlock] using hApart))
        | (at_builtin; (with_reducible show wpList _ _ _ (⟨some 33, _, _, _, _, _⟩ :: _) _ _); refine wpList_append_rd rfl (.tmp 31) (.tmp 32) 30 rfl 5 i0 (.int .u8 0) 1 1 Try.underlying30 hi hz0 hz1 hz2 rfl (by omega) (.slice A1 s.b.length c1) s.b.length (bs s.b) rfl hown3 (.slice B l.length cB) l.length (bs l) rfl hr3 (bs_one _) (by unfold maxLen; omega) (by omega) ?_; intro A2 c2 w4 hown4 hc4 hat4; have hfin := rappend_close hc1' hb1 (hal.trans hc3 (by simp [Value.ownBlock])) (by simpa [Value.ownBlock] using hat3) hc4 hown4 (by simpa using hat4); have f5 := (rkCells hfin.2.2.2).f2; have c5 := (rkCells hfin.2.2.2).c2; clear hc3 hc4 hat3 hat4))
      all_goals go_ret
      all_goals rw [HF.out]
      all_goals exact ⟨ret_i64 (by have h := ‹(!s.spend.2) = _›; simp at h; simp [h]), .slice A2 (s.b.length + l.length) c2, hfin.1, hfin.2.1, .inr hfin.2.2.1⟩

set_option maxHeartbeats 800000 in
theorem rcrash_any (g : Nat) (v : Value) (s : Dk) (pick : Int) (w : World) (h : RkAt w g v s) (hs : s.ok) :
    Calls Try.prog 23 #[.pointer (some ⟨g, 0, none⟩), .int .i64 pick] w fun e w' => ∃ v', e = .returned (.int .i64 (s.pick pick)) ∧ RkAt w' g v' (s.crash pick) ∧ Chg [g] w w' ∧ v'.ownBlock = v.ownBlock := by
  obtain ⟨hb, ho⟩ := h
  have hne : ∀ k, v.ownBlock = some k → k ∉ [g] := fun k hk => by have := own_ne ho hb (by decide) k hk; simpa using this
  obtain ⟨c0, c1, c2, c3, c4, c5, f1, f2, f3, f4, f5⟩ := rkCells hb
  obtain ⟨A, c, hv, hnc, hcm, _, _⟩ := own_form ho
  obtain ⟨q1, q2, q3, q4, q5⟩ := hs
  subst hv
  unfold maxLen at hcm
  have hE2 := pick_le s pick
  have hend : ∀ n, RkAt (((((w.drewN n).setCell ⟨g, 2, none⟩ (.slice A (s.synced + s.pick pick) c)).setCell ⟨g, 1, none⟩ (.int .i64 ((s.synced : Int) + (s.pick pick : Nat)))).setCell ⟨g, 5, none⟩ (.bool false)).setCell ⟨g, 3, none⟩ (.int .i64 0)) g (.slice A (s.synced + s.pick pick) c) (s.crash pick) := by
    intro n
    refine ⟨blk_eq (((((hb.drewN n).set_ 2 _).set_ 1 _).set_ 5 _).set_ 3 _) (by simp [Dk.rcells, Dk.crash]), ?_⟩
    have hcut := own_cut ho (k := s.synced + s.pick pick) (by omega)
    have hl : (s.b.take (s.synced + s.pick pick)).length = s.synced + s.pick pick := by rw [List.length_take]; omega
    show World.ownsRow _ 0 5 1 _ (s.b.take (s.synced + s.pick pick)).length (bs (s.b.take (s.synced + s.pick pick)))
    rw [hl, bs_take]
    simp only [Nat.mul_one] at hcut
    refine own_chg (F := [g]) hcut ?_ (fun k hk => hne k (by cases A <;> first | exact hk | simp [Value.ownBlock] at hk))
    exact (((((Chg.refl [g] w).drewN n).setCell (.inl (by simp)) _).setCell (.inl (by simp)) _).setCell (.inl (by simp)) _).setCell (.inl (by simp)) _
  have hend2 : ∀ n, Chg [g] w (((((w.drewN n).setCell ⟨g, 2, none⟩ (.slice A (s.synced + s.pick pick) c)).setCell ⟨g, 1, none⟩ (.int .i64 ((s.synced : Int) + (s.pick pick : Nat)))).setCell ⟨g, 5, none⟩ (.bool false)).setCell ⟨g, 3, none⟩ (.int .i64 0)) :=
    fun n => (((((Chg.refl [g] w).drewN n).setCell (.inl (by simp)) _).setCell (.inl (by simp)) _).setCell (.inl (by simp)) _).setCell (.inl (by simp)) _
  have H1 := Lib.hid hend; clear hend
  have H2 := Lib.hid hend2; clear hend2
  have hN1 := Int.tmod_lt_of_pos pick (b := (s.b.length : Int) - (s.synced : Int) + 1) (by omega)
  have hN2 := Int.lt_tmod_of_pos pick (b := (s.b.length : Int) - (s.synced : Int) + 1) (by omega)
  by_cases hneg : pick.tmod ((s.b.length : Int) - (s.synced : Int) + 1) < 0
  · have hE := rpick_neg s pick q3 hneg
    go_enter Try.func23, Try.ntmps23
    go_wp2
    go_quiet (fail)
    go_wp2
    go_region
    go_wp2
    go_ret
    exact ⟨.slice A (s.synced + s.pick pick) c, rfl, H1.out _, H2.out _, by cases A <;> rfl⟩
  · have hE := rpick_pos s pick q3 hneg
    rw [hE] at hneg hN1 hN2
    go_enter Try.func23, Try.ntmps23
    go_wp2
    go_quiet (fail)
    go_wp2
    go_region
    go_wp2
    go_ret
    exact ⟨.slice A (s.synced + s.pick pick) c, rfl, H1.out _, H2.out _, by cases A <;> rfl⟩
end Go.Proofs.Ytfjeoggjnibamaa
