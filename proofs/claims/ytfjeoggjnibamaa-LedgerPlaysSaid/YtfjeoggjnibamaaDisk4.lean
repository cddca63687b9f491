/- The disk's own functions, each by its contract: part 4, Append and Crash. -/
import Derived.Test.YtfjeoggjnibamaaDisk3
namespace Go.Proofs.Ytfjeoggjnibamaa
open Go.RowKit

theorem spend_ok (s : Dk) : s.spend.1.room = s.room ∧ s.spend.1.synced = s.synced ∧ s.spend.1.left ≤ s.left := by
  unfold Dk.spend; (repeat' split) <;> simp

theorem zero_byte_row (n : Nat) : List.replicate n (Value.int .u8 0) = bs (List.replicate n 0) := by simp [bs, bv]

theorem more_rd {w : World} {e : TypeId} {v z : Value} {l : List UInt8} (h : w.ownsRow 0 e 1 v l.length ((bs l).take (min l.length l.length) ++ List.drop (min l.length l.length) (List.replicate l.length z))) : Rd w 1 v l.length (bs l) := by
  have := Rd.of_own h
  rw [Nat.min_self, List.take_of_length_le (by simp [bs_length])] at this
  simpa using this
theorem own_nin {w : World} {e : TypeId} {v : Value} {n : Nat} {xs : List Value} {g : Nat} {t : TypeId} {cs : Array Value} (h : w.ownsRow 0 e 1 v n xs) (hg : Blk w g t cs) (hne : e ≠ t := by decide) : g ∉ v.ownBlock.toList := by
  intro hm
  exact own_ne h hg hne g (by simpa using hm) rfl

theorem append_close {w w1 w3 w4 : World} {g : Nat} {A A' : Option Addr} {c c' : Nat} {s : Dk} {l : List UInt8} (hc1 : Chg [g] w w1) (hc13 : Chg [w1.heap.size] w1 w3) (hb3 : Blk w3 g 70 (s.spend.1.cells (.slice A s.b.length c)))
    (hc4 : Chg (Value.slice A s.b.length c).ownBlock.toList w3 w4) (ho3 : w3.ownsRow 0 5 1 (.slice A s.b.length c) s.b.length (bs s.b)) (ho4 : w4.ownsRow 0 5 1 (.slice A' (s.b.length + l.length) c') (s.b.length + l.length) (bs s.b ++ bs l))
    (hat : (Value.slice A' (s.b.length + l.length) c').ownBlock = (Value.slice A s.b.length c).ownBlock ∨ (Value.slice A' (s.b.length + l.length) c').ownBlock = some w3.heap.size) :
    DkAt (w4.setCell ⟨g, 1, none⟩ (.slice A' (s.b.length + l.length) c')) g (.slice A' (s.b.length + l.length) c') { s.spend.1 with b := s.b ++ l } ∧
      Chg (g :: (Value.slice A s.b.length c).ownBlock.toList) w (w4.setCell ⟨g, 1, none⟩ (.slice A' (s.b.length + l.length) c')) ∧
      ((Value.slice A' (s.b.length + l.length) c').ownBlock = (Value.slice A s.b.length c).ownBlock ∨ NewV w (.slice A' (s.b.length + l.length) c')) := by
  have hs1 := hc1.size
  have hs3 := hc13.size
  have hb4 := hb3.chg hc4 (own_nin ho3 hb3)
  refine ⟨⟨blk_eq (hb4.set_ 1 _) (by simp [Dk.cells]), ?_⟩, ?_, ?_⟩
  · have h1 := own_chg (F := [g]) ho4 ((Chg.refl [g] w4).setCell (p := ⟨g, 1, none⟩) (.inl (by simp)) (.slice A' (s.b.length + l.length) c')) (fun k hk => by
      have := own_ne ho4 hb4 (by decide) k hk
      simpa using this)
    simpa [OwnB, bs_append] using h1
  · refine Chg.setCell (((hc1.mono (by simp)).trans hc13 ?_).trans hc4 ?_) (.inl (by simp)) _
    · intro x hx; simp at hx; right; omega
    · intro x hx; left; simp [hx]
  · rcases hat with h | h
    · exact .inl h
    · right
      intro k hk
      rw [h] at hk
      injection hk with hk
      omega

set_option maxHeartbeats 800000 in
theorem append_any (g : Nat) (v vb : Value) (l : List UInt8) (s : Dk) (w : World) (h : DkAt w g v s) (hs : s.ok) (hr : RdB w vb l) (hg : 0 < l.length → ∀ k, vb.ownBlock = some k → k ≠ g) (hl : l.length ≤ 140737488355328) :
    Calls Try.prog 14 #[.pointer (some ⟨g, 0, none⟩), vb] w fun e w' => ∃ v', e = .returned (.int .i64 (s.append l).2) ∧ DkAt w' g v' (s.append l).1 ∧ Chg (g :: v.ownBlock.toList) w w' ∧ (v'.ownBlock = v.ownBlock ∨ NewV w v') := by
  obtain ⟨hb, ho⟩ := h
  have hne : ∀ k, v.ownBlock = some k → k ∉ [g] := fun k hk => by have := own_ne ho hb (by decide) k hk; simpa using this
  obtain ⟨c0, c1, c2, c3, c4, c5, f1, f2, f3, f4, f5⟩ := dkCells hb
  obtain ⟨A, c, hv, hnc, hcm, _, _⟩ := own_form ho
  obtain ⟨hlen, B, cB, rfl, hnB, h0B, hrB⟩ := hr
  have hr : RdB w (.slice B l.length cB) l := ⟨hlen, B, cB, rfl, hnB, h0B, hrB⟩
  clear hlen hrB
  have hok := hs
  obtain ⟨q1, q2, q3, q4, q5⟩ := hok
  subst hv
  unfold maxLen at hcm
  by_cases hd : s.dead = true
  · rw [hd] at c4
    go_enter Try.func14, Try.ntmps14
    go_wp2
    go_ret
    exact ⟨_, ret_i64 (by simp [Dk.append, hd]), by simpa [Dk.append, hd] using ⟨hb, ho⟩, Chg.refl _ _, .inl rfl⟩
  · have hd' : s.dead = false := by simpa using hd
    rw [hd'] at c4
    by_cases hf : s.room < s.b.length + l.length
    · have hfin : s.append l = (s, 16) := by simp [Dk.append, hd', hf]
      have HF := Lib.hid hfin; clear hfin hd' hd
      have hf1 : (s.room : Int) - (s.b.length : Int) < (l.length : Int) := by omega
      go_enter Try.func14, Try.ntmps14
      go_wp2
      go_quiet (fail)
      go_wp2
      go_ret
      rw [HF.out]
      exact ⟨_, rfl, ⟨hb, ho⟩, (Chg.refl _ _).drewN _, .inl rfl⟩
    · have hf1 : ¬ (s.room : Int) - (s.b.length : Int) < (l.length : Int) := by omega
      have hsp := fun w1 h => spend_any g (.slice A s.b.length c) s w1 h hs
      have HS := Lib.hid hsp; clear hsp
      have hfin : s.append l = ({ s.spend.1 with b := s.b ++ l }, if s.spend.2 = true then 0 else 17) := by simp [Dk.append, hd', hf]
      have HF := Lib.hid hfin; clear hfin hd' hd
      obtain ⟨i0, hi, hz0, hz1, hz2⟩ := info_parts byte_info
      go_enter Try.func14, Try.ntmps14
      go_wp2
      go_quiet (fail)
      go_wp2_with fail
      refine (HS.out _ (hb.drewN nq)).mono ?_
      rintro e w1 ⟨rfl, hb1, hc1⟩
      have hc1' : Chg [g] w w1 := ((Chg.refl [g] w).drewN nq).trans hc1 (by simp)
      have ho1 : w1.ownsRow 0 5 1 (.slice A s.b.length c) s.b.length (bs s.b) := own_chg ho hc1' hne
      have hr1 : RdB w1 (.slice B l.length cB) l := Rd.chg hr hc1' (fun hp k hk => by have := hg hp k hk; simpa using this)
      have hgl := hb1.lt
      obtain ⟨d0, d1, d2, d3, d4, d5, e1, e2, e3, e4, e5⟩ := dkCells hb1
      clear d0 d2 d3 d4 d5 e2 e3 e4 e5 hr c0 c1 c2 c3 c4 c5 f1 f2 f3 f4 f5
      have hnm : w1.heap.size ≠ g := by omega
      have hAlt : ∀ k, (Value.slice A s.b.length c).ownBlock = some k → k ∉ [w1.heap.size] := fun k hk => by
        have := (ho1.lt k hk).2; simp; omega
      go_wp2_with (first
        | (at_make; refine wpList_make_rd rfl (.tmp 29) (.tmp 29) 30 rfl 5 i0 (.int .u8 0) Try.underlying30 hi hz0 hz1 rfl .i64 .i64 l.length l.length l.length rfl rfl rfl rfl (by rw [hz2]; omega) (by unfold maxLen; omega) ?_; intro w2 hown2 hc2; have hr2 : RdB w2 (.slice B l.length cB) l := Rd.chg hr1 hc2 (by simp))
        | (at_builtin; refine wpList_append_rd rfl (.tmp 38) (.tmp 39) 30 rfl 5 i0 (.int .u8 0) 1 1 Try.underlying30 hi hz0 hz1 hz2 rfl (by omega) (.slice A s.b.length c) s.b.length (bs s.b) rfl ho3 (.slice (some ⟨w1.heap.size, 0, none⟩) l.length l.length) l.length (bs l) rfl hmore (bs_one l) (by unfold maxLen; omega) (by omega) ?_; intro A' c' w4 hown4 hc4 hat4; have hb4 := hb3.chg hc4 hgA; have c4 := (dkCells hb4).c1; have f4 := (dkCells hb4).f1)
        | ((with_reducible show wpList _ _ _ (⟨some 33, _, _, _, _, _⟩ :: _) _ _); go_loud (refine wpList_copy_rd rfl (.tmp 31) (.tmp 32) 30 30 rfl 5 Try.underlying30 (by kernel_rfl) (.slice (some ⟨w1.heap.size, 0, none⟩) l.length l.length) (.slice B l.length cB) rfl rfl l.length l.length _ (bs l) hown2 hr2 (bs_one l) ?_); intro w3 hown3 hc3; have hmore := more_rd hown3; have hc13 : Chg [w1.heap.size] w1 w3 := (hc2.mono (by simp)).trans hc3 (by simp [Value.ownBlock]); have hb3 := hb1.chg hc13 (by simp; omega); have ho3 := own_chg ho1 hc13 hAlt; have hgA := own_nin ho3 hb3; have c3 := (dkCells hb3).c1; have f3 := (dkCells hb3).f1; clear hown2 hown3 hr1 hr2))
      all_goals go_ret
      all_goals rw [HF.out]
      all_goals exact ⟨.slice A' (s.b.length + l.length) c', ret_i64 (by have h := ‹(!s.spend.2) = _›; simp at h; simp [h]), append_close hc1' hc13 hb3 hc4 ho3 hown4 hat4⟩
end Go.Proofs.Ytfjeoggjnibamaa
