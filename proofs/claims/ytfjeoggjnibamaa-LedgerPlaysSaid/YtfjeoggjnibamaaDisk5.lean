/- The disk's own functions, each by its contract: part 5, Crash. -/
import Derived.Test.YtfjeoggjnibamaaDisk4
import Derived.IntWalk
namespace Go.Proofs.Ytfjeoggjnibamaa
open Go.RowKit

theorem pick_eq (s : Dk) (pick : Int) (h1 : s.b.length ≤ 16777216) (h2 : s.synced ≤ s.b.length) :
    (wrap64 (pick.tmod ((s.b.length : Int) - (s.synced : Int) + 1) + ((s.b.length : Int) - (s.synced : Int) + 1))).tmod ((s.b.length : Int) - (s.synced : Int) + 1) = ((s.pick pick : Nat) : Int) := by
  unfold Dk.pick
  have e : ((s.b.length - s.synced + 1 : Nat) : Int) = (s.b.length : Int) - (s.synced : Int) + 1 := by omega
  rw [e]
  generalize hN : (s.b.length : Int) - (s.synced : Int) + 1 = N
  have hN0 : 0 < N := by omega
  have hN1 : N ≤ 16777217 := by omega
  have hb1 := Int.tmod_lt_of_pos pick hN0
  have hb2 : -N < pick.tmod N := by have := Int.lt_tmod_of_pos pick hN0; omega
  have hw : wrap64 (pick.tmod N + N) = pick.tmod N + N := by unfold wrap64; omega
  rw [hw, Int.tmod_eq_emod_of_nonneg (by omega), Int.add_emod_right, Int.tmod_def, Int.sub_emod, Int.mul_emod_right]
  simp
  have := Int.emod_nonneg pick (b := N) (by omega)
  omega
theorem pick_le (s : Dk) (pick : Int) : s.pick pick ≤ s.b.length - s.synced := by
  unfold Dk.pick
  have := Int.emod_lt_of_pos pick (b := ((s.b.length - s.synced + 1 : Nat) : Int)) (by omega)
  omega

set_option maxHeartbeats 800000 in
theorem crash_any (g : Nat) (v : Value) (s : Dk) (pick : Int) (w : World) (h : DkAt w g v s) (hs : s.ok) :
    Calls Try.prog 17 #[.pointer (some ⟨g, 0, none⟩), .int .i64 pick] w fun e w' => ∃ v', e = .returned (.int .i64 (s.pick pick)) ∧ DkAt w' g v' (s.crash pick) ∧ Chg [g] w w' ∧ v'.ownBlock = v.ownBlock := by
  obtain ⟨hb, ho⟩ := h
  have hne : ∀ k, v.ownBlock = some k → k ∉ [g] := fun k hk => by have := own_ne ho hb (by decide) k hk; simpa using this
  obtain ⟨c0, c1, c2, c3, c4, c5, f1, f2, f3, f4, f5⟩ := dkCells hb
  obtain ⟨A, c, hv, hnc, hcm, _, _⟩ := own_form ho
  obtain ⟨q1, q2, q3, q4, q5⟩ := hs
  subst hv
  unfold maxLen at hcm
  have hE := pick_eq s pick (by omega) q3
  have hE2 := pick_le s pick
  go_enter Try.func17, Try.ntmps17
  go_wp2
  go_quiet (fail)
  go_wp2
  go_region
  go_wp2
  go_ret
  refine ⟨.slice A (s.synced + s.pick pick) c, rfl, ⟨blk_eq (((((hb.drewN (nq + 1)).set_ 1 _).set_ 2 _).set_ 4 _).set_ 3 _) (by simp [Dk.cells, Dk.crash]), ?_⟩, ?_, by cases A <;> rfl⟩
  · have hcut := own_cut ho (k := s.synced + s.pick pick) (by omega)
    have hl : (s.b.take (s.synced + s.pick pick)).length = s.synced + s.pick pick := by rw [List.length_take]; omega
    show World.ownsRow _ 0 5 1 _ (s.b.take (s.synced + s.pick pick)).length (bs (s.b.take (s.synced + s.pick pick)))
    rw [hl, bs_take]
    simp only [Nat.mul_one] at hcut
    refine own_chg (F := [g]) hcut ?_ (fun k hk => hne k (by cases A <;> first | exact hk | simp [Value.ownBlock] at hk))
    exact (((((Chg.refl [g] w).drewN (nq + 1)).setCell (.inl (by simp)) _).setCell (.inl (by simp)) _).setCell (.inl (by simp)) _).setCell (.inl (by simp)) _
  · exact (((((Chg.refl [g] w).drewN (nq + 1)).setCell (.inl (by simp)) _).setCell (.inl (by simp)) _).setCell (.inl (by simp)) _).setCell (.inl (by simp)) _
end Go.Proofs.Ytfjeoggjnibamaa
