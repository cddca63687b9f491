/- The document's own disk, each of its functions by its contract. -/
import Derived.Test.YtfjeoggjnibamaaDisk6
namespace Go.Proofs.Ytfjeoggjnibamaa
open Go.RowKit

def Dk.rcells (s : Dk) (v : Value) : Array Value := #[.int .i64 s.room, .int .i64 s.synced, v, .int .i64 s.left, .int .i64 s.ops, .bool s.dead]
def RkAt (w : World) (g : Nat) (v : Value) (s : Dk) : Prop := Blk w g 47 (s.rcells v) ∧ OwnB w 5 v s.b

structure RkCells (w : World) (g : Nat) (v : Value) (s : Dk) : Prop where
  c0 : w.cell? ⟨g, 0, none⟩ = some (.int .i64 s.room)
  c1 : w.cell? ⟨g, 1, none⟩ = some (.int .i64 s.synced)
  c2 : w.cell? ⟨g, 2, none⟩ = some v
  c3 : w.cell? ⟨g, 3, none⟩ = some (.int .i64 s.left)
  c4 : w.cell? ⟨g, 4, none⟩ = some (.int .i64 s.ops)
  c5 : w.cell? ⟨g, 5, none⟩ = some (.bool s.dead)
  f1 : w.frozen? ⟨g, 1, none⟩ = false
  f2 : w.frozen? ⟨g, 2, none⟩ = false
  f3 : w.frozen? ⟨g, 3, none⟩ = false
  f4 : w.frozen? ⟨g, 4, none⟩ = false
  f5 : w.frozen? ⟨g, 5, none⟩ = false
theorem rkCells {w : World} {g : Nat} {v : Value} {s : Dk} (h : Blk w g 47 (s.rcells v)) : RkCells w g v s :=
  ⟨h.cell 0, h.cell 1, h.cell 2, h.cell 3, h.cell 4, h.cell 5, h.frozen 1, h.frozen 2, h.frozen 3, h.frozen 4, h.frozen 5⟩
theorem RkAt.chg {w w' : World} {F : List Nat} {g : Nat} {v : Value} {s : Dk} (h : RkAt w g v s) (hc : Chg F w w') (hg : g ∉ F) (hv : ∀ k, v.ownBlock = some k → k ∉ F) : RkAt w' g v s :=
  ⟨h.1.chg hc hg, own_chg h.2 hc hv⟩
theorem RkAt.block {w : World} {g : Nat} {v : Value} {s : Dk} (h : RkAt w g v s) : ∀ k, v.ownBlock = some k → k ≠ g ∧ k < w.heap.size :=
  fun k hk => ⟨own_ne h.2 h.1 (by decide) k hk, (h.2.lt k hk).2⟩

theorem rnew_bad (room : Int) (w : World) (h : room < 1 ∨ 16777216 < room) :
    Calls Try.prog 18 #[.int .i64 room] w fun e w' => e = .returned (.tuple #[.pointer none, .int .i64 1]) ∧ w = w' := by
  by_cases h1 : room < 1
  · clear h
    go_enter Try.func18, Try.ntmps18
    go_wp2
    go_ret2
    exact ⟨rfl, rfl⟩
  · have h2 : 16777216 < room := by omega
    clear h
    go_enter Try.func18, Try.ntmps18
    go_wp2
    go_ret2
    exact ⟨rfl, rfl⟩
theorem rnew_ok (room : Int) (w : World) (h1 : 1 ≤ room) (h2 : room ≤ 16777216) :
    Calls Try.prog 18 #[.int .i64 room] w fun e w' => ∃ g, e = .returned (.tuple #[.pointer (some ⟨g, 0, none⟩), .int .i64 0]) ∧ w.heap.size ≤ g ∧ RkAt w' g (.slice none 0 0) (Dk.new room.toNat) ∧ Chg [] w w' := by
  obtain ⟨n, rfl⟩ := Int.eq_ofNat_of_zero_le (show 0 ≤ room by omega)
  have h1' : ¬ (n : Int) < 1 := by omega
  have h2' : ¬ 16777216 < (n : Int) := by omega
  clear h1 h2
  go_enter Try.func18, Try.ntmps18
  go_wp2
  go_ret2
  exact ⟨_, rfl, Nat.le_refl _, ⟨Blk.new _ _ _, World.ownsRow_nil _ _ _ _⟩, (Chg.refl _ _).alloc _⟩

theorem rstop_any (g : Nat) (v : Value) (s : Dk) (n : Int) (w : World) (h : RkAt w g v s) :
    Calls Try.prog 22 #[.pointer (some ⟨g, 0, none⟩), .int .i64 n] w fun e w' => e = .returned (.tuple #[]) ∧ RkAt w' g v (s.stop n) ∧ Chg [g] w w' := by
  obtain ⟨hb, ho⟩ := h
  obtain ⟨c0, c1, c2, c3, c4, c5, f1, f2, f3, f4, f5⟩ := rkCells hb
  have hne := own_ne ho hb (by decide)
  by_cases hn : n ≤ 0
  · go_enter Try.func22, Try.ntmps22
    go_wp2
    all_goals go_end0
    all_goals refine ⟨rfl, ⟨blk_eq (hb.set_ 3 _) (by simp [Dk.rcells, Dk.stop]; omega), ?_⟩, (Chg.refl _ _).setCell (.inl (by simp)) _⟩
    all_goals exact own_chg ho ((Chg.refl [g] _).setCell (.inl (by simp)) _) (fun k hk => by have := hne k hk; simpa using this)
  · go_enter Try.func22, Try.ntmps22
    go_wp2
    all_goals go_end0
    all_goals refine ⟨rfl, ⟨blk_eq (hb.set_ 3 _) (by simp [Dk.rcells, Dk.stop]; omega), ?_⟩, (Chg.refl _ _).setCell (.inl (by simp)) _⟩
    all_goals exact own_chg ho ((Chg.refl [g] _).setCell (.inl (by simp)) _) (fun k hk => by have := hne k hk; simpa using this)

theorem goes_any (g : Nat) (v : Value) (s : Dk) (w : World) (h : Blk w g 47 (s.rcells v)) (hs : s.ok) (hd : s.dead = false) :
    Calls Try.prog 35 #[.pointer (some ⟨g, 0, none⟩)] w fun e w' =>
      e = .returned (.bool s.spend.2) ∧ Blk w' g 47 (s.spend.1.rcells v) ∧ Chg [g] w w' := by
  obtain ⟨room, b, synced, left, dead, ops⟩ := s
  obtain ⟨h1, h2, h3, h4, h5⟩ := hs
  simp only at h1 h2 h3 h4 h5 hd
  subst hd
  obtain ⟨c0, c1, c2, c3, c4, c5, f1, f2, f3, f4, f5⟩ := rkCells h
  have H := Lib.hid h; clear h
  simp only at c0 c1 c2 c3 c4 c5
  clear h1 h2 h3
  by_cases hl : 0 < left
  · by_cases hl1 : left = 1
    · subst hl1
      go_enter Try.func35, Try.ntmps35
      go_wp2
      go_ret
      refine ⟨ret_bool (by simp [Dk.spend]), blk_eq ((H.out.set_ 3 _).set_ 5 _) (by simp [Dk.rcells, Dk.spend]), ?_⟩
      exact ((Chg.refl _ _).setCell (.inl (by simp)) _).setCell (.inl (by simp)) _
    · have hd : ((left : Int) - 1 == 0) = false := by simp; omega
      go_enter Try.func35, Try.ntmps35
      go_wp2
      go_ret
      refine ⟨ret_bool (by simp [Dk.spend, hl, hl1]), blk_eq ((H.out.set_ 3 _).set_ 4 _) (by simp [Dk.rcells, Dk.spend, hl, hl1]; omega), ?_⟩
      exact ((Chg.refl _ _).setCell (.inl (by simp)) _).setCell (.inl (by simp)) _
  · go_enter Try.func35, Try.ntmps35
    go_wp2
    go_ret
    refine ⟨ret_bool (by simp [Dk.spend, hl]), blk_eq (H.out.set_ 4 _) (by simp [Dk.rcells, Dk.spend, hl]), ?_⟩
    exact (Chg.refl _ _).setCell (.inl (by simp)) _

theorem rsync_any (g : Nat) (v : Value) (s : Dk) (w : World) (h : RkAt w g v s) (hs : s.ok) :
    Calls Try.prog 20 #[.pointer (some ⟨g, 0, none⟩)] w fun e w' => e = .returned (.int .i64 s.sync.2) ∧ RkAt w' g v s.sync.1 ∧ Chg [g] w w' := by
  obtain ⟨hb, ho⟩ := h
  have hne : ∀ k, v.ownBlock = some k → k ∉ [g] := fun k hk => by have := own_ne ho hb (by decide) k hk; simpa using this
  obtain ⟨c0, c1, c2, c3, c4, c5, f1, f2, f3, f4, f5⟩ := rkCells hb
  obtain ⟨A, c, rfl, hnc, hcm, _, _⟩ := own_form ho
  by_cases hd : s.dead = true
  · rw [hd] at c5
    go_enter Try.func20, Try.ntmps20
    go_wp2
    go_ret
    exact ⟨ret_i64 (by simp [Dk.sync, hd]), by simpa [Dk.sync, hd] using ⟨hb, ho⟩, Chg.refl _ _⟩
  · have hd' : s.dead = false := by simpa using hd
    rw [hd'] at c5
    have hsp := goes_any g _ s w hb hs hd'
    by_cases hsp2 : s.spend.2 = true
    · rw [hsp2] at hsp
      have hfin : s.sync = ({ s.spend.1 with synced := s.b.length }, 0) := by simp [Dk.sync, hd', hsp2]
      clear hd'
      have HF := Lib.hid hfin; clear hfin
      go_enter Try.func20, Try.ntmps20
      go_wp2_with fail
      refine hsp.mono ?_
      rintro e w1 ⟨rfl, hb1, hc1⟩
      obtain ⟨d0, d1, d2, d3, d4, d5, e1, e2, e3, e4, e5⟩ := rkCells hb1
      go_wp2
      go_ret
      rw [HF.out]
      refine ⟨rfl, ⟨blk_eq (hb1.set_ 1 _) (by simp [Dk.rcells]), own_chg (w := w1) ?_ ((Chg.refl [g] _).setCell (.inl (by simp)) _) hne⟩, hc1.setCell (.inl (by simp)) _⟩
      simp only [spend_b]
      exact own_chg ho hc1 hne
    · have hsp3 : s.spend.2 = false := by simpa using hsp2
      rw [hsp3] at hsp
      have hfin : s.sync = (s.spend.1, 17) := by simp [Dk.sync, hd', hsp3]
      clear hd' hsp3
      have HF := Lib.hid hfin; clear hfin
      go_enter Try.func20, Try.ntmps20
      go_wp2_with fail
      refine hsp.mono ?_
      rintro e w1 ⟨rfl, hb1, hc1⟩
      go_wp2
      go_ret
      rw [HF.out]
      refine ⟨rfl, ⟨hb1, ?_⟩, hc1⟩
      simp only [spend_b, OwnB]
      exact own_chg ho hc1 hne

theorem rpick_neg (s : Dk) (pick : Int) (h2 : s.synced ≤ s.b.length) (h1 : pick.tmod ((s.b.length : Int) - (s.synced : Int) + 1) < 0) :
    pick.tmod ((s.b.length : Int) - (s.synced : Int) + 1) + ((s.b.length : Int) - (s.synced : Int)) + 1 = ((s.pick pick : Nat) : Int) := by
  unfold Dk.pick
  have e : ((s.b.length - s.synced + 1 : Nat) : Int) = (s.b.length : Int) - (s.synced : Int) + 1 := by omega
  rw [e]
  generalize hN : (s.b.length : Int) - (s.synced : Int) + 1 = N at *
  have h3 := Int.emod_nonneg pick (b := N) (by omega)
  have h4 : pick % N = pick.tmod N + N := by
    rw [Int.tmod_eq_emod] at h1 ⊢
    split at h1
    · omega
    · rw [if_neg ‹_›]; omega
  omega
theorem rpick_pos (s : Dk) (pick : Int) (h2 : s.synced ≤ s.b.length) (h1 : ¬ pick.tmod ((s.b.length : Int) - (s.synced : Int) + 1) < 0) :
    pick.tmod ((s.b.length : Int) - (s.synced : Int) + 1) = ((s.pick pick : Nat) : Int) := by
  unfold Dk.pick
  have e : ((s.b.length - s.synced + 1 : Nat) : Int) = (s.b.length : Int) - (s.synced : Int) + 1 := by omega
  rw [e]
  generalize hN : (s.b.length : Int) - (s.synced : Int) + 1 = N at *
  have h3 := Int.emod_nonneg pick (b := N) (by omega)
  have h4 := Int.emod_lt_of_pos pick (b := N) (by omega)
  have h5 : pick % N = pick.tmod N := by
    rw [Int.tmod_eq_emod] at h1 ⊢
    split at h1
    · rw [if_pos ‹_›]; omega
    · omega
  omega
end Go.Proofs.Ytfjeoggjnibamaa
