/- The disk's own functions, each by its contract: part 3. -/
import Derived.Test.YtfjeoggjnibamaaDisk2
import Derived.Outline
import Derived.RegionTactic
namespace Go.Proofs.Ytfjeoggjnibamaa
open Go.RowKit

def Dk.new (room : Nat) : Dk := ⟨room, [], 0, 0, false, 0⟩
def Dk.append (s : Dk) (l : List UInt8) : Dk × Int :=
  if s.dead = true then (s, 17) else if s.room < s.b.length + l.length then (s, 16) else
  ({ s.spend.1 with b := s.b ++ l }, if s.spend.2 = true then 0 else 17)
def Dk.sync (s : Dk) : Dk × Int :=
  if s.dead = true then (s, 17) else if s.spend.2 = true then ({ s.spend.1 with synced := s.b.length }, 0) else (s.spend.1, 17)
def Dk.stop (s : Dk) (n : Int) : Dk := { s with left := n.toNat }
def Dk.pick (s : Dk) (pick : Int) : Nat := (pick % ((s.b.length - s.synced + 1 : Nat) : Int)).toNat
def Dk.crash (s : Dk) (pick : Int) : Dk := { s with b := s.b.take (s.synced + s.pick pick), synced := s.synced + s.pick pick, dead := false, left := 0 }

theorem new_bad (room : Int) (w : World) (h : room < 1 ∨ 16777216 < room) :
    Calls Try.prog 13 #[.int .i64 room] w fun e w' => e = .returned (.tuple #[.pointer none, .int .i64 1]) ∧ w = w' := by
  by_cases h1 : room < 1
  · clear h
    go_enter Try.func13, Try.ntmps13
    go_wp2
    go_ret2
    exact ⟨rfl, rfl⟩
  · have h2 : 16777216 < room := by omega
    clear h
    go_enter Try.func13, Try.ntmps13
    go_wp2
    go_ret2
    exact ⟨rfl, rfl⟩
theorem new_ok (room : Int) (w : World) (h1 : 1 ≤ room) (h2 : room ≤ 16777216) :
    Calls Try.prog 13 #[.int .i64 room] w fun e w' => ∃ g, e = .returned (.tuple #[.pointer (some ⟨g, 0, none⟩), .int .i64 0]) ∧ w.heap.size ≤ g ∧ DkAt w' g (.slice none 0 0) (Dk.new room.toNat) ∧ Chg [] w w' := by
  obtain ⟨n, rfl⟩ := Int.eq_ofNat_of_zero_le (show 0 ≤ room by omega)
  have h1' : ¬ (n : Int) < 1 := by omega
  have h2' : ¬ 16777216 < (n : Int) := by omega
  clear h1 h2
  go_enter Try.func13, Try.ntmps13
  go_wp2
  go_ret2
  exact ⟨_, rfl, Nat.le_refl _, ⟨Blk.new _ _ _, World.ownsRow_nil _ _ _ _⟩, (Chg.refl _ _).alloc _⟩

theorem stop_any (g : Nat) (v : Value) (s : Dk) (n : Int) (w : World) (h : DkAt w g v s) :
    Calls Try.prog 21 #[.pointer (some ⟨g, 0, none⟩), .int .i64 n] w fun e w' => e = .returned (.tuple #[]) ∧ DkAt w' g v (s.stop n) ∧ Chg [g] w w' := by
  obtain ⟨hb, ho⟩ := h
  obtain ⟨c0, c1, c2, c3, c4, c5, f1, f2, f3, f4, f5⟩ := dkCells hb
  have hne := own_ne ho hb (by decide)
  by_cases hn : n ≤ 0
  · go_enter Try.func21, Try.ntmps21
    go_wp2
    all_goals go_end0
    all_goals refine ⟨rfl, ⟨blk_eq (hb.set_ 3 _) (by simp [Dk.cells, Dk.stop]; omega), ?_⟩, (Chg.refl _ _).setCell (.inl (by simp)) _⟩
    all_goals exact own_chg ho ((Chg.refl [g] _).setCell (.inl (by simp)) _) (fun k hk => by have := hne k hk; simpa using this)
  · go_enter Try.func21, Try.ntmps21
    go_wp2
    all_goals go_end0
    all_goals refine ⟨rfl, ⟨blk_eq (hb.set_ 3 _) (by simp [Dk.cells, Dk.stop]; omega), ?_⟩, (Chg.refl _ _).setCell (.inl (by simp)) _⟩
    all_goals exact own_chg ho ((Chg.refl [g] _).setCell (.inl (by simp)) _) (fun k hk => by have := hne k hk; simpa using this)

theorem spend_b (s : Dk) : s.spend.1.b = s.b := by unfold Dk.spend; (repeat' split) <;> rfl
theorem spend_room (s : Dk) : s.spend.1.room = s.room := by unfold Dk.spend; (repeat' split) <;> rfl

theorem sync_any (g : Nat) (v : Value) (s : Dk) (w : World) (h : DkAt w g v s) (hs : s.ok) :
    Calls Try.prog 16 #[.pointer (some ⟨g, 0, none⟩)] w fun e w' => e = .returned (.int .i64 s.sync.2) ∧ DkAt w' g v s.sync.1 ∧ Chg [g] w w' := by
  obtain ⟨hb, ho⟩ := h
  have hne : ∀ k, v.ownBlock = some k → k ∉ [g] := fun k hk => by have := own_ne ho hb (by decide) k hk; simpa using this
  obtain ⟨c0, c1, c2, c3, c4, c5, f1, f2, f3, f4, f5⟩ := dkCells hb
  obtain ⟨A, c, rfl, hnc, hcm, _, _⟩ := own_form ho
  by_cases hd : s.dead = true
  · rw [hd] at c4
    go_enter Try.func16, Try.ntmps16
    go_wp2
    go_ret
    exact ⟨ret_i64 (by simp [Dk.sync, hd]), by simpa [Dk.sync, hd] using ⟨hb, ho⟩, Chg.refl _ _⟩
  · have hd' : s.dead = false := by simpa using hd
    rw [hd'] at c4
    have hsp := spend_any g _ s w hb hs
    by_cases hsp2 : s.spend.2 = true
    · rw [hsp2] at hsp
      have hfin : s.sync = ({ s.spend.1 with synced := s.b.length }, 0) := by simp [Dk.sync, hd', hsp2]
      clear hd'
      have HF := Lib.hid hfin; clear hfin
      go_enter Try.func16, Try.ntmps16
      go_wp2_with fail
      refine hsp.mono ?_
      rintro e w1 ⟨rfl, hb1, hc1⟩
      obtain ⟨d0, d1, d2, d3, d4, d5, e1, e2, e3, e4, e5⟩ := dkCells hb1
      go_wp2
      go_ret
      rw [HF.out]
      refine ⟨rfl, ⟨blk_eq (hb1.set_ 2 _) (by simp [Dk.cells]), own_chg (w := w1) ?_ ((Chg.refl [g] _).setCell (.inl (by simp)) _) hne⟩, hc1.setCell (.inl (by simp)) _⟩
      simp only [spend_b]
      exact own_chg ho hc1 hne
    · have hsp3 : s.spend.2 = false := by simpa using hsp2
      rw [hsp3] at hsp
      have hfin : s.sync = (s.spend.1, 17) := by simp [Dk.sync, hd', hsp3]
      clear hd' hsp3
      have HF := Lib.hid hfin; clear hfin
      go_enter Try.func16, Try.ntmps16
      go_wp2_with fail
      refine hsp.mono ?_
      rintro e w1 ⟨rfl, hb1, hc1⟩
      go_wp2
      go_ret
      rw [HF.out]
      refine ⟨rfl, ⟨hb1, ?_⟩, hc1⟩
      simp only [spend_b, OwnB]
      exact own_chg ho hc1 hne
end Go.Proofs.Ytfjeoggjnibamaa
