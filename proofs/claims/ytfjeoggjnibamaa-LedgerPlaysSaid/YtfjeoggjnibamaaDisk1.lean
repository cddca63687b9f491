/- The disk's own functions, each by its contract: part 1. -/
import Derived.Test.YtfjeoggjnibamaaRows
import Derived.Test.YtfjeoggjnibamaaMem
import Derived.WalkKit
import Derived.Lib.Hide
import Derived.BigQuiet
import Derived.Deep.QuietTactic
namespace Go.Proofs.Ytfjeoggjnibamaa
open Go.RowKit

/-- A disk's state, in plain numbers. -/
structure Dk where
  room : Nat
  b : List UInt8
  synced : Nat
  left : Nat
  dead : Bool
  ops : Nat

def Dk.cells (s : Dk) (v : Value) : Array Value := #[.int .i64 s.room, v, .int .i64 s.synced, .int .i64 s.left, .bool s.dead, .int .i64 s.ops]
def Dk.ok (s : Dk) : Prop := s.room ≤ 16777216 ∧ s.b.length ≤ s.room ∧ s.synced ≤ s.b.length ∧ s.left ≤ 9223372036854775807 ∧ s.ops ≤ 1000000000000

def DkAt (w : World) (g : Nat) (v : Value) (s : Dk) : Prop := Blk w g 70 (s.cells v) ∧ OwnB w 5 v s.b

/-- The disk's fields in the world w, for the walk. -/
structure DkCells (w : World) (g : Nat) (v : Value) (s : Dk) : Prop where
  c0 : w.cell? ⟨g, 0, none⟩ = some (.int .i64 s.room)
  c1 : w.cell? ⟨g, 1, none⟩ = some v
  c2 : w.cell? ⟨g, 2, none⟩ = some (.int .i64 s.synced)
  c3 : w.cell? ⟨g, 3, none⟩ = some (.int .i64 s.left)
  c4 : w.cell? ⟨g, 4, none⟩ = some (.bool s.dead)
  c5 : w.cell? ⟨g, 5, none⟩ = some (.int .i64 s.ops)
  f1 : w.frozen? ⟨g, 1, none⟩ = false
  f2 : w.frozen? ⟨g, 2, none⟩ = false
  f3 : w.frozen? ⟨g, 3, none⟩ = false
  f4 : w.frozen? ⟨g, 4, none⟩ = false
  f5 : w.frozen? ⟨g, 5, none⟩ = false
theorem dkCells {w : World} {g : Nat} {v : Value} {s : Dk} (h : Blk w g 70 (s.cells v)) : DkCells w g v s :=
  ⟨h.cell 0, h.cell 1, h.cell 2, h.cell 3, h.cell 4, h.cell 5, h.frozen 1, h.frozen 2, h.frozen 3, h.frozen 4, h.frozen 5⟩

def Dk.spend (s : Dk) : Dk × Bool :=
  if 0 < s.left then
    if s.left = 1 then ({ s with left := 0, dead := true }, false)
    else ({ s with left := s.left - 1, dead := false, ops := s.ops + 1 }, true)
  else if s.dead then (s, false) else ({ s with ops := s.ops + 1 }, true)

theorem ret_bool {a b : Bool} (h : a = b) : Ending.returned (.bool a) = .returned (.bool b) := by rw [h]
theorem ret_i64 {a b : Int} (h : a = b) : Ending.returned (.int .i64 a) = .returned (.int .i64 b) := by rw [h]
theorem blk_eq {w : World} {g : Nat} {t : TypeId} {a b : Array Value} (h : Blk w g t a) (e : a = b) : Blk w g t b := e ▸ h

set_option maxHeartbeats 400000 in
theorem spend_any (g : Nat) (v : Value) (s : Dk) (w : World) (h : Blk w g 70 (s.cells v)) (hs : s.ok) :
    Calls Try.prog 33 #[.pointer (some ⟨g, 0, none⟩)] w fun e w' =>
      e = .returned (.bool s.spend.2) ∧ Blk w' g 70 (s.spend.1.cells v) ∧ Chg [g] w w' := by
  obtain ⟨room, b, synced, left, dead, ops⟩ := s
  obtain ⟨h1, h2, h3, h4, h5⟩ := hs
  simp only at h1 h2 h3 h4 h5
  obtain ⟨c0, c1, c2, c3, c4, c5, f1, f2, f3, f4, f5⟩ := dkCells h
  have H := Lib.hid h; clear h
  simp only at c0 c1 c2 c3 c4 c5
  clear h1 h2 h3
  by_cases hl : 0 < left
  · by_cases hl1 : left = 1
    · subst hl1
      go_enter Try.func33, Try.ntmps33
      go_wp2
      go_ret
      refine ⟨ret_bool (by simp [Dk.spend]), blk_eq ((H.out.set_ 3 _).set_ 4 _) (by simp [Dk.cells, Dk.spend]), ?_⟩
      exact ((Chg.refl _ _).setCell (.inl (by simp)) _).setCell (.inl (by simp)) _
    · have hd : ((left : Int) - 1 == 0) = false := by simp; omega
      go_enter Try.func33, Try.ntmps33
      go_wp2
      go_ret
      refine ⟨ret_bool (by simp [Dk.spend, hl, hl1]), blk_eq (((H.out.set_ 3 _).set_ 4 _).set_ 5 _) (by simp [Dk.cells, Dk.spend, hl, hl1]; omega), ?_⟩
      exact (((Chg.refl _ _).setCell (.inl (by simp)) _).setCell (.inl (by simp)) _).setCell (.inl (by simp)) _
  · cases dead
    · go_enter Try.func33, Try.ntmps33
      go_wp2
      go_ret
      refine ⟨ret_bool (by simp [Dk.spend, hl]), blk_eq (H.out.set_ 5 _) (by simp [Dk.cells, Dk.spend, hl]), ?_⟩
      exact (Chg.refl _ _).setCell (.inl (by simp)) _
    · go_enter Try.func33, Try.ntmps33
      go_wp2
      go_ret
      exact ⟨ret_bool (by simp [Dk.spend, hl]), blk_eq H.out (by simp [Dk.spend, hl]), Chg.refl _ _⟩

theorem dead_any (g : Nat) (v : Value) (s : Dk) (w : World) (h : Blk w g 70 (s.cells v)) :
    Calls Try.prog 24 #[.pointer (some ⟨g, 0, none⟩)] w fun e w' => e = .returned (.bool s.dead) ∧ w = w' := by
  have h4 := (dkCells h).c4
  clear h
  go_enter Try.func24, Try.ntmps24
  go_wp2
  go_ret
  exact ⟨rfl, rfl⟩
theorem ops_any (g : Nat) (v : Value) (s : Dk) (w : World) (h : Blk w g 70 (s.cells v)) :
    Calls Try.prog 25 #[.pointer (some ⟨g, 0, none⟩)] w fun e w' => e = .returned (.int .i64 s.ops) ∧ w = w' := by
  have h4 := (dkCells h).c5
  clear h
  go_enter Try.func25, Try.ntmps25
  go_wp2
  go_ret
  exact ⟨rfl, rfl⟩
end Go.Proofs.Ytfjeoggjnibamaa
