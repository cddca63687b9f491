/- The disk's own functions, each by its contract: part 2. -/
import Derived.Test.YtfjeoggjnibamaaDisk1
import Derived.Test.YtfjeoggjnibamaaMem2
import Derived.WalkSpells
namespace Go.Proofs.Ytfjeoggjnibamaa
open Go.RowKit

theorem byte_info : (Try.prog.info? 5).map (fun i => (i.zero, i.size, i.bytes)) = some (some (.int .u8 0), 1, 1) := by kernel_rfl

/-- A slice value that is new: its block, if it has one, is not among the old ones. -/
def NewV (w : World) (v : Value) : Prop := ∀ k, v.ownBlock = some k → w.heap.size ≤ k

theorem nil_eql (w : World) (a : Option Addr) (n c : Nat) : (binOp .eql 30 (.slice a n c) (.slice none 0 0)).run Try.prog w = .ok (.bool a.isNone) w := Lib.run_eql_slice_nil w _ _ a n c 0 0 Try.underlying30

set_option maxHeartbeats 400000 in
theorem clone_any (v : Value) (l : List UInt8) (w : World) (h : RdB w v l) (hl : l.length ≤ 140737488355328) :
    Calls Try.prog 34 #[v] w fun e w' => ∃ v', e = .returned v' ∧ OwnB w' 5 v' l ∧ Chg [] w w' ∧ NewV w v' := by
  obtain ⟨i0, hi, hz0, hz1, hz2⟩ := info_parts byte_info
  have hr := h
  obtain ⟨hlen, A, c, rfl, hnc, h0, hrd⟩ := h
  have hq := nil_eql
  rcases A with _ | ad
  · have hc := h0 rfl
    subst hc
    have hl0 : l.length = 0 := by omega
    have hnil : l = [] := List.eq_nil_of_length_eq_zero hl0
    subst hnil
    clear hlen hrd hnc h0 hl hr
    go_enter Try.func34, Try.ntmps34
    go_wp2
    go_ret
    exact ⟨_, rfl, World.ownsRow_nil _ _ _ _, Chg.refl _ _, fun k hk => by simp [Value.ownBlock] at hk⟩
  · clear hlen hrd h0
    have hr1 : Rd (w.alloc (.cells #[] 5)) 1 (.slice (some ad) l.length c) l.length (bs l) := hr.chg ((Chg.refl [] w).alloc _) (by simp)
    have ho1 : (w.alloc (.cells #[] 5)).ownsRow 0 5 1 (.slice (some ⟨w.heap.size, 0, none⟩) 0 0) 0 [] := World.ownsRow_lit w #[] 0 (Nat.zero_le _) (by unfold maxLen; omega) (by simp)
    go_enter Try.func34, Try.ntmps34
    go_wp2_with (at_builtin; refine wpList_append_rd rfl (.tmp 5) (.tmp 6) 30 rfl 5 i0 _ 1 1 Try.underlying30 hi hz0 hz1 hz2 rfl (by omega) (.slice (some ⟨w.heap.size, 0, none⟩) 0 0) 0 [] rfl ho1 (.slice (some ad) l.length c) l.length (bs l) rfl hr1 (bs_one l) (by unfold maxLen; omega) (by omega) ?_; intro A' c' w1 hown hchg hat)
    go_ret
    refine ⟨.slice A' l.length c', rfl, by simpa [OwnB] using hown, ?_, ?_⟩
    · exact ((Chg.refl [] w).alloc _).trans hchg (by simp [Value.ownBlock])
    · intro k hk
      rw [Nat.zero_add, hk] at hat
      simp [Value.ownBlock] at hat
      omega

theorem bytes_any (g : Nat) (v : Value) (s : Dk) (w : World) (h : DkAt w g v s) (hs : s.ok) :
    Calls Try.prog 15 #[.pointer (some ⟨g, 0, none⟩)] w fun e w' => ∃ v', e = .returned v' ∧ OwnB w' 5 v' s.b ∧ Chg [] w w' ∧ NewV w v' := by
  have c1 := (dkCells h.1).c1
  have hr : RdB w v s.b := h.2.rd
  have hl : s.b.length ≤ 140737488355328 := by have := hs.1; have := hs.2.1; omega
  clear h hs
  go_enter Try.func15, Try.ntmps15
  go_wp2_with (go_at_call 34; refine (clone_any _ _ _ hr hl).mono ?_; rintro e w' ⟨v', rfl, h1, h2, h3⟩)
  go_ret
  exact ⟨v', rfl, h1, h2, h3⟩
end Go.Proofs.Ytfjeoggjnibamaa
