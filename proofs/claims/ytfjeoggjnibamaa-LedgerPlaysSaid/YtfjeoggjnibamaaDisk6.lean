/- The example of the disk's laws, by its contract. -/
import Derived.Test.YtfjeoggjnibamaaDisk5
import Derived.Test.YtfjeoggjnibamaaMem3
namespace Go.Proofs.Ytfjeoggjnibamaa
open Go.RowKit

theorem DkAt.chg {w w' : World} {F : List Nat} {g : Nat} {v : Value} {s : Dk} (h : DkAt w g v s) (hc : Chg F w w') (hg : g ∉ F) (hv : ∀ k, v.ownBlock = some k → k ∉ F) : DkAt w' g v s :=
  ⟨h.1.chg hc hg, own_chg h.2 hc hv⟩
theorem DkAt.block {w : World} {g : Nat} {v : Value} {s : Dk} (h : DkAt w g v s) : ∀ k, v.ownBlock = some k → k ≠ g ∧ k < w.heap.size :=
  fun k hk => ⟨own_ne h.2 h.1 (by decide) k hk, (h.2.lt k hk).2⟩
theorem Dk.new_ok (n : Nat) (h : n ≤ 16777216) : (Dk.new n).ok := ⟨h, by simp [Dk.new], by simp [Dk.new], by simp [Dk.new], by simp [Dk.new]⟩

set_option maxHeartbeats 800000 in
theorem known_any (w : World) :
    Calls Try.prog 11 #[] w fun e w' => e = .returned (.bool true) ∧ Chg [] w w' := by
  have kc := fun (w : World) (C : Array Value) (n c : Nat) => Lib.run_convert_bytes_const (P := Try.prog) w 30 5 C n c Try.underlying30 Try.underlying5
  go_enter Try.func11, Try.ntmps11
  go_wp2_with fail
  refine (new_ok 10 _ (by omega) (by omega)).mono ?_
  rintro e w1 ⟨g, rfl, hg, hd, hc1⟩
  have hgl := hd.1.lt
  go_wp2_with fail
  refine (append_any g _ _ [97, 98, 99] _ _ (hd.chg (F := []) ((Chg.refl [] _).alloc _) (by simp) (by simp)) (Dk.new_ok _ (by decide)) (RdB.mark w1 5 _ _ [97, 98, 99] 3 rfl rfl) (by simp [Value.ownBlock]; omega) (by decide)).mono ?_
  rintro e w2 ⟨v2, he2, hd2, hc2, hv2⟩
  replace he2 : e = .returned (.int .i64 0) := he2
  replace hd2 : DkAt w2 g v2 ⟨10, [97, 98, 99], 0, 0, false, 1⟩ := hd2
  subst he2
  go_wp2_with fail
  refine (crash_any g v2 _ 2 _ hd2 ⟨by decide, by decide, by decide, by decide, by decide⟩).mono ?_
  rintro e w3 ⟨v3, he3, hd3, hc3, hv3⟩
  replace he3 : e = .returned (.int .i64 2) := he3
  replace hd3 : DkAt w3 g v3 ⟨10, [97, 98], 2, 0, false, 1⟩ := hd3
  subst he3
  go_wp2_with fail
  refine (bytes_any g v3 _ _ hd3 ⟨by decide, by decide, by decide, by decide, by decide⟩).mono ?_
  rintro e w4 ⟨v4, rfl, ho4, hc4, hv4⟩
  have hs := conv_rd ho4.rd 30 5 Try.underlying30 Try.underlying5 9 Try.underlying9
  go_wp2
  go_ret
  refine ⟨ret_bool (by rw [strB_toList]; rfl), ?_⟩
  have h2 := (hc1.alloc (.cells (bs [97, 98, 99]).toArray 5 (3, 4))).trans hc2 (by simp [Value.ownBlock]; omega)
  exact (h2.trans hc3 (by simp; omega)).trans hc4 (by simp)
end Go.Proofs.Ytfjeoggjnibamaa
