/- Blocks: levels, within. -/
import Derived.Test.YtnhidehpacidnaaSl3
import Derived.Test.YtnhidehpacidnaaBlob0
import Derived.Test.YtnhidehpacidnaaProg
namespace Go.Proofs.Ytnhidehpacidnaa
open Go.RowKit
set_option linter.unusedVariables false

theorem levels_spec (size : Int) (F : HP) : CallsS Try.prog 32 #[.int .i64 size] F [] (fun v Ps => v = .int .i64 (lev size : Int) ∧ Ps = []) := by
  refine callsS_enter Try.func32 rfl Try.ntmps32 (by simp) (fun E => ?_)
  refine W_seq ?_
  refine W.pre (K' := [(0, _)]) (L' := [(0, _)]) ?_ ⟨rfl, trivial⟩ ⟨rfl, trivial⟩
  refine W_regL (WL_pure rfl rfl (by decide) (Pu_assign rfl rfl) (WL_nil (X_then ?_)))
  refine W_seq ?_
  refine W.pre (K' := [(0, _), (2, _)]) (L' := [(0, _)]) ?_ ⟨rfl, ⟨rfl, trivial⟩⟩ ⟨rfl, trivial⟩
  refine W_regL (WL_pure rfl rfl (by decide) (Pu_assign rfl rfl) (WL_nil (X_then ?_)))
  refine W_seq ?_
  refine W_seq ?_
  refine W.pre (K' := [(0, _), (2, _), (3, _)]) (L' := [(0, _)]) ?_ ⟨rfl, ⟨rfl, ⟨rfl, trivial⟩⟩⟩ ⟨rfl, trivial⟩
  refine W_regL (WL_pure rfl rfl (by decide) (Pu_assign rfl rfl) (WL_nil (X_then ?_)))
  refine W_block ?_
  refine W_loop (α := Nat) (fun n => [(0, .int .i64 size), (3, .int .i64 (n : Int)), (4, .int .i64 (all8 n))]) (fun n => [(0, F)]) (fun n => n ≤ 7 ∧ (n = 0 ∨ all8 (n - 1) < size)) (fun n => 7 - n) (0) ⟨by omega, .inl rfl⟩ ⟨rfl, ⟨rfl, ⟨rfl, trivial⟩⟩⟩ ⟨rfl, trivial⟩ (fun x hx => ?_)
  obtain ⟨h7, hlo⟩ := hx
  have hb := all8_le h7
  have h0 := all8_pos x
  refine W_seq ?_
  refine W_seq ?_
  refine W.pre (K' := [(0, _), (3, _), (4, _)]) (L' := [(0, _)]) ?_ ⟨rfl, ⟨rfl, ⟨rfl, trivial⟩⟩⟩ ⟨rfl, trivial⟩
  refine W_regL (WL_pure rfl rfl (by decide) (Pu_move rfl rfl) (WL_pure rfl rfl (by decide) (Pu_move rfl rfl) (WL_pure rfl rfl (by decide) (Pu_bin rfl rfl rfl (run_lss _ _ _ _ _ _)) (WL_pure rfl rfl (by decide) (Pu_move rfl rfl) (WL_guardP rfl rfl rfl rfl (by decide) (fun hb => (Pu_move rfl rfl)) (WL_guardP rfl rfl rfl rfl (by decide) (fun hb => (Pu_bin rfl (ev_gv rfl hb) rfl (run_lss _ _ _ _ _ _))) (WL_pure rfl rfl (by decide) (Pu_and rfl rfl rfl) (WL_nil (X_then ?_)))))))))
  refine W_cond rfl (fun hc11 => ?_) (fun hc11 => ?_)
  ·
    refine W_skip (X_then ?_)
    refine W_seq ?_
    refine W_block ?_
    refine W.pre (K' := [(0, _), (3, _), (4, _), (11, _)]) (L' := [(0, _)]) ?_ ⟨rfl, ⟨rfl, ⟨rfl, ⟨rfl, trivial⟩⟩⟩⟩ ⟨rfl, trivial⟩
    refine W_regL (WL_pure rfl rfl (by decide) (Pu_move rfl rfl) (WL_pure rfl rfl (by decide) (Pu_bin rfl rfl rfl (run_add _ _ _ _ _ (by omega))) (WL_pure rfl rfl (by decide) (Pu_assign rfl rfl) (WL_nil (X_block (X_then ?_))))))
    refine W.pre (K' := [(0, _), (3, _), (4, _), (11, _)]) (L' := [(0, _)]) ?_ ⟨rfl, ⟨rfl, ⟨rfl, ⟨rfl, trivial⟩⟩⟩⟩ ⟨rfl, trivial⟩
    refine W_regL (WL_pure rfl rfl (by decide) (Pu_move rfl rfl) (WL_pure rfl rfl (by decide) (Pu_bin rfl rfl rfl (run_mul _ _ _ _ _ (by omega))) (WL_pure rfl rfl (by decide) (Pu_assign rfl rfl) (WL_nil ?_))))
    rw [all8_succ]
    exact X_round (x + 1) ⟨by have h8 := of_and_r hc11; omega, .inr (by simpa using of_and_l hc11)⟩ (by have h8 := of_and_r hc11; omega) ⟨rfl, rfl, rfl, trivial⟩ ⟨rfl, trivial⟩
  ·
    refine W_exit (X_then_exit (X_then_exit (X_block_exit (X_then ?_))))
    refine W_seq ?_
    refine W.pre (K' := [(0, _), (3, _), (4, _), (11, _)]) (L' := [(0, _)]) ?_ ⟨rfl, ⟨rfl, ⟨rfl, ⟨rfl, trivial⟩⟩⟩⟩ ⟨rfl, trivial⟩
    refine W_regL (WL_pure rfl rfl (by decide) (Pu_move rfl rfl) (WL_pure rfl rfl (by decide) (Pu_assign rfl rfl) (WL_nil (X_then ?_))))
    refine W_ret ?_
    exact X_ret [] (Ps := []) (res1 Try.results32 rfl) rfl (by decide) ⟨by rw [lev_of h7 hlo hc11], rfl⟩
end Go.Proofs.Ytnhidehpacidnaa
