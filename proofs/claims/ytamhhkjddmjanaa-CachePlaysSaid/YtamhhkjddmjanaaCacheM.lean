/- Caches: made of any room. -/
import Derived.Test.YtamhhkjddmjanaaCacheK
import Derived.Test.YtamhhkjddmjanaaCache8
import Derived.Test.YtamhhkjddmjanaaCacheL
import Derived.Test.YtamhhkjddmjanaaCacheF
namespace Go.Proofs.Ytamhhkjddmjanaa
open Go.RowKit
set_option linter.unusedVariables false
set_option linter.unusedSimpArgs false

theorem new_any (n : Int) (F : HP) : CallsS Try.prog 10 #[.int .i64 n] F [] (fun r Ps => ∃ p P1, r = .tuple #[p, .int .i64 (newE n)] ∧ Ps = [P1]) := by
  refine callsS_enter Try.func10 rfl Try.ntmps10 (by simp) (fun E => ?_)
  refine W_seq ?_
  refine W.pre (K' := [(0, _)]) (L' := [(0, _)]) ?_ ⟨rfl, trivial⟩ ⟨rfl, trivial⟩
  refine W_regL (WL_pure rfl rfl (by decide) (Pu_assign rfl rfl) (WL_pure rfl rfl (by decide) (Pu_assign rfl rfl) (WL_nil (X_then ?_))))
  refine W_seq ?_
  refine W_seq ?_
  refine W.pre (K' := [(0, _), (2, _), (3, _)]) (L' := [(0, _)]) ?_ ⟨rfl, ⟨rfl, ⟨rfl, trivial⟩⟩⟩ ⟨rfl, trivial⟩
  refine W_regL (WL_pure rfl rfl (by decide) (Pu_move rfl rfl) (WL_pure rfl rfl (by decide) (Pu_bin rfl rfl rfl (run_lss _ _ _ _ _ _)) (WL_pure rfl rfl (by decide) (Pu_move rfl rfl) (WL_guardP rfl rfl rfl rfl (by decide) (fun hb => (Pu_move rfl rfl)) (WL_guardP rfl rfl rfl rfl (by decide) (fun hb => (Pu_bin rfl (ev_gv rfl hb) rfl (run_gtr _ _ _ _ _ _))) (WL_pure rfl rfl (by decide) (Pu_or rfl rfl rfl) (WL_nil (X_then ?_))))))))
  refine W_cond rfl (fun hc9 => ?_) (fun hc9 => ?_)
  ·
    have hE : newE n = 1 := if_pos hc9
    refine W_seq ?_
    refine W.pre (K' := [(0, _), (2, _), (3, _), (9, _)]) (L' := [(0, _)]) ?_ ⟨rfl, ⟨rfl, ⟨rfl, ⟨rfl, trivial⟩⟩⟩⟩ ⟨rfl, trivial⟩
    refine W_regL (WL_pure rfl rfl (by decide) (Pu_assign rfl rfl) (WL_pure rfl rfl (by decide) (Pu_assign rfl rfl) (WL_nil (X_then ?_))))
    refine W_ret (X_then_ret ?_)
    refine X_nilRow 9900 5 1 ?_
    exact X_ret [9900] (Ps := [_]) (res2 Try.results10 rfl rfl) rfl (by decide) ⟨_, _, by rw [hE], rfl⟩
  ·
    have hE : newE n = 0 := if_neg (by rw [hc9]; decide)
    refine W_skip (X_then ?_)
    refine W_seq ?_
    refine W.pre (K' := [(0, _), (2, _), (3, _), (9, _)]) (L' := [(0, _)]) ?_ ⟨rfl, ⟨rfl, ⟨rfl, ⟨rfl, trivial⟩⟩⟩⟩ ⟨rfl, trivial⟩
    refine W_regL (WL_pure rfl rfl (by decide) (Pu_move rfl rfl) (WL_cons rfl rfl (by decide) (OpT_makeMap (r := 150) rfl (fun gm => ?_))))
    skip
    refine (WL_pure rfl rfl (by decide) (Pu_build (V := .agg #[.int .i64 n, .map (some gm), .slice none 0 0, .int .i64 0]) [(0, 1), (1, 1), (2, 1), (3, 1)] ([.int .i64 0, .map none, .slice none 0 0, .int .i64 0]) rfl rfl (by kernel_rfl) (by kernel_rfl) (.one rfl rfl (by simp []) rfl (.one rfl rfl (by simp []) rfl (.nil _))) rfl) (WL_cons rfl rfl (by decide) (OpT_box (r := 101) rfl rfl rfl (fun g101 => (WL_pure rfl rfl (by decide) (Pu_assign rfl rfl) (WL_pure rfl rfl (by decide) (Pu_assign rfl rfl) (WL_nil (X_then ?_))))))))
    refine W_ret ?_
    exact X_ret [101] (Ps := [_]) (res2 Try.results10 rfl rfl) rfl (by decide) ⟨_, _, by rw [hE], rfl⟩
theorem refNew_any (n : Int) (F : HP) : CallsS Try.prog 15 #[.int .i64 n] F [] (fun r Ps => ∃ p P1, r = .tuple #[p, .int .i64 (newE n)] ∧ Ps = [P1]) := by
  refine callsS_enter Try.func15 rfl Try.ntmps15 (by simp) (fun E => ?_)
  refine W_seq ?_
  refine W.pre (K' := [(0, _)]) (L' := [(0, _)]) ?_ ⟨rfl, trivial⟩ ⟨rfl, trivial⟩
  refine W_regL (WL_pure rfl rfl (by decide) (Pu_assign rfl rfl) (WL_pure rfl rfl (by decide) (Pu_assign rfl rfl) (WL_nil (X_then ?_))))
  refine W_seq ?_
  refine W_seq ?_
  refine W.pre (K' := [(0, _), (2, _), (3, _)]) (L' := [(0, _)]) ?_ ⟨rfl, ⟨rfl, ⟨rfl, trivial⟩⟩⟩ ⟨rfl, trivial⟩
  refine W_regL (WL_pure rfl rfl (by decide) (Pu_move rfl rfl) (WL_pure rfl rfl (by decide) (Pu_bin rfl rfl rfl (run_lss _ _ _ _ _ _)) (WL_pure rfl rfl (by decide) (Pu_move rfl rfl) (WL_guardP rfl rfl rfl rfl (by decide) (fun hb => (Pu_move rfl rfl)) (WL_guardP rfl rfl rfl rfl (by decide) (fun hb => (Pu_bin rfl (ev_gv rfl hb) rfl (run_gtr _ _ _ _ _ _))) (WL_pure rfl rfl (by decide) (Pu_or rfl rfl rfl) (WL_nil (X_then ?_))))))))
  refine W_cond rfl (fun hc9 => ?_) (fun hc9 => ?_)
  ·
    have hE : newE n = 1 := if_pos hc9
    refine W_seq ?_
    refine W.pre (K' := [(0, _), (2, _), (3, _), (9, _)]) (L' := [(0, _)]) ?_ ⟨rfl, ⟨rfl, ⟨rfl, ⟨rfl, trivial⟩⟩⟩⟩ ⟨rfl, trivial⟩
    refine W_regL (WL_pure rfl rfl (by decide) (Pu_assign rfl rfl) (WL_pure rfl rfl (by decide) (Pu_assign rfl rfl) (WL_nil (X_then ?_))))
    refine W_ret (X_then_ret ?_)
    refine X_nilRow 9900 5 1 ?_
    exact X_ret [9900] (Ps := [_]) (res2 Try.results15 rfl rfl) rfl (by decide) ⟨_, _, by rw [hE], rfl⟩
  ·
    have hE : newE n = 0 := if_neg (by rw [hc9]; decide)
    refine W_skip (X_then ?_)
    refine W_seq ?_
    refine W.pre (K' := [(0, _), (2, _), (3, _), (9, _)]) (L' := [(0, _)]) ?_ ⟨rfl, ⟨rfl, ⟨rfl, ⟨rfl, trivial⟩⟩⟩⟩ ⟨rfl, trivial⟩
    refine W_regL (WL_pure rfl rfl (by decide) (Pu_move rfl rfl) (WL_pure rfl rfl (by decide) (Pu_build (V := .agg #[.int .i64 n, .slice none 0 0]) [(0, 1), (1, 1)] ([.int .i64 0, .slice none 0 0]) rfl rfl (by kernel_rfl) (by kernel_rfl) (.one rfl rfl (by simp []) rfl (.nil _)) rfl) (WL_cons rfl rfl (by decide) (OpT_box (r := 101) rfl rfl rfl (fun g101 => (WL_pure rfl rfl (by decide) (Pu_assign rfl rfl) (WL_pure rfl rfl (by decide) (Pu_assign rfl rfl) (WL_nil (X_then ?_)))))))))
    refine W_ret ?_
    exact X_ret [101] (Ps := [_]) (res2 Try.results15 rfl rfl) rfl (by decide) ⟨_, _, by rw [hE], rfl⟩
end Go.Proofs.Ytamhhkjddmjanaa
