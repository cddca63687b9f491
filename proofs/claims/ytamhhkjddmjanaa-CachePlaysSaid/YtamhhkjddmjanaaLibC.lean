/- Go's own slices, of bytes. -/
import Derived.Test.YtamhhkjddmjanaaSl8
import Derived.Test.YtamhhkjddmjanaaCat
import Derived.Test.YtamhhkjddmjanaaTi
import Derived.Test.YtamhhkjddmjanaaProg
namespace Go.Proofs.Ytamhhkjddmjanaa
open Go.RowKit
set_option linter.unusedVariables false

theorem clone_spec (v : Value) (l : List UInt8) (hl : l.length ≤ 4000000000) (F : HP) (hF : ∀ h, F h → rdB v l h) : CallsS Try.prog 21 #[v] F [] (fun r Ps => r.oneCell' = true ∧ Ps = [rowB 5 r l]) := by
  refine callsS_enter Try.func21 rfl Try.ntmps21 (by simp) (fun E => ?_)
  refine W_seq ?_
  refine W.pre (K' := [(0, _)]) (L' := [(0, _)]) ?_ ⟨rfl, trivial⟩ ⟨rfl, trivial⟩
  refine W_fact (r := 0) rfl (fun h hp => rdP_nil (hF h hp)) (fun hnil => ?_)
  refine W_regL (WL_pure rfl rfl (by decide) (Pu_assign rfl rfl) (WL_nil (X_then ?_)))
  refine W_seq ?_
  refine W_seq ?_
  refine W.pre (K' := [(0, _), (2, _)]) (L' := [(0, _)]) ?_ ⟨rfl, ⟨rfl, trivial⟩⟩ ⟨rfl, trivial⟩
  refine W_regL (WL_pure rfl rfl (by decide) (Pu_move rfl rfl) (WL_pure rfl rfl (by decide) (Pu_eqNil (r := 0) rfl Try.underlying35 rfl rfl rfl hF) (WL_nil (X_then ?_))))
  refine W_cond rfl (fun hc4 => ?_) (fun hc4 => ?_)
  ·
    refine W_seq ?_
    refine W.pre (K' := [(0, _), (2, _), (4, _)]) (L' := [(0, _)]) ?_ ⟨rfl, ⟨rfl, ⟨rfl, trivial⟩⟩⟩ ⟨rfl, trivial⟩
    refine W_regL (WL_pure rfl rfl (by decide) (Pu_assign rfl rfl) (WL_nil (X_then ?_)))
    refine W_ret (X_then_ret ?_)
    refine X_nilRow 9900 5 1 ?_
    obtain rfl : l = [] := List.length_eq_zero_iff.1 (hnil hc4)
    exact X_ret [9900] (Ps := [_]) (res1 Try.results21 rfl) rfl (by decide) ⟨rfl, congrArg (· :: []) (rowB_of [] rfl rfl)⟩
  ·
    refine W_skip (X_then ?_)
    refine W_seq ?_
    refine W.pre (K' := [(0, _), (2, _), (4, _)]) (L' := [(0, _)]) ?_ ⟨rfl, ⟨rfl, ⟨rfl, trivial⟩⟩⟩ ⟨rfl, trivial⟩
    refine W_regL (WL_cons rfl rfl (by decide) (OpT_buildOnes (r := 101) [] rfl rfl Try.runUnderlying35 Try.sizeOf5 Try.zeroValue5 rfl rfl (by decide) rfl (by simp) (fun v5 => (WL_pure rfl rfl (by decide) (Pu_move rfl rfl) (WL_cons rfl rfl (by decide) (OpT_append (r := 101) (r2 := 0) (k1 := 0) rfl Try.underlying35 TI.hi5 TI.hz5 TI.hs5 TI.hby5 TI.hzs5 (by decide) rfl rfl rfl rfl hF (bs_one _) (by unfold maxLen; omega) (by omega) (fun v7 => ?_)))))))
    refine (WL_pure rfl rfl (by decide) (Pu_assign rfl rfl) (WL_nil (X_then ?_)))
    refine W_ret ?_
    refine X_fact (r := 101) rfl (fun h hp => rd_one (rowP_rd hp)) (fun hone => ?_)
    exact X_ret [101] (Ps := [_]) (res1 Try.results21 rfl) rfl (by decide) ⟨hone, congrArg (· :: []) (rowB_of l (by simp) (by simp))⟩
end Go.Proofs.Ytamhhkjddmjanaa
