/- Go's own slices, of bytes. -/
import Derived.Test.YtnhidehpacidnaaSl8
import Derived.Test.YtnhidehpacidnaaCat
import Derived.Test.YtnhidehpacidnaaTi
import Derived.Test.YtnhidehpacidnaaProg
namespace Go.Proofs.Ytnhidehpacidnaa
open Go.RowKit
set_option linter.unusedVariables false

theorem grow_spec (m : Nat) (hm : m ≤ 100000000) (F : HP) : CallsS Try.prog 33 #[.slice none 0 0, .int .i64 (m : Int)] F [] (fun r Ps => Ps = [rowB 5 r []]) := by
  refine callsS_enter Try.func33 rfl Try.ntmps33 (by simp) (fun E => ?_)
  refine W_seq ?_
  refine W.pre (K' := [(0, _), (1, _)]) (L' := [(0, _)]) ?_ ⟨rfl, ⟨rfl, trivial⟩⟩ ⟨rfl, trivial⟩
  refine W_nilRow 9900 5 1 ?_
  refine W_regL (WL_pure rfl rfl (by decide) (Pu_assign rfl rfl) (WL_nil (X_then ?_)))
  refine W_seq ?_
  refine W_seq ?_
  refine W.pre (K' := [(0, _), (1, _), (4, _)]) (L' := [(0, _), (9900, _)]) ?_ ⟨rfl, ⟨rfl, ⟨rfl, trivial⟩⟩⟩ ⟨rfl, ⟨rfl, trivial⟩⟩
  refine W_regL (WL_pure rfl rfl (by decide) (Pu_move rfl rfl) (WL_pure rfl rfl (by decide) (Pu_bin rfl rfl rfl (run_lss _ _ _ _ _ _)) (WL_nil (X_then ?_))))
  refine W_false rfl (decide_eq_false (by omega)) ?_
  refine W_skip (X_then ?_)
  refine W_seq ?_
  refine W_seq ?_
  refine W.pre (K' := [(0, _), (1, _), (4, _), (6, _)]) (L' := [(0, _), (9900, _)]) ?_ ⟨rfl, ⟨rfl, ⟨rfl, ⟨rfl, trivial⟩⟩⟩⟩ ⟨rfl, ⟨rfl, trivial⟩⟩
  refine W_regL (WL_pure rfl rfl (by decide) (Pu_move rfl rfl) (WL_pure rfl rfl (by decide) (Pu_move rfl rfl) (WL_pure rfl rfl (by decide) (Pu_cap rfl Try.runUnderlying28 rfl) (WL_pure rfl rfl (by decide) (Pu_move rfl rfl) (WL_pure rfl rfl (by decide) (Pu_len (r := 9900) rfl Try.runUnderlying28 rfl rfl (fun _ h => rowP_rd h)) (WL_pure rfl rfl (by decide) (Pu_bin rfl rfl rfl (run_sub _ _ _ _ _ (by omega))) (WL_pure rfl rfl (by decide) (Pu_bin rfl rfl rfl (run_sub _ _ _ _ _ (by omega))) (WL_pure rfl rfl (by decide) (Pu_assign rfl rfl) (WL_nil (X_then ?_))))))))))
  refine W_seq ?_
  refine W.pre (K' := [(0, _), (1, _), (4, _), (6, _)]) (L' := [(0, _), (9900, _)]) ?_ ⟨rfl, ⟨rfl, ⟨rfl, ⟨rfl, trivial⟩⟩⟩⟩ ⟨rfl, ⟨rfl, trivial⟩⟩
  refine W_regL (WL_pure rfl rfl (by decide) (Pu_move rfl rfl) (WL_pure rfl rfl (by decide) (Pu_bin rfl rfl rfl (run_gtr _ _ _ _ _ _)) (WL_nil (X_then ?_))))
  refine W_cond rfl (fun hc16 => ?_) (fun hc16 => ?_)
  ·
    have h0 := of_decide_eq_true hc16
    refine W.pre (K' := [(0, _), (1, _), (4, _), (6, _), (16, _)]) (L' := [(0, _), (9900, _)]) ?_ ⟨rfl, ⟨rfl, ⟨rfl, ⟨rfl, ⟨rfl, trivial⟩⟩⟩⟩⟩ ⟨rfl, ⟨rfl, trivial⟩⟩
    refine W_regL (WL_pure rfl rfl (by decide) (Pu_move rfl rfl) (WL_pure rfl rfl (by decide) (Pu_move rfl rfl) (WL_pure rfl rfl (by decide) (Pu_cap rfl Try.runUnderlying28 rfl) (WL_pure rfl rfl (by decide) (Pu_slice (r := 9900) (a := 0) (b := 0) rfl Try.runUnderlying28 Try.sizeOf5 rfl rfl (fun _ h => rowP_rd h) (.inl ⟨rfl, rfl⟩) (.inr ⟨_, _, _, rfl, rfl, rfl⟩) (Nat.le_refl _) (Nat.le_refl _)) (WL_pure rfl rfl (by decide) (Pu_move rfl rfl) (WL_cons rfl rfl (by decide) (OpT_growNil (r := 101) (m := m) rfl Try.underlying28 Try.underlying3 TI.hi5 TI.hz5 TI.hs5 TI.hzs5 (by decide) rfl rfl (by omega) (by omega) (by unfold maxLen; omega) (by rw [TI.hby5]; omega) (fun v22 xv22 hxv22 => ?_))))))))
    skip
    refine (WL_pure rfl rfl (by decide) (Pu_move rfl rfl) (WL_pure rfl rfl (by decide) (Pu_len (r := 9900) rfl Try.runUnderlying28 rfl rfl (fun _ h => rowP_rd h)) (WL_pure rfl rfl (by decide) (Pu_slice (r := 101) (a := 0) (b := 0) rfl Try.runUnderlying28 Try.sizeOf5 rfl rfl (fun _ h => rowP_rd h) (.inl ⟨rfl, rfl⟩) (.inr ⟨_, _, _, rfl, rfl, rfl⟩) (Nat.le_refl _) (Nat.zero_le _)) (WL_pure rfl rfl (by decide) (Pu_assign rfl rfl) (WL_nil (X_then ?_))))))
    refine W_seq ?_
    refine W.pre (K' := [(0, _), (1, _), (4, _), (6, _), (16, _)]) (L' := [(0, _), (101, _), (9900, _)]) ?_ ⟨rfl, ⟨rfl, ⟨rfl, ⟨rfl, ⟨rfl, trivial⟩⟩⟩⟩⟩ ⟨rfl, ⟨rfl, ⟨rfl, trivial⟩⟩⟩
    refine W_turn 101 rfl (fun h hp => rowP_cut hp (Nat.zero_le _)) ?_
    refine W_regL (WL_pure rfl rfl (by decide) (Pu_move rfl rfl) (WL_pure rfl rfl (by decide) (Pu_assign rfl rfl) (WL_nil (X_then ?_))))
    refine W_ret ?_
    exact X_ret [101] (Ps := [_]) (res1 Try.results33 rfl) rfl (by decide) (congrArg (· :: []) (rowB_of [] rfl (by simp [bs])))
  ·
    refine W_skip (X_then ?_)
    refine W_seq ?_
    refine W.pre (K' := [(0, _), (1, _), (4, _), (6, _), (16, _)]) (L' := [(0, _), (9900, _)]) ?_ ⟨rfl, ⟨rfl, ⟨rfl, ⟨rfl, ⟨rfl, trivial⟩⟩⟩⟩⟩ ⟨rfl, ⟨rfl, trivial⟩⟩
    refine W_regL (WL_pure rfl rfl (by decide) (Pu_move rfl rfl) (WL_pure rfl rfl (by decide) (Pu_assign rfl rfl) (WL_nil (X_then ?_))))
    refine W_ret ?_
    exact X_ret [9900] (Ps := [_]) (res1 Try.results33 rfl) rfl (by decide) (congrArg (· :: []) (rowB_of [] rfl (by simp [bs])))
theorem clone_spec (v : Value) (l : List UInt8) (hl : l.length ≤ 100000000) (F : HP) (hF : ∀ h, F h → rdB v l h) : CallsS Try.prog 31 #[v] F [] (fun r Ps => r.oneCell' = true ∧ Ps = [rowB 5 r l]) := by
  refine callsS_enter Try.func31 rfl Try.ntmps31 (by simp) (fun E => ?_)
  refine W_seq ?_
  refine W.pre (K' := [(0, _)]) (L' := [(0, _)]) ?_ ⟨rfl, trivial⟩ ⟨rfl, trivial⟩
  refine W_fact (r := 0) rfl (fun h hp => rdP_nil (hF h hp)) (fun hnil => ?_)
  refine W_regL (WL_pure rfl rfl (by decide) (Pu_assign rfl rfl) (WL_nil (X_then ?_)))
  refine W_seq ?_
  refine W_seq ?_
  refine W.pre (K' := [(0, _), (2, _)]) (L' := [(0, _)]) ?_ ⟨rfl, ⟨rfl, trivial⟩⟩ ⟨rfl, trivial⟩
  refine W_regL (WL_pure rfl rfl (by decide) (Pu_move rfl rfl) (WL_pure rfl rfl (by decide) (Pu_eqNil (r := 0) rfl Try.underlying28 rfl rfl rfl hF) (WL_nil (X_then ?_))))
  refine W_cond rfl (fun hc4 => ?_) (fun hc4 => ?_)
  ·
    refine W_seq ?_
    refine W.pre (K' := [(0, _), (2, _), (4, _)]) (L' := [(0, _)]) ?_ ⟨rfl, ⟨rfl, ⟨rfl, trivial⟩⟩⟩ ⟨rfl, trivial⟩
    refine W_regL (WL_pure rfl rfl (by decide) (Pu_assign rfl rfl) (WL_nil (X_then ?_)))
    refine W_ret (X_then_ret ?_)
    refine X_nilRow 9900 5 1 ?_
    obtain rfl : l = [] := List.length_eq_zero_iff.1 (hnil hc4)
    exact X_ret [9900] (Ps := [_]) (res1 Try.results31 rfl) rfl (by decide) ⟨rfl, congrArg (· :: []) (rowB_of [] rfl rfl)⟩
  ·
    refine W_skip (X_then ?_)
    refine W_seq ?_
    refine W.pre (K' := [(0, _), (2, _), (4, _)]) (L' := [(0, _)]) ?_ ⟨rfl, ⟨rfl, ⟨rfl, trivial⟩⟩⟩ ⟨rfl, trivial⟩
    refine W_regL (WL_cons rfl rfl (by decide) (OpT_buildOnes (r := 101) [] rfl rfl Try.runUnderlying28 Try.sizeOf5 Try.zeroValue5 rfl rfl (by decide) rfl (by simp) (fun v5 => (WL_pure rfl rfl (by decide) (Pu_move rfl rfl) (WL_cons rfl rfl (by decide) (OpT_append (r := 101) (r2 := 0) (k1 := 0) rfl Try.underlying28 TI.hi5 TI.hz5 TI.hs5 TI.hby5 TI.hzs5 (by decide) rfl rfl rfl rfl hF (bs_one _) (by unfold maxLen; omega) (by omega) (fun v7 => ?_)))))))
    refine (WL_pure rfl rfl (by decide) (Pu_assign rfl rfl) (WL_nil (X_then ?_)))
    refine W_ret ?_
    refine X_fact (r := 101) rfl (fun h hp => rd_one (rowP_rd hp)) (fun hone => ?_)
    exact X_ret [101] (Ps := [_]) (res1 Try.results31 rfl) rfl (by decide) ⟨hone, congrArg (· :: []) (rowB_of l (by simp) (by simp))⟩
theorem concat_spec (v : Value) (vs : List Value) (ls : List (List UInt8)) (hn : vs.length = ls.length) (hm : ls.length ≤ 1000000) (hs : ls.flatten.length ≤ 100000000) (F : HP) (hF : ∀ h, F h → rdP 1 v vs.length vs h) (hls : ∀ i, i < ls.length → ∀ h, F h → rdB (vs.getD i undef) (ls.getD i []) h) : CallsS Try.prog 30 #[v] F [] (fun r Ps => Ps = [rowB 5 r ls.flatten]) := by
  refine callsS_enter Try.func30 rfl Try.ntmps30 (by simp) (fun E => ?_)
  refine W_seq ?_
  refine W.pre (K' := [(0, _)]) (L' := [(0, _)]) ?_ ⟨rfl, trivial⟩ ⟨rfl, trivial⟩
  refine W_regL (WL_pure rfl rfl (by decide) (Pu_assign rfl rfl) (WL_nil (X_then ?_)))
  refine W_seq ?_
  refine W.pre (K' := [(0, _), (2, _)]) (L' := [(0, _)]) ?_ ⟨rfl, ⟨rfl, trivial⟩⟩ ⟨rfl, trivial⟩
  refine W_regL (WL_pure rfl rfl (by decide) (Pu_assign rfl rfl) (WL_nil (X_then ?_)))
  refine W_seq ?_
  refine W_seq ?_
  refine W.pre (K' := [(0, _), (2, _), (3, _)]) (L' := [(0, _)]) ?_ ⟨rfl, ⟨rfl, ⟨rfl, trivial⟩⟩⟩ ⟨rfl, trivial⟩
  refine W_regL (WL_pure rfl rfl (by decide) (Pu_move rfl rfl) (WL_pure rfl rfl (by decide) (Pu_len (r := 0) rfl Try.runUnderlying38 rfl rfl hF) (WL_pure rfl rfl (by decide) (Pu_move rfl rfl) (WL_nil (X_then ?_)))))
  refine W_block ?_
  refine W_loop (α := Nat) (fun k => [(0, v), (3, .int .i64 ((cat ls k).length : Int)), (9, v), (10, .int .i64 (vs.length : Int)), (11, .int .i64 (k : Int))]) (fun k => [(0, F)]) (fun k => k ≤ vs.length) (fun k => vs.length - k) (0) (Nat.zero_le _) ⟨rfl, lookV_eq rfl (by rw [cat_zero]; rfl), rfl, rfl, rfl, trivial⟩ ⟨rfl, trivial⟩ (fun x hx => ?_)
  have hle := cat_le ls x
  refine W_seq ?_
  refine W.pre (K' := [(0, _), (3, _), (9, _), (10, _), (11, _)]) (L' := [(0, _)]) ?_ ⟨rfl, ⟨rfl, ⟨rfl, ⟨rfl, ⟨rfl, trivial⟩⟩⟩⟩⟩ ⟨rfl, trivial⟩
  refine W_regL (WL_pure rfl rfl (by decide) (Pu_bin rfl rfl rfl (run_lss _ _ _ _ _ _)) (WL_nil (X_then ?_)))
  refine W_seq ?_
  refine W_cond rfl (fun hc12 => ?_) (fun hc12 => ?_)
  ·
    have hlt : x < ls.length := by have := of_decide_eq_true hc12; omega
    have hlv : x < vs.length := by omega
    have hle2 := cat_le ls (x + 1)
    rw [cat_succ hlt, List.length_append] at hle2
    refine W_skip (X_then ?_)
    refine W_seq ?_
    refine W_block ?_
    refine W_seq ?_
    refine W.pre (K' := [(0, _), (3, _), (9, _), (10, _), (11, _), (12, _)]) (L' := [(0, _)]) ?_ ⟨rfl, ⟨rfl, ⟨rfl, ⟨rfl, ⟨rfl, ⟨rfl, trivial⟩⟩⟩⟩⟩⟩ ⟨rfl, trivial⟩
    refine W_regL (WL_pure rfl rfl (by decide) (Pu_idxS1 (r := 0) rfl Try.runUnderlying38 Try.sizeOf28 rfl rfl rfl hF (by omega)) (WL_pure rfl rfl (by decide) (Pu_loadS (r := 0) rfl Try.isAgg28 rfl rfl hF (getD_at (d := undef) hlv)) (WL_pure rfl rfl (by decide) (Pu_assign rfl rfl) (WL_nil (X_then ?_)))))
    refine W_seq ?_
    refine W.pre (K' := [(0, _), (3, _), (5, _), (9, _), (10, _), (11, _), (12, _)]) (L' := [(0, _)]) ?_ ⟨rfl, ⟨rfl, ⟨rfl, ⟨rfl, ⟨rfl, ⟨rfl, ⟨rfl, trivial⟩⟩⟩⟩⟩⟩⟩ ⟨rfl, trivial⟩
    refine W_regL (WL_pure rfl rfl (by decide) (Pu_move rfl rfl) (WL_pure rfl rfl (by decide) (Pu_move rfl rfl) (WL_pure rfl rfl (by decide) (Pu_len (r := 0) rfl Try.runUnderlying28 rfl rfl (hls x hlt)) (WL_pure rfl rfl (by decide) (Pu_bin rfl rfl rfl (run_add _ _ _ _ _ (by omega))) (WL_pure rfl rfl (by decide) (Pu_assign rfl rfl) (WL_nil (X_then ?_)))))))
    refine W_seq ?_
    refine W.pre (K' := [(0, _), (3, _), (5, _), (9, _), (10, _), (11, _), (12, _)]) (L' := [(0, _)]) ?_ ⟨rfl, ⟨rfl, ⟨rfl, ⟨rfl, ⟨rfl, ⟨rfl, ⟨rfl, trivial⟩⟩⟩⟩⟩⟩⟩ ⟨rfl, trivial⟩
    refine W_regL (WL_pure rfl rfl (by decide) (Pu_move rfl rfl) (WL_pure rfl rfl (by decide) (Pu_bin rfl rfl rfl (run_lss _ _ _ _ _ _)) (WL_nil (X_then ?_))))
    refine W_false rfl (decide_eq_false (by omega)) ?_
    refine W_skip (X_block (X_then ?_))
    refine W.pre (K' := [(0, _), (3, _), (5, _), (9, _), (10, _), (11, _), (12, _), (20, _)]) (L' := [(0, _)]) ?_ ⟨rfl, ⟨rfl, ⟨rfl, ⟨rfl, ⟨rfl, ⟨rfl, ⟨rfl, ⟨rfl, trivial⟩⟩⟩⟩⟩⟩⟩⟩ ⟨rfl, trivial⟩
    refine W_regL (WL_pure rfl rfl (by decide) (Pu_bin rfl rfl rfl (run_add _ _ _ _ _ (by omega))) (WL_pure rfl rfl (by decide) (Pu_move rfl rfl) (WL_nil ?_)))
    exact X_round (x + 1) (by show x + 1 ≤ _; omega) (by show _ - (x + 1) < _; omega) ⟨rfl, lookV_eq rfl (by rw [cat_succ hlt, List.length_append, Int.natCast_add]), rfl, rfl, rfl, trivial⟩ ⟨rfl, trivial⟩
  ·
    obtain rfl : x = vs.length := by have := of_decide_eq_false hc12; omega
    refine W_exit (X_then_exit (X_then_exit (X_block_exit (X_then ?_))))
    refine W_seq ?_
    refine W.pre (K' := [(0, _), (3, _), (9, _), (10, _), (11, _), (12, _)]) (L' := [(0, _)]) ?_ ⟨rfl, ⟨rfl, ⟨rfl, ⟨rfl, ⟨rfl, ⟨rfl, trivial⟩⟩⟩⟩⟩⟩ ⟨rfl, trivial⟩
    refine W_regL (WL_pure rfl rfl (by decide) (Pu_move rfl rfl) (WL_cons rfl rfl (by decide) (OpT_call 200 [0] [] rfl Try.call33 rfl rfl rfl (by decide) (by decide) (grow_spec _ (by omega) _) (fun v24 Ps24 hR24 => ?_))))
    subst hR24
    refine (WL_pure rfl rfl (by decide) (Pu_assign rfl rfl) (WL_nil (X_then ?_)))
    refine W_seq ?_
    refine W_seq ?_
    refine W.pre (K' := [(0, _), (3, _), (6, _), (9, _), (10, _), (11, _), (12, _)]) (L' := [(0, _), (200, _)]) ?_ ⟨rfl, ⟨rfl, ⟨rfl, ⟨rfl, ⟨rfl, ⟨rfl, ⟨rfl, trivial⟩⟩⟩⟩⟩⟩⟩ ⟨rfl, ⟨rfl, trivial⟩⟩
    refine W_regL (WL_pure rfl rfl (by decide) (Pu_move rfl rfl) (WL_pure rfl rfl (by decide) (Pu_len (r := 0) rfl Try.runUnderlying38 rfl rfl hF) (WL_pure rfl rfl (by decide) (Pu_move rfl rfl) (WL_nil (X_then ?_)))))
    refine W_block ?_
    refine W_loop (α := Nat × Value) (fun k => [(6, k.2), (25, v), (26, .int .i64 (vs.length : Int)), (27, .int .i64 (k.1 : Int))]) (fun k => [(0, F), (200, rowB 5 k.2 (cat ls k.1))]) (fun k => k.1 ≤ vs.length) (fun k => vs.length - k.1) ((0, v24)) (Nat.zero_le _) ⟨rfl, ⟨rfl, ⟨rfl, ⟨rfl, trivial⟩⟩⟩⟩ ⟨rfl, look_eq rfl (by rw [cat_zero]), trivial⟩ (fun x hx => ?_)
    unfold rowB
    have hle := cat_le ls x.1
    have hx1 : x.1 ≤ vs.length := hx
    refine W_seq ?_
    refine W.pre (K' := [(6, _), (25, _), (26, _), (27, _)]) (L' := [(0, _), (200, _)]) ?_ ⟨rfl, ⟨rfl, ⟨rfl, ⟨rfl, trivial⟩⟩⟩⟩ ⟨rfl, ⟨rfl, trivial⟩⟩
    refine W_regL (WL_pure rfl rfl (by decide) (Pu_bin rfl rfl rfl (run_lss _ _ _ _ _ _)) (WL_nil (X_then ?_)))
    refine W_seq ?_
    refine W_cond rfl (fun hc28 => ?_) (fun hc28 => ?_)
    ·
      have hlt : x.1 < ls.length := by have := of_decide_eq_true hc28; omega
      have hlv : x.1 < vs.length := by omega
      have hle2 := cat_le ls (x.1 + 1)
      rw [cat_succ hlt, List.length_append] at hle2
      refine W_skip (X_then ?_)
      refine W_seq ?_
      refine W_block ?_
      refine W_seq ?_
      refine W.pre (K' := [(6, _), (25, _), (26, _), (27, _), (28, _)]) (L' := [(0, _), (200, _)]) ?_ ⟨rfl, ⟨rfl, ⟨rfl, ⟨rfl, ⟨rfl, trivial⟩⟩⟩⟩⟩ ⟨rfl, ⟨rfl, trivial⟩⟩
      refine W_regL (WL_pure rfl rfl (by decide) (Pu_idxS1 (r := 0) rfl Try.runUnderlying38 Try.sizeOf28 rfl rfl rfl hF (by omega)) (WL_pure rfl rfl (by decide) (Pu_loadS (r := 0) rfl Try.isAgg28 rfl rfl hF (getD_at (d := undef) hlv)) (WL_pure rfl rfl (by decide) (Pu_assign rfl rfl) (WL_nil (X_then ?_)))))
      refine W.pre (K' := [(6, _), (8, _), (25, _), (26, _), (27, _), (28, _)]) (L' := [(0, _), (200, _)]) ?_ ⟨rfl, ⟨rfl, ⟨rfl, ⟨rfl, ⟨rfl, ⟨rfl, trivial⟩⟩⟩⟩⟩⟩ ⟨rfl, ⟨rfl, trivial⟩⟩
      refine W_regL (WL_pure rfl rfl (by decide) (Pu_move rfl rfl) (WL_pure rfl rfl (by decide) (Pu_move rfl rfl) (WL_cons rfl rfl (by decide) (OpT_append (r := 200) (r2 := 0) rfl Try.underlying28 TI.hi5 TI.hz5 TI.hs5 TI.hby5 TI.hzs5 (by decide) rfl rfl rfl rfl (hls x.1 hlt) (bs_one _) (by unfold maxLen; omega) (by omega) (fun v33 => ?_)))))
      refine (WL_pure rfl rfl (by decide) (Pu_assign rfl rfl) (WL_nil (X_block (X_then ?_))))
      refine W.pre (K' := [(6, _), (8, _), (25, _), (26, _), (27, _), (28, _)]) (L' := [(0, _), (200, _)]) ?_ ⟨rfl, ⟨rfl, ⟨rfl, ⟨rfl, ⟨rfl, ⟨rfl, trivial⟩⟩⟩⟩⟩⟩ ⟨rfl, ⟨rfl, trivial⟩⟩
      refine W_regL (WL_pure rfl rfl (by decide) (Pu_bin rfl rfl rfl (run_add _ _ _ _ _ (by omega))) (WL_pure rfl rfl (by decide) (Pu_move rfl rfl) (WL_nil ?_)))
      exact X_round (x.1 + 1, v33) (by show x.1 + 1 ≤ _; omega) (by show _ - (x.1 + 1) < _; omega) ⟨rfl, rfl, rfl, rfl, trivial⟩ ⟨rfl, look_eq rfl (rowB_of (cat ls (x.1 + 1)) (by rw [cat_succ hlt, List.length_append]) (by rw [cat_succ hlt, bs_append])), trivial⟩
    ·
      obtain hfin : x.1 = ls.length := by have := of_decide_eq_false hc28; omega
      refine W_exit (X_then_exit (X_then_exit (X_block_exit (X_then ?_))))
      refine W_seq ?_
      refine W.pre (K' := [(6, _), (25, _), (26, _), (27, _), (28, _)]) (L' := [(0, _), (200, _)]) ?_ ⟨rfl, ⟨rfl, ⟨rfl, ⟨rfl, ⟨rfl, trivial⟩⟩⟩⟩⟩ ⟨rfl, ⟨rfl, trivial⟩⟩
      refine W_regL (WL_pure rfl rfl (by decide) (Pu_move rfl rfl) (WL_pure rfl rfl (by decide) (Pu_assign rfl rfl) (WL_nil (X_then ?_))))
      refine W_ret ?_
      exact X_ret [200] (Ps := [_]) (res1 Try.results30 rfl) rfl (by decide) (congrArg (· :: []) (rowB_of ls.flatten (by rw [hfin, cat_all]) (by rw [hfin, cat_all])))
end Go.Proofs.Ytnhidehpacidnaa
