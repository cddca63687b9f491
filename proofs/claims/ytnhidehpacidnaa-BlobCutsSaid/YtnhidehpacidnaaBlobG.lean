/- Blocks: inner blocks written. -/
import Derived.Test.YtnhidehpacidnaaBlobF
import Derived.Test.YtnhidehpacidnaaBlob1
namespace Go.Proofs.Ytnhidehpacidnaa
open Go.RowKit
set_option linter.unusedVariables false

theorem inner_spec (v : Value) (l : List (List UInt8)) (hl : Ids l) (F : HP) (hF : ∀ h, F h → rdI v l h) : CallsS Try.prog 10 #[v] F [] (fun r Ps => ∃ v', r = .tuple #[v', .int .i64 (innerE l)] ∧ Ps = [rowB 5 v' (innerR l)]) := by
  refine callsS_enter Try.func10 rfl Try.ntmps10 (by simp) (fun E => ?_)
  refine W_seq ?_
  refine W.pre (K' := [(0, _)]) (L' := [(0, _)]) ?_ ⟨rfl, trivial⟩ ⟨rfl, trivial⟩
  refine W_regL (WL_pure rfl rfl (by decide) (Pu_assign rfl rfl) (WL_pure rfl rfl (by decide) (Pu_assign rfl rfl) (WL_nil (X_then ?_))))
  refine W_seq ?_
  refine W_block ?_
  refine W_seq ?_
  refine W.pre (K' := [(0, _), (2, _), (3, _)]) (L' := [(0, _)]) ?_ ⟨rfl, ⟨rfl, ⟨rfl, trivial⟩⟩⟩ ⟨rfl, trivial⟩
  refine W_regL (WL_pure rfl rfl (by decide) (Pu_move rfl rfl) (WL_pure rfl rfl (by decide) (Pu_len (r := 0) rfl Try.runUnderlying33 rfl rfl hF) (WL_pure rfl rfl (by decide) (Pu_bin rfl rfl rfl (run_eql _ _ _ _ _ _)) (WL_pure rfl rfl (by decide) (Pu_assign rfl rfl) (WL_nil (X_then ?_))))))
  refine W_cond rfl (fun hc7 => ?_) (fun hc7 => ?_)
  ·
    have h0 := of_decide_eq_true hc7
    refine W_seq ?_
    refine W.pre (K' := [(0, _), (2, _), (3, _), (7, _)]) (L' := [(0, _)]) ?_ ⟨rfl, ⟨rfl, ⟨rfl, ⟨rfl, trivial⟩⟩⟩⟩ ⟨rfl, trivial⟩
    refine W_regL (WL_pure rfl rfl (by decide) (Pu_assign rfl rfl) (WL_pure rfl rfl (by decide) (Pu_assign rfl rfl) (WL_nil (X_then ?_))))
    refine W_ret (X_block_ret (X_then_ret ?_))
    refine X_nilRow 9900 5 1 ?_
    have hE : innerE l = 1 := by unfold innerE; rw [if_pos (by omega)]
    exact X_ret [9900] (Ps := [_]) (res2 Try.results10 rfl rfl) rfl (by decide) ⟨_, by rw [hE], by rw [innerR, if_neg (by rw [hE]; decide)]; rfl⟩
  ·
    have h0 := of_decide_eq_false hc7
    refine W_seq ?_
    refine W.pre (K' := [(0, _), (2, _), (3, _), (7, _)]) (L' := [(0, _)]) ?_ ⟨rfl, ⟨rfl, ⟨rfl, ⟨rfl, trivial⟩⟩⟩⟩ ⟨rfl, trivial⟩
    refine W_regL (WL_pure rfl rfl (by decide) (Pu_move rfl rfl) (WL_pure rfl rfl (by decide) (Pu_len (r := 0) rfl Try.runUnderlying33 rfl rfl hF) (WL_pure rfl rfl (by decide) (Pu_bin rfl rfl rfl (run_gtr _ _ _ _ _ _)) (WL_pure rfl rfl (by decide) (Pu_assign rfl rfl) (WL_nil (X_then ?_))))))
    refine W_cond rfl (fun hc11 => ?_) (fun hc11 => ?_)
    ·
      have h8 := of_decide_eq_true hc11
      refine W_seq ?_
      refine W.pre (K' := [(0, _), (2, _), (3, _), (7, _), (11, _)]) (L' := [(0, _)]) ?_ ⟨rfl, ⟨rfl, ⟨rfl, ⟨rfl, ⟨rfl, trivial⟩⟩⟩⟩⟩ ⟨rfl, trivial⟩
      refine W_regL (WL_pure rfl rfl (by decide) (Pu_assign rfl rfl) (WL_pure rfl rfl (by decide) (Pu_assign rfl rfl) (WL_nil (X_then ?_))))
      refine W_ret (X_block_ret (X_then_ret ?_))
      refine X_nilRow 9900 5 1 ?_
      have hE : innerE l = 4 := by unfold innerE; rw [if_neg (by omega), if_pos (by omega)]
      exact X_ret [9900] (Ps := [_]) (res2 Try.results10 rfl rfl) rfl (by decide) ⟨_, by rw [hE], by rw [innerR, if_neg (by rw [hE]; decide)]; rfl⟩
    ·
      have h8 := of_decide_eq_false hc11
      refine W_skip (X_block (X_then ?_))
      refine W_seq ?_
      refine W.pre (K' := [(0, _), (2, _), (3, _), (7, _), (11, _)]) (L' := [(0, _)]) ?_ ⟨rfl, ⟨rfl, ⟨rfl, ⟨rfl, ⟨rfl, trivial⟩⟩⟩⟩⟩ ⟨rfl, trivial⟩
      refine W_regL (WL_pure rfl rfl (by decide) (Pu_move rfl rfl) (WL_pure rfl rfl (by decide) (Pu_len (r := 0) rfl Try.runUnderlying33 rfl rfl hF) (WL_pure rfl rfl (by decide) (Pu_conv rfl rfl (conv_byte _ _ Try.runUnderlying3 Try.runUnderlying5)) (WL_cons rfl rfl (by decide) (OpT_buildOnes (r := 101) (bs [110, byte l.length]) rfl rfl Try.runUnderlying28 Try.sizeOf5 Try.zeroValue5 rfl rfl (by decide) rfl (bs_cells _) (fun v18 => (WL_pure rfl rfl (by decide) (Pu_assign rfl rfl) (WL_nil (X_then ?_)))))))))
      refine W_seq ?_
      refine W_seq ?_
      refine W.pre (K' := [(0, _), (2, _), (3, _), (4, _), (7, _), (11, _)]) (L' := [(0, _), (101, _)]) ?_ ⟨rfl, ⟨rfl, ⟨rfl, ⟨rfl, ⟨rfl, ⟨rfl, trivial⟩⟩⟩⟩⟩⟩ ⟨rfl, ⟨rfl, trivial⟩⟩
      refine W_regL (WL_pure rfl rfl (by decide) (Pu_move rfl rfl) (WL_pure rfl rfl (by decide) (Pu_len (r := 0) rfl Try.runUnderlying33 rfl rfl hF) (WL_pure rfl rfl (by decide) (Pu_move rfl rfl) (WL_nil (X_then ?_)))))
      refine W_block ?_
      refine W_loop (α := Nat × Value) (fun k => [(0, v), (4, k.2), (19, v), (20, .int .i64 (l.length : Int)), (21, .int .i64 (k.1 : Int))]) (fun k => [(0, F), (101, rowB 5 k.2 (innerTo l k.1))]) (fun k => k.1 ≤ l.length) (fun k => l.length - k.1) ((0, v18)) (Nat.zero_le _) ⟨rfl, ⟨rfl, ⟨rfl, ⟨rfl, ⟨rfl, trivial⟩⟩⟩⟩⟩ ⟨rfl, ⟨rfl, trivial⟩⟩ (fun x hx => ?_)
      unfold rowB
      refine W_seq ?_
      refine W.pre (K' := [(0, _), (4, _), (19, _), (20, _), (21, _)]) (L' := [(0, _), (101, _)]) ?_ ⟨rfl, ⟨rfl, ⟨rfl, ⟨rfl, ⟨rfl, trivial⟩⟩⟩⟩⟩ ⟨rfl, ⟨rfl, trivial⟩⟩
      refine W_regL (WL_pure rfl rfl (by decide) (Pu_bin rfl rfl rfl (run_lss _ _ _ _ _ _)) (WL_nil (X_then ?_)))
      refine W_seq ?_
      refine W_cond rfl (fun hc22 => ?_) (fun hc22 => ?_)
      ·
        have hlt : x.1 < l.length := by have := of_decide_eq_true hc22; omega
        have hid := hl.get hlt
        refine W_skip (X_then ?_)
        refine W_seq ?_
        refine W_block ?_
        refine W_seq ?_
        refine W.pre (K' := [(0, _), (4, _), (19, _), (20, _), (21, _), (22, _)]) (L' := [(0, _), (101, _)]) ?_ ⟨rfl, ⟨rfl, ⟨rfl, ⟨rfl, ⟨rfl, ⟨rfl, trivial⟩⟩⟩⟩⟩⟩ ⟨rfl, ⟨rfl, trivial⟩⟩
        refine W_regL (WL_pure rfl rfl (by decide) (Pu_idxS (r := 0) rfl Try.runUnderlying33 Try.sizeOf25 rfl rfl rfl hF (by omega)) (WL_pure rfl rfl (by decide) (Pu_loadSN (r := 0) rfl Try.isAgg25 Try.sizeOf25 rfl rfl hF ((bs_length _).trans hid) (by decide) (idsC_get (k := x.1) hl hlt)) (WL_cons rfl rfl (by decide) (OpT_alloc (r := 102) (cs := (bs zeroId)) rfl (zero_run (by kernel_rfl : (Try.prog.info? 25).bind (·.zero) = some (.agg (bs zeroId).toArray))) rfl (fun g102 => (WL_cons0 rfl rfl (OpT_storeAll (r := 102) rfl Try.sizeOf25 rfl rfl rfl rfl ((bs_length _).trans hid) (bs_one _) ?_)))))))
        refine (WL_nil (X_then ?_))
        refine W.pre (K' := [(0, _), (4, _), (6, _), (19, _), (20, _), (21, _), (22, _)]) (L' := [(0, _), (101, _), (102, _)]) ?_ ⟨rfl, ⟨rfl, ⟨rfl, ⟨rfl, ⟨rfl, ⟨rfl, ⟨rfl, trivial⟩⟩⟩⟩⟩⟩⟩ ⟨rfl, ⟨rfl, ⟨rfl, trivial⟩⟩⟩
        refine W_regL (WL_pure rfl rfl (by decide) (Pu_move rfl rfl) (WL_pure rfl rfl (by decide) (Pu_sliceArr rfl Try.runUnderlying25 Try.sizeOf5 rfl) (WL_cons rfl rfl (by decide) (OpT_append (r := 101) (r2 := 102) rfl Try.underlying28 TI.hi5 TI.hz5 TI.hs5 TI.hby5 TI.hzs5 (by decide) rfl rfl rfl rfl (fun _ h => id_rd hid h) (bs_one _) (by rw [innerTo_length hl hx]; unfold maxLen; omega) (by rw [innerTo_length hl hx]; omega) (fun v27 => ?_)))))
        refine (WL_pure rfl rfl (by decide) (Pu_assign rfl rfl) (WL_nil (X_block (X_then ?_))))
        refine W.pre (K' := [(0, _), (4, _), (6, _), (19, _), (20, _), (21, _), (22, _)]) (L' := [(0, _), (101, _), (102, _)]) ?_ ⟨rfl, ⟨rfl, ⟨rfl, ⟨rfl, ⟨rfl, ⟨rfl, ⟨rfl, trivial⟩⟩⟩⟩⟩⟩⟩ ⟨rfl, ⟨rfl, ⟨rfl, trivial⟩⟩⟩
        refine W_regL (WL_pure rfl rfl (by decide) (Pu_bin rfl rfl rfl (run_add _ _ _ _ _ (by omega))) (WL_pure rfl rfl (by decide) (Pu_move rfl rfl) (WL_nil ?_)))
        exact X_round (x.1 + 1, v27) (by show x.1 + 1 ≤ l.length; omega) (by show l.length - (x.1 + 1) < _; omega) ⟨rfl, ⟨rfl, ⟨rfl, ⟨rfl, ⟨rfl, trivial⟩⟩⟩⟩⟩ ⟨rfl, look_eq rfl (rowB_of (innerTo l (x.1 + 1)) (by rw [innerTo_succ hlt, List.length_append, hid]) (by rw [innerTo_succ hlt, bs_append])), trivial⟩
      ·
        have hfin : x.1 = l.length := by have := of_decide_eq_false hc22; omega
        refine W_exit (X_then_exit (X_then_exit (X_block_exit (X_then ?_))))
        refine W_seq ?_
        refine W.pre (K' := [(0, _), (4, _), (19, _), (20, _), (21, _), (22, _)]) (L' := [(0, _), (101, _)]) ?_ ⟨rfl, ⟨rfl, ⟨rfl, ⟨rfl, ⟨rfl, ⟨rfl, trivial⟩⟩⟩⟩⟩⟩ ⟨rfl, ⟨rfl, trivial⟩⟩
        refine W_regL (WL_pure rfl rfl (by decide) (Pu_move rfl rfl) (WL_pure rfl rfl (by decide) (Pu_assign rfl rfl) (WL_pure rfl rfl (by decide) (Pu_assign rfl rfl) (WL_nil (X_then ?_)))))
        refine W_ret ?_
        have hE : innerE l = 0 := by unfold innerE; rw [if_neg (by omega), if_neg (by omega)]
        exact X_ret [101] (Ps := [_]) (res2 Try.results10 rfl rfl) rfl (by decide) ⟨_, by rw [hE], by rw [innerR, if_pos hE, ← hfin]⟩
theorem refInner_spec (v : Value) (l : List (List UInt8)) (hl : Ids l) (F : HP) (hF : ∀ h, F h → rdI v l h) : CallsS Try.prog 11 #[v] F [] (fun r Ps => ∃ v', r = .tuple #[v', .int .i64 (innerE l)] ∧ Ps = [rowB 5 v' (innerR l)]) := by
  refine callsS_enter Try.func11 rfl Try.ntmps11 (by simp) (fun E => ?_)
  refine W_seq ?_
  refine W.pre (K' := [(0, _)]) (L' := [(0, _)]) ?_ ⟨rfl, trivial⟩ ⟨rfl, trivial⟩
  refine W_regL (WL_pure rfl rfl (by decide) (Pu_assign rfl rfl) (WL_pure rfl rfl (by decide) (Pu_assign rfl rfl) (WL_nil (X_then ?_))))
  refine W_seq ?_
  refine W_seq ?_
  refine W.pre (K' := [(0, _), (2, _), (3, _)]) (L' := [(0, _)]) ?_ ⟨rfl, ⟨rfl, ⟨rfl, trivial⟩⟩⟩ ⟨rfl, trivial⟩
  refine W_regL (WL_pure rfl rfl (by decide) (Pu_move rfl rfl) (WL_pure rfl rfl (by decide) (Pu_len (r := 0) rfl Try.runUnderlying33 rfl rfl hF) (WL_pure rfl rfl (by decide) (Pu_bin rfl rfl rfl (run_eql _ _ _ _ _ _)) (WL_nil (X_then ?_)))))
  refine W_cond rfl (fun hc8 => ?_) (fun hc8 => ?_)
  ·
    have h0 := of_decide_eq_true hc8
    refine W_seq ?_
    refine W.pre (K' := [(0, _), (2, _), (3, _), (8, _)]) (L' := [(0, _)]) ?_ ⟨rfl, ⟨rfl, ⟨rfl, ⟨rfl, trivial⟩⟩⟩⟩ ⟨rfl, trivial⟩
    refine W_regL (WL_pure rfl rfl (by decide) (Pu_assign rfl rfl) (WL_pure rfl rfl (by decide) (Pu_assign rfl rfl) (WL_nil (X_then ?_))))
    refine W_ret (X_then_ret ?_)
    refine X_nilRow 9900 5 1 ?_
    have hE : innerE l = 1 := by unfold innerE; rw [if_pos (by omega)]
    exact X_ret [9900] (Ps := [_]) (res2 Try.results11 rfl rfl) rfl (by decide) ⟨_, by rw [hE], by rw [innerR, if_neg (by rw [hE]; decide)]; rfl⟩
  ·
    have h0 := of_decide_eq_false hc8
    refine W_skip (X_then ?_)
    refine W_seq ?_
    refine W_seq ?_
    refine W.pre (K' := [(0, _), (2, _), (3, _), (8, _)]) (L' := [(0, _)]) ?_ ⟨rfl, ⟨rfl, ⟨rfl, ⟨rfl, trivial⟩⟩⟩⟩ ⟨rfl, trivial⟩
    refine W_regL (WL_pure rfl rfl (by decide) (Pu_move rfl rfl) (WL_pure rfl rfl (by decide) (Pu_len (r := 0) rfl Try.runUnderlying33 rfl rfl hF) (WL_pure rfl rfl (by decide) (Pu_bin rfl rfl rfl (run_gtr _ _ _ _ _ _)) (WL_nil (X_then ?_)))))
    refine W_cond rfl (fun hc11 => ?_) (fun hc11 => ?_)
    ·
      have h8 := of_decide_eq_true hc11
      refine W_seq ?_
      refine W.pre (K' := [(0, _), (2, _), (3, _), (8, _), (11, _)]) (L' := [(0, _)]) ?_ ⟨rfl, ⟨rfl, ⟨rfl, ⟨rfl, ⟨rfl, trivial⟩⟩⟩⟩⟩ ⟨rfl, trivial⟩
      refine W_regL (WL_pure rfl rfl (by decide) (Pu_assign rfl rfl) (WL_pure rfl rfl (by decide) (Pu_assign rfl rfl) (WL_nil (X_then ?_))))
      refine W_ret (X_then_ret ?_)
      refine X_nilRow 9900 5 1 ?_
      have hE : innerE l = 4 := by unfold innerE; rw [if_neg (by omega), if_pos (by omega)]
      exact X_ret [9900] (Ps := [_]) (res2 Try.results11 rfl rfl) rfl (by decide) ⟨_, by rw [hE], by rw [innerR, if_neg (by rw [hE]; decide)]; rfl⟩
    ·
      have h8 := of_decide_eq_false hc11
      refine W_skip (X_then ?_)
      refine W_seq ?_
      refine W.pre (K' := [(0, _), (2, _), (3, _), (8, _), (11, _)]) (L' := [(0, _)]) ?_ ⟨rfl, ⟨rfl, ⟨rfl, ⟨rfl, ⟨rfl, trivial⟩⟩⟩⟩⟩ ⟨rfl, trivial⟩
      refine W_regL (WL_pure rfl rfl (by decide) (Pu_move rfl rfl) (WL_pure rfl rfl (by decide) (Pu_len (r := 0) rfl Try.runUnderlying33 rfl rfl hF) (WL_pure rfl rfl (by decide) (Pu_conv rfl rfl (conv_byte _ _ Try.runUnderlying3 Try.runUnderlying5)) (WL_cons rfl rfl (by decide) (OpT_buildOnes (r := 101) (bs [110, byte l.length]) rfl rfl Try.runUnderlying28 Try.sizeOf5 Try.zeroValue5 rfl rfl (by decide) rfl (bs_cells _) (fun v15 => (WL_pure rfl rfl (by decide) (Pu_assign rfl rfl) (WL_nil (X_then ?_)))))))))
      refine W_seq ?_
      refine W_seq ?_
      refine W.pre (K' := [(0, _), (2, _), (3, _), (4, _), (8, _), (11, _)]) (L' := [(0, _), (101, _)]) ?_ ⟨rfl, ⟨rfl, ⟨rfl, ⟨rfl, ⟨rfl, ⟨rfl, trivial⟩⟩⟩⟩⟩⟩ ⟨rfl, ⟨rfl, trivial⟩⟩
      refine W_regL (WL_pure rfl rfl (by decide) (Pu_assign rfl rfl) (WL_nil (X_then ?_)))
      refine W_block ?_
      refine W_loop (α := Nat × Value) (fun k => [(0, v), (4, k.2), (5, .int .i64 (k.1 : Int))]) (fun k => [(0, F), (101, rowB 5 k.2 (innerTo l k.1))]) (fun k => k.1 ≤ l.length) (fun k => l.length - k.1) ((0, v15)) (Nat.zero_le _) ⟨rfl, ⟨rfl, ⟨rfl, trivial⟩⟩⟩ ⟨rfl, ⟨rfl, trivial⟩⟩ (fun x hx => ?_)
      unfold rowB
      refine W_seq ?_
      refine W_seq ?_
      refine W.pre (K' := [(0, _), (4, _), (5, _)]) (L' := [(0, _), (101, _)]) ?_ ⟨rfl, ⟨rfl, ⟨rfl, trivial⟩⟩⟩ ⟨rfl, ⟨rfl, trivial⟩⟩
      refine W_regL (WL_pure rfl rfl (by decide) (Pu_move rfl rfl) (WL_pure rfl rfl (by decide) (Pu_move rfl rfl) (WL_pure rfl rfl (by decide) (Pu_len (r := 0) rfl Try.runUnderlying33 rfl rfl hF) (WL_pure rfl rfl (by decide) (Pu_bin rfl rfl rfl (run_lss _ _ _ _ _ _)) (WL_nil (X_then ?_))))))
      refine W_cond rfl (fun hc19 => ?_) (fun hc19 => ?_)
      ·
        have hlt : x.1 < l.length := by have := of_decide_eq_true hc19; omega
        have hid := hl.get hlt
        refine W_skip (X_then ?_)
        refine W_seq ?_
        refine W_block ?_
        refine W.pre (K' := [(0, _), (4, _), (5, _), (19, _)]) (L' := [(0, _), (101, _)]) ?_ ⟨rfl, ⟨rfl, ⟨rfl, ⟨rfl, trivial⟩⟩⟩⟩ ⟨rfl, ⟨rfl, trivial⟩⟩
        refine W_regL (WL_pure rfl rfl (by decide) (Pu_move rfl rfl) (WL_pure rfl rfl (by decide) (Pu_move rfl rfl) (WL_pure rfl rfl (by decide) (Pu_move rfl rfl) (WL_pure rfl rfl (by decide) (Pu_idxS (r := 0) rfl Try.runUnderlying33 Try.sizeOf25 rfl rfl rfl hF (by omega)) (WL_pure rfl rfl (by decide) (Pu_sliceArrE rfl Try.runUnderlying25 Try.sizeOf5 rfl) (WL_cons rfl rfl (by decide) (OpT_append (r := 101) (r2 := 0) rfl Try.underlying28 TI.hi5 TI.hz5 TI.hs5 TI.hby5 TI.hzs5 (by decide) rfl rfl rfl rfl (fun h hp => rdP_cast (rd_id (k := x.1) (hF h hp) hl hlt) rfl hid) (bs_one _) (by rw [innerTo_length hl hx]; unfold maxLen; omega) (by rw [innerTo_length hl hx]; omega) (fun v27 => ?_))))))))
        refine (WL_pure rfl rfl (by decide) (Pu_assign rfl rfl) (WL_nil (X_block (X_then ?_))))
        refine W.pre (K' := [(0, _), (4, _), (5, _), (19, _)]) (L' := [(0, _), (101, _)]) ?_ ⟨rfl, ⟨rfl, ⟨rfl, ⟨rfl, trivial⟩⟩⟩⟩ ⟨rfl, ⟨rfl, trivial⟩⟩
        refine W_regL (WL_pure rfl rfl (by decide) (Pu_move rfl rfl) (WL_pure rfl rfl (by decide) (Pu_bin rfl rfl rfl (run_add _ _ _ _ _ (by omega))) (WL_pure rfl rfl (by decide) (Pu_assign rfl rfl) (WL_nil ?_))))
        exact X_round (x.1 + 1, v27) (by show x.1 + 1 ≤ l.length; omega) (by show l.length - (x.1 + 1) < _; omega) ⟨rfl, ⟨rfl, ⟨rfl, trivial⟩⟩⟩ ⟨rfl, look_eq rfl (rowB_of (innerTo l (x.1 + 1)) (by rw [innerTo_succ hlt, List.length_append, hid]) (by rw [innerTo_succ hlt, bs_append])), trivial⟩
      ·
        have hfin : x.1 = l.length := by have := of_decide_eq_false hc19; omega
        refine W_exit (X_then_exit (X_then_exit (X_block_exit (X_then ?_))))
        refine W_seq ?_
        refine W.pre (K' := [(0, _), (4, _), (5, _), (19, _)]) (L' := [(0, _), (101, _)]) ?_ ⟨rfl, ⟨rfl, ⟨rfl, ⟨rfl, trivial⟩⟩⟩⟩ ⟨rfl, ⟨rfl, trivial⟩⟩
        refine W_regL (WL_pure rfl rfl (by decide) (Pu_move rfl rfl) (WL_pure rfl rfl (by decide) (Pu_assign rfl rfl) (WL_pure rfl rfl (by decide) (Pu_assign rfl rfl) (WL_nil (X_then ?_)))))
        refine W_ret ?_
        have hE : innerE l = 0 := by unfold innerE; rw [if_neg (by omega), if_neg (by omega)]
        exact X_ret [101] (Ps := [_]) (res2 Try.results11 rfl rfl) rfl (by decide) ⟨_, by rw [hE], by rw [innerR, if_pos hE, ← hfin]⟩
end Go.Proofs.Ytnhidehpacidnaa
