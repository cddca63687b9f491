/- Blocks: bytes with some turned. -/
import Derived.Test.YtnhidehpacidnaaBlobI
import Derived.Test.YtnhidehpacidnaaSl7
import Derived.Test.YtnhidehpacidnaaBlob2
namespace Go.Proofs.Ytnhidehpacidnaa
open Go.RowKit
set_option linter.unusedVariables false

theorem within_spec (a n : Int) (hn : 0 < n) (hn2 : n < 9223372036854775808) (F : HP) : CallsS Try.prog 8 #[.int .i64 a, .int .i64 n] F [] (fun v Ps => v = .int .i64 (a % n) ∧ Ps = []) := by
  have htb := tmod_bounds a hn
  refine callsS_enter Try.func8 rfl Try.ntmps8 (by simp) (fun E => ?_)
  refine W_seq ?_
  refine W.pre (K' := [(0, _), (1, _)]) (L' := [(0, _)]) ?_ ⟨rfl, ⟨rfl, trivial⟩⟩ ⟨rfl, trivial⟩
  refine W_regL (WL_pure rfl rfl (by decide) (Pu_assign rfl rfl) (WL_nil (X_then ?_)))
  refine W_seq ?_
  refine W.pre (K' := [(0, _), (1, _), (4, _)]) (L' := [(0, _)]) ?_ ⟨rfl, ⟨rfl, ⟨rfl, trivial⟩⟩⟩ ⟨rfl, trivial⟩
  refine W_regL (WL_pure rfl rfl (by decide) (Pu_move rfl rfl) (WL_pure rfl rfl (by decide) (Pu_move rfl rfl) (WL_pure rfl rfl (by decide) (Pu_bin rfl rfl rfl (run_tmod _ _ _ _ _ (by omega))) (WL_pure rfl rfl (by decide) (Pu_assign rfl rfl) (WL_nil (X_then ?_))))))
  refine W_seq ?_
  refine W_seq ?_
  refine W.pre (K' := [(0, _), (1, _), (4, _), (5, _)]) (L' := [(0, _)]) ?_ ⟨rfl, ⟨rfl, ⟨rfl, ⟨rfl, trivial⟩⟩⟩⟩ ⟨rfl, trivial⟩
  refine W_regL (WL_pure rfl rfl (by decide) (Pu_move rfl rfl) (WL_pure rfl rfl (by decide) (Pu_bin rfl rfl rfl (run_lss _ _ _ _ _ _)) (WL_nil (X_then ?_))))
  refine W_cond rfl (fun hc10 => ?_) (fun hc10 => ?_)
  ·
    have hlt := of_decide_eq_true hc10
    refine W.pre (K' := [(0, _), (1, _), (4, _), (5, _), (10, _)]) (L' := [(0, _)]) ?_ ⟨rfl, ⟨rfl, ⟨rfl, ⟨rfl, ⟨rfl, trivial⟩⟩⟩⟩⟩ ⟨rfl, trivial⟩
    refine W_regL (WL_pure rfl rfl (by decide) (Pu_move rfl rfl) (WL_pure rfl rfl (by decide) (Pu_move rfl rfl) (WL_pure rfl rfl (by decide) (Pu_bin rfl rfl rfl (run_add _ _ _ _ _ (by omega))) (WL_pure rfl rfl (by decide) (Pu_assign rfl rfl) (WL_nil (X_then ?_))))))
    refine W_seq ?_
    refine W.pre (K' := [(0, _), (1, _), (4, _), (5, _), (10, _)]) (L' := [(0, _)]) ?_ ⟨rfl, ⟨rfl, ⟨rfl, ⟨rfl, ⟨rfl, trivial⟩⟩⟩⟩⟩ ⟨rfl, trivial⟩
    refine W_regL (WL_pure rfl rfl (by decide) (Pu_move rfl rfl) (WL_pure rfl rfl (by decide) (Pu_assign rfl rfl) (WL_nil (X_then ?_))))
    refine W_ret ?_
    exact X_ret [] (Ps := []) (res1 Try.results8 rfl) rfl (by decide) ⟨int_val (emod_neg hn (of_decide_eq_true hc10)), rfl⟩
  ·
    refine W_skip (X_then ?_)
    refine W_seq ?_
    refine W.pre (K' := [(0, _), (1, _), (4, _), (5, _), (10, _)]) (L' := [(0, _)]) ?_ ⟨rfl, ⟨rfl, ⟨rfl, ⟨rfl, ⟨rfl, trivial⟩⟩⟩⟩⟩ ⟨rfl, trivial⟩
    refine W_regL (WL_pure rfl rfl (by decide) (Pu_move rfl rfl) (WL_pure rfl rfl (by decide) (Pu_assign rfl rfl) (WL_nil (X_then ?_))))
    refine W_ret ?_
    exact X_ret [] (Ps := []) (res1 Try.results8 rfl) rfl (by decide) ⟨int_val (emod_pos hn (of_decide_eq_false hc10)), rfl⟩
theorem bend_spec (vb vat vby vr : Value) (x : List UInt8) (at_ : List Int) (by_ : List UInt8) (cut : Int) (raw : List UInt8) (F : HP) (hFb : ∀ h, F h → rdB vb x h) (hFat : ∀ h, F h → rdN vat at_ h) (hFby : ∀ h, F h → rdB vby by_ h) (hFr : ∀ h, F h → rdB vr raw h)
    (hx1 : x.length ≤ 100000) (hr1 : raw.length ≤ 100000) (hc : -9223372036854775808 ≤ cut ∧ cut ≤ 9223372036854775807) :
    CallsS Try.prog 12 #[vb, vat, vby, .int .i64 cut, vr] F [] (fun r Ps => ∃ vx vy PX, Ps = [rowP 28 1 r 4 [vx, vy, vr, vb], PX, rowB 5 vy (bentX x at_ by_ cut ++ raw)] ∧ ∀ h, PX h → rdB vx (bentX x at_ by_ cut) h) := by
  refine callsS_enter Try.func12 rfl Try.ntmps12 (by simp) (fun E => ?_)
  refine W_seq ?_
  refine W.pre (K' := [(0, _), (1, _), (2, _), (3, _), (4, _)]) (L' := [(0, _)]) ?_ ⟨rfl, ⟨rfl, ⟨rfl, ⟨rfl, ⟨rfl, trivial⟩⟩⟩⟩⟩ ⟨rfl, trivial⟩
  refine W_regL (WL_pure rfl rfl (by decide) (Pu_assign rfl rfl) (WL_nil (X_then ?_)))
  refine W_seq ?_
  refine W.pre (K' := [(0, _), (1, _), (2, _), (3, _), (4, _), (10, _)]) (L' := [(0, _)]) ?_ ⟨rfl, ⟨rfl, ⟨rfl, ⟨rfl, ⟨rfl, ⟨rfl, trivial⟩⟩⟩⟩⟩⟩ ⟨rfl, trivial⟩
  refine W_regL (WL_cons rfl rfl (by decide) (OpT_buildOnes (r := 101) [] rfl rfl Try.runUnderlying28 Try.sizeOf5 Try.zeroValue5 rfl rfl (by decide) rfl (by simp [Value.cells]) (fun v13 => (WL_pure rfl rfl (by decide) (Pu_move rfl rfl) (WL_cons rfl rfl (by decide) (OpT_append (r := 101) (r2 := 0) (k1 := 0) rfl Try.underlying28 TI.hi5 TI.hz5 TI.hs5 TI.hby5 TI.hzs5 (by decide) rfl rfl rfl rfl hFb (bs_one _) (by unfold maxLen; omega) (by omega) (fun v15 => ?_)))))))
  refine (WL_pure rfl rfl (by decide) (Pu_assign rfl rfl) (WL_nil (X_then ?_)))
  refine W_seq ?_
  refine W_seq ?_
  refine W.pre (K' := [(0, _), (1, _), (2, _), (3, _), (4, _), (10, _), (11, _)]) (L' := [(0, _), (101, _)]) ?_ ⟨rfl, ⟨rfl, ⟨rfl, ⟨rfl, ⟨rfl, ⟨rfl, ⟨rfl, trivial⟩⟩⟩⟩⟩⟩⟩ ⟨rfl, ⟨rfl, trivial⟩⟩
  refine W_regL (WL_pure rfl rfl (by decide) (Pu_assign rfl rfl) (WL_nil (X_then ?_)))
  refine W_block ?_
  have hv15 := List.nil_append (bs x)
  refine W_loop (α := Nat) (fun k => [(0, vb), (1, vat), (2, vby), (3, .int .i64 cut), (4, vr), (11, v15), (12, .int .i64 (k : Int))]) (fun k => [(0, F), (101, rowB 5 v15 (turnTo x at_ by_ k))]) (fun k => k ≤ turnN x at_ by_) (fun k => turnN x at_ by_ - k) (0) (Nat.zero_le _) ⟨rfl, ⟨rfl, ⟨rfl, ⟨rfl, ⟨rfl, ⟨rfl, ⟨rfl, trivial⟩⟩⟩⟩⟩⟩⟩ ⟨rfl, look_eq rfl (rowB_of x (by omega) hv15), trivial⟩ (fun k hx => ?_)
  unfold rowB
  have hk := hx
  refine W_seq ?_
  refine W_seq ?_
  refine W.pre (K' := [(0, _), (1, _), (2, _), (3, _), (4, _), (11, _), (12, _)]) (L' := [(0, _), (101, _)]) ?_ ⟨rfl, ⟨rfl, ⟨rfl, ⟨rfl, ⟨rfl, ⟨rfl, ⟨rfl, trivial⟩⟩⟩⟩⟩⟩⟩ ⟨rfl, ⟨rfl, trivial⟩⟩
  refine W_regL (WL_pure rfl rfl (by decide) (Pu_move rfl rfl) (WL_pure rfl rfl (by decide) (Pu_move rfl rfl) (WL_pure rfl rfl (by decide) (Pu_len (r := 0) rfl Try.runUnderlying34 rfl rfl hFat) (WL_pure rfl rfl (by decide) (Pu_bin rfl rfl rfl (run_lss _ _ _ _ _ _)) (WL_pure rfl rfl (by decide) (Pu_move rfl rfl) (WL_guardP rfl rfl rfl rfl (by decide) (fun hb => (Pu_move rfl rfl)) (WL_guardP rfl rfl rfl rfl (by decide) (fun hb => (Pu_move rfl rfl)) (WL_guardP rfl rfl rfl rfl (by decide) (fun hb => (Pu_len (r := 0) rfl Try.runUnderlying28 (ev_gv rfl hb) rfl hFby)) (WL_guardP rfl rfl rfl rfl (by decide) (fun hb => (Pu_bin rfl (ev_gv rfl hb) (ev_gv rfl hb) (run_lss _ _ _ _ _ _))) (WL_pure rfl rfl (by decide) (Pu_and rfl rfl rfl) (WL_pure rfl rfl (by decide) (Pu_move rfl rfl) (WL_guardP rfl rfl rfl rfl (by decide) (fun hb => (Pu_move rfl rfl)) (WL_guardP rfl rfl rfl rfl (by decide) (fun hb => (Pu_bin rfl (ev_gv rfl hb) rfl (run_lss _ _ _ _ _ _))) (WL_pure rfl rfl (by decide) (Pu_and rfl rfl rfl) (WL_pure rfl rfl (by decide) (Pu_move rfl rfl) (WL_guardP rfl rfl rfl rfl (by decide) (fun hb => (Pu_move rfl rfl)) (WL_guardP rfl rfl rfl rfl (by decide) (fun hb => (Pu_len (r := 101) rfl Try.runUnderlying28 (ev_gv rfl hb) rfl (fun _ h => rowP_rd h))) (WL_guardP rfl rfl rfl rfl (by decide) (fun hb => (Pu_bin rfl (ev_gv rfl hb) rfl (run_gtr _ _ _ _ _ _))) (WL_pure rfl rfl (by decide) (Pu_and rfl rfl rfl) (WL_nil (X_then ?_)))))))))))))))))))))
  refine W_cond rfl (fun hc34 => ?_) (fun hc34 => ?_)
  ·
    have hg := turn_guard hc34
    obtain ⟨g1, g2, g3, g4⟩ := hg
    have hlx : (turnTo x at_ by_ k).length ≤ 100000 := by rw [turnTo_length]; exact hx1
    have hp : 0 < x.length := by rw [turnTo_length] at g4; exact g4
    have hm0 := Int.emod_nonneg (at_.getD k 0) (show ((turnTo x at_ by_ k).length : Int) ≠ 0 by omega)
    have hm1 := Int.emod_lt_of_pos (at_.getD k 0) (show 0 < ((turnTo x at_ by_ k).length : Int) by omega)
    refine W_skip (X_then ?_)
    refine W_seq ?_
    refine W_block ?_
    refine W.pre (K' := [(0, _), (1, _), (2, _), (3, _), (4, _), (11, _), (12, _), (34, _)]) (L' := [(0, _), (101, _)]) ?_ ⟨rfl, ⟨rfl, ⟨rfl, ⟨rfl, ⟨rfl, ⟨rfl, ⟨rfl, ⟨rfl, trivial⟩⟩⟩⟩⟩⟩⟩⟩ ⟨rfl, ⟨rfl, trivial⟩⟩
    refine W_draw (N := 17) (by kernel_rfl) rfl [(0, _)] ⟨rfl, trivial⟩ ?_
    refine (AH_take 0 rfl (by kernel_rfl) (by kernel_rfl) (by kernel_rfl) rfl rfl (by decide) (Pu_move rfl rfl) (AH_take 1 rfl (by kernel_rfl) (by kernel_rfl) (by kernel_rfl) rfl rfl (by decide) (Pu_move rfl rfl) (AH_take 2 rfl (by kernel_rfl) (by kernel_rfl) (by kernel_rfl) rfl rfl (by decide) (Pu_move rfl rfl) (AH_take 3 rfl (by kernel_rfl) (by kernel_rfl) (by kernel_rfl) rfl rfl (by decide) (Pu_idxS1 (r := 0) rfl Try.runUnderlying34 Try.sizeOf3 rfl rfl rfl hFat (by omega)) (AH_take 4 rfl (by kernel_rfl) (by kernel_rfl) (by kernel_rfl) rfl rfl (by decide) (Pu_loadS (r := 0) rfl Try.isAgg3 rfl rfl hFat (is_at (k := k) g1)) (AH_take 5 rfl (by kernel_rfl) (by kernel_rfl) (by kernel_rfl) rfl rfl (by decide) (Pu_move rfl rfl) (AH_take 10 rfl (by kernel_rfl) (by kernel_rfl) (by kernel_rfl) rfl rfl (by decide) (Pu_move rfl rfl) (AH_take 11 rfl (by kernel_rfl) (by kernel_rfl) (by kernel_rfl) rfl rfl (by decide) (Pu_move rfl rfl) (AH_take 12 rfl (by kernel_rfl) (by kernel_rfl) (by kernel_rfl) rfl rfl (by decide) (Pu_idxS1 (r := 0) rfl Try.runUnderlying28 Try.sizeOf5 rfl rfl rfl hFby (by omega)) (AH_take 13 rfl (by kernel_rfl) (by kernel_rfl) (by kernel_rfl) rfl rfl (by decide) (Pu_loadS (r := 0) rfl Try.isAgg5 rfl rfl hFby (bs_at1 (k := k) g2)) (AH_ready [6] (by kernel_rfl) (by decide) ?_)))))))))))
    refine AHs_cons rfl rfl rfl (by decide) (OpT_run (Pu_len (r := 101) rfl Try.runUnderlying28 rfl rfl (fun _ h => rowP_rd h)) ⟨⟨rfl, trivial⟩, ?_⟩) ?_
    ·
      refine (AH_ready [7] (by kernel_rfl) (by decide) ?_)
      refine AHs_cons rfl rfl rfl (by decide) (OpT_call 200 [0, 101] [] rfl Try.call8 rfl rfl rfl (by decide) (by decide) (within_spec _ _ (by omega) (by omega) _) (fun v44 Ps44 hR44 => ?_)) ?_
      ·
        obtain ⟨rfl, rfl⟩ := hR44
        refine ⟨⟨rfl, trivial⟩, ?_⟩
        refine (AH_ready [8] (by kernel_rfl) (by decide) ?_)
        refine AHs_cons rfl rfl rfl (by decide) (OpT_run (Pu_idxS1 (r := 101) rfl Try.runUnderlying28 Try.sizeOf5 rfl rfl rfl (fun _ h => rowP_rd h) ⟨hm0, hm1⟩) ⟨⟨rfl, trivial⟩, ?_⟩) ?_
        ·
          refine (AH_ready [9] (by kernel_rfl) (by decide) ?_)
          refine AHs_cons rfl rfl rfl (by decide) (OpT_run (Pu_loadS (r := 101) rfl Try.isAgg5 rfl rfl (fun _ h => rowP_rd h) (bs_at1 (by omega))) ⟨⟨rfl, trivial⟩, ?_⟩) ?_
          ·
            refine (AH_take 14 rfl (by kernel_rfl) (by kernel_rfl) (by kernel_rfl) rfl rfl (by decide) (Pu_bin rfl rfl rfl (run_addU8 _ _ _ _ _)) (AH_ready [15] (by kernel_rfl) (by decide) ?_))
            refine AHs_cons rfl rfl rfl (by decide) (OpT_run (Pu_idxS1 (r := 101) rfl Try.runUnderlying28 Try.sizeOf5 rfl rfl rfl (fun _ h => rowP_rd h) ⟨hm0, hm1⟩) ⟨⟨rfl, trivial⟩, ?_⟩) ?_
            ·
              refine (AH_ready [16] (by kernel_rfl) (by decide) ?_)
              refine AHs_cons0 rfl rfl rfl (OpT_storeS1 (r := 101) rfl Try.sizeOf5 rfl rfl rfl rfl (by rw [bs_length]; omega) (turnTo_set x at_ by_ k) ?_) ?_
              ·
                refine ⟨⟨rfl, trivial⟩, ?_⟩
                refine (AH_done (by kernel_rfl) (X_block (X_then ?_)))
                refine W.pre (K' := [(0, _), (1, _), (2, _), (3, _), (4, _), (11, _), (12, _), (34, _)]) (L' := [(0, _), (101, _)]) ?_ ⟨rfl, ⟨rfl, ⟨rfl, ⟨rfl, ⟨rfl, ⟨rfl, ⟨rfl, ⟨rfl, trivial⟩⟩⟩⟩⟩⟩⟩⟩ ⟨rfl, ⟨rfl, trivial⟩⟩
                refine W_regL (WL_pure rfl rfl (by decide) (Pu_move rfl rfl) (WL_pure rfl rfl (by decide) (Pu_bin rfl rfl rfl (run_add _ _ _ _ _ (by omega))) (WL_pure rfl rfl (by decide) (Pu_assign rfl rfl) (WL_nil ?_))))
                exact X_round (k + 1) (turn_le g1 g2 g3 hp) (by have := turn_le g1 g2 g3 hp; omega) ⟨rfl, rfl, rfl, rfl, rfl, rfl, rfl, trivial⟩ ⟨rfl, look_eq rfl (rowB_of (turnTo x at_ by_ (k + 1)) (by rw [turnTo_length, turnTo_length]) rfl), trivial⟩
              exact AHs_nil
            exact AHs_nil
          exact AHs_nil
        exact AHs_nil
      exact AHs_nil
    exact AHs_nil
  ·
    have hfin := turn_end hk hc34
    have hlx : (turnTo x at_ by_ k).length ≤ 100000 := by rw [turnTo_length]; exact hx1
    refine W_exit (X_then_exit (X_then_exit (X_block_exit (X_then ?_))))
    refine W_seq ?_
    refine W_seq ?_
    refine W.pre (K' := [(0, _), (1, _), (2, _), (3, _), (4, _), (11, _), (12, _), (34, _)]) (L' := [(0, _), (101, _)]) ?_ ⟨rfl, ⟨rfl, ⟨rfl, ⟨rfl, ⟨rfl, ⟨rfl, ⟨rfl, ⟨rfl, trivial⟩⟩⟩⟩⟩⟩⟩⟩ ⟨rfl, ⟨rfl, trivial⟩⟩
    refine W_regL (WL_pure rfl rfl (by decide) (Pu_move rfl rfl) (WL_pure rfl rfl (by decide) (Pu_bin rfl rfl rfl (run_tmod _ _ _ _ _ (by omega))) (WL_pure rfl rfl (by decide) (Pu_bin rfl rfl rfl (run_eql _ _ _ _ _ _)) (WL_nil (X_then ?_)))))
    refine W_cond rfl (fun hc55 => ?_) (fun hc55 => ?_)
    ·
      have hodd := of_decide_eq_true hc55
      have hcp := tmod_odd hodd
      have hq0 := Int.ediv_nonneg (a := cut) (b := 2) (by omega) (by omega)
      have hq1 : cut / 2 ≤ cut := Int.ediv_le_self _ (by omega)
      have hm2 := Int.emod_nonneg (cut / 2) (show ((turnTo x at_ by_ k).length : Int) + 1 ≠ 0 by omega)
      have hm3 := Int.emod_lt_of_pos (cut / 2) (show 0 < ((turnTo x at_ by_ k).length : Int) + 1 by omega)
      refine W.pre (K' := [(0, _), (1, _), (2, _), (3, _), (4, _), (11, _), (12, _), (34, _), (55, _)]) (L' := [(0, _), (101, _)]) ?_ ⟨rfl, ⟨rfl, ⟨rfl, ⟨rfl, ⟨rfl, ⟨rfl, ⟨rfl, ⟨rfl, ⟨rfl, trivial⟩⟩⟩⟩⟩⟩⟩⟩⟩ ⟨rfl, ⟨rfl, trivial⟩⟩
      refine W_regL (WL_pure rfl rfl (by decide) (Pu_move rfl rfl) (WL_pure rfl rfl (by decide) (Pu_move rfl rfl) (WL_pure rfl rfl (by decide) (Pu_bin rfl rfl rfl (run_quo _ _ _ _ _ (by omega))) (WL_pure rfl rfl (by decide) (Pu_move rfl rfl) (WL_pure rfl rfl (by decide) (Pu_len (r := 101) rfl Try.runUnderlying28 rfl rfl (fun _ h => rowP_rd h)) (WL_pure rfl rfl (by decide) (Pu_bin rfl rfl rfl (run_add _ _ _ _ _ (by rw [turnTo_length]; omega))) (WL_cons rfl rfl (by decide) (OpT_call 200 [0, 101] [] rfl Try.call8 rfl rfl rfl (by decide) (by decide) (within_spec _ _ (by omega) (by rw [turnTo_length]; omega) _) (fun v62 Ps62 hR62 => ?_)))))))))
      obtain ⟨rfl, rfl⟩ := hR62
      refine (WL_pure rfl rfl (by decide) (Pu_slice (r := 101) (b := ((cut / 2) % ((turnTo x at_ by_ k).length + 1)).toNat) rfl Try.runUnderlying28 Try.sizeOf5 rfl rfl (fun _ h => rowP_rd h) (.inl ⟨rfl, rfl⟩) (.inr ⟨_, _, _, rfl, rfl, (by omega)⟩) (Nat.zero_le _) (by omega)) (WL_pure rfl rfl (by decide) (Pu_assign rfl rfl) (WL_nil (X_then ?_))))
      refine W_seq ?_
      refine W.pre (K' := [(0, _), (1, _), (2, _), (3, _), (4, _), (11, _), (12, _), (34, _), (55, _)]) (L' := [(0, _), (101, _)]) ?_ ⟨rfl, ⟨rfl, ⟨rfl, ⟨rfl, ⟨rfl, ⟨rfl, ⟨rfl, ⟨rfl, ⟨rfl, trivial⟩⟩⟩⟩⟩⟩⟩⟩⟩ ⟨rfl, ⟨rfl, trivial⟩⟩
      refine W_fact (r := 101) rfl (fun h hp => rd_one ((fun h hp => rdB_front (b := ((cut / 2) % ((turnTo x at_ by_ k).length + 1)).toNat) (rowP_rd hp) (by omega)) h hp)) (fun hs0 => ?_)
      refine W_fact (r := 0) rfl (fun h hp => rd_one (hFb h hp)) (fun hs1 => ?_)
      refine W_fact (r := 0) rfl (fun h hp => rd_one (hFr h hp)) (fun hs2 => ?_)
      have hbl : ((turnTo x at_ by_ k).take ((cut / 2) % ((turnTo x at_ by_ k).length + 1)).toNat).length ≤ 100000 := by rw [List.length_take]; rw [turnTo_length]; omega
      refine W_regL (WL_pure rfl rfl (by decide) (Pu_move rfl rfl) (WL_cons rfl rfl (by decide) (OpT_buildOnes (r := 201) [] rfl rfl Try.runUnderlying28 Try.sizeOf5 Try.zeroValue5 rfl rfl (by decide) rfl (by simp [Value.cells]) (fun v65 => (WL_pure rfl rfl (by decide) (Pu_move rfl rfl) (WL_cons rfl rfl (by decide) (OpT_append (r := 201) (r2 := 101) (k1 := 0) rfl Try.underlying28 TI.hi5 TI.hz5 TI.hs5 TI.hby5 TI.hzs5 (by decide) rfl rfl rfl rfl (fun h hp => rdB_front (b := ((cut / 2) % ((turnTo x at_ by_ k).length + 1)).toNat) (rowP_rd hp) (by omega)) (bs_one _) (by unfold maxLen; omega) (by omega) (fun v67 => ?_))))))))
      refine (WL_pure rfl rfl (by decide) (Pu_move rfl rfl) (WL_cons rfl rfl (by decide) (OpT_append (r := 201) (r2 := 0) rfl Try.underlying28 TI.hi5 TI.hz5 TI.hs5 TI.hby5 TI.hzs5 (by decide) rfl rfl rfl rfl hFr (bs_one _) (by unfold maxLen; omega) (by omega) (fun v69 => ?_))))
      refine WL_fact (r := 201) rfl (fun h hp => rd_one (rowP_rd hp)) (fun hs3 => ?_)
      refine (WL_pure rfl rfl (by decide) (Pu_move rfl rfl) (WL_pure rfl rfl (by decide) (Pu_move rfl rfl) (WL_cons rfl rfl (by decide) (OpT_buildOnes (r := 202) [_, _, _, _] rfl rfl Try.runUnderlying38 Try.sizeOf28 Try.zeroValue28 rfl rfl (by decide) rfl (by intro u hu; simp only [List.mem_cons, List.not_mem_nil, or_false] at hu; rcases hu with rfl | rfl | rfl | rfl <;> (apply cells_one; assumption)) (fun v72 => (WL_pure rfl rfl (by decide) (Pu_assign rfl rfl) (WL_nil (X_then ?_))))))))
      refine W_ret ?_
      have hB : (turnTo x at_ by_ k).take ((cut / 2) % ((turnTo x at_ by_ k).length + 1)).toNat = bentX x at_ by_ cut := by unfold bentX turned; rw [if_pos hodd, ← hfin]
      exact X_ret [202, 101, 201] (Ps := [_, _, _]) (res1 Try.results12 rfl) rfl (by decide) ⟨_, _, _, congrArg (fun q => [_, _, q]) (rowB_of (bentX x at_ by_ cut ++ raw) (by rw [← hB]; simp) (by rw [← hB, bs_append, List.nil_append])), by rw [← hB]; exact (fun h hp => rdB_front (b := ((cut / 2) % ((turnTo x at_ by_ k).length + 1)).toNat) (rowP_rd hp) (by omega))⟩
    ·
      have hodd := of_decide_eq_false hc55
      refine W_skip (X_then ?_)
      refine W_seq ?_
      refine W.pre (K' := [(0, _), (1, _), (2, _), (3, _), (4, _), (11, _), (12, _), (34, _), (55, _)]) (L' := [(0, _), (101, _)]) ?_ ⟨rfl, ⟨rfl, ⟨rfl, ⟨rfl, ⟨rfl, ⟨rfl, ⟨rfl, ⟨rfl, ⟨rfl, trivial⟩⟩⟩⟩⟩⟩⟩⟩⟩ ⟨rfl, ⟨rfl, trivial⟩⟩
      refine W_fact (r := 101) rfl (fun h hp => rd_one ((fun _ h => rowP_rd h) h hp)) (fun hs0 => ?_)
      refine W_fact (r := 0) rfl (fun h hp => rd_one (hFb h hp)) (fun hs1 => ?_)
      refine W_fact (r := 0) rfl (fun h hp => rd_one (hFr h hp)) (fun hs2 => ?_)
      have hbl : (turnTo x at_ by_ k).length ≤ 100000 := by rw [turnTo_length]; omega
      refine W_regL (WL_pure rfl rfl (by decide) (Pu_move rfl rfl) (WL_cons rfl rfl (by decide) (OpT_buildOnes (r := 102) [] rfl rfl Try.runUnderlying28 Try.sizeOf5 Try.zeroValue5 rfl rfl (by decide) rfl (by simp [Value.cells]) (fun v65 => (WL_pure rfl rfl (by decide) (Pu_move rfl rfl) (WL_cons rfl rfl (by decide) (OpT_append (r := 102) (r2 := 101) (k1 := 0) rfl Try.underlying28 TI.hi5 TI.hz5 TI.hs5 TI.hby5 TI.hzs5 (by decide) rfl rfl rfl rfl (fun _ h => rowP_rd h) (bs_one _) (by unfold maxLen; omega) (by omega) (fun v67 => ?_))))))))
      refine (WL_pure rfl rfl (by decide) (Pu_move rfl rfl) (WL_cons rfl rfl (by decide) (OpT_append (r := 102) (r2 := 0) rfl Try.underlying28 TI.hi5 TI.hz5 TI.hs5 TI.hby5 TI.hzs5 (by decide) rfl rfl rfl rfl hFr (bs_one _) (by unfold maxLen; omega) (by omega) (fun v69 => ?_))))
      refine WL_fact (r := 102) rfl (fun h hp => rd_one (rowP_rd hp)) (fun hs3 => ?_)
      refine (WL_pure rfl rfl (by decide) (Pu_move rfl rfl) (WL_pure rfl rfl (by decide) (Pu_move rfl rfl) (WL_cons rfl rfl (by decide) (OpT_buildOnes (r := 103) [_, _, _, _] rfl rfl Try.runUnderlying38 Try.sizeOf28 Try.zeroValue28 rfl rfl (by decide) rfl (by intro u hu; simp only [List.mem_cons, List.not_mem_nil, or_false] at hu; rcases hu with rfl | rfl | rfl | rfl <;> (apply cells_one; assumption)) (fun v72 => (WL_pure rfl rfl (by decide) (Pu_assign rfl rfl) (WL_nil (X_then ?_))))))))
      refine W_ret ?_
      have hB : turnTo x at_ by_ k = bentX x at_ by_ cut := by unfold bentX turned; rw [if_neg hodd, ← hfin]
      exact X_ret [103, 101, 102] (Ps := [_, _, _]) (res1 Try.results12 rfl) rfl (by decide) ⟨_, _, _, congrArg (fun q => [_, _, q]) (rowB_of (bentX x at_ by_ cut ++ raw) (by rw [← hB]; simp) (by rw [← hB, bs_append, List.nil_append])), by rw [← hB]; exact (fun _ h => rowP_rd h)⟩
end Go.Proofs.Ytnhidehpacidnaa
