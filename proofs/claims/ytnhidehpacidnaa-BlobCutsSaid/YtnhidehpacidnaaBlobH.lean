/- Blocks: inner blocks read. -/
import Derived.Test.YtnhidehpacidnaaBlobG
import Derived.Test.YtnhidehpacidnaaBlob1
namespace Go.Proofs.Ytnhidehpacidnaa
open Go.RowKit
set_option linter.unusedVariables false

theorem parseInner_spec (v : Value) (l : List UInt8) (F : HP) (hF : ∀ h, F h → rdB v l h) : CallsS Try.prog 13 #[v] F [] (fun r Ps => ∃ v', r = .tuple #[v', .int .i64 (parseNE l)] ∧ Ps = [rowI 25 v' (parseNL l)]) := by
  refine callsS_enter Try.func13 rfl Try.ntmps13 (by simp) (fun E => ?_)
  refine W_seq ?_
  refine W.pre (K' := [(0, _)]) (L' := [(0, _)]) ?_ ⟨rfl, trivial⟩ ⟨rfl, trivial⟩
  refine W_regL (WL_pure rfl rfl (by decide) (Pu_assign rfl rfl) (WL_pure rfl rfl (by decide) (Pu_assign rfl rfl) (WL_nil (X_then ?_))))
  refine W_seq ?_
  refine W_seq ?_
  refine W.pre (K' := [(0, _), (2, _), (3, _)]) (L' := [(0, _)]) ?_ ⟨rfl, ⟨rfl, ⟨rfl, trivial⟩⟩⟩ ⟨rfl, trivial⟩
  refine W_regL (WL_pure rfl rfl (by decide) (Pu_move rfl rfl) (WL_pure rfl rfl (by decide) (Pu_len (r := 0) rfl Try.runUnderlying28 rfl rfl hF) (WL_pure rfl rfl (by decide) (Pu_bin rfl rfl rfl (run_lss _ _ _ _ _ _)) (WL_nil (X_then ?_)))))
  refine W_cond rfl (fun hc10 => ?_) (fun hc10 => ?_)
  ·
    refine W_seq ?_
    refine W.pre (K' := [(0, _), (2, _), (3, _), (10, _)]) (L' := [(0, _)]) ?_ ⟨rfl, ⟨rfl, ⟨rfl, ⟨rfl, trivial⟩⟩⟩⟩ ⟨rfl, trivial⟩
    refine W_regL (WL_pure rfl rfl (by decide) (Pu_assign rfl rfl) (WL_pure rfl rfl (by decide) (Pu_assign rfl rfl) (WL_nil (X_then ?_))))
    refine W_ret (X_then_ret ?_)
    have hE := parseNE_cut hc10
    refine X_nilRow 9900 25 32 ?_
    exact X_ret [9900] (Ps := [_]) (res2 Try.results13 rfl rfl) rfl (by decide) ⟨_, by rw [hE], by rw [parseNL_err hE (by decide)]; rfl⟩
  ·
    have h2 : 2 ≤ l.length := by have := of_decide_eq_false hc10; omega
    have hx1 := (at0 l 1).toNat_lt
    refine W_skip (X_then ?_)
    refine W_seq ?_
    refine W.pre (K' := [(0, _), (2, _), (3, _), (10, _)]) (L' := [(0, _)]) ?_ ⟨rfl, ⟨rfl, ⟨rfl, ⟨rfl, trivial⟩⟩⟩⟩ ⟨rfl, trivial⟩
    refine W_regL (WL_pure rfl rfl (by decide) (Pu_move rfl rfl) (WL_pure rfl rfl (by decide) (Pu_idxS1 (r := 0) rfl Try.runUnderlying28 Try.sizeOf5 rfl rfl rfl hF (by omega)) (WL_pure rfl rfl (by decide) (Pu_loadS (r := 0) rfl Try.isAgg5 rfl rfl hF (bs_at1 (k := 1) (by omega))) (WL_pure rfl rfl (by decide) (Pu_conv rfl rfl (conv_u8 _ Try.runUnderlying5 Try.runUnderlying3)) (WL_pure rfl rfl (by decide) (Pu_assign rfl rfl) (WL_nil (X_then ?_)))))))
    refine W_seq ?_
    refine W.pre (K' := [(0, _), (2, _), (3, _), (4, _), (10, _)]) (L' := [(0, _)]) ?_ ⟨rfl, ⟨rfl, ⟨rfl, ⟨rfl, ⟨rfl, trivial⟩⟩⟩⟩⟩ ⟨rfl, trivial⟩
    refine W_regL (WL_pure rfl rfl (by decide) (Pu_move rfl rfl) (WL_pure rfl rfl (by decide) (Pu_bin rfl rfl rfl (run_mul _ _ _ _ _ (by omega))) (WL_pure rfl rfl (by decide) (Pu_bin rfl rfl rfl (run_add _ _ _ _ _ (by omega))) (WL_pure rfl rfl (by decide) (Pu_assign rfl rfl) (WL_nil (X_then ?_))))))
    refine W_seq ?_
    refine W_block ?_
    refine W_seq ?_
    refine W.pre (K' := [(0, _), (2, _), (3, _), (4, _), (5, _), (10, _)]) (L' := [(0, _)]) ?_ ⟨rfl, ⟨rfl, ⟨rfl, ⟨rfl, ⟨rfl, ⟨rfl, trivial⟩⟩⟩⟩⟩⟩ ⟨rfl, trivial⟩
    refine W_regL (WL_pure rfl rfl (by decide) (Pu_move rfl rfl) (WL_pure rfl rfl (by decide) (Pu_idxS1 (r := 0) rfl Try.runUnderlying28 Try.sizeOf5 rfl rfl rfl hF (by omega)) (WL_pure rfl rfl (by decide) (Pu_loadS (r := 0) rfl Try.isAgg5 rfl rfl hF (bs_at1 (k := 0) (by omega))) (WL_pure rfl rfl (by decide) (Pu_bin rfl rfl rfl (run_neq _ _ _ _ _ _)) (WL_pure rfl rfl (by decide) (Pu_move rfl rfl) (WL_guardP rfl rfl rfl rfl (by decide) (fun hb => (Pu_move rfl rfl)) (WL_guardP rfl rfl rfl rfl (by decide) (fun hb => (Pu_bin rfl (ev_gv rfl hb) rfl (run_lss _ _ _ _ _ _))) (WL_pure rfl rfl (by decide) (Pu_or rfl rfl rfl) (WL_pure rfl rfl (by decide) (Pu_move rfl rfl) (WL_guardP rfl rfl rfl rfl (by decide) (fun hb => (Pu_move rfl rfl)) (WL_guardP rfl rfl rfl rfl (by decide) (fun hb => (Pu_bin rfl (ev_gv rfl hb) rfl (run_gtr _ _ _ _ _ _))) (WL_pure rfl rfl (by decide) (Pu_or rfl rfl rfl) (WL_pure rfl rfl (by decide) (Pu_assign rfl rfl) (WL_nil (X_then ?_)))))))))))))))
    refine W_cond rfl (fun hc18 => ?_) (fun hc18 => ?_)
    ·
      refine W_seq ?_
      refine W.pre (K' := [(0, _), (2, _), (3, _), (4, _), (5, _), (10, _), (18, _)]) (L' := [(0, _)]) ?_ ⟨rfl, ⟨rfl, ⟨rfl, ⟨rfl, ⟨rfl, ⟨rfl, ⟨rfl, trivial⟩⟩⟩⟩⟩⟩⟩ ⟨rfl, trivial⟩
      refine W_regL (WL_pure rfl rfl (by decide) (Pu_assign rfl rfl) (WL_pure rfl rfl (by decide) (Pu_assign rfl rfl) (WL_nil (X_then ?_))))
      refine W_ret (X_block_ret (X_then_ret ?_))
      have hE := parseNE_bad hc10 hc18
      refine X_nilRow 9900 25 32 ?_
      exact X_ret [9900] (Ps := [_]) (res2 Try.results13 rfl rfl) rfl (by decide) ⟨_, by rw [hE], by rw [parseNL_err hE (by decide)]; rfl⟩
    ·
      obtain ⟨g0, g1, g8⟩ := parseN_good hc18
      refine W_seq ?_
      refine W.pre (K' := [(0, _), (2, _), (3, _), (4, _), (5, _), (10, _), (18, _)]) (L' := [(0, _)]) ?_ ⟨rfl, ⟨rfl, ⟨rfl, ⟨rfl, ⟨rfl, ⟨rfl, ⟨rfl, trivial⟩⟩⟩⟩⟩⟩⟩ ⟨rfl, trivial⟩
      refine W_regL (WL_pure rfl rfl (by decide) (Pu_move rfl rfl) (WL_pure rfl rfl (by decide) (Pu_len (r := 0) rfl Try.runUnderlying28 rfl rfl hF) (WL_pure rfl rfl (by decide) (Pu_move rfl rfl) (WL_pure rfl rfl (by decide) (Pu_bin rfl rfl rfl (run_lss _ _ _ _ _ _)) (WL_pure rfl rfl (by decide) (Pu_assign rfl rfl) (WL_nil (X_then ?_)))))))
      refine W_cond rfl (fun hc31 => ?_) (fun hc31 => ?_)
      ·
        have hlt := of_decide_eq_true hc31
        refine W_seq ?_
        refine W.pre (K' := [(0, _), (2, _), (3, _), (4, _), (5, _), (10, _), (18, _), (31, _)]) (L' := [(0, _)]) ?_ ⟨rfl, ⟨rfl, ⟨rfl, ⟨rfl, ⟨rfl, ⟨rfl, ⟨rfl, ⟨rfl, trivial⟩⟩⟩⟩⟩⟩⟩⟩ ⟨rfl, trivial⟩
        refine W_regL (WL_pure rfl rfl (by decide) (Pu_assign rfl rfl) (WL_pure rfl rfl (by decide) (Pu_assign rfl rfl) (WL_nil (X_then ?_))))
        refine W_ret (X_block_ret (X_then_ret ?_))
        have hE := (parseNE_later hc10 hc18).trans (if_pos (by omega))
        refine X_nilRow 9900 25 32 ?_
        exact X_ret [9900] (Ps := [_]) (res2 Try.results13 rfl rfl) rfl (by decide) ⟨_, by rw [hE], by rw [parseNL_err hE (by decide)]; rfl⟩
      ·
        have hge := of_decide_eq_false hc31
        refine W_seq ?_
        refine W.pre (K' := [(0, _), (2, _), (3, _), (4, _), (5, _), (10, _), (18, _), (31, _)]) (L' := [(0, _)]) ?_ ⟨rfl, ⟨rfl, ⟨rfl, ⟨rfl, ⟨rfl, ⟨rfl, ⟨rfl, ⟨rfl, trivial⟩⟩⟩⟩⟩⟩⟩⟩ ⟨rfl, trivial⟩
        refine W_regL (WL_pure rfl rfl (by decide) (Pu_move rfl rfl) (WL_pure rfl rfl (by decide) (Pu_len (r := 0) rfl Try.runUnderlying28 rfl rfl hF) (WL_pure rfl rfl (by decide) (Pu_move rfl rfl) (WL_pure rfl rfl (by decide) (Pu_bin rfl rfl rfl (run_gtr _ _ _ _ _ _)) (WL_pure rfl rfl (by decide) (Pu_assign rfl rfl) (WL_nil (X_then ?_)))))))
        refine W_cond rfl (fun hc36 => ?_) (fun hc36 => ?_)
        ·
          have hgt := of_decide_eq_true hc36
          refine W_seq ?_
          refine W.pre (K' := [(0, _), (2, _), (3, _), (4, _), (5, _), (10, _), (18, _), (31, _), (36, _)]) (L' := [(0, _)]) ?_ ⟨rfl, ⟨rfl, ⟨rfl, ⟨rfl, ⟨rfl, ⟨rfl, ⟨rfl, ⟨rfl, ⟨rfl, trivial⟩⟩⟩⟩⟩⟩⟩⟩⟩ ⟨rfl, trivial⟩
          refine W_regL (WL_pure rfl rfl (by decide) (Pu_assign rfl rfl) (WL_pure rfl rfl (by decide) (Pu_assign rfl rfl) (WL_nil (X_then ?_))))
          refine W_ret (X_block_ret (X_then_ret ?_))
          have hE := (parseNE_later hc10 hc18).trans ((if_neg (by omega)).trans (if_pos (by omega)))
          refine X_nilRow 9900 25 32 ?_
          exact X_ret [9900] (Ps := [_]) (res2 Try.results13 rfl rfl) rfl (by decide) ⟨_, by rw [hE], by rw [parseNL_err hE (by decide)]; rfl⟩
        ·
          have hle := of_decide_eq_false hc36
          have hlen : l.length = 2 + (at0 l 1).toNat * 32 := by omega
          refine W_skip (X_block (X_then ?_))
          refine W_seq ?_
          refine W.pre (K' := [(0, _), (2, _), (3, _), (4, _), (5, _), (10, _), (18, _), (31, _), (36, _)]) (L' := [(0, _)]) ?_ ⟨rfl, ⟨rfl, ⟨rfl, ⟨rfl, ⟨rfl, ⟨rfl, ⟨rfl, ⟨rfl, ⟨rfl, trivial⟩⟩⟩⟩⟩⟩⟩⟩⟩ ⟨rfl, trivial⟩
          refine W_regL (WL_pure rfl rfl (by decide) (Pu_move rfl rfl) (WL_cons rfl rfl (by decide) (OpT_make (r := 101) (m := (at0 l 1).toNat) rfl Try.underlying33 TI.hi25 TI.hz25 TI.hs25 rfl rfl (by rw [TI.hby25]; omega) (by unfold maxLen; omega) (made_ids _) (fun v42 => ?_))))
          refine (WL_pure rfl rfl (by decide) (Pu_assign rfl rfl) (WL_nil (X_then ?_)))
          refine W_seq ?_
          refine W_seq ?_
          refine W.pre (K' := [(0, _), (2, _), (3, _), (4, _), (5, _), (6, _), (10, _), (18, _), (31, _), (36, _)]) (L' := [(0, _), (101, _)]) ?_ ⟨rfl, ⟨rfl, ⟨rfl, ⟨rfl, ⟨rfl, ⟨rfl, ⟨rfl, ⟨rfl, ⟨rfl, ⟨rfl, trivial⟩⟩⟩⟩⟩⟩⟩⟩⟩⟩ ⟨rfl, ⟨rfl, trivial⟩⟩
          refine W_regL (WL_pure rfl rfl (by decide) (Pu_move rfl rfl) (WL_pure rfl rfl (by decide) (Pu_len (r := 101) rfl Try.runUnderlying33 rfl rfl (fun _ h => rowP_rd h)) (WL_pure rfl rfl (by decide) (Pu_move rfl rfl) (WL_nil (X_then ?_)))))
          refine W_block ?_
          refine W_loop (α := Nat) (fun k => [(0, v), (4, .int .i64 ((at0 l 1).toNat : Int)), (6, v42), (44, .int .i64 ((at0 l 1).toNat : Int)), (45, .int .i64 (k : Int))]) (fun k => [(0, F), (101, rowI 25 v42 (idsTo l (at0 l 1).toNat k))]) (fun k => k ≤ (at0 l 1).toNat) (fun k => (at0 l 1).toNat - k) (0) (Nat.zero_le _) ⟨rfl, ⟨rfl, ⟨rfl, ⟨rfl, ⟨rfl, trivial⟩⟩⟩⟩⟩ ⟨rfl, look_eq rfl (by rw [idsTo_zero]; exact rowI_of _ (by simp) rfl), trivial⟩ (fun x hx => ?_)
          unfold rowI
          refine W_seq ?_
          refine W.pre (K' := [(0, _), (4, _), (6, _), (44, _), (45, _)]) (L' := [(0, _), (101, _)]) ?_ ⟨rfl, ⟨rfl, ⟨rfl, ⟨rfl, ⟨rfl, trivial⟩⟩⟩⟩⟩ ⟨rfl, ⟨rfl, trivial⟩⟩
          refine W_regL (WL_pure rfl rfl (by decide) (Pu_bin rfl rfl rfl (run_lss _ _ _ _ _ _)) (WL_nil (X_then ?_)))
          refine W_seq ?_
          refine W_cond rfl (fun hc46 => ?_) (fun hc46 => ?_)
          ·
            have hlt : x < (at0 l 1).toNat := by have := of_decide_eq_true hc46; omega
            have hil := idsTo_length l (Nat.le_of_lt hlt)
            have hii : Ids (idsTo l (at0 l 1).toNat x) := idsTo_ids (by omega)
            have hx32 : ((l.drop (2 + x * 32)).take 32).length = 32 := by simp; omega
            refine W_skip (X_then ?_)
            refine W_seq ?_
            refine W_block ?_
            refine W_seq ?_
            refine W.pre (K' := [(0, _), (4, _), (6, _), (44, _), (45, _), (46, _)]) (L' := [(0, _), (101, _)]) ?_ ⟨rfl, ⟨rfl, ⟨rfl, ⟨rfl, ⟨rfl, ⟨rfl, trivial⟩⟩⟩⟩⟩⟩ ⟨rfl, ⟨rfl, trivial⟩⟩
            refine W_regL (WL_pure rfl rfl (by decide) (Pu_move rfl rfl) (WL_pure rfl rfl (by decide) (Pu_assign rfl rfl) (WL_nil (X_then ?_))))
            refine W.pre (K' := [(0, _), (4, _), (6, _), (7, _), (44, _), (45, _), (46, _)]) (L' := [(0, _), (101, _)]) ?_ ⟨rfl, ⟨rfl, ⟨rfl, ⟨rfl, ⟨rfl, ⟨rfl, ⟨rfl, trivial⟩⟩⟩⟩⟩⟩⟩ ⟨rfl, ⟨rfl, trivial⟩⟩
            refine W_draw (N := 10) (by kernel_rfl) rfl [(0, _)] ⟨rfl, trivial⟩ ?_
            refine (AH_take 0 rfl (by kernel_rfl) (by kernel_rfl) (by kernel_rfl) rfl rfl (by decide) (Pu_move rfl rfl) (AH_take 1 rfl (by kernel_rfl) (by kernel_rfl) (by kernel_rfl) rfl rfl (by decide) (Pu_move rfl rfl) (AH_take 4 rfl (by kernel_rfl) (by kernel_rfl) (by kernel_rfl) rfl rfl (by decide) (Pu_move rfl rfl) (AH_take 5 rfl (by kernel_rfl) (by kernel_rfl) (by kernel_rfl) rfl rfl (by decide) (Pu_move rfl rfl) (AH_take 6 rfl (by kernel_rfl) (by kernel_rfl) (by kernel_rfl) rfl rfl (by decide) (Pu_bin rfl rfl rfl (run_mul _ _ _ _ _ (by omega))) (AH_take 7 rfl (by kernel_rfl) (by kernel_rfl) (by kernel_rfl) rfl rfl (by decide) (Pu_bin rfl rfl rfl (run_add _ _ _ _ _ (by omega))) (AH_take 8 rfl (by kernel_rfl) (by kernel_rfl) (by kernel_rfl) rfl rfl (by decide) (Pu_slice (r := 0) (a := 2 + x * 32) (b := l.length) rfl Try.runUnderlying28 Try.sizeOf5 rfl rfl hF (.inr ⟨_, _, _, rfl, rfl, (by omega)⟩) (.inl ⟨rfl, rfl⟩) (by omega) (Nat.le_refl _)) (AH_ready [2] (by kernel_rfl) (by decide) ?_))))))))
            refine AHs_cons rfl rfl rfl (by decide) (OpT_run (Pu_idxS (r := 101) rfl Try.runUnderlying33 Try.sizeOf25 rfl rfl rfl (fun _ h => rowP_rd h) (by rw [hil]; omega)) ⟨⟨rfl, trivial⟩, ?_⟩) ?_
            ·
              refine (AH_take 3 rfl (by kernel_rfl) (by kernel_rfl) (by kernel_rfl) rfl rfl (by decide) (Pu_sliceArrE rfl Try.runUnderlying25 Try.sizeOf5 rfl) (AH_ready [9] (by kernel_rfl) (by decide) ?_))
              refine AHs_cons rfl rfl rfl (by decide) (OpT_copyS (r := 101) (r2 := 0) rfl Try.underlying28 TI.hsm5 rfl rfl rfl rfl (fun h hp => rdB_tail (hF h hp) (by omega)) (bs_one _) (by rw [idsC_length hii, hil]; simp; omega) (idsC_step (k := x) hii (by rw [hil]; exact hlt) (by simp; omega)) ?_) ?_
              ·
                refine ⟨⟨rfl, trivial⟩, ?_⟩
                refine (AH_done (by kernel_rfl) (X_block (X_then ?_)))
                refine W.pre (K' := [(0, _), (4, _), (6, _), (7, _), (44, _), (45, _), (46, _)]) (L' := [(0, _), (101, _)]) ?_ ⟨rfl, ⟨rfl, ⟨rfl, ⟨rfl, ⟨rfl, ⟨rfl, ⟨rfl, trivial⟩⟩⟩⟩⟩⟩⟩ ⟨rfl, ⟨rfl, trivial⟩⟩
                refine W_regL (WL_pure rfl rfl (by decide) (Pu_bin rfl rfl rfl (run_add _ _ _ _ _ (by omega))) (WL_pure rfl rfl (by decide) (Pu_move rfl rfl) (WL_nil ?_)))
                exact X_round (x + 1) (by show x + 1 ≤ _; omega) (by show _ - (x + 1) < _; omega) ⟨rfl, rfl, rfl, rfl, rfl, trivial⟩ ⟨rfl, look_eq rfl (by rw [idsTo_set hlt]; exact rowI_of _ (by rw [idsTo_length l (show x + 1 ≤ _ from hlt), idsTo_length l (Nat.le_of_lt hlt)]) rfl), trivial⟩
              exact AHs_nil
            exact AHs_nil
          ·
            obtain rfl : x = (at0 l 1).toNat := by have := of_decide_eq_false hc46; omega
            refine W_exit (X_then_exit (X_then_exit (X_block_exit (X_then ?_))))
            refine W_seq ?_
            refine W.pre (K' := [(0, _), (4, _), (6, _), (44, _), (45, _), (46, _)]) (L' := [(0, _), (101, _)]) ?_ ⟨rfl, ⟨rfl, ⟨rfl, ⟨rfl, ⟨rfl, ⟨rfl, trivial⟩⟩⟩⟩⟩⟩ ⟨rfl, ⟨rfl, trivial⟩⟩
            refine W_regL (WL_pure rfl rfl (by decide) (Pu_move rfl rfl) (WL_pure rfl rfl (by decide) (Pu_assign rfl rfl) (WL_pure rfl rfl (by decide) (Pu_assign rfl rfl) (WL_nil (X_then ?_)))))
            refine W_ret ?_
            have hE := (parseNE_later hc10 hc18).trans ((if_neg (by omega)).trans (if_neg (by omega)))
            exact X_ret [101] (Ps := [_]) (res2 Try.results13 rfl rfl) rfl (by decide) ⟨_, by rw [hE], by rw [parseNL, if_pos hE, ← idsTo_all]⟩
end Go.Proofs.Ytnhidehpacidnaa
