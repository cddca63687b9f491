/- Blocks: roots written. -/
import Derived.Test.YtnhidehpacidnaaBlobN
import Derived.Test.YtnhidehpacidnaaLibB
import Derived.Test.YtnhidehpacidnaaBlob5
namespace Go.Proofs.Ytnhidehpacidnaa
open Go.RowKit
set_option linter.unusedVariables false

theorem root_spec (pv : Value) (pl : List UInt8) (ver : Int) (top : List UInt8) (ht : top.length = 32) (tv : Value) (tl : List UInt8) (F : HP) (hFp : ∀ h, F h → rdB pv pl h) (hFt : ∀ h, F h → rdB tv tl h) : CallsS Try.prog 20 #[rootV pv ver top tv] F [] (fun r Ps => ∃ v', r = .tuple #[v', .int .i64 (rootE pl ver tl)] ∧ Ps = [rowB 5 v' (rootR pl ver top tl)]) := by
  refine callsS_enter Try.func20 rfl Try.ntmps20 (by simp) (fun E => ?_)
  refine W_seq ?_
  refine W.pre (K' := [(0, _)]) (L' := [(0, _)]) ?_ ⟨rfl, trivial⟩ ⟨rfl, trivial⟩
  refine W_fact (r := 0) rfl (fun h hp => rd_one (hFp h hp)) (fun hp1 => ?_)
  refine W_fact (r := 0) rfl (fun h hp => rd_one (hFt h hp)) (fun ht1 => ?_)
  refine W_regL (WL_cons rfl rfl (by decide) (OpT_box (r := 101) rfl rfl rfl (fun g101 => (WL_pure rfl rfl (by decide) (Pu_assign rfl rfl) (WL_pure rfl rfl (by decide) (Pu_assign rfl rfl) (WL_nil (X_then ?_)))))))
  refine W_seq ?_
  refine W_block ?_
  refine W_seq ?_
  refine W.pre (K' := [(0, _), (1, _), (2, _), (3, _)]) (L' := [(0, _), (101, _)]) ?_ ⟨rfl, ⟨rfl, ⟨rfl, ⟨rfl, trivial⟩⟩⟩⟩ ⟨rfl, ⟨rfl, trivial⟩⟩
  refine W_regL (WL_pure rfl rfl (by decide) (Pu_fieldAddrB (off := 0) rfl rfl (by kernel_rfl)) (WL_pure rfl rfl (by decide) (Pu_loadB (r := 101) rfl Try.isAgg28 rfl rfl rfl) (WL_pure rfl rfl (by decide) (Pu_len (r := 0) rfl Try.runUnderlying28 rfl rfl hFp) (WL_pure rfl rfl (by decide) (Pu_bin rfl rfl rfl (run_neq _ _ _ _ _ _)) (WL_pure rfl rfl (by decide) (Pu_move rfl rfl) (WL_guardP rfl rfl rfl rfl (by decide) (fun hb => (Pu_fieldAddrB (off := 1) rfl rfl (by kernel_rfl))) (WL_guardP rfl rfl rfl rfl (by decide) (fun hb => (Pu_loadB (r := 101) rfl Try.isAgg3 (ev_gv rfl hb) rfl rfl)) (WL_guardP rfl rfl rfl rfl (by decide) (fun hb => (Pu_bin rfl (ev_gv rfl hb) rfl (run_lss _ _ _ _ _ _))) (WL_pure rfl rfl (by decide) (Pu_or rfl rfl rfl) (WL_pure rfl rfl (by decide) (Pu_move rfl rfl) (WL_guardP rfl rfl rfl rfl (by decide) (fun hb => (Pu_fieldAddrB (off := 1) rfl rfl (by kernel_rfl))) (WL_guardP rfl rfl rfl rfl (by decide) (fun hb => (Pu_loadB (r := 101) rfl Try.isAgg3 (ev_gv rfl hb) rfl rfl)) (WL_guardP rfl rfl rfl rfl (by decide) (fun hb => (Pu_bin rfl (ev_gv rfl hb) rfl (run_gtr _ _ _ _ _ _))) (WL_pure rfl rfl (by decide) (Pu_or rfl rfl rfl) (WL_pure rfl rfl (by decide) (Pu_assign rfl rfl) (WL_nil (X_then ?_)))))))))))))))))
  refine W_cond rfl (fun hc4 => ?_) (fun hc4 => ?_)
  ·
    refine W_seq ?_
    refine W.pre (K' := [(0, _), (1, _), (2, _), (3, _), (4, _)]) (L' := [(0, _), (101, _)]) ?_ ⟨rfl, ⟨rfl, ⟨rfl, ⟨rfl, ⟨rfl, trivial⟩⟩⟩⟩⟩ ⟨rfl, ⟨rfl, trivial⟩⟩
    refine W_regL (WL_pure rfl rfl (by decide) (Pu_assign rfl rfl) (WL_pure rfl rfl (by decide) (Pu_assign rfl rfl) (WL_nil (X_then ?_))))
    refine W_ret (X_block_ret (X_then_ret ?_))
    have hE : rootE pl ver tl = 1 := rootE_bad hc4
    refine X_nilRow 9900 5 1 ?_
    exact X_ret [9900] (Ps := [_]) (res2 Try.results20 rfl rfl) rfl (by decide) ⟨_, by rw [hE], by rw [rootR, if_neg (by rw [hE]; decide)]; rfl⟩
  ·
    have hE0 := rootE_good (tl := tl) hc4
    have hp56 : pl.length = 56 := by simp at hc4; omega
    refine W_seq ?_
    refine W.pre (K' := [(0, _), (1, _), (2, _), (3, _), (4, _)]) (L' := [(0, _), (101, _)]) ?_ ⟨rfl, ⟨rfl, ⟨rfl, ⟨rfl, ⟨rfl, trivial⟩⟩⟩⟩⟩ ⟨rfl, ⟨rfl, trivial⟩⟩
    refine W_regL (WL_pure rfl rfl (by decide) (Pu_fieldAddrB (off := 34) rfl rfl (by kernel_rfl)) (WL_pure rfl rfl (by decide) (Pu_loadB (r := 101) rfl Try.isAgg28 rfl rfl (root_tail ht)) (WL_pure rfl rfl (by decide) (Pu_len (r := 0) rfl Try.runUnderlying28 rfl rfl hFt) (WL_pure rfl rfl (by decide) (Pu_bin rfl rfl rfl (run_gtr _ _ _ _ _ _)) (WL_pure rfl rfl (by decide) (Pu_assign rfl rfl) (WL_nil (X_then ?_)))))))
    refine W_cond rfl (fun hc19 => ?_) (fun hc19 => ?_)
    ·
      have hbig := of_decide_eq_true hc19
      refine W_seq ?_
      refine W.pre (K' := [(0, _), (1, _), (2, _), (3, _), (4, _), (19, _)]) (L' := [(0, _), (101, _)]) ?_ ⟨rfl, ⟨rfl, ⟨rfl, ⟨rfl, ⟨rfl, ⟨rfl, trivial⟩⟩⟩⟩⟩⟩ ⟨rfl, ⟨rfl, trivial⟩⟩
      refine W_regL (WL_pure rfl rfl (by decide) (Pu_assign rfl rfl) (WL_pure rfl rfl (by decide) (Pu_assign rfl rfl) (WL_nil (X_then ?_))))
      refine W_ret (X_block_ret (X_then_ret ?_))
      have hE : rootE pl ver tl = 5 := hE0.trans (if_pos (by omega))
      refine X_nilRow 9900 5 1 ?_
      exact X_ret [9900] (Ps := [_]) (res2 Try.results20 rfl rfl) rfl (by decide) ⟨_, by rw [hE], by rw [rootR, if_neg (by rw [hE]; decide)]; rfl⟩
    ·
      have hsm := of_decide_eq_false hc19
      refine W_skip (X_block (X_then ?_))
      refine W_seq ?_
      refine W.pre (K' := [(0, _), (1, _), (2, _), (3, _), (4, _), (19, _)]) (L' := [(0, _), (101, _)]) ?_ ⟨rfl, ⟨rfl, ⟨rfl, ⟨rfl, ⟨rfl, ⟨rfl, trivial⟩⟩⟩⟩⟩⟩ ⟨rfl, ⟨rfl, trivial⟩⟩
      have hfl : (rootLs pl ver top tl).flatten.length ≤ 100000000 := by have := hE0; simp [rootLs, numB_length, ht]; omega
      refine W_draw (N := 18) (by kernel_rfl) rfl [(0, _), (101, _)] ⟨rfl, ⟨rfl, trivial⟩⟩ ?_
      refine (AH_take 1 rfl (by kernel_rfl) (by kernel_rfl) (by kernel_rfl) rfl rfl (by decide) (Pu_fieldAddrB (off := 0) rfl rfl (by kernel_rfl)) (AH_take 2 rfl (by kernel_rfl) (by kernel_rfl) (by kernel_rfl) rfl rfl (by decide) (Pu_loadB (r := 101) rfl Try.isAgg28 rfl rfl rfl) (AH_take 3 rfl (by kernel_rfl) (by kernel_rfl) (by kernel_rfl) rfl rfl (by decide) (Pu_fieldAddrB (off := 1) rfl rfl (by kernel_rfl)) (AH_take 4 rfl (by kernel_rfl) (by kernel_rfl) (by kernel_rfl) rfl rfl (by decide) (Pu_loadB (r := 101) rfl Try.isAgg3 rfl rfl rfl) (AH_take 6 rfl (by kernel_rfl) (by kernel_rfl) (by kernel_rfl) rfl rfl (by decide) (Pu_fieldAddrB (off := 2) rfl rfl (by kernel_rfl)) (AH_take 7 rfl (by kernel_rfl) (by kernel_rfl) (by kernel_rfl) rfl rfl (by decide) (Pu_sliceArr rfl Try.runUnderlying25 Try.sizeOf5 rfl) (AH_take 8 rfl (by kernel_rfl) (by kernel_rfl) (by kernel_rfl) rfl rfl (by decide) (Pu_fieldAddrB (off := 34) rfl rfl (by kernel_rfl)) (AH_take 9 rfl (by kernel_rfl) (by kernel_rfl) (by kernel_rfl) rfl rfl (by decide) (Pu_loadB (r := 101) rfl Try.isAgg28 rfl rfl (root_tail ht)) (AH_take 10 rfl (by kernel_rfl) (by kernel_rfl) (by kernel_rfl) rfl rfl (by decide) (Pu_len (r := 0) rfl Try.runUnderlying28 rfl rfl hFt) (AH_take 12 rfl (by kernel_rfl) (by kernel_rfl) (by kernel_rfl) rfl rfl (by decide) (Pu_fieldAddrB (off := 34) rfl rfl (by kernel_rfl)) (AH_take 13 rfl (by kernel_rfl) (by kernel_rfl) (by kernel_rfl) rfl rfl (by decide) (Pu_loadB (r := 101) rfl Try.isAgg28 rfl rfl (root_tail ht)) (AH_ready [0, 5] (by kernel_rfl) (by decide) ?_))))))))))))
      refine AHs_cons rfl rfl rfl (by decide) (OpT_buildOnes (r := 102) [_] rfl rfl Try.runUnderlying28 Try.sizeOf5 Try.zeroValue5 rfl rfl (by decide) rfl (by intro u hu; simp only [List.mem_cons, List.not_mem_nil, or_false] at hu; subst hu; rfl) (fun v24 => ⟨⟨rfl, ⟨rfl, trivial⟩⟩, ?_⟩)) ?_
      ·
        refine AH_fact (r := 102) rfl (fun h hp => rd_one (rowP_rd hp)) (fun ho24 => ?_)
        refine (AH_ready [5] (by kernel_rfl) (by decide) ?_)
        refine AHs_cons rfl rfl rfl (by decide) (OpT_call 200 [0, 101, 102] [] rfl Try.call23 rfl rfl rfl (by decide) (by decide) (number_spec ver 4 (by omega) _) (fun v29 Ps29 hR29 => ?_)) ?_
        ·
          subst hR29
          refine ⟨⟨rfl, ⟨rfl, trivial⟩⟩, ?_⟩
          refine AH_fact (r := 200) rfl (fun h hp => rd_one (rowP_rd hp)) (fun ho29 => ?_)
          refine (AH_ready [11] (by kernel_rfl) (by decide) ?_)
          refine AHs_cons rfl rfl rfl (by decide) (OpT_call 300 [0, 101, 102, 200] [] rfl Try.call23 rfl rfl rfl (by decide) (by decide) (number_spec (tl.length : Int) 2 (by omega) _) (fun v35 Ps35 hR35 => ?_)) ?_
          ·
            subst hR35
            refine ⟨⟨rfl, ⟨rfl, trivial⟩⟩, ?_⟩
            refine AH_fact (r := 300) rfl (fun h hp => rd_one (rowP_rd hp)) (fun ho35 => ?_)
            refine (AH_ready [14] (by kernel_rfl) (by decide) ?_)
            refine AHs_cons rfl rfl rfl (by decide) (OpT_buildOnes (r := 301) [v24, pv, v29, _, v35, tv] rfl rfl Try.runUnderlying38 Try.sizeOf28 Try.zeroValue28 rfl rfl (by decide) rfl (by intro u hu; simp only [List.mem_cons, List.not_mem_nil, or_false] at hu; rcases hu with rfl | rfl | rfl | rfl | rfl | rfl <;> first | rfl | (apply cells_one; assumption)) (fun v38 => ⟨⟨rfl, ⟨rfl, trivial⟩⟩, ?_⟩)) ?_
            ·
              refine (AH_ready [15] (by kernel_rfl) (by decide) ?_)
              refine AHs_cons rfl rfl rfl (by decide) (OpT_call 400 [0, 101, 102, 200, 300, 301] [] rfl Try.call30 rfl rfl rfl (by decide) (by decide) (concat_spec v38 [v24, pv, v29, _, v35, tv] (rootLs pl ver top tl) rfl (by simp [rootLs]) hfl _ (rd_star 5 rfl (fun _ h => rowP_rd h)) (six (fun h hp => rdP_cast (rd_star 2 rfl (fun _ h => rowP_rd h) h hp) rfl rfl) (rd_star 0 rfl hFp) (fun h hp => rdP_cast (rd_star 3 rfl (fun _ h => rowP_rd h) h hp) rfl (numB_length _ _).symm) (fun h hp => rdP_cast (rd_star 1 rfl (fun _ h => blk_rd (xs := bs top) h (take_rtop ht) (by rw [bs_length, ht]) (Nat.le_refl 32)) h hp) rfl ht.symm) (fun h hp => rdP_cast (rd_star 4 rfl (fun _ h => rowP_rd h) h hp) rfl (numB_length _ _).symm) (rd_star 0 rfl hFt))) (fun v39 Ps39 hR39 => ?_)) ?_
              ·
                subst hR39
                refine ⟨⟨rfl, ⟨rfl, trivial⟩⟩, ?_⟩
                refine (AH_take 16 rfl (by kernel_rfl) (by kernel_rfl) (by kernel_rfl) rfl rfl (by decide) (Pu_assign rfl rfl) (AH_take 17 rfl (by kernel_rfl) (by kernel_rfl) (by kernel_rfl) rfl rfl (by decide) (Pu_assign rfl rfl) (AH_done (by kernel_rfl) (X_then ?_))))
                refine W_ret ?_
                have hE : rootE pl ver tl = 0 := hE0.trans (if_neg (by omega))
                exact X_ret [400] (Ps := [_]) (res2 Try.results20 rfl rfl) rfl (by decide) ⟨_, by rw [hE], by rw [rootR, if_pos hE]⟩
              exact AHs_nil
            exact AHs_nil
          exact AHs_nil
        exact AHs_nil
      refine AHs_cons rfl rfl rfl (by decide) (OpT_call 200 [0, 101] [] rfl Try.call23 rfl rfl rfl (by decide) (by decide) (number_spec ver 4 (by omega) _) (fun v29 Ps29 hR29 => ?_)) ?_
      ·
        subst hR29
        refine ⟨⟨rfl, ⟨rfl, trivial⟩⟩, ?_⟩
        refine AH_fact (r := 200) rfl (fun h hp => rd_one (rowP_rd hp)) (fun ho29 => ?_)
        refine (AH_ready [0, 11] (by kernel_rfl) (by decide) ?_)
        refine AHs_cons rfl rfl rfl (by decide) (OpT_buildOnes (r := 201) [_] rfl rfl Try.runUnderlying28 Try.sizeOf5 Try.zeroValue5 rfl rfl (by decide) rfl (by intro u hu; simp only [List.mem_cons, List.not_mem_nil, or_false] at hu; subst hu; rfl) (fun v24 => ⟨⟨rfl, ⟨rfl, trivial⟩⟩, ?_⟩)) ?_
        ·
          refine AH_fact (r := 201) rfl (fun h hp => rd_one (rowP_rd hp)) (fun ho24 => ?_)
          refine (AH_ready [11] (by kernel_rfl) (by decide) ?_)
          refine AHs_cons rfl rfl rfl (by decide) (OpT_call 300 [0, 101, 200, 201] [] rfl Try.call23 rfl rfl rfl (by decide) (by decide) (number_spec (tl.length : Int) 2 (by omega) _) (fun v35 Ps35 hR35 => ?_)) ?_
          ·
            subst hR35
            refine ⟨⟨rfl, ⟨rfl, trivial⟩⟩, ?_⟩
            refine AH_fact (r := 300) rfl (fun h hp => rd_one (rowP_rd hp)) (fun ho35 => ?_)
            refine (AH_ready [14] (by kernel_rfl) (by decide) ?_)
            refine AHs_cons rfl rfl rfl (by decide) (OpT_buildOnes (r := 301) [v24, pv, v29, _, v35, tv] rfl rfl Try.runUnderlying38 Try.sizeOf28 Try.zeroValue28 rfl rfl (by decide) rfl (by intro u hu; simp only [List.mem_cons, List.not_mem_nil, or_false] at hu; rcases hu with rfl | rfl | rfl | rfl | rfl | rfl <;> first | rfl | (apply cells_one; assumption)) (fun v38 => ⟨⟨rfl, ⟨rfl, trivial⟩⟩, ?_⟩)) ?_
            ·
              refine (AH_ready [15] (by kernel_rfl) (by decide) ?_)
              refine AHs_cons rfl rfl rfl (by decide) (OpT_call 400 [0, 101, 200, 201, 300, 301] [] rfl Try.call30 rfl rfl rfl (by decide) (by decide) (concat_spec v38 [v24, pv, v29, _, v35, tv] (rootLs pl ver top tl) rfl (by simp [rootLs]) hfl _ (rd_star 5 rfl (fun _ h => rowP_rd h)) (six (fun h hp => rdP_cast (rd_star 3 rfl (fun _ h => rowP_rd h) h hp) rfl rfl) (rd_star 0 rfl hFp) (fun h hp => rdP_cast (rd_star 2 rfl (fun _ h => rowP_rd h) h hp) rfl (numB_length _ _).symm) (fun h hp => rdP_cast (rd_star 1 rfl (fun _ h => blk_rd (xs := bs top) h (take_rtop ht) (by rw [bs_length, ht]) (Nat.le_refl 32)) h hp) rfl ht.symm) (fun h hp => rdP_cast (rd_star 4 rfl (fun _ h => rowP_rd h) h hp) rfl (numB_length _ _).symm) (rd_star 0 rfl hFt))) (fun v39 Ps39 hR39 => ?_)) ?_
              ·
                subst hR39
                refine ⟨⟨rfl, ⟨rfl, trivial⟩⟩, ?_⟩
                refine (AH_take 16 rfl (by kernel_rfl) (by kernel_rfl) (by kernel_rfl) rfl rfl (by decide) (Pu_assign rfl rfl) (AH_take 17 rfl (by kernel_rfl) (by kernel_rfl) (by kernel_rfl) rfl rfl (by decide) (Pu_assign rfl rfl) (AH_done (by kernel_rfl) (X_then ?_))))
                refine W_ret ?_
                have hE : rootE pl ver tl = 0 := hE0.trans (if_neg (by omega))
                exact X_ret [400] (Ps := [_]) (res2 Try.results20 rfl rfl) rfl (by decide) ⟨_, by rw [hE], by rw [rootR, if_pos hE]⟩
              exact AHs_nil
            exact AHs_nil
          exact AHs_nil
        refine AHs_cons rfl rfl rfl (by decide) (OpT_call 300 [0, 101, 200] [] rfl Try.call23 rfl rfl rfl (by decide) (by decide) (number_spec (tl.length : Int) 2 (by omega) _) (fun v35 Ps35 hR35 => ?_)) ?_
        ·
          subst hR35
          refine ⟨⟨rfl, ⟨rfl, trivial⟩⟩, ?_⟩
          refine AH_fact (r := 300) rfl (fun h hp => rd_one (rowP_rd hp)) (fun ho35 => ?_)
          refine (AH_ready [0] (by kernel_rfl) (by decide) ?_)
          refine AHs_cons rfl rfl rfl (by decide) (OpT_buildOnes (r := 301) [_] rfl rfl Try.runUnderlying28 Try.sizeOf5 Try.zeroValue5 rfl rfl (by decide) rfl (by intro u hu; simp only [List.mem_cons, List.not_mem_nil, or_false] at hu; subst hu; rfl) (fun v24 => ⟨⟨rfl, ⟨rfl, trivial⟩⟩, ?_⟩)) ?_
          ·
            refine AH_fact (r := 301) rfl (fun h hp => rd_one (rowP_rd hp)) (fun ho24 => ?_)
            refine (AH_ready [14] (by kernel_rfl) (by decide) ?_)
            refine AHs_cons rfl rfl rfl (by decide) (OpT_buildOnes (r := 302) [v24, pv, v29, _, v35, tv] rfl rfl Try.runUnderlying38 Try.sizeOf28 Try.zeroValue28 rfl rfl (by decide) rfl (by intro u hu; simp only [List.mem_cons, List.not_mem_nil, or_false] at hu; rcases hu with rfl | rfl | rfl | rfl | rfl | rfl <;> first | rfl | (apply cells_one; assumption)) (fun v38 => ⟨⟨rfl, ⟨rfl, trivial⟩⟩, ?_⟩)) ?_
            ·
              refine (AH_ready [15] (by kernel_rfl) (by decide) ?_)
              refine AHs_cons rfl rfl rfl (by decide) (OpT_call 400 [0, 101, 200, 300, 301, 302] [] rfl Try.call30 rfl rfl rfl (by decide) (by decide) (concat_spec v38 [v24, pv, v29, _, v35, tv] (rootLs pl ver top tl) rfl (by simp [rootLs]) hfl _ (rd_star 5 rfl (fun _ h => rowP_rd h)) (six (fun h hp => rdP_cast (rd_star 4 rfl (fun _ h => rowP_rd h) h hp) rfl rfl) (rd_star 0 rfl hFp) (fun h hp => rdP_cast (rd_star 2 rfl (fun _ h => rowP_rd h) h hp) rfl (numB_length _ _).symm) (fun h hp => rdP_cast (rd_star 1 rfl (fun _ h => blk_rd (xs := bs top) h (take_rtop ht) (by rw [bs_length, ht]) (Nat.le_refl 32)) h hp) rfl ht.symm) (fun h hp => rdP_cast (rd_star 3 rfl (fun _ h => rowP_rd h) h hp) rfl (numB_length _ _).symm) (rd_star 0 rfl hFt))) (fun v39 Ps39 hR39 => ?_)) ?_
              ·
                subst hR39
                refine ⟨⟨rfl, ⟨rfl, trivial⟩⟩, ?_⟩
                refine (AH_take 16 rfl (by kernel_rfl) (by kernel_rfl) (by kernel_rfl) rfl rfl (by decide) (Pu_assign rfl rfl) (AH_take 17 rfl (by kernel_rfl) (by kernel_rfl) (by kernel_rfl) rfl rfl (by decide) (Pu_assign rfl rfl) (AH_done (by kernel_rfl) (X_then ?_))))
                refine W_ret ?_
                have hE : rootE pl ver tl = 0 := hE0.trans (if_neg (by omega))
                exact X_ret [400] (Ps := [_]) (res2 Try.results20 rfl rfl) rfl (by decide) ⟨_, by rw [hE], by rw [rootR, if_pos hE]⟩
              exact AHs_nil
            exact AHs_nil
          exact AHs_nil
        exact AHs_nil
      exact AHs_nil
end Go.Proofs.Ytnhidehpacidnaa
