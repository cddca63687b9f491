/- Texts of this proof, one behind the other: OtsA, OtsB, OtsC, OtsD, LmsP, LmsI, LmsJ, SlotL, SlotA, SlotB, SlotD. -/
import Derived.Test.YtinamipkpdlphaaK5
import Derived.Test.YtinamipkpdlphaaK2
import Derived.Test.YtinamipkpdlphaaK1
/- Signatures for once of the program: hashes and steps. -/
namespace Go.Proofs.Ytinamipkpdlphaa
open Go.RowKit
set_option linter.unusedVariables false
set_option linter.unusedSimpArgs false
set_option maxRecDepth 8000

theorem khead_spec (nm : List UInt8) (hn : nm.length = 16) (q mark : Int) (F : HP) : CallsS Try.prog 72 #[keyV nm q, .int .i64 mark] F [] (fun r Ps => Ps = [rowB 5 r (hdL nm q ++ numB mark 2)]) := by
  refine callsS_enter Try.func72 rfl Try.ntmps72 (by simp) (fun E => ?_)
  refine W_seq ?_
  refine W.pre (K' := [(0, _), (1, _)]) (L' := [(0, _)]) ?_ ⟨rfl, ⟨rfl, trivial⟩⟩ ⟨rfl, trivial⟩
  refine W_regL (WL_cons rfl rfl (by decide) (OpT_box (r := 101) rfl rfl rfl (fun g101 => (WL_pure rfl rfl (by decide) (Pu_assign rfl rfl) (WL_nil (X_then ?_))))))
  refine W_seq ?_
  refine W.pre (K' := [(0, _), (1, _), (2, _), (4, _)]) (L' := [(0, _), (101, _)]) ?_ ⟨rfl, ⟨rfl, ⟨rfl, ⟨rfl, trivial⟩⟩⟩⟩ ⟨rfl, ⟨rfl, trivial⟩⟩
  refine W_regL (WL_cons rfl rfl (by decide) (OpT_makeCap (r := 102) (m := 4292) rfl Try.underlying30 TI.hi5 TI.hz5 TI.hs5 rfl rfl (by rw [TI.hby5]; omega) (by unfold maxLen; omega) (fun v6 => ?_)))
  refine (WL_pure rfl rfl (by decide) (Pu_assign rfl rfl) (WL_nil (X_then ?_)))
  refine W_seq ?_
  refine W.pre (K' := [(0, _), (1, _), (2, _), (4, _), (5, _)]) (L' := [(0, _), (101, _), (102, _)]) ?_ ⟨rfl, ⟨rfl, ⟨rfl, ⟨rfl, ⟨rfl, trivial⟩⟩⟩⟩⟩ ⟨rfl, ⟨rfl, ⟨rfl, trivial⟩⟩⟩
  refine W_regL (WL_pure rfl rfl (by decide) (Pu_move rfl rfl) (WL_pure rfl rfl (by decide) (Pu_fieldAddrB (off := 0) rfl rfl (by kernel_rfl)) (WL_pure rfl rfl (by decide) (Pu_sliceArr rfl Try.runUnderlying52 Try.sizeOf5 rfl) (WL_cons rfl rfl (by decide) (OpT_append (r := 102) (r2 := 101) rfl Try.underlying30 TI.hi5 TI.hz5 TI.hs5 TI.hby5 TI.hzs5 (by decide) rfl rfl rfl rfl (fun _ h => blk_rd h (keyC_name hn) (by rw [bs_length, hn]) (Nat.le_refl _)) (bs_one _) (by unfold maxLen; omega) (by omega) (fun v10 => ?_))))))
  refine WL_turn (P' := rowB 5 v10 (nm)) 102 rfl (fun h hp => rowB_mk hp (by simp [hn]) (by simp [bs])) ?_
  refine (WL_pure rfl rfl (by decide) (Pu_assign rfl rfl) (WL_nil (X_then ?_)))
  refine W_seq ?_
  refine W.pre (K' := [(0, _), (1, _), (2, _), (4, _), (5, _)]) (L' := [(0, _), (101, _), (102, _)]) ?_ ⟨rfl, ⟨rfl, ⟨rfl, ⟨rfl, ⟨rfl, trivial⟩⟩⟩⟩⟩ ⟨rfl, ⟨rfl, ⟨rfl, trivial⟩⟩⟩
  refine W_regL (WL_pure rfl rfl (by decide) (Pu_move rfl rfl) (WL_pure rfl rfl (by decide) (Pu_fieldAddrB (off := 16) rfl rfl (by kernel_rfl)) (WL_pure rfl rfl (by decide) (Pu_loadB (r := 101) rfl Try.isAgg3 rfl rfl (keyC_num hn)) (WL_pure rfl rfl (by decide) (Pu_bin rfl rfl rfl (run_shr _ 24 _ _ _ (by omega))) (WL_pure rfl rfl (by decide) (Pu_conv rfl rfl (conv_byte _ _ Try.runUnderlying3 Try.runUnderlying5)) (WL_pure rfl rfl (by decide) (Pu_fieldAddrB (off := 16) rfl rfl (by kernel_rfl)) (WL_pure rfl rfl (by decide) (Pu_loadB (r := 101) rfl Try.isAgg3 rfl rfl (keyC_num hn)) (WL_pure rfl rfl (by decide) (Pu_bin rfl rfl rfl (run_shr _ 16 _ _ _ (by omega))) (WL_pure rfl rfl (by decide) (Pu_conv rfl rfl (conv_byte _ _ Try.runUnderlying3 Try.runUnderlying5)) (WL_pure rfl rfl (by decide) (Pu_fieldAddrB (off := 16) rfl rfl (by kernel_rfl)) (WL_pure rfl rfl (by decide) (Pu_loadB (r := 101) rfl Try.isAgg3 rfl rfl (keyC_num hn)) (WL_pure rfl rfl (by decide) (Pu_bin rfl rfl rfl (run_shr _ 8 _ _ _ (by omega))) (WL_pure rfl rfl (by decide) (Pu_conv rfl rfl (conv_byte _ _ Try.runUnderlying3 Try.runUnderlying5)) (WL_pure rfl rfl (by decide) (Pu_fieldAddrB (off := 16) rfl rfl (by kernel_rfl)) (WL_pure rfl rfl (by decide) (Pu_loadB (r := 101) rfl Try.isAgg3 rfl rfl (keyC_num hn)) (WL_pure rfl rfl (by decide) (Pu_conv rfl rfl (conv_byte _ _ Try.runUnderlying3 Try.runUnderlying5)) (WL_pure rfl rfl (by decide) (Pu_move rfl rfl) (WL_pure rfl rfl (by decide) (Pu_bin rfl rfl rfl (run_shr _ 8 _ _ _ (by omega))) (WL_pure rfl rfl (by decide) (Pu_conv rfl rfl (conv_byte _ _ Try.runUnderlying3 Try.runUnderlying5)) (WL_pure rfl rfl (by decide) (Pu_move rfl rfl) (WL_pure rfl rfl (by decide) (Pu_conv rfl rfl (conv_byte _ _ Try.runUnderlying3 Try.runUnderlying5)) (WL_cons rfl rfl (by decide) (OpT_buildOnes (r := 103) (bs (numB q 4 ++ numB mark 2)) rfl rfl Try.runUnderlying30 Try.sizeOf5 Try.zeroValue5 rfl rfl (by decide) (by rw [numB_four, numB_two]; rfl) (bs_cells _) (fun v32 => (WL_cons rfl rfl (by decide) (OpT_append (r := 102) (r2 := 103) rfl Try.underlying30 TI.hi5 TI.hz5 TI.hs5 TI.hby5 TI.hzs5 (by decide) rfl rfl rfl rfl (fun _ h => rowP_rd h) (bs_one _) (by unfold maxLen; omega) (by omega) (fun v33 => ?_)))))))))))))))))))))))))))
  refine WL_turn (P' := rowB 5 v33 (hdL nm q ++ numB mark 2)) 102 rfl (fun h hp => rowB_mk hp (by simp [hdL_length hn, numB_length, hn]) (by unfold hdL; simp only [bs_append, List.append_assoc])) ?_
  refine (WL_pure rfl rfl (by decide) (Pu_assign rfl rfl) (WL_nil (X_then ?_)))
  refine W_ret ?_
  exact X_ret [102] (Ps := [_]) (res1 Try.results72 rfl) rfl (by decide) rfl
theorem khash_spec (nm : List UInt8) (hn : nm.length = 16) (q mark b : Int) (t : List UInt8) (ht : t.length = 32) (F : HP) : CallsS Try.prog 73 #[keyV nm q, .int .i64 mark, .int .i64 b, idV t] F [] (fun r Ps => r = idV (hashC nm q mark b t) ∧ Ps = []) := by
  refine callsS_enter Try.func73 rfl Try.ntmps73 (by simp) (fun E => ?_)
  refine W_seq ?_
  refine W.pre (K' := [(0, _), (1, _), (2, _), (3, _)]) (L' := [(0, _)]) ?_ ⟨rfl, ⟨rfl, ⟨rfl, ⟨rfl, trivial⟩⟩⟩⟩ ⟨rfl, trivial⟩
  refine W_regL (WL_cons rfl rfl (by decide) (OpT_box (r := 101) rfl rfl rfl (fun g101 => (WL_cons rfl rfl (by decide) (OpT_box (r := 102) rfl rfl rfl (fun g102 => (WL_cons rfl rfl (by decide) (OpT_alloc (r := 103) (cs := (bs zeroId)) rfl (zero_run (by kernel_rfl : (Try.prog.info? 29).bind (·.zero) = some (.agg (bs zeroId).toArray))) rfl (fun g103 => (WL_nil (X_then ?_)))))))))))
  refine W_seq ?_
  refine W.pre (K' := [(0, _), (1, _), (2, _), (3, _), (4, _), (7, _), (8, _)]) (L' := [(0, _), (101, _), (102, _), (103, _)]) ?_ ⟨rfl, ⟨rfl, ⟨rfl, ⟨rfl, ⟨rfl, ⟨rfl, ⟨rfl, trivial⟩⟩⟩⟩⟩⟩⟩ ⟨rfl, ⟨rfl, ⟨rfl, ⟨rfl, trivial⟩⟩⟩⟩
  refine W_regL (WL_cons rfl rfl (by decide) (OpT_alloc (r := 104) (cs := (bs (List.replicate 55 0))) rfl (zero_run (by kernel_rfl : (Try.prog.info? 130).bind (·.zero) = some (.agg (bs (List.replicate 55 0)).toArray))) rfl (fun g104 => (WL_nil (X_then ?_)))))
  refine W_seq ?_
  refine W.pre (K' := [(0, _), (1, _), (2, _), (3, _), (4, _), (7, _), (8, _), (9, _)]) (L' := [(0, _), (101, _), (102, _), (103, _), (104, _)]) ?_ ⟨rfl, ⟨rfl, ⟨rfl, ⟨rfl, ⟨rfl, ⟨rfl, ⟨rfl, ⟨rfl, trivial⟩⟩⟩⟩⟩⟩⟩⟩ ⟨rfl, ⟨rfl, ⟨rfl, ⟨rfl, ⟨rfl, trivial⟩⟩⟩⟩⟩
  refine W_draw (N := 5) (by kernel_rfl) rfl [(0, _), (101, _), (102, _), (103, _)] ⟨rfl, ⟨rfl, ⟨rfl, ⟨rfl, trivial⟩⟩⟩⟩ ?_
  refine (AH_take 0 rfl (by kernel_rfl) (by kernel_rfl) (by kernel_rfl) rfl rfl (by decide) (Pu_sliceArr rfl Try.runUnderlying130 Try.sizeOf5 rfl) (AH_take 1 rfl (by kernel_rfl) (by kernel_rfl) (by kernel_rfl) rfl rfl (by decide) (Pu_fieldAddrB (off := 0) rfl rfl (by kernel_rfl)) (AH_take 2 rfl (by kernel_rfl) (by kernel_rfl) (by kernel_rfl) rfl rfl (by decide) (Pu_sliceArr rfl Try.runUnderlying52 Try.sizeOf5 rfl) (AH_ready [3] (by kernel_rfl) (by decide) ?_))))
  refine AHs_cons rfl rfl rfl (by decide) (OpT_copyB (r := 104) (r2 := 101) rfl Try.underlying30 TI.hsm5 rfl rfl rfl rfl (fun _ h => blk_rd h (keyC_name hn) (by rw [bs_length, hn]) (Nat.le_refl _)) (bs_one _) (by rw [bs_length]; decide) (show over _ _ _ = bs (nm ++ List.replicate 39 0) from by rw [List.take_of_length_le (by rw [bs_length, hn]; decide)]; exact over_bs _ nm _ 0 (by simp [hn])) ?_) ?_
  ·
    refine ⟨⟨rfl, ⟨rfl, ⟨rfl, ⟨rfl, trivial⟩⟩⟩⟩, ?_⟩
    refine (AH_take 4 rfl (by kernel_rfl) (by kernel_rfl) (by kernel_rfl) rfl rfl (by decide) (Pu_assign rfl rfl) (AH_done (by kernel_rfl) (X_then ?_)))
    refine W_seq ?_
    refine W.pre (K' := [(0, _), (1, _), (2, _), (3, _), (4, _), (7, _), (8, _), (9, _), (10, _)]) (L' := [(0, _), (101, _), (102, _), (103, _), (104, _)]) ?_ ⟨rfl, ⟨rfl, ⟨rfl, ⟨rfl, ⟨rfl, ⟨rfl, ⟨rfl, ⟨rfl, ⟨rfl, trivial⟩⟩⟩⟩⟩⟩⟩⟩⟩ ⟨rfl, ⟨rfl, ⟨rfl, ⟨rfl, ⟨rfl, trivial⟩⟩⟩⟩⟩
    refine W_draw (N := 26) (by kernel_rfl) rfl [(0, _), (101, _), (102, _), (103, _)] ⟨rfl, ⟨rfl, ⟨rfl, ⟨rfl, trivial⟩⟩⟩⟩ ?_
    refine (AH_take 0 rfl (by kernel_rfl) (by kernel_rfl) (by kernel_rfl) rfl rfl (by decide) (Pu_move rfl rfl) (AH_take 1 rfl (by kernel_rfl) (by kernel_rfl) (by kernel_rfl) rfl rfl (by decide) (Pu_sliceArrFrom 16 rfl Try.runUnderlying130 Try.sizeOf5 rfl rfl (by decide)) (AH_take 2 rfl (by kernel_rfl) (by kernel_rfl) (by kernel_rfl) rfl rfl (by decide) (Pu_fieldAddrB (off := 16) rfl rfl (by kernel_rfl)) (AH_take 3 rfl (by kernel_rfl) (by kernel_rfl) (by kernel_rfl) rfl rfl (by decide) (Pu_loadB (r := 101) rfl Try.isAgg3 rfl rfl (keyC_num hn)) (AH_take 4 rfl (by kernel_rfl) (by kernel_rfl) (by kernel_rfl) rfl rfl (by decide) (Pu_bin rfl rfl rfl (run_shr _ 24 _ _ _ (by omega))) (AH_take 5 rfl (by kernel_rfl) (by kernel_rfl) (by kernel_rfl) rfl rfl (by decide) (Pu_conv rfl rfl (conv_byte _ _ Try.runUnderlying3 Try.runUnderlying5)) (AH_take 6 rfl (by kernel_rfl) (by kernel_rfl) (by kernel_rfl) rfl rfl (by decide) (Pu_fieldAddrB (off := 16) rfl rfl (by kernel_rfl)) (AH_take 7 rfl (by kernel_rfl) (by kernel_rfl) (by kernel_rfl) rfl rfl (by decide) (Pu_loadB (r := 101) rfl Try.isAgg3 rfl rfl (keyC_num hn)) (AH_take 8 rfl (by kernel_rfl) (by kernel_rfl) (by kernel_rfl) rfl rfl (by decide) (Pu_bin rfl rfl rfl (run_shr _ 16 _ _ _ (by omega))) (AH_take 9 rfl (by kernel_rfl) (by kernel_rfl) (by kernel_rfl) rfl rfl (by decide) (Pu_conv rfl rfl (conv_byte _ _ Try.runUnderlying3 Try.runUnderlying5)) (AH_take 10 rfl (by kernel_rfl) (by kernel_rfl) (by kernel_rfl) rfl rfl (by decide) (Pu_fieldAddrB (off := 16) rfl rfl (by kernel_rfl)) (AH_take 11 rfl (by kernel_rfl) (by kernel_rfl) (by kernel_rfl) rfl rfl (by decide) (Pu_loadB (r := 101) rfl Try.isAgg3 rfl rfl (keyC_num hn)) (AH_take 12 rfl (by kernel_rfl) (by kernel_rfl) (by kernel_rfl) rfl rfl (by decide) (Pu_bin rfl rfl rfl (run_shr _ 8 _ _ _ (by omega))) (AH_take 13 rfl (by kernel_rfl) (by kernel_rfl) (by kernel_rfl) rfl rfl (by decide) (Pu_conv rfl rfl (conv_byte _ _ Try.runUnderlying3 Try.runUnderlying5)) (AH_take 14 rfl (by kernel_rfl) (by kernel_rfl) (by kernel_rfl) rfl rfl (by decide) (Pu_fieldAddrB (off := 16) rfl rfl (by kernel_rfl)) (AH_take 15 rfl (by kernel_rfl) (by kernel_rfl) (by kernel_rfl) rfl rfl (by decide) (Pu_loadB (r := 101) rfl Try.isAgg3 rfl rfl (keyC_num hn)) (AH_take 16 rfl (by kernel_rfl) (by kernel_rfl) (by kernel_rfl) rfl rfl (by decide) (Pu_conv rfl rfl (conv_byte _ _ Try.runUnderlying3 Try.runUnderlying5)) (AH_take 17 rfl (by kernel_rfl) (by kernel_rfl) (by kernel_rfl) rfl rfl (by decide) (Pu_move rfl rfl) (AH_take 18 rfl (by kernel_rfl) (by kernel_rfl) (by kernel_rfl) rfl rfl (by decide) (Pu_bin rfl rfl rfl (run_shr _ 8 _ _ _ (by omega))) (AH_take 19 rfl (by kernel_rfl) (by kernel_rfl) (by kernel_rfl) rfl rfl (by decide) (Pu_conv rfl rfl (conv_byte _ _ Try.runUnderlying3 Try.runUnderlying5)) (AH_take 20 rfl (by kernel_rfl) (by kernel_rfl) (by kernel_rfl) rfl rfl (by decide) (Pu_move rfl rfl) (AH_take 21 rfl (by kernel_rfl) (by kernel_rfl) (by kernel_rfl) rfl rfl (by decide) (Pu_conv rfl rfl (conv_byte _ _ Try.runUnderlying3 Try.runUnderlying5)) (AH_take 22 rfl (by kernel_rfl) (by kernel_rfl) (by kernel_rfl) rfl rfl (by decide) (Pu_move rfl rfl) (AH_take 23 rfl (by kernel_rfl) (by kernel_rfl) (by kernel_rfl) rfl rfl (by decide) (Pu_conv rfl rfl (conv_byte _ _ Try.runUnderlying3 Try.runUnderlying5)) (AH_ready [24] (by kernel_rfl) (by decide) ?_)))))))))))))))))))))))))
    refine AHs_cons rfl rfl rfl (by decide) (OpT_buildOnes (r := 105) (bs (numB q 4 ++ numB mark 2 ++ [byte b])) rfl rfl Try.runUnderlying30 Try.sizeOf5 Try.zeroValue5 rfl rfl (by decide) (by rw [numB_four, numB_two]; rfl) (bs_cells _) (fun v39 => ⟨⟨rfl, ⟨rfl, ⟨rfl, ⟨rfl, trivial⟩⟩⟩⟩, ?_⟩)) ?_
    ·
      refine (AH_ready [25] (by kernel_rfl) (by decide) ?_)
      refine AHs_cons rfl rfl rfl (by decide) (OpT_copyB (r := 104) (r2 := 105) rfl Try.underlying30 TI.hsm5 rfl rfl rfl rfl (fun _ h => rowP_rd h) (bs_one _) (by rw [bs_length, List.length_append, hn]; decide) (show over _ _ _ = bs (nm ++ numB q 4 ++ numB mark 2 ++ [byte b] ++ List.replicate 32 0) from by rw [List.take_of_length_le (by rw [bs_length]; simp [numB_length])]; exact over_bs _ (numB q 4 ++ numB mark 2 ++ [byte b]) _ (0 + 16) (by simp [numB_length, hn, List.take_append, List.drop_append])) ?_) ?_
      ·
        refine ⟨⟨rfl, ⟨rfl, ⟨rfl, ⟨rfl, trivial⟩⟩⟩⟩, ?_⟩
        refine (AH_done (by kernel_rfl) (X_then ?_))
        refine W_seq ?_
        refine W.pre (K' := [(0, _), (1, _), (2, _), (3, _), (4, _), (7, _), (8, _), (9, _), (10, _)]) (L' := [(0, _), (101, _), (102, _), (103, _), (104, _), (105, _)]) ?_ ⟨rfl, ⟨rfl, ⟨rfl, ⟨rfl, ⟨rfl, ⟨rfl, ⟨rfl, ⟨rfl, ⟨rfl, trivial⟩⟩⟩⟩⟩⟩⟩⟩⟩ ⟨rfl, ⟨rfl, ⟨rfl, ⟨rfl, ⟨rfl, ⟨rfl, trivial⟩⟩⟩⟩⟩⟩
        refine W_draw (N := 3) (by kernel_rfl) rfl [(0, _), (101, _), (102, _), (103, _)] ⟨rfl, ⟨rfl, ⟨rfl, ⟨rfl, trivial⟩⟩⟩⟩ ?_
        refine (AH_take 0 rfl (by kernel_rfl) (by kernel_rfl) (by kernel_rfl) rfl rfl (by decide) (Pu_sliceArrFrom 23 rfl Try.runUnderlying130 Try.sizeOf5 rfl rfl (by decide)) (AH_take 1 rfl (by kernel_rfl) (by kernel_rfl) (by kernel_rfl) rfl rfl (by decide) (Pu_sliceArr rfl Try.runUnderlying29 Try.sizeOf5 rfl) (AH_ready [2] (by kernel_rfl) (by decide) ?_)))
        refine AHs_cons rfl rfl rfl (by decide) (OpT_copyB (r := 104) (r2 := 102) rfl Try.underlying30 TI.hsm5 rfl rfl rfl rfl (fun _ h => blk_all h ht) (bs_one _) (by rw [bs_length]; simp [numB_length, hn]) (show over _ _ _ = bs (hdL nm q ++ numB mark 2 ++ [byte b] ++ t) from by rw [List.take_of_length_le (by rw [bs_length, ht]; decide)]; exact over_bs _ t _ (0 + 23) (by unfold hdL; rw [List.take_left' (by simp [numB_length, hn]), List.drop_of_length_le (by simp [numB_length, hn, ht]), List.append_nil])) ?_) ?_
        ·
          refine ⟨⟨rfl, ⟨rfl, ⟨rfl, ⟨rfl, trivial⟩⟩⟩⟩, ?_⟩
          refine (AH_done (by kernel_rfl) (X_then ?_))
          refine W_seq ?_
          refine W.pre (K' := [(0, _), (1, _), (2, _), (3, _), (4, _), (7, _), (8, _), (9, _), (10, _)]) (L' := [(0, _), (101, _), (102, _), (103, _), (104, _), (105, _)]) ?_ ⟨rfl, ⟨rfl, ⟨rfl, ⟨rfl, ⟨rfl, ⟨rfl, ⟨rfl, ⟨rfl, ⟨rfl, trivial⟩⟩⟩⟩⟩⟩⟩⟩⟩ ⟨rfl, ⟨rfl, ⟨rfl, ⟨rfl, ⟨rfl, ⟨rfl, trivial⟩⟩⟩⟩⟩⟩
          have hh : (hdL nm q ++ numB mark 2 ++ [byte b] ++ t).length = 55 := by simp [hdL_length hn, numB_length, ht]
          refine W_regL (WL_pure rfl rfl (by decide) (Pu_sliceArr rfl Try.runUnderlying130 Try.sizeOf5 rfl) (WL_cons rfl rfl (by decide) (OpT_call 200 [0, 101, 102, 103, 104, 105] [] rfl Try.call24 rfl rfl rfl (by decide) (by decide) (sum_spec _ (hdL nm q ++ numB mark 2 ++ [byte b] ++ t) (by omega) _ (fun h hq => rdP_cast (rd_star 4 rfl (fun _ h => blk_all (m := 55) h hh) h hq) rfl hh.symm)) (fun v45 Ps45 hR45 => ?_))))
          obtain ⟨rfl, rfl⟩ := hR45
          refine (WL_cons0 rfl rfl (OpT_storeAll (r := 103) rfl Try.sizeOf29 rfl rfl rfl rfl ((bs_length _).trans (sha_length _)) (bs_one _) ?_))
          refine (WL_nil (X_then ?_))
          refine W_ret ?_
          exact X_ret [] (Ps := []) (resC1 (r := 103) Try.results73 rfl Try.isAgg29 Try.sizeOf29 rfl ((bs_length _).trans (sha_length _))) rfl (by decide) ⟨rfl, rfl⟩
        exact AHs_nil
      exact AHs_nil
    exact AHs_nil
  exact AHs_nil
theorem ksteps_spec (nm : List UInt8) (hn : nm.length = 16) (q : Int) (i a b : Nat) (hab : a ≤ b) (hb : b ≤ 3) (t : List UInt8) (ht : t.length = 32) (F : HP) : CallsS Try.prog 64 #[keyV nm q, .int .i64 (i : Int), .int .i64 (a : Int), .int .i64 (b : Int), idV t] F [] (fun r Ps => r = idV (walkC nm q i a (b - a) t) ∧ Ps = []) := by
  refine callsS_enter Try.func64 rfl Try.ntmps64 (by simp) (fun E => ?_)
  refine W_seq ?_
  refine W.pre (K' := [(0, _), (1, _), (2, _), (3, _), (4, _)]) (L' := [(0, _)]) ?_ ⟨rfl, ⟨rfl, ⟨rfl, ⟨rfl, ⟨rfl, trivial⟩⟩⟩⟩⟩ ⟨rfl, trivial⟩
  refine W_regL (WL_cons rfl rfl (by decide) (OpT_box (r := 101) rfl rfl rfl (fun g101 => (WL_cons rfl rfl (by decide) (OpT_box (r := 102) rfl rfl rfl (fun g102 => (WL_cons rfl rfl (by decide) (OpT_alloc (r := 103) (cs := (bs zeroId)) rfl (zero_run (by kernel_rfl : (Try.prog.info? 29).bind (·.zero) = some (.agg (bs zeroId).toArray))) rfl (fun g103 => (WL_nil (X_then ?_)))))))))))
  refine W_seq ?_
  refine W_seq ?_
  refine W.pre (K' := [(0, _), (1, _), (2, _), (3, _), (4, _), (5, _), (9, _), (10, _)]) (L' := [(0, _), (101, _), (102, _), (103, _)]) ?_ ⟨rfl, ⟨rfl, ⟨rfl, ⟨rfl, ⟨rfl, ⟨rfl, ⟨rfl, ⟨rfl, trivial⟩⟩⟩⟩⟩⟩⟩⟩ ⟨rfl, ⟨rfl, ⟨rfl, ⟨rfl, trivial⟩⟩⟩⟩
  refine W_regL (WL_pure rfl rfl (by decide) (Pu_move rfl rfl) (WL_pure rfl rfl (by decide) (Pu_assign rfl rfl) (WL_nil (X_then ?_))))
  refine W_block ?_
  refine W_loop (α := Nat) (fun x => [(1, .int .i64 (i : Int)), (3, .int .i64 (b : Int)), (5, .pointer (some ⟨g101, 0, none⟩)), (9, .pointer (some ⟨g102, 0, none⟩)), (10, .pointer (some ⟨g103, 0, none⟩)), (11, .int .i64 ((a + x : Nat) : Int))]) (fun x => [(0, F), (101, blk g101 104 (keyC nm q)), (102, blk g102 29 (bs (walkC nm q i a x t))), (103, blk g103 29 (bs zeroId))]) (fun x => a + x ≤ b) (fun x => b - (a + x)) (0) (by omega) ⟨rfl, ⟨rfl, ⟨rfl, ⟨rfl, ⟨rfl, ⟨rfl, trivial⟩⟩⟩⟩⟩⟩ ⟨rfl, ⟨rfl, ⟨rfl, ⟨rfl, trivial⟩⟩⟩⟩ (fun x hx => ?_)
  have hw := walkC_length (nm := nm) (q := q) (i := i) (a := a) ht x
  refine W_seq ?_
  refine W_seq ?_
  refine W.pre (K' := [(1, _), (3, _), (5, _), (9, _), (10, _), (11, _)]) (L' := [(0, _), (101, _), (102, _), (103, _)]) ?_ ⟨rfl, ⟨rfl, ⟨rfl, ⟨rfl, ⟨rfl, ⟨rfl, trivial⟩⟩⟩⟩⟩⟩ ⟨rfl, ⟨rfl, ⟨rfl, ⟨rfl, trivial⟩⟩⟩⟩
  refine W_regL (WL_pure rfl rfl (by decide) (Pu_move rfl rfl) (WL_pure rfl rfl (by decide) (Pu_move rfl rfl) (WL_pure rfl rfl (by decide) (Pu_bin rfl rfl rfl (run_lss _ _ _ _ _ _)) (WL_nil (X_then ?_)))))
  refine W_cond rfl (fun hc15 => ?_) (fun hc15 => ?_)
  ·
    have hlt : a + x < b := by have := of_decide_eq_true hc15; omega
    refine W_skip (X_then ?_)
    refine W_seq ?_
    refine W_block ?_
    refine W.pre (K' := [(1, _), (3, _), (5, _), (9, _), (10, _), (11, _), (15, _)]) (L' := [(0, _), (101, _), (102, _), (103, _)]) ?_ ⟨rfl, ⟨rfl, ⟨rfl, ⟨rfl, ⟨rfl, ⟨rfl, ⟨rfl, trivial⟩⟩⟩⟩⟩⟩⟩ ⟨rfl, ⟨rfl, ⟨rfl, ⟨rfl, trivial⟩⟩⟩⟩
    refine W_regL (WL_pure rfl rfl (by decide) (Pu_loadBN (r := 101) rfl Try.isAgg104 Try.sizeOf104 rfl rfl (keyC_length hn) (load_all (keyC_length hn))) (WL_pure rfl rfl (by decide) (Pu_move rfl rfl) (WL_pure rfl rfl (by decide) (Pu_move rfl rfl) (WL_pure rfl rfl (by decide) (Pu_loadBN (r := 102) rfl Try.isAgg29 Try.sizeOf29 rfl rfl ((bs_length _).trans hw) (load_all ((bs_length _).trans hw))) (WL_cons rfl rfl (by decide) (OpT_call 200 [0, 101, 102, 103] [] rfl Try.call73 rfl rfl rfl (by decide) (by decide) (khash_spec nm hn q (i : Int) ((a + x : Nat) : Int) _ hw _) (fun v22 Ps22 hR22 => ?_)))))))
    obtain ⟨rfl, rfl⟩ := hR22
    refine (WL_cons0 rfl rfl (OpT_storeAll (r := 102) rfl Try.sizeOf29 rfl rfl rfl ((bs_length _).trans hw) ((bs_length _).trans (hashC_length _ _ _ _ _)) (bs_one _) ?_))
    refine (WL_nil (X_block (X_then ?_)))
    refine W.pre (K' := [(1, _), (3, _), (5, _), (9, _), (10, _), (11, _), (15, _)]) (L' := [(0, _), (101, _), (102, _), (103, _)]) ?_ ⟨rfl, ⟨rfl, ⟨rfl, ⟨rfl, ⟨rfl, ⟨rfl, ⟨rfl, trivial⟩⟩⟩⟩⟩⟩⟩ ⟨rfl, ⟨rfl, ⟨rfl, ⟨rfl, trivial⟩⟩⟩⟩
    refine W_regL (WL_pure rfl rfl (by decide) (Pu_move rfl rfl) (WL_pure rfl rfl (by decide) (Pu_bin rfl rfl rfl (run_add _ _ _ _ _ (by omega))) (WL_pure rfl rfl (by decide) (Pu_assign rfl rfl) (WL_nil ?_))))
    exact X_round (x + 1) (by omega) (by omega) ⟨rfl, rfl, rfl, rfl, rfl, lookV_eq rfl (int_eq (by omega)), trivial⟩ ⟨rfl, rfl, rfl, rfl, trivial⟩
  ·
    obtain rfl : b = a + x := by have := of_decide_eq_false hc15; omega
    have hbx : a + x - a = x := by omega
    rw [hbx]
    refine W_exit (X_then_exit (X_then_exit (X_block_exit (X_then ?_))))
    refine W_seq ?_
    refine W.pre (K' := [(1, _), (3, _), (5, _), (9, _), (10, _), (11, _), (15, _)]) (L' := [(0, _), (101, _), (102, _), (103, _)]) ?_ ⟨rfl, ⟨rfl, ⟨rfl, ⟨rfl, ⟨rfl, ⟨rfl, ⟨rfl, trivial⟩⟩⟩⟩⟩⟩⟩ ⟨rfl, ⟨rfl, ⟨rfl, ⟨rfl, trivial⟩⟩⟩⟩
    refine W_regL (WL_pure rfl rfl (by decide) (Pu_loadBN (r := 102) rfl Try.isAgg29 Try.sizeOf29 rfl rfl ((bs_length _).trans hw) (load_all ((bs_length _).trans hw))) (WL_cons0 rfl rfl (OpT_storeAll (r := 103) rfl Try.sizeOf29 rfl rfl rfl rfl ((bs_length _).trans hw) (bs_one _) ?_)))
    refine (WL_nil (X_then ?_))
    refine W_ret ?_
    exact X_ret [] (Ps := []) (resC1 (r := 103) Try.results64 rfl Try.isAgg29 Try.sizeOf29 rfl ((bs_length _).trans hw)) rfl (by decide) ⟨rfl, rfl⟩
end Go.Proofs.Ytinamipkpdlphaa
/- Signatures for once of the program: ends of chains. -/
namespace Go.Proofs.Ytinamipkpdlphaa
open Go.RowKit
set_option linter.unusedVariables false
set_option linter.unusedSimpArgs false
set_option maxRecDepth 8000

theorem kends_spec (nm : List UInt8) (hn : nm.length = 16) (q : Int) (f : FuncId) (cap : List Value) (hc : ∀ args w, (callFunc f args).run Try.prog w = .ok (.enter f args) w) (Y : Nat → List UInt8) (hY : ∀ i, i < 133 → (Y i).length = 32) (sv : Value) (sig : List UInt8) (P1 P2 P3 : HP)
    (hcl : ∀ G : HP, (∀ h, G h → rdB sv sig h) → ∀ i : Nat, i < 133 → CallsS Try.prog f ([Value.int .i64 (i : Int)] ++ cap).toArray G [P1, P2, P3] (fun r Ps => r = idV (Y i) ∧ Ps = [P1, P2, P3])) (F : HP) (hF : ∀ h, F h → rdB sv sig h) :
    CallsS Try.prog 62 #[keyV nm q, .func (.func f) #[] cap.toArray] F [P1, P2, P3] (fun r Ps => r = idV (endsC nm q Y) ∧ Ps = [P1, P2, P3]) := by
  refine callsS_enter Try.func62 rfl Try.ntmps62 (by simp) (fun E => ?_)
  refine W_seq ?_
  refine W.pre (K' := [(0, _), (1, _)]) (L' := [(0, _), (1, _), (2, _), (3, _)]) ?_ ⟨rfl, ⟨rfl, trivial⟩⟩ ⟨rfl, ⟨rfl, ⟨rfl, ⟨rfl, trivial⟩⟩⟩⟩
  refine W_regL (WL_cons rfl rfl (by decide) (OpT_box (r := 101) rfl rfl rfl (fun g101 => (WL_cons rfl rfl (by decide) (OpT_alloc (r := 102) (cs := (bs zeroId)) rfl (zero_run (by kernel_rfl : (Try.prog.info? 29).bind (·.zero) = some (.agg (bs zeroId).toArray))) rfl (fun g102 => (WL_nil (X_then ?_))))))))
  refine W_seq ?_
  refine W.pre (K' := [(0, _), (1, _), (2, _), (4, _)]) (L' := [(0, _), (1, _), (2, _), (3, _), (101, _), (102, _)]) ?_ ⟨rfl, ⟨rfl, ⟨rfl, ⟨rfl, trivial⟩⟩⟩⟩ ⟨rfl, ⟨rfl, ⟨rfl, ⟨rfl, ⟨rfl, ⟨rfl, trivial⟩⟩⟩⟩⟩⟩
  refine W_regL (WL_pure rfl rfl (by decide) (Pu_loadBN (r := 101) rfl Try.isAgg104 Try.sizeOf104 rfl rfl (keyC_length hn) (load_all (keyC_length hn))) (WL_cons rfl rfl (by decide) (OpT_call 200 [0, 1, 2, 3, 101, 102] [] rfl Try.call72 rfl rfl rfl (by decide) (by decide) (khead_spec nm hn q 32896 _) (fun v9 Ps9 hR9 => ?_))))
  subst hR9
  refine WL_turn (P' := rowB 5 v9 (hdL nm q ++ [128, 128])) 200 rfl (fun h hp => by rw [show numB 32896 2 = [128, 128] from by decide] at hp; exact hp) ?_
  refine (WL_pure rfl rfl (by decide) (Pu_assign rfl rfl) (WL_nil (X_then ?_)))
  refine W_seq ?_
  refine W_seq ?_
  refine W.pre (K' := [(0, _), (1, _), (2, _), (4, _), (5, _)]) (L' := [(0, _), (1, _), (2, _), (3, _), (101, _), (102, _), (200, _)]) ?_ ⟨rfl, ⟨rfl, ⟨rfl, ⟨rfl, ⟨rfl, trivial⟩⟩⟩⟩⟩ ⟨rfl, ⟨rfl, ⟨rfl, ⟨rfl, ⟨rfl, ⟨rfl, ⟨rfl, trivial⟩⟩⟩⟩⟩⟩⟩
  refine W_regL (WL_pure rfl rfl (by decide) (Pu_move rfl rfl) (WL_nil (X_then ?_)))
  refine W_block ?_
  refine W_loop (α := Value × Nat) (fun y => [(1, .func (.func f) #[] cap.toArray), (2, .pointer (some ⟨g101, 0, none⟩)), (4, .pointer (some ⟨g102, 0, none⟩)), (5, y.1), (10, .int .i64 (y.2 : Int))]) (fun y => [(0, F), (1, P1), (2, P2), (3, P3), (101, blk g101 104 (keyC nm q)), (102, blk g102 29 (bs zeroId)), (200, rowB 5 y.1 (hdL nm q ++ [128, 128] ++ rowsC Y y.2))]) (fun y => y.2 ≤ 133) (fun y => 133 - y.2) ((v9, 0)) (by dsimp only; omega) ⟨rfl, ⟨rfl, ⟨rfl, ⟨rfl, ⟨rfl, trivial⟩⟩⟩⟩⟩ ⟨rfl, rfl, rfl, rfl, rfl, rfl, look_eq rfl (by rw [rowsC, List.append_nil]), trivial⟩ (fun y hy => ?_)
  have hyl : (rowsC Y y.2).length = 32 * y.2 := rowsC_length fun i hi => hY i (by omega)
  refine W_seq ?_
  refine W.pre (K' := [(1, _), (2, _), (4, _), (5, _), (10, _)]) (L' := [(0, _), (1, _), (2, _), (3, _), (101, _), (102, _), (200, _)]) ?_ ⟨rfl, ⟨rfl, ⟨rfl, ⟨rfl, ⟨rfl, trivial⟩⟩⟩⟩⟩ ⟨rfl, ⟨rfl, ⟨rfl, ⟨rfl, ⟨rfl, ⟨rfl, ⟨rfl, trivial⟩⟩⟩⟩⟩⟩⟩
  refine W_regL (WL_pure rfl rfl (by decide) (Pu_bin rfl rfl rfl (run_lss _ _ _ _ _ _)) (WL_nil (X_then ?_)))
  refine W_seq ?_
  refine W_cond rfl (fun hc11 => ?_) (fun hc11 => ?_)
  ·
    have hlt : y.2 < 133 := by have := of_decide_eq_true hc11; omega
    have hYl := hY y.2 hlt
    refine W_skip (X_then ?_)
    refine W_seq ?_
    refine W_block ?_
    refine W_seq ?_
    refine W.pre (K' := [(1, _), (2, _), (4, _), (5, _), (10, _), (11, _)]) (L' := [(0, _), (1, _), (2, _), (3, _), (101, _), (102, _), (200, _)]) ?_ ⟨rfl, ⟨rfl, ⟨rfl, ⟨rfl, ⟨rfl, ⟨rfl, trivial⟩⟩⟩⟩⟩⟩ ⟨rfl, ⟨rfl, ⟨rfl, ⟨rfl, ⟨rfl, ⟨rfl, ⟨rfl, trivial⟩⟩⟩⟩⟩⟩⟩
    refine W_regL (WL_pure rfl rfl (by decide) (Pu_move rfl rfl) (WL_pure rfl rfl (by decide) (Pu_assign rfl rfl) (WL_nil (X_then ?_))))
    refine W_seq ?_
    refine W.pre (K' := [(1, _), (2, _), (4, _), (5, _), (6, _), (10, _), (11, _)]) (L' := [(0, _), (1, _), (2, _), (3, _), (101, _), (102, _), (200, _)]) ?_ ⟨rfl, ⟨rfl, ⟨rfl, ⟨rfl, ⟨rfl, ⟨rfl, ⟨rfl, trivial⟩⟩⟩⟩⟩⟩⟩ ⟨rfl, ⟨rfl, ⟨rfl, ⟨rfl, ⟨rfl, ⟨rfl, ⟨rfl, trivial⟩⟩⟩⟩⟩⟩⟩
    refine W_regL (WL_pure rfl rfl (by decide) (Pu_move rfl rfl) (WL_pure rfl rfl (by decide) (Pu_move rfl rfl) (WL_cons rfl rfl (by decide) (OpT_callV 700 [0, 101, 102, 200] [1, 2, 3] rfl rfl hc rfl rfl rfl (by decide) (by decide) (hcl _ (rd_star 0 rfl hF) y.2 hlt) (fun v15 Ps15 hR15 => ?_)))))
    obtain ⟨rfl, rfl⟩ := hR15
    refine (WL_cons rfl rfl (by decide) (OpT_alloc (r := 703) (cs := (bs zeroId)) rfl (zero_run (by kernel_rfl : (Try.prog.info? 29).bind (·.zero) = some (.agg (bs zeroId).toArray))) rfl (fun g703 => (WL_cons0 rfl rfl (OpT_storeAll (r := 703) rfl Try.sizeOf29 rfl rfl rfl rfl ((bs_length _).trans hYl) (bs_one _) ?_)))))
    refine (WL_nil (X_then ?_))
    refine W.pre (K' := [(1, _), (2, _), (4, _), (5, _), (6, _), (7, _), (10, _), (11, _)]) (L' := [(0, _), (101, _), (102, _), (200, _), (700, _), (701, _), (702, _), (703, _)]) ?_ ⟨rfl, ⟨rfl, ⟨rfl, ⟨rfl, ⟨rfl, ⟨rfl, ⟨rfl, ⟨rfl, trivial⟩⟩⟩⟩⟩⟩⟩⟩ ⟨rfl, ⟨rfl, ⟨rfl, ⟨rfl, ⟨rfl, ⟨rfl, ⟨rfl, ⟨rfl, trivial⟩⟩⟩⟩⟩⟩⟩⟩
    refine W_regL (WL_pure rfl rfl (by decide) (Pu_move rfl rfl) (WL_pure rfl rfl (by decide) (Pu_sliceArr rfl Try.runUnderlying29 Try.sizeOf5 rfl) (WL_cons rfl rfl (by decide) (OpT_append (r := 200) (r2 := 703) rfl Try.underlying30 TI.hi5 TI.hz5 TI.hs5 TI.hby5 TI.hzs5 (by decide) rfl rfl rfl rfl (fun _ h => blk_all h hYl) (bs_one _) (by unfold maxLen; simp [hdL_length hn, hyl] <;> omega) (by simp [hdL_length hn, hyl] <;> omega) (fun v18 => ?_)))))
    refine WL_turn (P' := rowB 5 v18 (hdL nm q ++ [128, 128] ++ rowsC Y (y.2 + 1))) 200 rfl (fun h hp => rowB_mk hp (rows_len hYl) (rows_step _ Y y.2)) ?_
    refine (WL_pure rfl rfl (by decide) (Pu_assign rfl rfl) (WL_nil (X_block (X_then ?_))))
    refine W.pre (K' := [(1, _), (2, _), (4, _), (5, _), (6, _), (7, _), (10, _), (11, _)]) (L' := [(0, _), (101, _), (102, _), (200, _), (700, _), (701, _), (702, _), (703, _)]) ?_ ⟨rfl, ⟨rfl, ⟨rfl, ⟨rfl, ⟨rfl, ⟨rfl, ⟨rfl, ⟨rfl, trivial⟩⟩⟩⟩⟩⟩⟩⟩ ⟨rfl, ⟨rfl, ⟨rfl, ⟨rfl, ⟨rfl, ⟨rfl, ⟨rfl, ⟨rfl, trivial⟩⟩⟩⟩⟩⟩⟩⟩
    refine W_regL (WL_pure rfl rfl (by decide) (Pu_bin rfl rfl rfl (run_add _ _ _ _ _ (by omega))) (WL_pure rfl rfl (by decide) (Pu_move rfl rfl) (WL_nil ?_)))
    refine X_ren 700 1 rfl ?_
    refine X_ren 701 2 rfl ?_
    refine X_ren 702 3 rfl ?_
    exact X_round (v18, y.2 + 1) (by dsimp only; omega) (by show 133 - (y.2 + 1) < 133 - y.2; omega) ⟨rfl, rfl, rfl, rfl, rfl, trivial⟩ ⟨rfl, rfl, rfl, rfl, rfl, rfl, rfl, trivial⟩
  ·
    have hye : y.2 = 133 := by have := of_decide_eq_false hc11; omega
    rw [hye] at hyl ⊢
    refine W_exit (X_then_exit (X_then_exit (X_block_exit (X_then ?_))))
    refine W_seq ?_
    refine W.pre (K' := [(1, _), (2, _), (4, _), (5, _), (10, _), (11, _)]) (L' := [(0, _), (1, _), (2, _), (3, _), (101, _), (102, _), (200, _)]) ?_ ⟨rfl, ⟨rfl, ⟨rfl, ⟨rfl, ⟨rfl, ⟨rfl, trivial⟩⟩⟩⟩⟩⟩ ⟨rfl, ⟨rfl, ⟨rfl, ⟨rfl, ⟨rfl, ⟨rfl, ⟨rfl, trivial⟩⟩⟩⟩⟩⟩⟩
    refine W_regL (WL_pure rfl rfl (by decide) (Pu_move rfl rfl) (WL_cons rfl rfl (by decide) (OpT_call 300 [0, 1, 2, 3, 101, 102, 200] [] rfl Try.call24 rfl rfl rfl (by decide) (by decide) (sum_spec y.1 (hdL nm q ++ [128, 128] ++ rowsC Y 133) (by simp [hdL_length hn, hyl]) _ (rd_star 6 rfl rowB_rd)) (fun v21 Ps21 hR21 => ?_))))
    obtain ⟨rfl, rfl⟩ := hR21
    refine (WL_cons0 rfl rfl (OpT_storeAll (r := 102) rfl Try.sizeOf29 rfl rfl rfl rfl ((bs_length _).trans (sha_length _)) (bs_one _) ?_))
    refine (WL_nil (X_then ?_))
    refine W_ret ?_
    exact X_ret [1, 2, 3] (Ps := [_, _, _]) (resC1 (r := 102) Try.results62 rfl Try.isAgg29 Try.sizeOf29 rfl ((bs_length _).trans (sha_length _))) rfl (by decide) ⟨rfl, rfl⟩
end Go.Proofs.Ytinamipkpdlphaa
/- Signatures for once of the program: digits. -/
namespace Go.Proofs.Ytinamipkpdlphaa
open Go.RowKit
set_option linter.unusedVariables false
set_option linter.unusedSimpArgs false
set_option maxRecDepth 8000

theorem kdigits_spec (nm : List UInt8) (hn : nm.length = 16) (q : Int) (mv : Value) (c msg : List UInt8) (hcl : c.length = 32) (hml : msg.length ≤ 1000000) (F : HP) (hm : ∀ h, F h → rdB mv msg h) : CallsS Try.prog 61 #[keyV nm q, idV c, mv] F [] (fun r Ps => r = nsV (digL (digB2 nm q c msg)) ∧ Ps = []) := by
  refine callsS_enter Try.func61 rfl Try.ntmps61 (by simp) (fun E => ?_)
  refine W_seq ?_
  refine W.pre (K' := [(0, _), (1, _), (2, _)]) (L' := [(0, _)]) ?_ ⟨rfl, ⟨rfl, ⟨rfl, trivial⟩⟩⟩ ⟨rfl, trivial⟩
  refine W_regL (WL_cons rfl rfl (by decide) (OpT_box (r := 101) rfl rfl rfl (fun g101 => (WL_cons rfl rfl (by decide) (OpT_box (r := 102) rfl rfl rfl (fun g102 => (WL_cons rfl rfl (by decide) (OpT_alloc (r := 103) (cs := (nsC (List.replicate 133 0))) rfl (zero_run (by kernel_rfl : (Try.prog.info? 99).bind (·.zero) = some (nsV (List.replicate 133 0)))) rfl (fun g103 => (WL_nil (X_then ?_)))))))))))
  refine W_cut (α := Nat) (fun z7 => [(6, .pointer (some ⟨g103, 0, none⟩)), (7, .pointer (some ⟨z7, 0, none⟩))]) (fun z7 => [(0, F), (103, blk g103 99 (nsC (List.replicate 133 0))), (181, blk z7 29 (bs (digB nm q c msg)))]) (fun z7 => True) ?_ (fun z7 _ => ?_)
  ·
    refine W.pre (K' := [(0, _), (1, _), (2, _), (3, _), (4, _), (6, _)]) (L' := [(0, _), (101, _), (102, _), (103, _)]) ?_ ⟨rfl, ⟨rfl, ⟨rfl, ⟨rfl, ⟨rfl, ⟨rfl, trivial⟩⟩⟩⟩⟩⟩ ⟨rfl, ⟨rfl, ⟨rfl, ⟨rfl, trivial⟩⟩⟩⟩
    refine W_draw (N := 8) (by kernel_rfl) rfl [(0, _), (101, _), (102, _), (103, _)] ⟨rfl, ⟨rfl, ⟨rfl, ⟨rfl, trivial⟩⟩⟩⟩ ?_
    refine (AH_take 0 rfl (by kernel_rfl) (by kernel_rfl) (by kernel_rfl) rfl rfl (by decide) (Pu_loadBN (r := 101) rfl Try.isAgg104 Try.sizeOf104 rfl rfl (keyC_length hn) (load_all (keyC_length hn))) (AH_take 2 rfl (by kernel_rfl) (by kernel_rfl) (by kernel_rfl) rfl rfl (by decide) (Pu_sliceArr rfl Try.runUnderlying29 Try.sizeOf5 rfl) (AH_take 4 rfl (by kernel_rfl) (by kernel_rfl) (by kernel_rfl) rfl rfl (by decide) (Pu_move rfl rfl) (AH_ready [1, 6] (by kernel_rfl) (by decide) ?_))))
    refine AHs_cons rfl rfl rfl (by decide) (OpT_call 200 [0, 101, 102, 103] [] rfl Try.call72 rfl rfl rfl (by decide) (by decide) (khead_spec nm hn q 33153 _) (fun v16 Ps16 hR16 => ?_)) ?_
    ·
      subst hR16
      refine ⟨⟨rfl, ⟨rfl, ⟨rfl, ⟨rfl, trivial⟩⟩⟩⟩, ?_⟩
      refine AH_turn (P' := rowB 5 v16 (hdL nm q ++ [129, 129])) 200 rfl (fun h hp => by rw [show numB 33153 2 = [129, 129] from by decide] at hp; exact hp) ?_
      refine (AH_ready [3, 6] (by kernel_rfl) (by decide) ?_)
      refine AHs_cons rfl rfl rfl (by decide) (OpT_append (r := 200) (r2 := 102) rfl Try.underlying30 TI.hi5 TI.hz5 TI.hs5 TI.hby5 TI.hzs5 (by decide) rfl rfl rfl rfl (fun _ h => blk_all h hcl) (bs_one _) (by unfold maxLen; simp [hdL_length hn, numB_length, *] <;> omega) (by simp [hdL_length hn, numB_length, *] <;> omega) (fun v18 => ?_)) ?_
      ·
        refine ⟨⟨rfl, ⟨rfl, ⟨rfl, ⟨rfl, trivial⟩⟩⟩⟩, ?_⟩
        refine AH_turn (P' := rowB 5 v18 (hdL nm q ++ [129, 129] ++ c)) 200 rfl (fun h hp => rowB_mk hp (by simp [hdL_length hn, numB_length, *] <;> omega) (by simp only [bs_append])) ?_
        refine (AH_ready [5, 6] (by kernel_rfl) (by decide) ?_)
        refine AHs_cons rfl rfl rfl (by decide) (OpT_call 300 [0, 101, 102, 103, 200] [] rfl Try.call46 rfl rfl rfl (by decide) (by decide) (pair_spec v18 mv (hdL nm q ++ [129, 129] ++ c) msg (by simp [hdL_length hn, hcl]) (by omega) _ (rd_star 4 rfl rowB_rd) (rd_star 0 rfl hm)) (fun v20 Ps20 hR20 => ?_)) ?_
        ·
          obtain ⟨rfl, rfl⟩ := hR20
          refine ⟨⟨rfl, ⟨rfl, ⟨rfl, ⟨rfl, trivial⟩⟩⟩⟩, ?_⟩
          refine (AH_ready [6] (by kernel_rfl) (by decide) ?_)
          refine AHs_cons rfl rfl rfl (by decide) (OpT_alloc (r := 301) (cs := (bs zeroId)) rfl (zero_run (by kernel_rfl : (Try.prog.info? 29).bind (·.zero) = some (.agg (bs zeroId).toArray))) rfl (fun g301 => ⟨⟨rfl, ⟨rfl, ⟨rfl, ⟨rfl, trivial⟩⟩⟩⟩, ?_⟩)) ?_
          ·
            refine (AH_ready [7] (by kernel_rfl) (by decide) ?_)
            refine AHs_cons0 rfl rfl rfl (OpT_storeAll (r := 301) rfl Try.sizeOf29 rfl rfl rfl rfl ((bs_length _).trans (sha_length _)) (bs_one _) ?_) ?_
            ·
              refine ⟨⟨rfl, ⟨rfl, ⟨rfl, ⟨rfl, trivial⟩⟩⟩⟩, ?_⟩
              refine (AH_done (by kernel_rfl) ?_)
              refine X_ren 301 181 rfl ?_
              exact X_cut g301 trivial ⟨rfl, rfl, trivial⟩ ⟨rfl, rfl, rfl, trivial⟩
            exact AHs_nil
          exact AHs_nil
        refine AHs_cons rfl rfl rfl (by decide) (OpT_alloc (r := 201) (cs := (bs zeroId)) rfl (zero_run (by kernel_rfl : (Try.prog.info? 29).bind (·.zero) = some (.agg (bs zeroId).toArray))) rfl (fun g201 => ⟨⟨rfl, ⟨rfl, ⟨rfl, ⟨rfl, trivial⟩⟩⟩⟩, ?_⟩)) ?_
        ·
          refine (AH_ready [5] (by kernel_rfl) (by decide) ?_)
          refine AHs_cons rfl rfl rfl (by decide) (OpT_call 300 [0, 101, 102, 103, 200, 201] [] rfl Try.call46 rfl rfl rfl (by decide) (by decide) (pair_spec v18 mv (hdL nm q ++ [129, 129] ++ c) msg (by simp [hdL_length hn, hcl]) (by omega) _ (rd_star 4 rfl rowB_rd) (rd_star 0 rfl hm)) (fun v20 Ps20 hR20 => ?_)) ?_
          ·
            obtain ⟨rfl, rfl⟩ := hR20
            refine ⟨⟨rfl, ⟨rfl, ⟨rfl, ⟨rfl, trivial⟩⟩⟩⟩, ?_⟩
            refine (AH_ready [7] (by kernel_rfl) (by decide) ?_)
            refine AHs_cons0 rfl rfl rfl (OpT_storeAll (r := 201) rfl Try.sizeOf29 rfl rfl rfl rfl ((bs_length _).trans (sha_length _)) (bs_one _) ?_) ?_
            ·
              refine ⟨⟨rfl, ⟨rfl, ⟨rfl, ⟨rfl, trivial⟩⟩⟩⟩, ?_⟩
              refine (AH_done (by kernel_rfl) ?_)
              refine X_ren 201 181 rfl ?_
              exact X_cut g201 trivial ⟨rfl, rfl, trivial⟩ ⟨rfl, rfl, rfl, trivial⟩
            exact AHs_nil
          exact AHs_nil
        exact AHs_nil
      refine AHs_cons rfl rfl rfl (by decide) (OpT_alloc (r := 201) (cs := (bs zeroId)) rfl (zero_run (by kernel_rfl : (Try.prog.info? 29).bind (·.zero) = some (.agg (bs zeroId).toArray))) rfl (fun g201 => ⟨⟨rfl, ⟨rfl, ⟨rfl, ⟨rfl, trivial⟩⟩⟩⟩, ?_⟩)) ?_
      ·
        refine (AH_ready [3] (by kernel_rfl) (by decide) ?_)
        refine AHs_cons rfl rfl rfl (by decide) (OpT_append (r := 200) (r2 := 102) rfl Try.underlying30 TI.hi5 TI.hz5 TI.hs5 TI.hby5 TI.hzs5 (by decide) rfl rfl rfl rfl (fun _ h => blk_all h hcl) (bs_one _) (by unfold maxLen; simp [hdL_length hn, numB_length, *] <;> omega) (by simp [hdL_length hn, numB_length, *] <;> omega) (fun v18 => ?_)) ?_
        ·
          refine ⟨⟨rfl, ⟨rfl, ⟨rfl, ⟨rfl, trivial⟩⟩⟩⟩, ?_⟩
          refine AH_turn (P' := rowB 5 v18 (hdL nm q ++ [129, 129] ++ c)) 200 rfl (fun h hp => rowB_mk hp (by simp [hdL_length hn, numB_length, *] <;> omega) (by simp only [bs_append])) ?_
          refine (AH_ready [5] (by kernel_rfl) (by decide) ?_)
          refine AHs_cons rfl rfl rfl (by decide) (OpT_call 300 [0, 101, 102, 103, 200, 201] [] rfl Try.call46 rfl rfl rfl (by decide) (by decide) (pair_spec v18 mv (hdL nm q ++ [129, 129] ++ c) msg (by simp [hdL_length hn, hcl]) (by omega) _ (rd_star 4 rfl rowB_rd) (rd_star 0 rfl hm)) (fun v20 Ps20 hR20 => ?_)) ?_
          ·
            obtain ⟨rfl, rfl⟩ := hR20
            refine ⟨⟨rfl, ⟨rfl, ⟨rfl, ⟨rfl, trivial⟩⟩⟩⟩, ?_⟩
            refine (AH_ready [7] (by kernel_rfl) (by decide) ?_)
            refine AHs_cons0 rfl rfl rfl (OpT_storeAll (r := 201) rfl Try.sizeOf29 rfl rfl rfl rfl ((bs_length _).trans (sha_length _)) (bs_one _) ?_) ?_
            ·
              refine ⟨⟨rfl, ⟨rfl, ⟨rfl, ⟨rfl, trivial⟩⟩⟩⟩, ?_⟩
              refine (AH_done (by kernel_rfl) ?_)
              refine X_ren 201 181 rfl ?_
              exact X_cut g201 trivial ⟨rfl, rfl, trivial⟩ ⟨rfl, rfl, rfl, trivial⟩
            exact AHs_nil
          exact AHs_nil
        exact AHs_nil
      exact AHs_nil
    refine AHs_cons rfl rfl rfl (by decide) (OpT_alloc (r := 104) (cs := (bs zeroId)) rfl (zero_run (by kernel_rfl : (Try.prog.info? 29).bind (·.zero) = some (.agg (bs zeroId).toArray))) rfl (fun g104 => ⟨⟨rfl, ⟨rfl, ⟨rfl, ⟨rfl, trivial⟩⟩⟩⟩, ?_⟩)) ?_
    ·
      refine (AH_ready [1] (by kernel_rfl) (by decide) ?_)
      refine AHs_cons rfl rfl rfl (by decide) (OpT_call 200 [0, 101, 102, 103, 104] [] rfl Try.call72 rfl rfl rfl (by decide) (by decide) (khead_spec nm hn q 33153 _) (fun v16 Ps16 hR16 => ?_)) ?_
      ·
        subst hR16
        refine ⟨⟨rfl, ⟨rfl, ⟨rfl, ⟨rfl, trivial⟩⟩⟩⟩, ?_⟩
        refine AH_turn (P' := rowB 5 v16 (hdL nm q ++ [129, 129])) 200 rfl (fun h hp => by rw [show numB 33153 2 = [129, 129] from by decide] at hp; exact hp) ?_
        refine (AH_ready [3] (by kernel_rfl) (by decide) ?_)
        refine AHs_cons rfl rfl rfl (by decide) (OpT_append (r := 200) (r2 := 102) rfl Try.underlying30 TI.hi5 TI.hz5 TI.hs5 TI.hby5 TI.hzs5 (by decide) rfl rfl rfl rfl (fun _ h => blk_all h hcl) (bs_one _) (by unfold maxLen; simp [hdL_length hn, numB_length, *] <;> omega) (by simp [hdL_length hn, numB_length, *] <;> omega) (fun v18 => ?_)) ?_
        ·
          refine ⟨⟨rfl, ⟨rfl, ⟨rfl, ⟨rfl, trivial⟩⟩⟩⟩, ?_⟩
          refine AH_turn (P' := rowB 5 v18 (hdL nm q ++ [129, 129] ++ c)) 200 rfl (fun h hp => rowB_mk hp (by simp [hdL_length hn, numB_length, *] <;> omega) (by simp only [bs_append])) ?_
          refine (AH_ready [5] (by kernel_rfl) (by decide) ?_)
          refine AHs_cons rfl rfl rfl (by decide) (OpT_call 300 [0, 101, 102, 103, 104, 200] [] rfl Try.call46 rfl rfl rfl (by decide) (by decide) (pair_spec v18 mv (hdL nm q ++ [129, 129] ++ c) msg (by simp [hdL_length hn, hcl]) (by omega) _ (rd_star 5 rfl rowB_rd) (rd_star 0 rfl hm)) (fun v20 Ps20 hR20 => ?_)) ?_
          ·
            obtain ⟨rfl, rfl⟩ := hR20
            refine ⟨⟨rfl, ⟨rfl, ⟨rfl, ⟨rfl, trivial⟩⟩⟩⟩, ?_⟩
            refine (AH_ready [7] (by kernel_rfl) (by decide) ?_)
            refine AHs_cons0 rfl rfl rfl (OpT_storeAll (r := 104) rfl Try.sizeOf29 rfl rfl rfl rfl ((bs_length _).trans (sha_length _)) (bs_one _) ?_) ?_
            ·
              refine ⟨⟨rfl, ⟨rfl, ⟨rfl, ⟨rfl, trivial⟩⟩⟩⟩, ?_⟩
              refine (AH_done (by kernel_rfl) ?_)
              refine X_ren 104 181 rfl ?_
              exact X_cut g104 trivial ⟨rfl, rfl, trivial⟩ ⟨rfl, rfl, rfl, trivial⟩
            exact AHs_nil
          exact AHs_nil
        exact AHs_nil
      exact AHs_nil
    exact AHs_nil
  ·
    refine W_seq ?_
    refine W.pre (K' := [(6, _), (7, _)]) (L' := [(0, _), (103, _), (181, _)]) ?_ ⟨rfl, ⟨rfl, trivial⟩⟩ ⟨rfl, ⟨rfl, ⟨rfl, trivial⟩⟩⟩
    refine W_regL (WL_cons rfl rfl (by decide) (OpT_makeLen (r := 182) 32 34 rfl Try.underlying30 TI.hi5 TI.hz5 TI.hs5 rfl rfl rfl (by decide) (by rw [TI.hby5]; omega) (by unfold maxLen; omega) (fun v21 => ?_)))
    refine WL_turn (P' := rowB 5 v21 (List.replicate 32 0)) 182 rfl (fun h hp => rowB_mk hp (by simp) (by simp [bs]; rfl)) ?_
    refine (WL_pure rfl rfl (by decide) (Pu_assign rfl rfl) (WL_nil (X_then ?_)))
    refine W_seq ?_
    refine W.pre (K' := [(6, _), (7, _), (8, _)]) (L' := [(0, _), (103, _), (181, _), (182, _)]) ?_ ⟨rfl, ⟨rfl, ⟨rfl, trivial⟩⟩⟩ ⟨rfl, ⟨rfl, ⟨rfl, ⟨rfl, trivial⟩⟩⟩⟩
    refine W_regL (WL_pure rfl rfl (by decide) (Pu_move rfl rfl) (WL_pure rfl rfl (by decide) (Pu_sliceArr rfl Try.runUnderlying29 Try.sizeOf5 rfl) (WL_cons rfl rfl (by decide) (OpT_copyRow (r := 182) (r2 := 181) (xs' := bs (digB nm q c msg)) (by decide) rfl Try.underlying30 TI.hsm5 rfl rfl rfl rfl (fun _ h => blk_all (m := 32) h (sha_length _)) (bs_one _) (by rw [bs_length]; decide) (by rw [show min 32 (List.replicate 32 (0 : UInt8)).length = 32 from rfl, List.take_of_length_le (by rw [bs_length]; exact Nat.le_of_eq (sha_length _))]; exact over_bs _ _ _ 0 (by have hh : (digB nm q c msg).length = 32 := sha_length _; rw [hh, List.take_zero, List.nil_append, List.drop_of_length_le (by simp), List.append_nil])) ?_))))
    refine WL_turn (P' := rowB 5 v21 (digB nm q c msg)) 182 rfl (fun h hp => rowB_mk hp (by rw [List.length_replicate]; exact (sha_length _).symm) rfl) ?_
    refine (WL_nil (X_then ?_))
    refine W_seq ?_
    refine W.pre (K' := [(6, _), (7, _), (8, _)]) (L' := [(0, _), (103, _), (181, _), (182, _)]) ?_ ⟨rfl, ⟨rfl, ⟨rfl, trivial⟩⟩⟩ ⟨rfl, ⟨rfl, ⟨rfl, ⟨rfl, trivial⟩⟩⟩⟩
    refine W_regL (WL_pure rfl rfl (by decide) (Pu_assign rfl rfl) (WL_nil (X_then ?_)))
    refine W_seq ?_
    refine W_seq ?_
    refine W.pre (K' := [(6, _), (7, _), (8, _), (9, _)]) (L' := [(0, _), (103, _), (181, _), (182, _)]) ?_ ⟨rfl, ⟨rfl, ⟨rfl, ⟨rfl, trivial⟩⟩⟩⟩ ⟨rfl, ⟨rfl, ⟨rfl, ⟨rfl, trivial⟩⟩⟩⟩
    refine W_regL (WL_pure rfl rfl (by decide) (Pu_move rfl rfl) (WL_pure rfl rfl (by decide) (Pu_len (r := 182) rfl Try.runUnderlying30 rfl rfl rowB_rd) (WL_pure rfl rfl (by decide) (Pu_move rfl rfl) (WL_nil (X_then ?_)))))
    refine W_block ?_
    have hdl : (digB nm q c msg).length = 32 := sha_length _
    refine W_loop (α := Nat) (fun x => [(6, .pointer (some ⟨g103, 0, none⟩)), (8, v21), (9, .int .i64 (digSum (digB nm q c msg) (4 * x) : Int)), (25, v21), (26, .int .i64 ((digB nm q c msg).length : Int)), (27, .int .i64 (x : Int))]) (fun x => [(0, F), (103, blk g103 99 (nsC (List.replicate 133 0))), (182, rowB 5 v21 (digB nm q c msg))]) (fun x => x ≤ 32) (fun x => 32 - x) (0) (by omega) ⟨rfl, ⟨rfl, ⟨rfl, ⟨rfl, ⟨rfl, ⟨rfl, trivial⟩⟩⟩⟩⟩⟩ ⟨rfl, ⟨rfl, ⟨rfl, trivial⟩⟩⟩ (fun x hx => ?_)
    have hds := digSum_le (digB nm q c msg) (4 * x)
    refine W_seq ?_
    refine W.pre (K' := [(6, _), (8, _), (9, _), (25, _), (26, _), (27, _)]) (L' := [(0, _), (103, _), (182, _)]) ?_ ⟨rfl, ⟨rfl, ⟨rfl, ⟨rfl, ⟨rfl, ⟨rfl, trivial⟩⟩⟩⟩⟩⟩ ⟨rfl, ⟨rfl, ⟨rfl, trivial⟩⟩⟩
    refine W_regL (WL_pure rfl rfl (by decide) (Pu_bin rfl rfl rfl (run_lss _ _ _ _ _ _)) (WL_nil (X_then ?_)))
    refine W_seq ?_
    refine W_cond rfl (fun hc28 => ?_) (fun hc28 => ?_)
    ·
      have hlt : x < 32 := by have := of_decide_eq_true hc28; omega
      refine W_skip (X_then ?_)
      refine W_seq ?_
      refine W_block ?_
      refine W_seq ?_
      refine W.pre (K' := [(6, _), (8, _), (9, _), (25, _), (26, _), (27, _), (28, _)]) (L' := [(0, _), (103, _), (182, _)]) ?_ ⟨rfl, ⟨rfl, ⟨rfl, ⟨rfl, ⟨rfl, ⟨rfl, ⟨rfl, trivial⟩⟩⟩⟩⟩⟩⟩ ⟨rfl, ⟨rfl, ⟨rfl, trivial⟩⟩⟩
      refine W_regL (WL_pure rfl rfl (by decide) (Pu_idxS1 (r := 182) rfl Try.runUnderlying30 Try.sizeOf5 rfl rfl rfl rowB_rd (by omega)) (WL_pure rfl rfl (by decide) (Pu_loadS (r := 182) rfl Try.isAgg5 rfl rfl rowB_rd (bs_at1 (k := x) (by omega))) (WL_pure rfl rfl (by decide) (Pu_assign rfl rfl) (WL_nil (X_then ?_)))))
      refine W_seq ?_
      refine W.pre (K' := [(6, _), (8, _), (9, _), (11, _), (25, _), (26, _), (27, _), (28, _)]) (L' := [(0, _), (103, _), (182, _)]) ?_ ⟨rfl, ⟨rfl, ⟨rfl, ⟨rfl, ⟨rfl, ⟨rfl, ⟨rfl, ⟨rfl, trivial⟩⟩⟩⟩⟩⟩⟩⟩ ⟨rfl, ⟨rfl, ⟨rfl, trivial⟩⟩⟩
      refine W_regL (WL_pure rfl rfl (by decide) (Pu_move rfl rfl) (WL_nil (X_then ?_)))
      refine W_block ?_
      have hb4 := bitSum_le (at0 (digB nm q c msg) x) 4
      refine W_loop (α := Nat) (fun z => [(6, .pointer (some ⟨g103, 0, none⟩)), (8, v21), (9, .int .i64 ((digSum (digB nm q c msg) (4 * x) : Int) + (bitSum (at0 (digB nm q c msg) x) z : Int))), (11, bv (at0 (digB nm q c msg) x)), (25, v21), (26, .int .i64 ((digB nm q c msg).length : Int)), (27, .int .i64 (x : Int)), (31, .int .i64 (z : Int))]) (fun z => [(0, F), (103, blk g103 99 (nsC (List.replicate 133 0))), (182, rowB 5 v21 (digB nm q c msg))]) (fun z => z ≤ 4) (fun z => 4 - z) (0) (by omega) ⟨rfl, rfl, lookV_eq rfl (int_eq (by rw [bitSum]; omega)), rfl, rfl, rfl, rfl, rfl, trivial⟩ ⟨rfl, ⟨rfl, ⟨rfl, trivial⟩⟩⟩ (fun z hz => ?_)
      have hbz := bitSum_le (at0 (digB nm q c msg) x) z
      refine W_seq ?_
      refine W.pre (K' := [(6, _), (8, _), (9, _), (11, _), (25, _), (26, _), (27, _), (31, _)]) (L' := [(0, _), (103, _), (182, _)]) ?_ ⟨rfl, ⟨rfl, ⟨rfl, ⟨rfl, ⟨rfl, ⟨rfl, ⟨rfl, ⟨rfl, trivial⟩⟩⟩⟩⟩⟩⟩⟩ ⟨rfl, ⟨rfl, ⟨rfl, trivial⟩⟩⟩
      refine W_regL (WL_pure rfl rfl (by decide) (Pu_bin rfl rfl rfl (run_lss _ _ _ _ _ _)) (WL_nil (X_then ?_)))
      refine W_seq ?_
      refine W_cond rfl (fun hc32 => ?_) (fun hc32 => ?_)
      ·
        have hz4 : z < 4 := by have := of_decide_eq_true hc32; omega
        have hm4 : (at0 (digB nm q c msg) x).toNat / 2 ^ (2 * z) % 4 < 4 := Nat.mod_lt _ (by decide)
        refine W_skip (X_then ?_)
        refine W_seq ?_
        refine W_block ?_
        refine W_seq ?_
        refine W.pre (K' := [(6, _), (8, _), (9, _), (11, _), (25, _), (26, _), (27, _), (31, _), (32, _)]) (L' := [(0, _), (103, _), (182, _)]) ?_ ⟨rfl, ⟨rfl, ⟨rfl, ⟨rfl, ⟨rfl, ⟨rfl, ⟨rfl, ⟨rfl, ⟨rfl, trivial⟩⟩⟩⟩⟩⟩⟩⟩⟩ ⟨rfl, ⟨rfl, ⟨rfl, trivial⟩⟩⟩
        refine W_regL (WL_pure rfl rfl (by decide) (Pu_move rfl rfl) (WL_pure rfl rfl (by decide) (Pu_assign rfl rfl) (WL_nil (X_then ?_))))
        refine W.pre (K' := [(6, _), (8, _), (9, _), (11, _), (12, _), (25, _), (26, _), (27, _), (31, _), (32, _)]) (L' := [(0, _), (103, _), (182, _)]) ?_ ⟨rfl, ⟨rfl, ⟨rfl, ⟨rfl, ⟨rfl, ⟨rfl, ⟨rfl, ⟨rfl, ⟨rfl, ⟨rfl, trivial⟩⟩⟩⟩⟩⟩⟩⟩⟩⟩ ⟨rfl, ⟨rfl, ⟨rfl, trivial⟩⟩⟩
        refine W_regL (WL_pure rfl rfl (by decide) (Pu_move rfl rfl) (WL_pure rfl rfl (by decide) (Pu_move rfl rfl) (WL_pure rfl rfl (by decide) (Pu_move rfl rfl) (WL_pure rfl rfl (by decide) (Pu_bin rfl rfl rfl (run_mul _ _ _ _ _ (by omega))) ?_))))
        rw [show (2 : Int) * (z : Int) = ((2 * z : Nat) : Int) by omega]
        refine (WL_pure rfl rfl (by decide) (Pu_bin rfl rfl rfl (run_shrB _ (2 * z) (by omega) _ _ _)) (WL_pure rfl rfl (by decide) (Pu_bin rfl rfl rfl (run_and3 _ shr_lt _ _ _)) (WL_pure rfl rfl (by decide) (Pu_conv rfl rfl (conv_nat8 _ (by omega) Try.runUnderlying5 Try.runUnderlying3)) (WL_pure rfl rfl (by decide) (Pu_bin rfl rfl rfl (run_sub _ _ _ _ _ (by omega))) (WL_pure rfl rfl (by decide) (Pu_bin rfl rfl rfl (run_add _ _ _ _ _ (by omega))) (WL_pure rfl rfl (by decide) (Pu_assign rfl rfl) (WL_nil (X_block (X_then ?_)))))))))
        refine W.pre (K' := [(6, _), (8, _), (9, _), (11, _), (12, _), (25, _), (26, _), (27, _), (31, _), (32, _)]) (L' := [(0, _), (103, _), (182, _)]) ?_ ⟨rfl, ⟨rfl, ⟨rfl, ⟨rfl, ⟨rfl, ⟨rfl, ⟨rfl, ⟨rfl, ⟨rfl, ⟨rfl, trivial⟩⟩⟩⟩⟩⟩⟩⟩⟩⟩ ⟨rfl, ⟨rfl, ⟨rfl, trivial⟩⟩⟩
        refine W_regL (WL_pure rfl rfl (by decide) (Pu_bin rfl rfl rfl (run_add _ _ _ _ _ (by omega))) (WL_pure rfl rfl (by decide) (Pu_move rfl rfl) (WL_nil ?_)))
        exact X_round (z + 1) (by omega) (by omega) ⟨rfl, rfl, lookV_eq rfl (int_eq (by rw [bitSum]; omega)), rfl, rfl, rfl, rfl, rfl, trivial⟩ ⟨rfl, rfl, rfl, trivial⟩
      ·
        obtain rfl : z = 4 := by have := of_decide_eq_false hc32; omega
        refine W_exit (X_then_exit (X_then_exit (X_block_exit (X_block (X_then ?_)))))
        refine W.pre (K' := [(6, _), (8, _), (9, _), (11, _), (25, _), (26, _), (27, _), (31, _), (32, _)]) (L' := [(0, _), (103, _), (182, _)]) ?_ ⟨rfl, ⟨rfl, ⟨rfl, ⟨rfl, ⟨rfl, ⟨rfl, ⟨rfl, ⟨rfl, ⟨rfl, trivial⟩⟩⟩⟩⟩⟩⟩⟩⟩ ⟨rfl, ⟨rfl, ⟨rfl, trivial⟩⟩⟩
        refine W_regL (WL_pure rfl rfl (by decide) (Pu_bin rfl rfl rfl (run_add _ _ _ _ _ (by omega))) (WL_pure rfl rfl (by decide) (Pu_move rfl rfl) (WL_nil ?_)))
        exact X_round (x + 1) (by omega) (by omega) ⟨rfl, rfl, lookV_eq rfl (int_eq (by have := digSum_four (digB nm q c msg) x; omega)), rfl, rfl, rfl, trivial⟩ ⟨rfl, rfl, rfl, trivial⟩
    ·
      obtain rfl : x = 32 := by have := of_decide_eq_false hc28; omega
      refine W_exit (X_then_exit (X_then_exit (X_block_exit (X_then ?_))))
      refine W_seq ?_
      refine W.pre (K' := [(6, _), (8, _), (9, _), (25, _), (26, _), (27, _), (28, _)]) (L' := [(0, _), (103, _), (182, _)]) ?_ ⟨rfl, ⟨rfl, ⟨rfl, ⟨rfl, ⟨rfl, ⟨rfl, ⟨rfl, trivial⟩⟩⟩⟩⟩⟩⟩ ⟨rfl, ⟨rfl, ⟨rfl, trivial⟩⟩⟩
      refine W_regL (WL_pure rfl rfl (by decide) (Pu_move rfl rfl) (WL_pure rfl rfl (by decide) (Pu_bin rfl rfl rfl (run_mul _ _ _ _ _ (by omega))) ?_))
      rw [show (digSum (digB nm q c msg) (4 * 32) : Int) * 64 = ((64 * digSum (digB nm q c msg) 128 : Nat) : Int) by rw [show 4 * 32 = 128 from rfl]; omega]
      refine (WL_pure rfl rfl (by decide) (Pu_assign rfl rfl) (WL_nil (X_then ?_)))
      refine W_seq ?_
      refine W.pre (K' := [(6, _), (8, _), (9, _), (25, _), (26, _), (27, _), (28, _)]) (L' := [(0, _), (103, _), (182, _)]) ?_ ⟨rfl, ⟨rfl, ⟨rfl, ⟨rfl, ⟨rfl, ⟨rfl, ⟨rfl, trivial⟩⟩⟩⟩⟩⟩⟩ ⟨rfl, ⟨rfl, ⟨rfl, trivial⟩⟩⟩
      refine W_regL (WL_pure rfl rfl (by decide) (Pu_move rfl rfl) (WL_pure rfl rfl (by decide) (Pu_move rfl rfl) (WL_pure rfl rfl (by decide) (Pu_bin rfl rfl rfl (run_shr _ 8 _ _ _ (by omega))) (WL_pure rfl rfl (by decide) (Pu_conv rfl rfl (conv_byte _ _ Try.runUnderlying3 Try.runUnderlying5)) (WL_pure rfl rfl (by decide) (Pu_move rfl rfl) (WL_pure rfl rfl (by decide) (Pu_conv rfl rfl (conv_byte _ _ Try.runUnderlying3 Try.runUnderlying5)) (WL_cons rfl rfl (by decide) (OpT_buildOnes (r := 104) (bs (numB ((64 * digSum (digB nm q c msg) 128 : Nat) : Int) 2)) rfl rfl Try.runUnderlying30 Try.sizeOf5 Try.zeroValue5 rfl rfl (by decide) (by rw [numB_two]; rfl) (bs_cells _) (fun v53 => (WL_cons rfl rfl (by decide) (OpT_append (r := 182) (r2 := 104) rfl Try.underlying30 TI.hi5 TI.hz5 TI.hs5 TI.hby5 TI.hzs5 (by decide) rfl rfl rfl rfl (fun _ h => rowP_rd h) (bs_one _) (by unfold maxLen; omega) (by omega) (fun v54 => ?_))))))))))))
      refine WL_turn (P' := rowB 5 v54 (digB2 nm q c msg)) 182 rfl (fun h hp => rowB_mk hp (by unfold digB2; rw [List.length_append, numB_length]) (by unfold digB2; rw [bs_append])) ?_
      refine (WL_pure rfl rfl (by decide) (Pu_assign rfl rfl) (WL_nil (X_then ?_)))
      refine W_seq ?_
      refine W.pre (K' := [(6, _), (8, _), (9, _), (25, _), (26, _), (27, _), (28, _)]) (L' := [(0, _), (103, _), (104, _), (182, _)]) ?_ ⟨rfl, ⟨rfl, ⟨rfl, ⟨rfl, ⟨rfl, ⟨rfl, ⟨rfl, trivial⟩⟩⟩⟩⟩⟩⟩ ⟨rfl, ⟨rfl, ⟨rfl, ⟨rfl, trivial⟩⟩⟩⟩
      refine W_regL (WL_cons rfl rfl (by decide) (OpT_alloc (r := 105) (cs := (nsC (List.replicate 133 0))) rfl (zero_run (by kernel_rfl : (Try.prog.info? 99).bind (·.zero) = some (nsV (List.replicate 133 0)))) rfl (fun g105 => (WL_nil (X_then ?_)))))
      refine W_seq ?_
      refine W_seq ?_
      refine W.pre (K' := [(6, _), (8, _), (9, _), (13, _), (25, _), (26, _), (27, _), (28, _)]) (L' := [(0, _), (103, _), (104, _), (105, _), (182, _)]) ?_ ⟨rfl, ⟨rfl, ⟨rfl, ⟨rfl, ⟨rfl, ⟨rfl, ⟨rfl, ⟨rfl, trivial⟩⟩⟩⟩⟩⟩⟩⟩ ⟨rfl, ⟨rfl, ⟨rfl, ⟨rfl, ⟨rfl, trivial⟩⟩⟩⟩⟩
      refine W_regL (WL_pure rfl rfl (by decide) (Pu_move rfl rfl) (WL_nil (X_then ?_)))
      refine W_block ?_
      have hd2 := digB2_length nm q c msg
      refine W_loop (α := Nat) (fun x => [(6, .pointer (some ⟨g103, 0, none⟩)), (8, v54), (13, .pointer (some ⟨g105, 0, none⟩)), (55, .int .i64 (x : Int))]) (fun x => [(0, F), (103, blk g103 99 (nsC (List.replicate 133 0))), (182, rowB 5 v54 (digB2 nm q c msg)), (105, blk g105 99 (nsC (digZ (digB2 nm q c msg) x)))]) (fun x => x ≤ 133) (fun x => 133 - x) (0) (by omega) ⟨rfl, ⟨rfl, ⟨rfl, ⟨rfl, trivial⟩⟩⟩⟩ ⟨rfl, rfl, rfl, look_eq rfl (by rw [digZ_get0]; rfl), trivial⟩ (fun x hx => ?_)
      have hzl := digZ_length (digB2 nm q c msg) hx
      refine W_seq ?_
      refine W.pre (K' := [(6, _), (8, _), (13, _), (55, _)]) (L' := [(0, _), (103, _), (105, _), (182, _)]) ?_ ⟨rfl, ⟨rfl, ⟨rfl, ⟨rfl, trivial⟩⟩⟩⟩ ⟨rfl, ⟨rfl, ⟨rfl, ⟨rfl, trivial⟩⟩⟩⟩
      refine W_regL (WL_pure rfl rfl (by decide) (Pu_bin rfl rfl rfl (run_lss _ _ _ _ _ _)) (WL_nil (X_then ?_)))
      refine W_seq ?_
      refine W_cond rfl (fun hc56 => ?_) (fun hc56 => ?_)
      ·
        have hlt : x < 133 := by have := of_decide_eq_true hc56; omega
        refine W_skip (X_then ?_)
        refine W_seq ?_
        refine W_block ?_
        refine W_seq ?_
        refine W.pre (K' := [(6, _), (8, _), (13, _), (55, _), (56, _)]) (L' := [(0, _), (103, _), (105, _), (182, _)]) ?_ ⟨rfl, ⟨rfl, ⟨rfl, ⟨rfl, ⟨rfl, trivial⟩⟩⟩⟩⟩ ⟨rfl, ⟨rfl, ⟨rfl, ⟨rfl, trivial⟩⟩⟩⟩
        refine W_regL (WL_pure rfl rfl (by decide) (Pu_move rfl rfl) (WL_pure rfl rfl (by decide) (Pu_assign rfl rfl) (WL_nil (X_then ?_))))
        refine W.pre (K' := [(6, _), (8, _), (13, _), (14, _), (55, _), (56, _)]) (L' := [(0, _), (103, _), (105, _), (182, _)]) ?_ ⟨rfl, ⟨rfl, ⟨rfl, ⟨rfl, ⟨rfl, ⟨rfl, trivial⟩⟩⟩⟩⟩⟩ ⟨rfl, ⟨rfl, ⟨rfl, ⟨rfl, trivial⟩⟩⟩⟩
        refine W_regL (WL_pure rfl rfl (by decide) (Pu_move rfl rfl) (WL_pure rfl rfl (by decide) (Pu_move rfl rfl) (WL_pure rfl rfl (by decide) (Pu_move rfl rfl) (WL_pure rfl rfl (by decide) (Pu_bin rfl rfl rfl (run_quo _ _ _ _ _ (by omega))) ?_))))
        rw [show (x : Int) / 4 = ((x / 4 : Nat) : Int) by omega]
        refine (WL_pure rfl rfl (by decide) (Pu_idxS1 (r := 182) rfl Try.runUnderlying30 Try.sizeOf5 rfl rfl rfl rowB_rd (by omega)) (WL_pure rfl rfl (by decide) (Pu_loadS (r := 182) rfl Try.isAgg5 rfl rfl rowB_rd (bs_at1 (k := x / 4) (by omega))) (WL_pure rfl rfl (by decide) (Pu_move rfl rfl) (WL_pure rfl rfl (by decide) (Pu_bin rfl rfl rfl (run_rem _ _ _ _ _ (by omega))) ?_))))
        rw [show (x : Int) % 4 = ((x % 4 : Nat) : Int) by omega]
        refine (WL_pure rfl rfl (by decide) (Pu_bin rfl rfl rfl (run_mul _ _ _ _ _ (by omega))) (WL_pure rfl rfl (by decide) (Pu_bin rfl rfl rfl (run_sub _ _ _ _ _ (by omega))) ?_))
        rw [show (6 : Int) - 2 * ((x % 4 : Nat) : Int) = ((6 - 2 * (x % 4) : Nat) : Int) by omega]
        refine (WL_pure rfl rfl (by decide) (Pu_bin rfl rfl rfl (run_shrB _ (6 - 2 * (x % 4)) (by omega) _ _ _)) (WL_pure rfl rfl (by decide) (Pu_bin rfl rfl rfl (run_and3 _ shr_lt _ _ _)) (WL_pure rfl rfl (by decide) (Pu_conv rfl rfl (conv_nat8 _ (by have := Nat.mod_lt ((at0 (digB2 nm q c msg) (x / 4)).toNat / 2 ^ (6 - 2 * (x % 4))) (show 0 < 4 by decide); omega) Try.runUnderlying5 Try.runUnderlying3)) (WL_pure rfl rfl (by decide) (Pu_idxA rfl Try.runUnderlying99 Try.sizeOf3 rfl rfl (by omega)) (WL_cons0 rfl rfl (OpT_storeB1 (r := 105) rfl Try.sizeOf3 rfl rfl rfl rfl (by rw [nsC_length, hzl]; omega) ((congrArg (fun q => List.set _ q _) (Nat.zero_add _)).trans (digZ_set _ hlt)) ?_))))))
        refine (WL_nil (X_block (X_then ?_)))
        refine W.pre (K' := [(6, _), (8, _), (13, _), (14, _), (55, _), (56, _)]) (L' := [(0, _), (103, _), (105, _), (182, _)]) ?_ ⟨rfl, ⟨rfl, ⟨rfl, ⟨rfl, ⟨rfl, ⟨rfl, trivial⟩⟩⟩⟩⟩⟩ ⟨rfl, ⟨rfl, ⟨rfl, ⟨rfl, trivial⟩⟩⟩⟩
        refine W_regL (WL_pure rfl rfl (by decide) (Pu_bin rfl rfl rfl (run_add _ _ _ _ _ (by omega))) (WL_pure rfl rfl (by decide) (Pu_move rfl rfl) (WL_nil ?_)))
        exact X_round (x + 1) (by omega) (by omega) ⟨rfl, rfl, rfl, rfl, trivial⟩ ⟨rfl, rfl, rfl, rfl, trivial⟩
      ·
        obtain rfl : x = 133 := by have := of_decide_eq_false hc56; omega
        rw [digZ_full]
        have hll := digL_length (digB2 nm q c msg)
        refine W_exit (X_then_exit (X_then_exit (X_block_exit (X_then ?_))))
        refine W_seq ?_
        refine W.pre (K' := [(6, _), (8, _), (13, _), (55, _), (56, _)]) (L' := [(0, _), (103, _), (105, _), (182, _)]) ?_ ⟨rfl, ⟨rfl, ⟨rfl, ⟨rfl, ⟨rfl, trivial⟩⟩⟩⟩⟩ ⟨rfl, ⟨rfl, ⟨rfl, ⟨rfl, trivial⟩⟩⟩⟩
        refine W_regL (WL_pure rfl rfl (by decide) (Pu_loadBN (r := 105) rfl Try.isAgg99 Try.sizeOf99 rfl rfl ((nsC_length _).trans hll) (load_all ((nsC_length _).trans hll))) (WL_cons0 rfl rfl (OpT_storeAll (r := 103) rfl Try.sizeOf99 rfl rfl rfl rfl ((nsC_length _).trans hll) (nsC_one _) ?_)))
        refine (WL_nil (X_then ?_))
        refine W_ret ?_
        exact X_ret [] (Ps := []) (resC1 (r := 103) Try.results61 rfl Try.isAgg99 Try.sizeOf99 rfl ((nsC_length _).trans hll)) rfl (by decide) ⟨rfl, rfl⟩
end Go.Proofs.Ytinamipkpdlphaa
/- Signatures for once of the program: what checks them. -/
namespace Go.Proofs.Ytinamipkpdlphaa
open Go.RowKit
set_option linter.unusedVariables false
set_option linter.unusedSimpArgs false
set_option maxRecDepth 8000

theorem key_build {nm : List UInt8} {q : Int} (hn : nm.length = 16) : Value.agg (((over (keyC (List.replicate 16 0) 0) 0 (bs nm)).set 16 (.int .i64 q))).toArray = keyV nm q := by
  unfold keyV keyC
  congr 2
  have h : over (bs (List.replicate 16 0) ++ [Value.int .i64 0]) 0 (bs nm) = bs nm ++ [Value.int .i64 0] := by
    unfold over
    rw [bs_length, hn, List.take_zero, List.nil_append]
    rfl
  rw [h, List.set_append_right _ _ (by rw [bs_length]; omega), bs_length, hn]
  rfl
theorem kback1_spec (nm : List UInt8) (hn : nm.length = 16) (q : Int) (c msg sig : List UInt8) (hsl : sig.length = 4292) (sv : Value) (g1 g2 g3 : Nat) (i : Nat) (hi : i < 133) (F : HP) (hsg : ∀ h, F h → rdB sv sig h) : CallsS Try.prog 63 #[.int .i64 (i : Int), .pointer (some ⟨g1, 0, none⟩), .pointer (some ⟨g2, 0, none⟩), .pointer (some ⟨g3, 0, none⟩)] F [blk g1 30 [sv], blk g2 104 (keyC nm q), blk g3 99 (nsC (digL (digB2 nm q c msg)))] (fun r Ps => r = idV (bckY nm q c msg sig i) ∧ Ps = [blk g1 30 [sv], blk g2 104 (keyC nm q), blk g3 99 (nsC (digL (digB2 nm q c msg)))]) := by
  have hdx := digA_lt nm q c msg i
  have hzl : ((sig.drop (36 + 32 * i)).take 32).length = 32 := by rw [List.length_take, List.length_drop]; omega
  refine callsS_enter Try.func63 rfl Try.ntmps63 (by simp) (fun E => ?_)
  refine W_seq ?_
  refine W.pre (K' := [(0, _), (1, _), (2, _), (3, _)]) (L' := [(0, _), (1, _), (2, _), (3, _)]) ?_ ⟨rfl, ⟨rfl, ⟨rfl, ⟨rfl, trivial⟩⟩⟩⟩ ⟨rfl, ⟨rfl, ⟨rfl, ⟨rfl, trivial⟩⟩⟩⟩
  refine W_regL (WL_cons rfl rfl (by decide) (OpT_alloc (r := 101) (cs := (bs zeroId)) rfl (zero_run (by kernel_rfl : (Try.prog.info? 29).bind (·.zero) = some (.agg (bs zeroId).toArray))) rfl (fun g101 => (WL_nil (X_then ?_)))))
  refine W_seq ?_
  refine W.pre (K' := [(0, _), (1, _), (2, _), (3, _), (5, _)]) (L' := [(0, _), (1, _), (2, _), (3, _), (101, _)]) ?_ ⟨rfl, ⟨rfl, ⟨rfl, ⟨rfl, ⟨rfl, trivial⟩⟩⟩⟩⟩ ⟨rfl, ⟨rfl, ⟨rfl, ⟨rfl, ⟨rfl, trivial⟩⟩⟩⟩⟩
  refine W_regL (WL_cons rfl rfl (by decide) (OpT_alloc (r := 102) (cs := (bs zeroId)) rfl (zero_run (by kernel_rfl : (Try.prog.info? 29).bind (·.zero) = some (.agg (bs zeroId).toArray))) rfl (fun g102 => (WL_nil (X_then ?_)))))
  refine W_seq ?_
  refine W.pre (K' := [(0, _), (1, _), (2, _), (3, _), (5, _), (6, _)]) (L' := [(0, _), (1, _), (2, _), (3, _), (101, _), (102, _)]) ?_ ⟨rfl, ⟨rfl, ⟨rfl, ⟨rfl, ⟨rfl, ⟨rfl, trivial⟩⟩⟩⟩⟩⟩ ⟨rfl, ⟨rfl, ⟨rfl, ⟨rfl, ⟨rfl, ⟨rfl, trivial⟩⟩⟩⟩⟩⟩
  refine W_draw (N := 7) (by kernel_rfl) rfl [(0, _), (1, _), (2, _), (3, _), (101, _)] ⟨rfl, ⟨rfl, ⟨rfl, ⟨rfl, ⟨rfl, trivial⟩⟩⟩⟩⟩ ?_
  refine (AH_take 0 rfl (by kernel_rfl) (by kernel_rfl) (by kernel_rfl) rfl rfl (by decide) (Pu_sliceArr rfl Try.runUnderlying29 Try.sizeOf5 rfl) (AH_take 1 rfl (by kernel_rfl) (by kernel_rfl) (by kernel_rfl) rfl rfl (by decide) (Pu_loadB (r := 1) rfl Try.isAgg30 rfl rfl rfl) (AH_take 2 rfl (by kernel_rfl) (by kernel_rfl) (by kernel_rfl) rfl rfl (by decide) (Pu_move rfl rfl) (AH_take 3 rfl (by kernel_rfl) (by kernel_rfl) (by kernel_rfl) rfl rfl (by decide) (Pu_bin rfl rfl rfl (run_mul _ _ _ _ _ (by omega))) (AH_take 4 rfl (by kernel_rfl) (by kernel_rfl) (by kernel_rfl) rfl rfl (by decide) (Pu_bin rfl rfl rfl (run_add _ _ _ _ _ (by omega))) (AH_take 5 rfl (by kernel_rfl) (by kernel_rfl) (by kernel_rfl) rfl rfl (by decide) (Pu_slice (r := 0) (a := 36 + 32 * i) (b := sig.length) rfl Try.runUnderlying30 Try.sizeOf5 rfl rfl hsg (.inr ⟨_, _, _, rfl, rfl, (by omega)⟩) (.inl ⟨rfl, rfl⟩) (by omega) (by omega)) (AH_ready [6] (by kernel_rfl) (by decide) ?_)))))))
  refine AHs_cons rfl rfl rfl (by decide) (OpT_copyB (r := 102) (r2 := 0) rfl Try.underlying30 TI.hsm5 rfl rfl rfl rfl (fun h hq => rdB_tail (hsg h hq) (by omega)) (bs_one _) (by rw [bs_length, zeroId_length]; omega) (show over _ _ _ = bs ((sig.drop (36 + 32 * i)).take 32) from id_copy (by rw [List.length_drop]; omega)) ?_) ?_
  ·
    refine ⟨⟨rfl, ⟨rfl, ⟨rfl, ⟨rfl, ⟨rfl, trivial⟩⟩⟩⟩⟩, ?_⟩
    refine (AH_done (by kernel_rfl) (X_then ?_))
    refine W_seq ?_
    refine W.pre (K' := [(0, _), (1, _), (2, _), (3, _), (5, _), (6, _)]) (L' := [(0, _), (1, _), (2, _), (3, _), (101, _), (102, _)]) ?_ ⟨rfl, ⟨rfl, ⟨rfl, ⟨rfl, ⟨rfl, ⟨rfl, trivial⟩⟩⟩⟩⟩⟩ ⟨rfl, ⟨rfl, ⟨rfl, ⟨rfl, ⟨rfl, ⟨rfl, trivial⟩⟩⟩⟩⟩⟩
    refine W_draw (N := 8) (by kernel_rfl) rfl [(0, _), (1, _), (2, _), (3, _), (102, _)] ⟨rfl, ⟨rfl, ⟨rfl, ⟨rfl, ⟨rfl, trivial⟩⟩⟩⟩⟩ ?_
    refine (AH_take 0 rfl (by kernel_rfl) (by kernel_rfl) (by kernel_rfl) rfl rfl (by decide) (Pu_loadBN (r := 2) rfl Try.isAgg104 Try.sizeOf104 rfl rfl (keyC_length hn) (load_all (keyC_length hn))) (AH_take 1 rfl (by kernel_rfl) (by kernel_rfl) (by kernel_rfl) rfl rfl (by decide) (Pu_move rfl rfl) (AH_take 2 rfl (by kernel_rfl) (by kernel_rfl) (by kernel_rfl) rfl rfl (by decide) (Pu_move rfl rfl) (AH_take 3 rfl (by kernel_rfl) (by kernel_rfl) (by kernel_rfl) rfl rfl (by decide) (Pu_idxA rfl Try.runUnderlying99 Try.sizeOf3 rfl rfl (by omega)) (AH_take 4 rfl (by kernel_rfl) (by kernel_rfl) (by kernel_rfl) rfl rfl (by decide) (Pu_loadB (r := 3) rfl Try.isAgg3 rfl rfl (digA_get nm q c msg hi)) (AH_take 5 rfl (by kernel_rfl) (by kernel_rfl) (by kernel_rfl) rfl rfl (by decide) (Pu_loadBN (r := 102) rfl Try.isAgg29 Try.sizeOf29 rfl rfl ((bs_length _).trans hzl) (load_all ((bs_length _).trans hzl))) (AH_ready [6] (by kernel_rfl) (by decide) ?_)))))))
    refine AHs_cons rfl rfl rfl (by decide) (OpT_call 200 [0, 1, 2, 3, 101, 102] [] rfl Try.call64 rfl rfl rfl (by decide) (by decide) (ksteps_spec nm hn q i (digA nm q c msg i) 3 (by omega) (by omega) ((sig.drop (36 + 32 * i)).take 32) hzl _) (fun v20 Ps20 hR20 => ?_)) ?_
    ·
      obtain ⟨rfl, rfl⟩ := hR20
      refine ⟨⟨rfl, ⟨rfl, ⟨rfl, ⟨rfl, ⟨rfl, trivial⟩⟩⟩⟩⟩, ?_⟩
      refine (AH_ready [7] (by kernel_rfl) (by decide) ?_)
      refine AHs_cons0 rfl rfl rfl (OpT_storeAll (r := 101) rfl Try.sizeOf29 rfl rfl rfl rfl ((bs_length _).trans (walkC_length hzl _)) (bs_one _) ?_) ?_
      ·
        refine ⟨⟨rfl, ⟨rfl, ⟨rfl, ⟨rfl, ⟨rfl, trivial⟩⟩⟩⟩⟩, ?_⟩
        refine (AH_done (by kernel_rfl) (X_then ?_))
        refine W_ret ?_
        exact X_ret [1, 2, 3] (Ps := [_, _, _]) (resC1 (r := 101) Try.results63 rfl Try.isAgg29 Try.sizeOf29 rfl ((bs_length _).trans (walkC_length hzl _))) rfl (by decide) ⟨rfl, rfl⟩
      exact AHs_nil
    exact AHs_nil
  exact AHs_nil
theorem kback_spec (nm : List UInt8) (hn : nm.length = 16) (q : Int) (mv sv : Value) (msg sig : List UInt8) (hml : msg.length ≤ 1000000) (F : HP) (hm : ∀ h, F h → rdB mv msg h) (hsg : ∀ h, F h → rdB sv sig h) : CallsS Try.prog 41 #[idV nm, .int .i64 q, mv, sv] F [] (fun r Ps => r = .tuple #[idV (bckR nm q msg sig), .int .i64 (bckE sig)] ∧ Ps = []) := by
  refine callsS_enter Try.func41 rfl Try.ntmps41 (by simp) (fun E => ?_)
  refine W_seq ?_
  refine W.pre (K' := [(0, _), (1, _), (2, _), (3, _)]) (L' := [(0, _)]) ?_ ⟨rfl, ⟨rfl, ⟨rfl, ⟨rfl, trivial⟩⟩⟩⟩ ⟨rfl, trivial⟩
  refine W_fact (r := 0) rfl (fun h hp => rd_one (hsg h hp)) (fun hso => ?_)
  refine W_regL (WL_cons rfl rfl (by decide) (OpT_box (r := 101) rfl rfl rfl (fun g101 => (WL_cons rfl rfl (by decide) (OpT_box (r := 102) rfl rfl ((cells_one hso).trans (rfl : #[sv] = [sv].toArray)) (fun g102 => (WL_cons rfl rfl (by decide) (OpT_alloc (r := 103) (cs := (bs zeroId)) rfl (zero_run (by kernel_rfl : (Try.prog.info? 29).bind (·.zero) = some (.agg (bs zeroId).toArray))) rfl (fun g103 => (WL_pure rfl rfl (by decide) (Pu_assign rfl rfl) (WL_nil (X_then ?_))))))))))))
  refine W_seq ?_
  refine W_seq ?_
  refine W.pre (K' := [(0, _), (1, _), (2, _), (3, _), (4, _), (7, _), (8, _), (9, _)]) (L' := [(0, _), (101, _), (102, _), (103, _)]) ?_ ⟨rfl, ⟨rfl, ⟨rfl, ⟨rfl, ⟨rfl, ⟨rfl, ⟨rfl, ⟨rfl, trivial⟩⟩⟩⟩⟩⟩⟩⟩ ⟨rfl, ⟨rfl, ⟨rfl, ⟨rfl, trivial⟩⟩⟩⟩
  rcases Bool.eq_false_or_eq_true (!decide ((sig.length : Int) = 4292)) with hsp1 | hsp1
  ·
    have hno := okB_len hsp1
    refine W_regL (WL_pure rfl rfl (by decide) (Pu_loadB (r := 102) rfl Try.isAgg30 rfl rfl rfl) (WL_pure rfl rfl (by decide) (Pu_len (r := 0) rfl Try.runUnderlying30 rfl rfl hsg) (WL_pure rfl rfl (by decide) (Pu_bin rfl rfl rfl (run_neq _ _ _ _ _ _)) (WL_pure rfl rfl (by decide) (Pu_move rfl rfl) (WL_gF rfl rfl rfl (by rw [hsp1]; rfl) rfl (by decide) (WL_gF rfl rfl rfl (by rw [hsp1]; rfl) rfl (by decide) (WL_gF rfl rfl rfl (by rw [hsp1]; rfl) rfl (by decide) (WL_gF rfl rfl rfl (by rw [hsp1]; rfl) rfl (by decide) (WL_pure rfl rfl (by decide) (Pu_pickT rfl rfl hsp1 rfl) (WL_pure rfl rfl (by decide) (Pu_move rfl rfl) (WL_gF rfl rfl rfl (by first | rfl | (rw [hsp1]; rfl)) rfl (by decide) (WL_gF rfl rfl rfl (by first | rfl | (rw [hsp1]; rfl)) rfl (by decide) (WL_gF rfl rfl rfl (by first | rfl | (rw [hsp1]; rfl)) rfl (by decide) (WL_gF rfl rfl rfl (by first | rfl | (rw [hsp1]; rfl)) rfl (by decide) (WL_pure rfl rfl (by decide) (Pu_pickT rfl rfl rfl rfl) (WL_pure rfl rfl (by decide) (Pu_move rfl rfl) (WL_gF rfl rfl rfl (by first | rfl | (rw [hsp1]; rfl)) rfl (by decide) (WL_gF rfl rfl rfl (by first | rfl | (rw [hsp1]; rfl)) rfl (by decide) (WL_gF rfl rfl rfl (by first | rfl | (rw [hsp1]; rfl)) rfl (by decide) (WL_gF rfl rfl rfl (by first | rfl | (rw [hsp1]; rfl)) rfl (by decide) (WL_pure rfl rfl (by decide) (Pu_pickT rfl rfl rfl rfl) (WL_pure rfl rfl (by decide) (Pu_move rfl rfl) (WL_gF rfl rfl rfl (by first | rfl | (rw [hsp1]; rfl)) rfl (by decide) (WL_gF rfl rfl rfl (by first | rfl | (rw [hsp1]; rfl)) rfl (by decide) (WL_gF rfl rfl rfl (by first | rfl | (rw [hsp1]; rfl)) rfl (by decide) (WL_gF rfl rfl rfl (by first | rfl | (rw [hsp1]; rfl)) rfl (by decide) (WL_pure rfl rfl (by decide) (Pu_pickT rfl rfl rfl rfl) (WL_nil (X_then ?_)))))))))))))))))))))))))))))
    refine W_true rfl (rfl) ?_
    refine W_seq ?_
    refine W.pre (K' := [(0, _), (1, _), (2, _), (3, _), (4, _), (7, _), (8, _), (9, _), (39, _)]) (L' := [(0, _), (101, _), (102, _), (103, _)]) ?_ ⟨rfl, ⟨rfl, ⟨rfl, ⟨rfl, ⟨rfl, ⟨rfl, ⟨rfl, ⟨rfl, ⟨rfl, trivial⟩⟩⟩⟩⟩⟩⟩⟩⟩ ⟨rfl, ⟨rfl, ⟨rfl, ⟨rfl, trivial⟩⟩⟩⟩
    refine W_regL (WL_pure rfl rfl (by decide) (Pu_idZero rfl) (WL_cons0 rfl rfl (OpT_storeAll (r := 103) rfl Try.sizeOf29 rfl rfl rfl rfl rfl (bs_one _) ?_)))
    refine (WL_pure rfl rfl (by decide) (Pu_assign rfl rfl) (WL_nil (X_then ?_)))
    refine W_ret (X_then_ret ?_)
    exact X_ret [] (Ps := []) (resC2 (r := 103) Try.results41 rfl rfl Try.isAgg29 Try.sizeOf29 rfl rfl) rfl (by decide) ⟨by unfold bckR bckE; rw [hno]; rfl, rfl⟩
  ·
    have hlen : sig.length = 4292 := by simp at hsp1; omega
    refine W_regL (WL_pure rfl rfl (by decide) (Pu_loadB (r := 102) rfl Try.isAgg30 rfl rfl rfl) (WL_pure rfl rfl (by decide) (Pu_len (r := 0) rfl Try.runUnderlying30 rfl rfl hsg) (WL_pure rfl rfl (by decide) (Pu_bin rfl rfl rfl (run_neq _ _ _ _ _ _)) (WL_pure rfl rfl (by decide) (Pu_move rfl rfl) (WL_gPT rfl rfl rfl (by rw [hsp1]; rfl) rfl (by decide) (Pu_loadB (r := 102) rfl Try.isAgg30 rfl rfl rfl) (WL_gPT rfl rfl rfl (by rw [hsp1]; rfl) rfl (by decide) (Pu_idxS1 (r := 0) rfl Try.runUnderlying30 Try.sizeOf5 rfl rfl rfl hsg (by omega)) (WL_gPT rfl rfl rfl (by rw [hsp1]; rfl) rfl (by decide) (Pu_loadS (r := 0) rfl Try.isAgg5 rfl rfl hsg (bs_at1 (k := 0) (by omega))) (WL_gPT rfl rfl rfl (by rw [hsp1]; rfl) rfl (by decide) (Pu_bin rfl rfl rfl (run_neq _ _ _ _ _ _)) (WL_pure rfl rfl (by decide) (Pu_pickF rfl rfl hsp1 rfl) (WL_pure rfl rfl (by decide) (Pu_move rfl rfl) (WL_guardP rfl rfl rfl rfl (by decide) (fun hb => (Pu_loadB (r := 102) rfl Try.isAgg30 rfl rfl rfl)) (WL_guardP rfl rfl rfl rfl (by decide) (fun hb => (Pu_idxS1 (r := 0) rfl Try.runUnderlying30 Try.sizeOf5 (ev_gv rfl hb) rfl rfl hsg (by omega))) (WL_guardP rfl rfl rfl rfl (by decide) (fun hb => (Pu_loadS (r := 0) rfl Try.isAgg5 (ev_gv rfl hb) rfl hsg (bs_at1 (k := 1) (by omega)))) (WL_guardP rfl rfl rfl rfl (by decide) (fun hb => (Pu_bin rfl (ev_gv rfl hb) rfl (run_neq _ _ _ _ _ _))) (WL_pure rfl rfl (by decide) (Pu_or rfl rfl rfl) (WL_pure rfl rfl (by decide) (Pu_move rfl rfl) (WL_guardP rfl rfl rfl rfl (by decide) (fun hb => (Pu_loadB (r := 102) rfl Try.isAgg30 rfl rfl rfl)) (WL_guardP rfl rfl rfl rfl (by decide) (fun hb => (Pu_idxS1 (r := 0) rfl Try.runUnderlying30 Try.sizeOf5 (ev_gv rfl hb) rfl rfl hsg (by omega))) (WL_guardP rfl rfl rfl rfl (by decide) (fun hb => (Pu_loadS (r := 0) rfl Try.isAgg5 (ev_gv rfl hb) rfl hsg (bs_at1 (k := 2) (by omega)))) (WL_guardP rfl rfl rfl rfl (by decide) (fun hb => (Pu_bin rfl (ev_gv rfl hb) rfl (run_neq _ _ _ _ _ _))) (WL_pure rfl rfl (by decide) (Pu_or rfl rfl rfl) (WL_pure rfl rfl (by decide) (Pu_move rfl rfl) (WL_guardP rfl rfl rfl rfl (by decide) (fun hb => (Pu_loadB (r := 102) rfl Try.isAgg30 rfl rfl rfl)) (WL_guardP rfl rfl rfl rfl (by decide) (fun hb => (Pu_idxS1 (r := 0) rfl Try.runUnderlying30 Try.sizeOf5 (ev_gv rfl hb) rfl rfl hsg (by omega))) (WL_guardP rfl rfl rfl rfl (by decide) (fun hb => (Pu_loadS (r := 0) rfl Try.isAgg5 (ev_gv rfl hb) rfl hsg (bs_at1 (k := 3) (by omega)))) (WL_guardP rfl rfl rfl rfl (by decide) (fun hb => (Pu_bin rfl (ev_gv rfl hb) rfl (run_neq _ _ _ _ _ _))) (WL_pure rfl rfl (by decide) (Pu_or rfl rfl rfl) (WL_nil (X_then ?_)))))))))))))))))))))))))))))
    refine W_cond rfl (fun hc39 => ?_) (fun hc39 => ?_)
    ·
      have hno : okB sig = false := by rw [okB_cells hlen] at hc39; simpa using hc39
      refine W_seq ?_
      refine W.pre (K' := [(0, _), (1, _), (2, _), (3, _), (4, _), (7, _), (8, _), (9, _), (39, _)]) (L' := [(0, _), (101, _), (102, _), (103, _)]) ?_ ⟨rfl, ⟨rfl, ⟨rfl, ⟨rfl, ⟨rfl, ⟨rfl, ⟨rfl, ⟨rfl, ⟨rfl, trivial⟩⟩⟩⟩⟩⟩⟩⟩⟩ ⟨rfl, ⟨rfl, ⟨rfl, ⟨rfl, trivial⟩⟩⟩⟩
      refine W_regL (WL_pure rfl rfl (by decide) (Pu_idZero rfl) (WL_cons0 rfl rfl (OpT_storeAll (r := 103) rfl Try.sizeOf29 rfl rfl rfl rfl rfl (bs_one _) ?_)))
      refine (WL_pure rfl rfl (by decide) (Pu_assign rfl rfl) (WL_nil (X_then ?_)))
      refine W_ret (X_then_ret ?_)
      exact X_ret [] (Ps := []) (resC2 (r := 103) Try.results41 rfl rfl Try.isAgg29 Try.sizeOf29 rfl rfl) rfl (by decide) ⟨by unfold bckR bckE; rw [hno]; rfl, rfl⟩
    ·
      have hyes : okB sig = true := by rw [okB_cells hlen] at hc39; simpa using hc39
      have hcl : ((sig.drop 4).take 32).length = 32 := by rw [List.length_take, List.length_drop]; omega
      refine W_skip (X_then ?_)
      refine W_seq ?_
      refine W.pre (K' := [(0, _), (1, _), (2, _), (3, _), (4, _), (7, _), (8, _), (9, _), (39, _)]) (L' := [(0, _), (101, _), (102, _), (103, _)]) ?_ ⟨rfl, ⟨rfl, ⟨rfl, ⟨rfl, ⟨rfl, ⟨rfl, ⟨rfl, ⟨rfl, ⟨rfl, trivial⟩⟩⟩⟩⟩⟩⟩⟩⟩ ⟨rfl, ⟨rfl, ⟨rfl, ⟨rfl, trivial⟩⟩⟩⟩
      refine W_regL (WL_pure rfl rfl (by decide) (Pu_loadBN (r := 101) rfl Try.isAgg52 Try.sizeOf52 rfl rfl ((bs_length _).trans hn) (load_all ((bs_length _).trans hn))) (WL_pure rfl rfl (by decide) (Pu_move rfl rfl) (WL_pure rfl rfl (by decide) (Pu_build (V := keyV nm q) [(0, 16), (16, 1)] (keyC (List.replicate 16 0) 0) rfl rfl (by kernel_rfl) (by kernel_rfl) (.many rfl ((bs_length _).trans hn) (by simp [keyC, bs_length]) rfl (.one rfl rfl (by rw [over_length _ _ _ (by rw [bs_length, hn, keyC_length rfl]; decide), keyC_length rfl]; decide) rfl (.nil _))) (key_build hn)) (WL_cons rfl rfl (by decide) (OpT_alloc (r := 104) rfl (zero_run (by kernel_rfl : (Try.prog.info? 104).bind (·.zero) = some (.agg (keyC (List.replicate 16 0) 0).toArray))) rfl (fun g104 => (WL_cons0 rfl rfl (OpT_storeAll (r := 104) rfl Try.sizeOf104 rfl rfl rfl (keyC_length rfl) (keyC_length hn) (keyC_one _ _) ?_))))))))
      refine (WL_nil (X_then ?_))
      refine W_seq ?_
      refine W.pre (K' := [(0, _), (1, _), (2, _), (3, _), (4, _), (7, _), (8, _), (9, _), (10, _), (39, _)]) (L' := [(0, _), (101, _), (102, _), (103, _), (104, _)]) ?_ ⟨rfl, ⟨rfl, ⟨rfl, ⟨rfl, ⟨rfl, ⟨rfl, ⟨rfl, ⟨rfl, ⟨rfl, ⟨rfl, trivial⟩⟩⟩⟩⟩⟩⟩⟩⟩⟩ ⟨rfl, ⟨rfl, ⟨rfl, ⟨rfl, ⟨rfl, trivial⟩⟩⟩⟩⟩
      refine W_regL (WL_cons rfl rfl (by decide) (OpT_alloc (r := 105) (cs := (bs zeroId)) rfl (zero_run (by kernel_rfl : (Try.prog.info? 29).bind (·.zero) = some (.agg (bs zeroId).toArray))) rfl (fun g105 => (WL_nil (X_then ?_)))))
      refine W_seq ?_
      refine W.pre (K' := [(0, _), (1, _), (2, _), (3, _), (4, _), (7, _), (8, _), (9, _), (10, _), (11, _), (39, _)]) (L' := [(0, _), (101, _), (102, _), (103, _), (104, _), (105, _)]) ?_ ⟨rfl, ⟨rfl, ⟨rfl, ⟨rfl, ⟨rfl, ⟨rfl, ⟨rfl, ⟨rfl, ⟨rfl, ⟨rfl, ⟨rfl, trivial⟩⟩⟩⟩⟩⟩⟩⟩⟩⟩⟩ ⟨rfl, ⟨rfl, ⟨rfl, ⟨rfl, ⟨rfl, ⟨rfl, trivial⟩⟩⟩⟩⟩⟩
      refine W_draw (N := 4) (by kernel_rfl) rfl [(0, _), (101, _), (102, _), (103, _), (104, _)] ⟨rfl, ⟨rfl, ⟨rfl, ⟨rfl, ⟨rfl, trivial⟩⟩⟩⟩⟩ ?_
      refine (AH_take 0 rfl (by kernel_rfl) (by kernel_rfl) (by kernel_rfl) rfl rfl (by decide) (Pu_sliceArr rfl Try.runUnderlying29 Try.sizeOf5 rfl) (AH_take 1 rfl (by kernel_rfl) (by kernel_rfl) (by kernel_rfl) rfl rfl (by decide) (Pu_loadB (r := 102) rfl Try.isAgg30 rfl rfl rfl) (AH_take 2 rfl (by kernel_rfl) (by kernel_rfl) (by kernel_rfl) rfl rfl (by decide) (Pu_slice (r := 0) (a := 4) (b := sig.length) rfl Try.runUnderlying30 Try.sizeOf5 rfl rfl hsg (.inr ⟨_, _, _, rfl, rfl, rfl⟩) (.inl ⟨rfl, rfl⟩) (by omega) (by omega)) (AH_ready [3] (by kernel_rfl) (by decide) ?_))))
      refine AHs_cons rfl rfl rfl (by decide) (OpT_copyB (r := 105) (r2 := 0) rfl Try.underlying30 TI.hsm5 rfl rfl rfl rfl (fun h hq => rdB_tail (hsg h hq) (by omega)) (bs_one _) (by rw [bs_length, zeroId_length]; omega) (show over _ _ _ = bs ((sig.drop 4).take 32) from id_copy (by rw [List.length_drop]; omega)) ?_) ?_
      ·
        refine ⟨⟨rfl, ⟨rfl, ⟨rfl, ⟨rfl, ⟨rfl, trivial⟩⟩⟩⟩⟩, ?_⟩
        refine (AH_done (by kernel_rfl) (X_then ?_))
        refine W_seq ?_
        refine W.pre (K' := [(0, _), (1, _), (2, _), (3, _), (4, _), (7, _), (8, _), (9, _), (10, _), (11, _), (39, _)]) (L' := [(0, _), (101, _), (102, _), (103, _), (104, _), (105, _)]) ?_ ⟨rfl, ⟨rfl, ⟨rfl, ⟨rfl, ⟨rfl, ⟨rfl, ⟨rfl, ⟨rfl, ⟨rfl, ⟨rfl, ⟨rfl, trivial⟩⟩⟩⟩⟩⟩⟩⟩⟩⟩⟩ ⟨rfl, ⟨rfl, ⟨rfl, ⟨rfl, ⟨rfl, ⟨rfl, trivial⟩⟩⟩⟩⟩⟩
        refine W_regL (WL_pure rfl rfl (by decide) (Pu_loadBN (r := 104) rfl Try.isAgg104 Try.sizeOf104 rfl rfl (keyC_length hn) (load_all (keyC_length hn))) (WL_pure rfl rfl (by decide) (Pu_loadBN (r := 105) rfl Try.isAgg29 Try.sizeOf29 rfl rfl ((bs_length _).trans hcl) (load_all ((bs_length _).trans hcl))) (WL_pure rfl rfl (by decide) (Pu_move rfl rfl) (WL_cons rfl rfl (by decide) (OpT_call 200 [0, 101, 102, 103, 104, 105] [] rfl Try.call61 rfl rfl rfl (by decide) (by decide) (kdigits_spec nm hn q _ ((sig.drop 4).take 32) msg hcl hml _ (rd_star 0 rfl hm)) (fun v51 Ps51 hR51 => ?_))))))
        obtain ⟨rfl, rfl⟩ := hR51
        refine (WL_cons rfl rfl (by decide) (OpT_alloc (r := 201) (cs := (nsC (List.replicate 133 0))) rfl (zero_run (by kernel_rfl : (Try.prog.info? 99).bind (·.zero) = some (nsV (List.replicate 133 0)))) rfl (fun g201 => (WL_cons0 rfl rfl (OpT_storeAll (r := 201) rfl Try.sizeOf99 rfl rfl rfl rfl ((nsC_length _).trans (digL_length _)) (nsC_one _) ?_)))))
        refine (WL_nil (X_then ?_))
        refine W_seq ?_
        refine W.pre (K' := [(0, _), (1, _), (2, _), (3, _), (4, _), (7, _), (8, _), (9, _), (10, _), (11, _), (12, _), (39, _)]) (L' := [(0, _), (101, _), (102, _), (103, _), (104, _), (105, _), (201, _)]) ?_ ⟨rfl, ⟨rfl, ⟨rfl, ⟨rfl, ⟨rfl, ⟨rfl, ⟨rfl, ⟨rfl, ⟨rfl, ⟨rfl, ⟨rfl, ⟨rfl, trivial⟩⟩⟩⟩⟩⟩⟩⟩⟩⟩⟩⟩ ⟨rfl, ⟨rfl, ⟨rfl, ⟨rfl, ⟨rfl, ⟨rfl, ⟨rfl, trivial⟩⟩⟩⟩⟩⟩⟩
        refine W_regL (WL_pure rfl rfl (by decide) (Pu_loadBN (r := 104) rfl Try.isAgg104 Try.sizeOf104 rfl rfl (keyC_length hn) (load_all (keyC_length hn))) (WL_pure rfl rfl (by decide) (Pu_makeFunc rfl rfl) (WL_cons rfl rfl (by decide) (OpT_call 300 [0, 101, 103, 105] [102, 104, 201] rfl Try.call62 rfl rfl rfl (by decide) (by decide) (kends_spec nm hn q 63 [.pointer (some ⟨g102, 0, none⟩), .pointer (some ⟨g104, 0, none⟩), .pointer (some ⟨g201, 0, none⟩)] Try.call63 (bckY nm q ((sig.drop 4).take 32) msg sig) (fun i hi => bckY_length (by omega)) sv sig _ _ _ (fun G hG i hi => kback1_spec nm hn q ((sig.drop 4).take 32) msg sig hlen sv _ _ _ i hi G hG) _ (rd_star 0 rfl hsg)) (fun v54 Ps54 hR54 => ?_)))))
        obtain ⟨rfl, rfl⟩ := hR54
        refine (WL_cons0 rfl rfl (OpT_storeAll (r := 103) rfl Try.sizeOf29 rfl rfl rfl rfl ((bs_length _).trans (endsC_length _ _ _)) (bs_one _) ?_))
        refine (WL_pure rfl rfl (by decide) (Pu_assign rfl rfl) (WL_nil (X_then ?_)))
        refine W_ret ?_
        exact X_ret [] (Ps := []) (resC2 (r := 103) Try.results41 rfl rfl Try.isAgg29 Try.sizeOf29 rfl ((bs_length _).trans (endsC_length _ _ _))) rfl (by decide) ⟨by unfold bckR bckE; rw [hyes]; rfl, rfl⟩
      exact AHs_nil
end Go.Proofs.Ytinamipkpdlphaa
/- Trees of signatures of the program: rules for their walk. -/
namespace Go.Proofs.Ytinamipkpdlphaa
open Go.RowKit
set_option linter.unusedVariables false
set_option linter.unusedSimpArgs false
theorem pair_fill {zs a b : List Value} {sz : Nat} (hz : zs.length = 2 * sz) (ha : a.length = sz) (hb : b.length = sz) :
    Instr.fill (fun i => some (i * sz, sz)) zs.toArray [(0, .agg a.toArray), (1, .agg b.toArray)] = some (a ++ b).toArray := by
  rw [fill_cons (off := 0 * sz) (sz := sz) rfl (by simpa [Value.cells] using ha) (by simp [hz]; omega)]
  simp only [Value.cells]
  have h1 := zipIdx_fold a 0 (0 * sz) zs.toArray (by simp [hz, ha]; omega)
  rw [Nat.add_zero] at h1
  rw [← Array.foldl_toList, Array.toList_zipIdx, List.toList_toArray, h1, List.toList_toArray]
  have e1 : over zs (0 * sz) a = a ++ zs.drop sz := by
    unfold over
    rw [Nat.zero_mul, List.take_zero, List.nil_append, Nat.zero_add, ha]
  rw [e1, fill_cons (off := 1 * sz) (sz := sz) rfl (by simpa [Value.cells] using hb) (by simp [hz, ha]; omega)]
  simp only [Value.cells]
  have h2 := zipIdx_fold b 0 (1 * sz) (a ++ zs.drop sz).toArray (by simp [hz, ha, hb]; omega)
  rw [Nat.add_zero] at h2
  rw [← Array.foldl_toList, Array.toList_zipIdx, List.toList_toArray, h2, List.toList_toArray]
  have e2 : over (a ++ zs.drop sz) (1 * sz) b = a ++ b := by
    unfold over
    rw [Nat.one_mul, List.take_left' ha, List.drop_of_length_le (by simp [hz, ha, hb]; omega), List.append_nil]
  rw [e2]
  rfl
section
variable {P : Program} {E : Env} {n : Nat} {K : Slots} {L : Res} {o : Oper} {C : Value → Res → Prop}
theorem Pu_pair {t e sz m : Nat} {x y : Operand} {zs a b : List Value} {ie : TypeInfo} (ho : o.op = .build t #[(0, x), (1, y)]) (ht : P.underlying t = some (.array m e)) (hz : (P.info? t).bind (·.zero) = some (.agg zs.toArray)) (hi : P.info? e = some ie) (hs : ie.size = sz) (hzl : zs.length = 2 * sz) (ha : a.length = sz) (hb : b.length = sz)
    (hx : evK K x = some (.agg a.toArray)) (hy : evK K y = some (.agg b.toArray)) : Pure P E n o K L (.agg (a ++ b).toArray) := fun ac w hA hS => by
  subst hs
  have hbt : P.built t [(0, .agg a.toArray), (1, .agg b.toArray)] = some (a ++ b).toArray := by
    unfold Program.built
    cases hi2 : P.info? t with
    | none => simp [hi2] at hz
    | some it =>
      simp only [hi2, Option.bind_some] at hz
      simp only [ht, hz, hi, Value.cells]
      exact pair_fill hzl ha hb
  have hm : (#[(0, x), (1, y)].map fun (i, x) => (i, ac.eval x)) = #[(0, .agg a.toArray), (1, .agg b.toArray)] := by simp [hA.eval hx, hA.eval hy]
  simp only [execOp, ho, hm, Sem.run_bind, run_build w t _ _ hbt, Result.andThen_ok, Sem.run_pure]
end
theorem nm_copy {b : List UInt8} (hb : 16 ≤ b.length) : over (bs (List.replicate 16 0)) 0 ((bs b).take (min b.length 16)) = bs (b.take 16) := by
  rw [Nat.min_eq_right hb, ← bs_take]
  exact over_bs _ _ _ 0 (by
    have h1 : (b.take 16).length = 16 := by simp; omega
    rw [h1, List.take_zero, List.nil_append, List.drop_of_length_le (by simp), List.append_nil])
theorem take_flat (l : List (List UInt8)) {k : Nat} (h : k < l.length) : (l.take (k + 1)).flatten = (l.take k).flatten ++ l.getD k [] := by
  rw [List.take_add_one, List.flatten_append]
  congr 1
  simp [List.getElem?_eq_getElem h]
theorem take_flat_len {l : List (List UInt8)} (hl : Ids l) (k : Nat) : (l.take k).flatten.length ≤ 32 * l.length := by
  have h := flat_ids (l := l.take k) (fun y hy => hl y (List.mem_of_mem_take hy))
  rw [h, List.length_take]
  have := Nat.min_le_right k l.length
  omega
theorem ids_one {a : List UInt8} (ha : a.length = 32) : Ids [a] := by
  intro y hy
  simp at hy
  rw [hy, ha]
theorem ids_two {a b : List UInt8} (ha : a.length = 32) (hb : b.length = 32) : Ids [a, b] := by
  intro y hy
  simp at hy
  rcases hy with rfl | rfl
  · exact ha
  · exact hb
theorem idsC_two (a b : List UInt8) : idsC [a, b] = bs a ++ bs b := by simp [idsC]
theorem flat_one (a : List UInt8) : [a].flatten = a := by simp
theorem flat_two (a b : List UInt8) : [a, b].flatten = a ++ b := by simp
end Go.Proofs.Ytinamipkpdlphaa
/- Trees of signatures of the program: nodes. -/
namespace Go.Proofs.Ytinamipkpdlphaa
open Go.RowKit
set_option linter.unusedVariables false
set_option linter.unusedSimpArgs false
set_option maxRecDepth 8000

theorem lfour_spec (n : Int) (F : HP) : CallsS Try.prog 65 #[.int .i64 n] F [] (fun r Ps => Ps = [rowB 5 r (numB n 4)]) := by
  refine callsS_enter Try.func65 rfl Try.ntmps65 (by simp) (fun E => ?_)
  refine W_seq ?_
  refine W.pre (K' := [(0, _)]) (L' := [(0, _)]) ?_ ⟨rfl, trivial⟩ ⟨rfl, trivial⟩
  refine W_regL (WL_pure rfl rfl (by decide) (Pu_assign rfl rfl) (WL_nil (X_then ?_)))
  refine W_seq ?_
  refine W.pre (K' := [(0, _), (2, _)]) (L' := [(0, _)]) ?_ ⟨rfl, ⟨rfl, trivial⟩⟩ ⟨rfl, trivial⟩
  refine W_regL (WL_pure rfl rfl (by decide) (Pu_move rfl rfl) (WL_pure rfl rfl (by decide) (Pu_bin rfl rfl rfl (run_shr _ 24 _ _ _ (by omega))) (WL_pure rfl rfl (by decide) (Pu_conv rfl rfl (conv_byte _ _ Try.runUnderlying3 Try.runUnderlying5)) (WL_pure rfl rfl (by decide) (Pu_move rfl rfl) (WL_pure rfl rfl (by decide) (Pu_bin rfl rfl rfl (run_shr _ 16 _ _ _ (by omega))) (WL_pure rfl rfl (by decide) (Pu_conv rfl rfl (conv_byte _ _ Try.runUnderlying3 Try.runUnderlying5)) (WL_pure rfl rfl (by decide) (Pu_move rfl rfl) (WL_pure rfl rfl (by decide) (Pu_bin rfl rfl rfl (run_shr _ 8 _ _ _ (by omega))) (WL_pure rfl rfl (by decide) (Pu_conv rfl rfl (conv_byte _ _ Try.runUnderlying3 Try.runUnderlying5)) (WL_pure rfl rfl (by decide) (Pu_move rfl rfl) (WL_pure rfl rfl (by decide) (Pu_conv rfl rfl (conv_byte _ _ Try.runUnderlying3 Try.runUnderlying5)) (WL_cons rfl rfl (by decide) (OpT_buildOnes (r := 101) (bs (numB n 4)) rfl rfl Try.runUnderlying30 Try.sizeOf5 Try.zeroValue5 rfl rfl (by decide) (by rw [numB_four]; rfl) (bs_cells _) (fun v14 => (WL_pure rfl rfl (by decide) (Pu_assign rfl rfl) (WL_nil (X_then ?_)))))))))))))))))
  refine W_ret ?_
  exact X_ret [101] (Ps := [_]) (res1 Try.results65 rfl) rfl (by decide) (congrArg (· :: []) (rowB_of _ (by rw [numB_length]) rfl))
theorem number6_spec (v : Value) (l : List UInt8) (F : HP) (hF : ∀ h, F h → rdB v l h) (hl : 4 ≤ l.length) : CallsS Try.prog 40 #[v] F [] (fun r Ps => r = .int .i64 (val l 4 : Int) ∧ Ps = []) := by
  refine callsS_enter Try.func40 rfl Try.ntmps40 (by simp) (fun E => ?_)
  refine W_seq ?_
  refine W.pre (K' := [(0, _)]) (L' := [(0, _)]) ?_ ⟨rfl, trivial⟩ ⟨rfl, trivial⟩
  refine W_regL (WL_pure rfl rfl (by decide) (Pu_assign rfl rfl) (WL_nil (X_then ?_)))
  refine W_seq ?_
  refine W.pre (K' := [(0, _), (2, _)]) (L' := [(0, _)]) ?_ ⟨rfl, ⟨rfl, trivial⟩⟩ ⟨rfl, trivial⟩
  refine W_draw (N := 23) (by kernel_rfl) rfl [(0, _)] ⟨rfl, trivial⟩ ?_
  refine (AH_take 0 rfl (by kernel_rfl) (by kernel_rfl) (by kernel_rfl) rfl rfl (by decide) (Pu_move rfl rfl) (AH_take 1 rfl (by kernel_rfl) (by kernel_rfl) (by kernel_rfl) rfl rfl (by decide) (Pu_idxS1 (r := 0) rfl Try.runUnderlying30 Try.sizeOf5 rfl rfl rfl hF (by omega)) (AH_take 2 rfl (by kernel_rfl) (by kernel_rfl) (by kernel_rfl) rfl rfl (by decide) (Pu_loadS (r := 0) rfl Try.isAgg5 rfl rfl hF (bs_at1 (k := 0) (by omega))) (AH_take 3 rfl (by kernel_rfl) (by kernel_rfl) (by kernel_rfl) rfl rfl (by decide) (Pu_conv rfl rfl (conv_u8 _ Try.runUnderlying5 Try.runUnderlying3)) (AH_take 4 rfl (by kernel_rfl) (by kernel_rfl) (by kernel_rfl) rfl rfl (by decide) (Pu_bin rfl rfl rfl (run_shl _ 24 _ _ _ (by have := (at0 l 0).toNat_lt; omega) (by omega))) (AH_take 5 rfl (by kernel_rfl) (by kernel_rfl) (by kernel_rfl) rfl rfl (by decide) (Pu_move rfl rfl) (AH_take 6 rfl (by kernel_rfl) (by kernel_rfl) (by kernel_rfl) rfl rfl (by decide) (Pu_idxS1 (r := 0) rfl Try.runUnderlying30 Try.sizeOf5 rfl rfl rfl hF (by omega)) (AH_take 7 rfl (by kernel_rfl) (by kernel_rfl) (by kernel_rfl) rfl rfl (by decide) (Pu_loadS (r := 0) rfl Try.isAgg5 rfl rfl hF (bs_at1 (k := 1) (by omega))) (AH_take 8 rfl (by kernel_rfl) (by kernel_rfl) (by kernel_rfl) rfl rfl (by decide) (Pu_conv rfl rfl (conv_u8 _ Try.runUnderlying5 Try.runUnderlying3)) (AH_take 9 rfl (by kernel_rfl) (by kernel_rfl) (by kernel_rfl) rfl rfl (by decide) (Pu_bin rfl rfl rfl (run_shl _ 16 _ _ _ (by have := (at0 l 1).toNat_lt; omega) (by omega))) (AH_take 10 rfl (by kernel_rfl) (by kernel_rfl) (by kernel_rfl) rfl rfl (by decide) (Pu_bin rfl rfl rfl (run_or _ _ 24 _ _ _ (by have := (at0 l 0).toNat_lt; have := (at0 l 1).toNat_lt; have := (at0 l 2).toNat_lt; have := (at0 l 3).toNat_lt; omega) (by have := (at0 l 0).toNat_lt; have := (at0 l 1).toNat_lt; have := (at0 l 2).toNat_lt; have := (at0 l 3).toNat_lt; omega) (by have := (at0 l 0).toNat_lt; have := (at0 l 1).toNat_lt; have := (at0 l 2).toNat_lt; have := (at0 l 3).toNat_lt; omega) (by omega))) (AH_take 11 rfl (by kernel_rfl) (by kernel_rfl) (by kernel_rfl) rfl rfl (by decide) (Pu_move rfl rfl) (AH_take 12 rfl (by kernel_rfl) (by kernel_rfl) (by kernel_rfl) rfl rfl (by decide) (Pu_idxS1 (r := 0) rfl Try.runUnderlying30 Try.sizeOf5 rfl rfl rfl hF (by omega)) (AH_take 13 rfl (by kernel_rfl) (by kernel_rfl) (by kernel_rfl) rfl rfl (by decide) (Pu_loadS (r := 0) rfl Try.isAgg5 rfl rfl hF (bs_at1 (k := 2) (by omega))) (AH_take 14 rfl (by kernel_rfl) (by kernel_rfl) (by kernel_rfl) rfl rfl (by decide) (Pu_conv rfl rfl (conv_u8 _ Try.runUnderlying5 Try.runUnderlying3)) (AH_take 15 rfl (by kernel_rfl) (by kernel_rfl) (by kernel_rfl) rfl rfl (by decide) (Pu_bin rfl rfl rfl (run_shl _ 8 _ _ _ (by have := (at0 l 2).toNat_lt; omega) (by omega))) (AH_take 16 rfl (by kernel_rfl) (by kernel_rfl) (by kernel_rfl) rfl rfl (by decide) (Pu_bin rfl rfl rfl (run_or _ _ 16 _ _ _ (by have := (at0 l 0).toNat_lt; have := (at0 l 1).toNat_lt; have := (at0 l 2).toNat_lt; have := (at0 l 3).toNat_lt; omega) (by have := (at0 l 0).toNat_lt; have := (at0 l 1).toNat_lt; have := (at0 l 2).toNat_lt; have := (at0 l 3).toNat_lt; omega) (by have := (at0 l 0).toNat_lt; have := (at0 l 1).toNat_lt; have := (at0 l 2).toNat_lt; have := (at0 l 3).toNat_lt; omega) (by omega))) (AH_take 17 rfl (by kernel_rfl) (by kernel_rfl) (by kernel_rfl) rfl rfl (by decide) (Pu_move rfl rfl) (AH_take 18 rfl (by kernel_rfl) (by kernel_rfl) (by kernel_rfl) rfl rfl (by decide) (Pu_idxS1 (r := 0) rfl Try.runUnderlying30 Try.sizeOf5 rfl rfl rfl hF (by omega)) (AH_take 19 rfl (by kernel_rfl) (by kernel_rfl) (by kernel_rfl) rfl rfl (by decide) (Pu_loadS (r := 0) rfl Try.isAgg5 rfl rfl hF (bs_at1 (k := 3) (by omega))) (AH_take 20 rfl (by kernel_rfl) (by kernel_rfl) (by kernel_rfl) rfl rfl (by decide) (Pu_conv rfl rfl (conv_u8 _ Try.runUnderlying5 Try.runUnderlying3)) (AH_take 21 rfl (by kernel_rfl) (by kernel_rfl) (by kernel_rfl) rfl rfl (by decide) (Pu_bin rfl rfl rfl (run_or _ _ 8 _ _ _ (by have := (at0 l 0).toNat_lt; have := (at0 l 1).toNat_lt; have := (at0 l 2).toNat_lt; have := (at0 l 3).toNat_lt; omega) (by have := (at0 l 0).toNat_lt; have := (at0 l 1).toNat_lt; have := (at0 l 2).toNat_lt; have := (at0 l 3).toNat_lt; omega) (by have := (at0 l 0).toNat_lt; have := (at0 l 1).toNat_lt; have := (at0 l 2).toNat_lt; have := (at0 l 3).toNat_lt; omega) (by omega))) (AH_take 22 rfl (by kernel_rfl) (by kernel_rfl) (by kernel_rfl) rfl rfl (by decide) (Pu_assign rfl rfl) (AH_done (by kernel_rfl) (X_then ?_)))))))))))))))))))))))))
  refine W_ret ?_
  exact X_ret [] (Ps := []) (res1 Try.results40 rfl) rfl (by decide) ⟨by rw [val_four], rfl⟩
theorem lnode_spec (nm : List UInt8) (hn : nm.length = 16) (r : Int) (mark : UInt8) (lv : Value) (l : List (List UInt8)) (hids : Ids l) (hll : l.length ≤ 1000) (F : HP) (hl : ∀ h, F h → rdI lv l h) : CallsS Try.prog 42 #[idV nm, .int .i64 r, bv mark, lv] F [] (fun v Ps => v = idV (nodH nm r mark l.flatten) ∧ Ps = []) := by
  refine callsS_enter Try.func42 rfl Try.ntmps42 (by simp) (fun E => ?_)
  refine W_seq ?_
  refine W.pre (K' := [(0, _), (1, _), (2, _), (3, _)]) (L' := [(0, _)]) ?_ ⟨rfl, ⟨rfl, ⟨rfl, ⟨rfl, trivial⟩⟩⟩⟩ ⟨rfl, trivial⟩
  refine W_regL (WL_cons rfl rfl (by decide) (OpT_box (r := 101) rfl rfl rfl (fun g101 => (WL_cons rfl rfl (by decide) (OpT_alloc (r := 102) (cs := (bs zeroId)) rfl (zero_run (by kernel_rfl : (Try.prog.info? 29).bind (·.zero) = some (.agg (bs zeroId).toArray))) rfl (fun g102 => (WL_nil (X_then ?_))))))))
  refine W_seq ?_
  refine W.pre (K' := [(0, _), (1, _), (2, _), (3, _), (4, _), (8, _)]) (L' := [(0, _), (101, _), (102, _)]) ?_ ⟨rfl, ⟨rfl, ⟨rfl, ⟨rfl, ⟨rfl, ⟨rfl, trivial⟩⟩⟩⟩⟩⟩ ⟨rfl, ⟨rfl, ⟨rfl, trivial⟩⟩⟩
  refine W_regL (WL_pure rfl rfl (by decide) (Pu_move rfl rfl) (WL_pure rfl rfl (by decide) (Pu_len (r := 0) rfl Try.runUnderlying80 rfl rfl hl) (WL_pure rfl rfl (by decide) (Pu_bin rfl rfl rfl (run_mul _ _ _ _ _ (by omega))) (WL_pure rfl rfl (by decide) (Pu_bin rfl rfl rfl (run_add _ _ _ _ _ (by omega))) ?_))))
  rw [show (22 : Int) + (l.length : Int) * 32 = ((22 + l.length * 32 : Nat) : Int) by omega]
  refine (WL_cons rfl rfl (by decide) (OpT_makeCap (r := 103) (m := 22 + l.length * 32) rfl Try.underlying30 TI.hi5 TI.hz5 TI.hs5 rfl rfl (by rw [TI.hby5]; omega) (by unfold maxLen; omega) (fun v16 => ?_)))
  refine (WL_pure rfl rfl (by decide) (Pu_assign rfl rfl) (WL_nil (X_then ?_)))
  refine W_seq ?_
  refine W.pre (K' := [(0, _), (1, _), (2, _), (3, _), (4, _), (8, _), (9, _)]) (L' := [(0, _), (101, _), (102, _), (103, _)]) ?_ ⟨rfl, ⟨rfl, ⟨rfl, ⟨rfl, ⟨rfl, ⟨rfl, ⟨rfl, trivial⟩⟩⟩⟩⟩⟩⟩ ⟨rfl, ⟨rfl, ⟨rfl, ⟨rfl, trivial⟩⟩⟩⟩
  refine W_regL (WL_pure rfl rfl (by decide) (Pu_move rfl rfl) (WL_pure rfl rfl (by decide) (Pu_sliceArr rfl Try.runUnderlying52 Try.sizeOf5 rfl) (WL_cons rfl rfl (by decide) (OpT_append (r := 103) (r2 := 101) rfl Try.underlying30 TI.hi5 TI.hz5 TI.hs5 TI.hby5 TI.hzs5 (by decide) rfl rfl rfl rfl (fun _ h => blk_all h hn) (bs_one _) (by unfold maxLen; omega) (by omega) (fun v19 => ?_)))))
  refine WL_turn (P' := rowB 5 v19 (nm)) 103 rfl (fun h hp => rowB_mk hp (by simp [hn]) (by simp [bs])) ?_
  refine (WL_pure rfl rfl (by decide) (Pu_assign rfl rfl) (WL_nil (X_then ?_)))
  refine W_seq ?_
  refine W.pre (K' := [(0, _), (1, _), (2, _), (3, _), (4, _), (8, _), (9, _)]) (L' := [(0, _), (101, _), (102, _), (103, _)]) ?_ ⟨rfl, ⟨rfl, ⟨rfl, ⟨rfl, ⟨rfl, ⟨rfl, ⟨rfl, trivial⟩⟩⟩⟩⟩⟩⟩ ⟨rfl, ⟨rfl, ⟨rfl, ⟨rfl, trivial⟩⟩⟩⟩
  refine W_regL (WL_pure rfl rfl (by decide) (Pu_move rfl rfl) (WL_pure rfl rfl (by decide) (Pu_move rfl rfl) (WL_cons rfl rfl (by decide) (OpT_call 200 [0, 101, 102, 103] [] rfl Try.call65 rfl rfl rfl (by decide) (by decide) (lfour_spec r _) (fun v22 Ps22 hR22 => ?_)))))
  subst hR22
  refine (WL_cons rfl rfl (by decide) (OpT_append (r := 103) (r2 := 200) rfl Try.underlying30 TI.hi5 TI.hz5 TI.hs5 TI.hby5 TI.hzs5 (by decide) rfl rfl rfl rfl rowB_rd (bs_one _) (by unfold maxLen; simp [hn, numB_length]) (by simp [hn, numB_length]) (fun v23 => ?_)))
  refine WL_turn (P' := rowB 5 v23 (hdL nm r)) 103 rfl (fun h hp => rowB_mk hp (by unfold hdL; rw [List.length_append]) (by unfold hdL; rw [bs_append])) ?_
  refine (WL_pure rfl rfl (by decide) (Pu_assign rfl rfl) (WL_nil (X_then ?_)))
  refine W_seq ?_
  refine W.pre (K' := [(0, _), (1, _), (2, _), (3, _), (4, _), (8, _), (9, _)]) (L' := [(0, _), (101, _), (102, _), (103, _), (200, _)]) ?_ ⟨rfl, ⟨rfl, ⟨rfl, ⟨rfl, ⟨rfl, ⟨rfl, ⟨rfl, trivial⟩⟩⟩⟩⟩⟩⟩ ⟨rfl, ⟨rfl, ⟨rfl, ⟨rfl, ⟨rfl, trivial⟩⟩⟩⟩⟩
  refine W_regL (WL_pure rfl rfl (by decide) (Pu_move rfl rfl) (WL_pure rfl rfl (by decide) (Pu_move rfl rfl) (WL_pure rfl rfl (by decide) (Pu_move rfl rfl) (WL_cons rfl rfl (by decide) (OpT_buildOnes (r := 201) (bs [mark, mark]) rfl rfl Try.runUnderlying30 Try.sizeOf5 Try.zeroValue5 rfl rfl (by decide) rfl (bs_cells _) (fun v27 => (WL_cons rfl rfl (by decide) (OpT_append (r := 103) (r2 := 201) rfl Try.underlying30 TI.hi5 TI.hz5 TI.hs5 TI.hby5 TI.hzs5 (by decide) rfl rfl rfl rfl (fun _ h => rowP_rd h) (bs_one _) (by unfold maxLen; simp [hdL_length hn, numB_length, *] <;> omega) (by simp [hdL_length hn, numB_length, *] <;> omega) (fun v28 => ?_)))))))))
  refine WL_turn (P' := rowB 5 v28 (hdL nm r ++ [mark, mark])) 103 rfl (fun h hp => rowB_mk hp (by simp [hdL_length hn, numB_length, *] <;> omega) (by simp only [bs_append])) ?_
  refine (WL_pure rfl rfl (by decide) (Pu_assign rfl rfl) (WL_nil (X_then ?_)))
  refine W_seq ?_
  refine W_seq ?_
  refine W.pre (K' := [(0, _), (1, _), (2, _), (3, _), (4, _), (8, _), (9, _)]) (L' := [(0, _), (101, _), (102, _), (103, _), (200, _), (201, _)]) ?_ ⟨rfl, ⟨rfl, ⟨rfl, ⟨rfl, ⟨rfl, ⟨rfl, ⟨rfl, trivial⟩⟩⟩⟩⟩⟩⟩ ⟨rfl, ⟨rfl, ⟨rfl, ⟨rfl, ⟨rfl, ⟨rfl, trivial⟩⟩⟩⟩⟩⟩
  refine W_regL (WL_pure rfl rfl (by decide) (Pu_move rfl rfl) (WL_pure rfl rfl (by decide) (Pu_len (r := 0) rfl Try.runUnderlying80 rfl rfl hl) (WL_pure rfl rfl (by decide) (Pu_move rfl rfl) (WL_nil (X_then ?_)))))
  refine W_block ?_
  refine W_loop (α := Value × Nat) (fun y => [(8, .pointer (some ⟨g102, 0, none⟩)), (9, y.1), (29, lv), (30, .int .i64 (l.length : Int)), (31, .int .i64 (y.2 : Int))]) (fun y => [(0, F), (102, blk g102 29 (bs zeroId)), (103, rowB 5 y.1 (hdL nm r ++ [mark, mark] ++ (l.take y.2).flatten))]) (fun y => y.2 ≤ l.length) (fun y => l.length - y.2) ((v28, 0)) (by dsimp only; omega) ⟨rfl, ⟨rfl, ⟨rfl, ⟨rfl, ⟨rfl, trivial⟩⟩⟩⟩⟩ ⟨rfl, rfl, look_eq rfl (by rw [List.take_zero, List.flatten_nil, List.append_nil]), trivial⟩ (fun y hy => ?_)
  have hfl := take_flat_len hids y.2
  refine W_seq ?_
  refine W.pre (K' := [(8, _), (9, _), (29, _), (30, _), (31, _)]) (L' := [(0, _), (102, _), (103, _)]) ?_ ⟨rfl, ⟨rfl, ⟨rfl, ⟨rfl, ⟨rfl, trivial⟩⟩⟩⟩⟩ ⟨rfl, ⟨rfl, ⟨rfl, trivial⟩⟩⟩
  refine W_regL (WL_pure rfl rfl (by decide) (Pu_bin rfl rfl rfl (run_lss _ _ _ _ _ _)) (WL_nil (X_then ?_)))
  refine W_seq ?_
  refine W_cond rfl (fun hc32 => ?_) (fun hc32 => ?_)
  ·
    have hlt : y.2 < l.length := by have := of_decide_eq_true hc32; omega
    have hid := hids.get hlt
    refine W_skip (X_then ?_)
    refine W_seq ?_
    refine W_block ?_
    refine W_seq ?_
    refine W.pre (K' := [(8, _), (9, _), (29, _), (30, _), (31, _), (32, _)]) (L' := [(0, _), (102, _), (103, _)]) ?_ ⟨rfl, ⟨rfl, ⟨rfl, ⟨rfl, ⟨rfl, ⟨rfl, trivial⟩⟩⟩⟩⟩⟩ ⟨rfl, ⟨rfl, ⟨rfl, trivial⟩⟩⟩
    refine W_regL (WL_pure rfl rfl (by decide) (Pu_idxS (r := 0) rfl Try.runUnderlying80 Try.sizeOf29 rfl rfl rfl hl (by omega)) (WL_pure rfl rfl (by decide) (Pu_loadSN (r := 0) rfl Try.isAgg29 Try.sizeOf29 rfl rfl hl ((bs_length _).trans hid) (by decide) (idsC_get (k := y.2) hids hlt)) (WL_cons rfl rfl (by decide) (OpT_alloc (r := 202) (cs := (bs zeroId)) rfl (zero_run (by kernel_rfl : (Try.prog.info? 29).bind (·.zero) = some (.agg (bs zeroId).toArray))) rfl (fun g202 => (WL_cons0 rfl rfl (OpT_storeAll (r := 202) rfl Try.sizeOf29 rfl rfl rfl rfl ((bs_length _).trans hid) (bs_one _) ?_)))))))
    refine (WL_nil (X_then ?_))
    refine W.pre (K' := [(8, _), (9, _), (11, _), (29, _), (30, _), (31, _), (32, _)]) (L' := [(0, _), (102, _), (103, _), (202, _)]) ?_ ⟨rfl, ⟨rfl, ⟨rfl, ⟨rfl, ⟨rfl, ⟨rfl, ⟨rfl, trivial⟩⟩⟩⟩⟩⟩⟩ ⟨rfl, ⟨rfl, ⟨rfl, ⟨rfl, trivial⟩⟩⟩⟩
    refine W_regL (WL_pure rfl rfl (by decide) (Pu_move rfl rfl) (WL_pure rfl rfl (by decide) (Pu_sliceArr rfl Try.runUnderlying29 Try.sizeOf5 rfl) (WL_cons rfl rfl (by decide) (OpT_append (r := 103) (r2 := 202) rfl Try.underlying30 TI.hi5 TI.hz5 TI.hs5 TI.hby5 TI.hzs5 (by decide) rfl rfl rfl rfl (fun _ h => blk_all h hid) (bs_one _) (by unfold maxLen; simp only [List.length_append, hdL_length hn, List.length_cons, List.length_nil]; omega) (by simp only [List.length_append, hdL_length hn, List.length_cons, List.length_nil]; omega) (fun v37 => ?_)))))
    refine WL_turn (P' := rowB 5 v37 (hdL nm r ++ [mark, mark] ++ (l.take (y.2 + 1)).flatten)) 103 rfl (fun h hp => rowB_mk hp (by rw [take_flat l hlt]; simp only [List.length_append, hid]; omega) (by rw [take_flat l hlt]; simp only [bs_append, List.append_assoc])) ?_
    refine (WL_pure rfl rfl (by decide) (Pu_assign rfl rfl) (WL_nil (X_block (X_then ?_))))
    refine W.pre (K' := [(8, _), (9, _), (11, _), (29, _), (30, _), (31, _), (32, _)]) (L' := [(0, _), (102, _), (103, _), (202, _)]) ?_ ⟨rfl, ⟨rfl, ⟨rfl, ⟨rfl, ⟨rfl, ⟨rfl, ⟨rfl, trivial⟩⟩⟩⟩⟩⟩⟩ ⟨rfl, ⟨rfl, ⟨rfl, ⟨rfl, trivial⟩⟩⟩⟩
    refine W_regL (WL_pure rfl rfl (by decide) (Pu_bin rfl rfl rfl (run_add _ _ _ _ _ (by omega))) (WL_pure rfl rfl (by decide) (Pu_move rfl rfl) (WL_nil ?_)))
    exact X_round (v37, y.2 + 1) (by dsimp only; omega) (by show l.length - (y.2 + 1) < l.length - y.2; omega) ⟨rfl, rfl, rfl, rfl, rfl, trivial⟩ ⟨rfl, rfl, rfl, trivial⟩
  ·
    have hye : y.2 = l.length := by have := of_decide_eq_false hc32; omega
    rw [hye, List.take_length]
    refine W_exit (X_then_exit (X_then_exit (X_block_exit (X_then ?_))))
    refine W_seq ?_
    refine W.pre (K' := [(8, _), (9, _), (29, _), (30, _), (31, _), (32, _)]) (L' := [(0, _), (102, _), (103, _)]) ?_ ⟨rfl, ⟨rfl, ⟨rfl, ⟨rfl, ⟨rfl, ⟨rfl, trivial⟩⟩⟩⟩⟩⟩ ⟨rfl, ⟨rfl, ⟨rfl, trivial⟩⟩⟩
    refine W_regL (WL_pure rfl rfl (by decide) (Pu_move rfl rfl) (WL_cons rfl rfl (by decide) (OpT_call 300 [0, 102, 103] [] rfl Try.call24 rfl rfl rfl (by decide) (by decide) (sum_spec y.1 (hdL nm r ++ [mark, mark] ++ l.flatten) (by have := flat_ids hids; simp only [List.length_append, hdL_length hn, this, List.length_cons, List.length_nil]; omega) _ (rd_star 2 rfl rowB_rd)) (fun v40 Ps40 hR40 => ?_))))
    obtain ⟨rfl, rfl⟩ := hR40
    refine (WL_cons0 rfl rfl (OpT_storeAll (r := 102) rfl Try.sizeOf29 rfl rfl rfl rfl ((bs_length _).trans (sha_length _)) (bs_one _) ?_))
    refine (WL_nil (X_then ?_))
    refine W_ret ?_
    exact X_ret [] (Ps := []) (resC1 (r := 102) Try.results42 rfl Try.isAgg29 Try.sizeOf29 rfl ((bs_length _).trans (sha_length _))) rfl (by decide) ⟨rfl, rfl⟩
end Go.Proofs.Ytinamipkpdlphaa
/- The program's check of a signature. -/
namespace Go.Proofs.Ytinamipkpdlphaa
open Go.RowKit
set_option linter.unusedVariables false
set_option linter.unusedSimpArgs false
set_option maxRecDepth 8000

theorem lcheck_spec (pv mv sv : Value) (pub msg sig : List UInt8) (hml : msg.length ≤ 1000000) (F : HP) (hp : ∀ h, F h → rdB pv pub h) (hm : ∀ h, F h → rdB mv msg h) (hsg : ∀ h, F h → rdB sv sig h) : CallsS Try.prog 21 #[pv, mv, sv] F [] (fun r Ps => r = .int .i64 (checkT pub msg sig) ∧ Ps = []) := by
  refine callsS_enter Try.func21 rfl Try.ntmps21 (by simp) (fun E => ?_)
  refine W_seq ?_
  refine W.pre (K' := [(0, _), (1, _), (2, _)]) (L' := [(0, _)]) ?_ ⟨rfl, ⟨rfl, ⟨rfl, trivial⟩⟩⟩ ⟨rfl, trivial⟩
  refine W_regL (WL_pure rfl rfl (by decide) (Pu_assign rfl rfl) (WL_nil (X_then ?_)))
  refine W_seq ?_
  refine W_seq ?_
  refine W.pre (K' := [(0, _), (1, _), (2, _), (6, _)]) (L' := [(0, _)]) ?_ ⟨rfl, ⟨rfl, ⟨rfl, ⟨rfl, trivial⟩⟩⟩⟩ ⟨rfl, trivial⟩
  rcases Bool.eq_false_or_eq_true (!decide ((pub.length : Int) = 56)) with hsp1 | hsp1
  ·
    have hbad : badPub pub := by unfold badPub; simp at hsp1; omega
    refine W_regL (WL_pure rfl rfl (by decide) (Pu_move rfl rfl) (WL_pure rfl rfl (by decide) (Pu_len (r := 0) rfl Try.runUnderlying30 rfl rfl hp) (WL_pure rfl rfl (by decide) (Pu_bin rfl rfl rfl (run_neq _ _ _ _ _ _)) (WL_pure rfl rfl (by decide) (Pu_move rfl rfl) (WL_gF rfl rfl rfl (by rw [hsp1]; rfl) rfl (by decide) (WL_gF rfl rfl rfl (by rw [hsp1]; rfl) rfl (by decide) (WL_gF rfl rfl rfl (by rw [hsp1]; rfl) rfl (by decide) (WL_pure rfl rfl (by decide) (Pu_pickT rfl rfl hsp1 rfl) (WL_pure rfl rfl (by decide) (Pu_move rfl rfl) (WL_gF rfl rfl rfl (by first | rfl | (rw [hsp1]; rfl)) rfl (by decide) (WL_gF rfl rfl rfl (by first | rfl | (rw [hsp1]; rfl)) rfl (by decide) (WL_gF rfl rfl rfl (by first | rfl | (rw [hsp1]; rfl)) rfl (by decide) (WL_pure rfl rfl (by decide) (Pu_pickT rfl rfl rfl rfl) (WL_pure rfl rfl (by decide) (Pu_move rfl rfl) (WL_gF rfl rfl rfl (by first | rfl | (rw [hsp1]; rfl)) rfl (by decide) (WL_gF rfl rfl rfl (by first | rfl | (rw [hsp1]; rfl)) rfl (by decide) (WL_gF rfl rfl rfl (by first | rfl | (rw [hsp1]; rfl)) rfl (by decide) (WL_gF rfl rfl rfl (by first | rfl | (rw [hsp1]; rfl)) rfl (by decide) (WL_pure rfl rfl (by decide) (Pu_pickT rfl rfl rfl rfl) (WL_nil (X_then ?_)))))))))))))))))))))
    refine W_true rfl (rfl) ?_
    refine W_seq ?_
    refine W.pre (K' := [(0, _), (1, _), (2, _), (6, _), (35, _)]) (L' := [(0, _)]) ?_ ⟨rfl, ⟨rfl, ⟨rfl, ⟨rfl, ⟨rfl, trivial⟩⟩⟩⟩⟩ ⟨rfl, trivial⟩
    refine W_regL (WL_pure rfl rfl (by decide) (Pu_assign rfl rfl) (WL_nil (X_then ?_)))
    refine W_ret (X_then_ret ?_)
    exact X_ret [] (Ps := []) (res1 Try.results21 rfl) rfl (by decide) ⟨by rw [checkT_pub hbad], rfl⟩
  ·
    have hpl : pub.length = 56 := by simp at hsp1; omega
    refine W_regL (WL_pure rfl rfl (by decide) (Pu_move rfl rfl) (WL_pure rfl rfl (by decide) (Pu_len (r := 0) rfl Try.runUnderlying30 rfl rfl hp) (WL_pure rfl rfl (by decide) (Pu_bin rfl rfl rfl (run_neq _ _ _ _ _ _)) (WL_pure rfl rfl (by decide) (Pu_move rfl rfl) (WL_gPT rfl rfl rfl (by rw [hsp1]; rfl) rfl (by decide) (Pu_move rfl rfl) (WL_gT rfl rfl rfl (by rw [hsp1]; rfl) rfl (by decide) (OpT_call 200 [0] [] rfl Try.call40 rfl rfl rfl (by decide) (by decide) (number6_spec _ pub _ (rd_star 0 rfl hp) (by omega)) (fun v22 Ps22 hR22 => ?_))))))))
    obtain ⟨rfl, rfl⟩ := hR22
    refine (WL_gPT rfl rfl rfl (by rw [hsp1]; rfl) rfl (by decide) (Pu_bin rfl rfl rfl (run_lss _ _ _ _ _ _)) (WL_pure rfl rfl (by decide) (Pu_pickF rfl rfl hsp1 rfl) (WL_pure rfl rfl (by decide) (Pu_move rfl rfl) (WL_guardP rfl rfl rfl rfl (by decide) (fun hb => (Pu_move rfl rfl)) (WL_guard (V := .int .i64 (val pub 4 : Int)) rfl rfl rfl rfl (by decide) (fun hb => (OpT_call 300 [0] [] rfl Try.call40 (evL_cons (ev_gv rfl hb) evL_nil) rfl rfl (by decide) (by decide) (number6_spec _ pub _ (rd_star 0 rfl hp) (by omega)) (fun v27 Ps27 hR27 => ⟨hR27.1, fun w hw => by rw [hR27.2] at hw; exact hw.sub (AllIn.look ⟨rfl, trivial⟩)⟩))) ?_)))))
    refine (WL_guardP rfl rfl rfl rfl (by decide) (fun hb => (Pu_bin rfl (ev_gv rfl hb) rfl (run_gtr _ _ _ _ _ _))) (WL_pure rfl rfl (by decide) (Pu_or rfl rfl rfl) (WL_pure rfl rfl (by decide) (Pu_move rfl rfl) (WL_guardP rfl rfl rfl rfl (by decide) (fun hb => (Pu_move rfl rfl)) (WL_guardP rfl rfl rfl rfl (by decide) (fun hb => (Pu_slice (r := 0) (a := 4) (b := pub.length) rfl Try.runUnderlying30 Try.sizeOf5 (ev_gv rfl hb) rfl hp (.inr ⟨_, _, _, rfl, rfl, rfl⟩) (.inl ⟨rfl, rfl⟩) (by omega) (by omega))) (WL_guard (V := .int .i64 (val (pub.drop 4) 4 : Int)) rfl rfl rfl rfl (by decide) (fun hb => (OpT_call 400 [0] [] rfl Try.call40 (evL_cons (ev_gv rfl hb) evL_nil) rfl rfl (by decide) (by decide) (number6_spec _ (pub.drop 4) _ (rd_star 0 rfl (fun h hq => rdB_tail (hp h hq) (by omega))) (by rw [List.length_drop]; omega)) (fun v33 Ps33 hR33 => ⟨hR33.1, fun w hw => by rw [hR33.2] at hw; exact hw.sub (AllIn.look ⟨rfl, trivial⟩)⟩))) ?_))))))
    refine (WL_guardP rfl rfl rfl rfl (by decide) (fun hb => (Pu_bin rfl (ev_gv rfl hb) rfl (run_neq _ _ _ _ _ _))) (WL_pure rfl rfl (by decide) (Pu_or rfl rfl rfl) (WL_nil (X_then ?_))))
    refine W_cond rfl (fun hc35 => ?_) (fun hc35 => ?_)
    ·
      have hbad : badPub pub := by unfold badPub; simp at hc35; omega
      refine W_seq ?_
      refine W.pre (K' := [(0, _), (1, _), (2, _), (6, _), (35, _)]) (L' := [(0, _)]) ?_ ⟨rfl, ⟨rfl, ⟨rfl, ⟨rfl, ⟨rfl, trivial⟩⟩⟩⟩⟩ ⟨rfl, trivial⟩
      refine W_regL (WL_pure rfl rfl (by decide) (Pu_assign rfl rfl) (WL_nil (X_then ?_)))
      refine W_ret (X_then_ret ?_)
      exact X_ret [] (Ps := []) (res1 Try.results21 rfl) rfl (by decide) ⟨by rw [checkT_pub hbad], rfl⟩
    ·
      have hgood : ¬ badPub pub := by unfold badPub; simp at hc35; omega
      have hh : 1 ≤ val pub 4 ∧ val pub 4 ≤ 5 := by unfold badPub at hgood; omega
      have hpw : 2 ^ val pub 4 ≤ 32 := Nat.le_trans (Nat.pow_le_pow_right (by decide) hh.2) (by decide)
      refine W_skip (X_then ?_)
      refine W_seq ?_
      refine W.pre (K' := [(0, _), (1, _), (2, _), (6, _), (35, _)]) (L' := [(0, _)]) ?_ ⟨rfl, ⟨rfl, ⟨rfl, ⟨rfl, ⟨rfl, trivial⟩⟩⟩⟩⟩ ⟨rfl, trivial⟩
      refine W_regL (WL_pure rfl rfl (by decide) (Pu_move rfl rfl) (WL_cons rfl rfl (by decide) (OpT_call 500 [0] [] rfl Try.call40 rfl rfl rfl (by decide) (by decide) (number6_spec _ pub _ (rd_star 0 rfl hp) (by omega)) (fun v37 Ps37 hR37 => ?_))))
      obtain ⟨rfl, rfl⟩ := hR37
      refine (WL_pure rfl rfl (by decide) (Pu_assign rfl rfl) (WL_nil (X_then ?_)))
      refine W_seq ?_
      refine W_seq ?_
      refine W.pre (K' := [(0, _), (1, _), (2, _), (6, _), (7, _), (35, _)]) (L' := [(0, _)]) ?_ ⟨rfl, ⟨rfl, ⟨rfl, ⟨rfl, ⟨rfl, ⟨rfl, trivial⟩⟩⟩⟩⟩⟩ ⟨rfl, trivial⟩
      rcases Bool.eq_false_or_eq_true (!decide ((sig.length : Int) = 4300 + 32 * (val pub 4 : Int))) with hsp4 | hsp4
      ·
        have hbs : badSig (val pub 4) sig := by unfold badSig; simp at hsp4; omega
        refine W_draw (N := 20) (by kernel_rfl) rfl [(0, _)] ⟨rfl, trivial⟩ ?_
        refine (AH_take 0 rfl (by kernel_rfl) (by kernel_rfl) (by kernel_rfl) rfl rfl (by decide) (Pu_move rfl rfl) (AH_take 1 rfl (by kernel_rfl) (by kernel_rfl) (by kernel_rfl) rfl rfl (by decide) (Pu_len (r := 0) rfl Try.runUnderlying30 rfl rfl hsg) (AH_take 2 rfl (by kernel_rfl) (by kernel_rfl) (by kernel_rfl) rfl rfl (by decide) (Pu_move rfl rfl) (AH_take 3 rfl (by kernel_rfl) (by kernel_rfl) (by kernel_rfl) rfl rfl (by decide) (Pu_bin rfl rfl rfl (run_mul _ _ _ _ _ (by omega))) (AH_take 4 rfl (by kernel_rfl) (by kernel_rfl) (by kernel_rfl) rfl rfl (by decide) (Pu_bin rfl rfl rfl (run_add _ _ _ _ _ (by omega))) (AH_take 5 rfl (by kernel_rfl) (by kernel_rfl) (by kernel_rfl) rfl rfl (by decide) (Pu_bin rfl rfl rfl (run_neq _ _ _ _ _ _)) (AH_take 6 rfl (by kernel_rfl) (by kernel_rfl) (by kernel_rfl) rfl rfl (by decide) (Pu_move rfl rfl) (AH_takeF 7 rfl (by kernel_rfl) (by kernel_rfl) (by kernel_rfl) rfl rfl rfl (by rw [hsp4]; rfl) rfl (by decide) (AH_takeF 8 rfl (by kernel_rfl) (by kernel_rfl) (by kernel_rfl) rfl rfl rfl (by rw [hsp4]; rfl) rfl (by decide) (AH_takeF 10 rfl (by kernel_rfl) (by kernel_rfl) (by kernel_rfl) rfl rfl rfl (by rw [hsp4]; rfl) rfl (by decide) (AH_ready [9] (by kernel_rfl) (by decide) ?_)))))))))))
        refine AHs_gF rfl rfl rfl rfl (by rw [hsp4]; rfl) rfl (by decide) ?_ ?_
        ·
          refine (AH_takeF 11 rfl (by kernel_rfl) (by kernel_rfl) (by kernel_rfl) rfl rfl rfl (by rw [hsp4]; rfl) rfl (by decide) (AH_take 12 rfl (by kernel_rfl) (by kernel_rfl) (by kernel_rfl) rfl rfl (by decide) (Pu_pickT rfl rfl hsp4 rfl) (AH_take 13 rfl (by kernel_rfl) (by kernel_rfl) (by kernel_rfl) rfl rfl (by decide) (Pu_move rfl rfl) (AH_takeF 14 rfl (by kernel_rfl) (by kernel_rfl) (by kernel_rfl) rfl rfl rfl (by first | rfl | (rw [hsp4]; rfl)) rfl (by decide) (AH_takeF 16 rfl (by kernel_rfl) (by kernel_rfl) (by kernel_rfl) rfl rfl rfl (by first | rfl | (rw [hsp4]; rfl)) rfl (by decide) (AH_takeF 17 rfl (by kernel_rfl) (by kernel_rfl) (by kernel_rfl) rfl rfl rfl (by first | rfl | (rw [hsp4]; rfl)) rfl (by decide) (AH_ready [15] (by kernel_rfl) (by decide) ?_)))))))
          refine AHs_gF rfl rfl rfl rfl (by first | rfl | (rw [hsp4]; rfl)) rfl (by decide) ?_ ?_
          ·
            refine (AH_takeF 18 rfl (by kernel_rfl) (by kernel_rfl) (by kernel_rfl) rfl rfl rfl (by first | rfl | (rw [hsp4]; rfl)) rfl (by decide) (AH_take 19 rfl (by kernel_rfl) (by kernel_rfl) (by kernel_rfl) rfl rfl (by decide) (Pu_pickT rfl rfl rfl rfl) (AH_done (by kernel_rfl) (X_then ?_))))
            refine W_true rfl (rfl) ?_
            refine W_seq ?_
            refine W.pre (K' := [(0, _), (1, _), (2, _), (6, _), (7, _), (35, _), (57, _)]) (L' := [(0, _)]) ?_ ⟨rfl, ⟨rfl, ⟨rfl, ⟨rfl, ⟨rfl, ⟨rfl, ⟨rfl, trivial⟩⟩⟩⟩⟩⟩⟩ ⟨rfl, trivial⟩
            refine W_regL (WL_pure rfl rfl (by decide) (Pu_assign rfl rfl) (WL_nil (X_then ?_)))
            refine W_ret (X_then_ret ?_)
            exact X_ret [] (Ps := []) (res1 Try.results21 rfl) rfl (by decide) ⟨by rw [checkT_sig hgood hbs], rfl⟩
          exact AHs_nil
        exact AHs_nil
      ·
        have hsl : sig.length = 4300 + 32 * val pub 4 := by simp at hsp4; omega
        refine W_draw (N := 20) (by kernel_rfl) rfl [(0, _)] ⟨rfl, trivial⟩ ?_
        refine (AH_take 0 rfl (by kernel_rfl) (by kernel_rfl) (by kernel_rfl) rfl rfl (by decide) (Pu_move rfl rfl) (AH_take 1 rfl (by kernel_rfl) (by kernel_rfl) (by kernel_rfl) rfl rfl (by decide) (Pu_len (r := 0) rfl Try.runUnderlying30 rfl rfl hsg) (AH_take 2 rfl (by kernel_rfl) (by kernel_rfl) (by kernel_rfl) rfl rfl (by decide) (Pu_move rfl rfl) (AH_take 3 rfl (by kernel_rfl) (by kernel_rfl) (by kernel_rfl) rfl rfl (by decide) (Pu_bin rfl rfl rfl (run_mul _ _ _ _ _ (by omega))) (AH_take 4 rfl (by kernel_rfl) (by kernel_rfl) (by kernel_rfl) rfl rfl (by decide) (Pu_bin rfl rfl rfl (run_add _ _ _ _ _ (by omega))) (AH_take 5 rfl (by kernel_rfl) (by kernel_rfl) (by kernel_rfl) rfl rfl (by decide) (Pu_bin rfl rfl rfl (run_neq _ _ _ _ _ _)) (AH_take 6 rfl (by kernel_rfl) (by kernel_rfl) (by kernel_rfl) rfl rfl (by decide) (Pu_move rfl rfl) (AH_takeT 7 rfl (by kernel_rfl) (by kernel_rfl) (by kernel_rfl) rfl rfl rfl (by rw [hsp4]; rfl) rfl (by decide) (Pu_move rfl rfl) (AH_takeT 8 rfl (by kernel_rfl) (by kernel_rfl) (by kernel_rfl) rfl rfl rfl (by rw [hsp4]; rfl) rfl (by decide) (Pu_slice (r := 0) (a := 4296) (b := sig.length) rfl Try.runUnderlying30 Try.sizeOf5 rfl rfl hsg (.inr ⟨_, _, _, rfl, rfl, rfl⟩) (.inl ⟨rfl, rfl⟩) (by omega) (by omega)) (AH_takeT 10 rfl (by kernel_rfl) (by kernel_rfl) (by kernel_rfl) rfl rfl rfl (by rw [hsp4]; rfl) rfl (by decide) (Pu_move rfl rfl) (AH_ready [9] (by kernel_rfl) (by decide) ?_)))))))))))
        refine AHs_gT rfl rfl rfl rfl (by rw [hsp4]; rfl) rfl (by decide) (OpT_call 600 [0] [] rfl Try.call40 rfl rfl rfl (by decide) (by decide) (number6_spec _ (sig.drop 4296) _ (rd_star 0 rfl (fun h hq => rdB_tail (hsg h hq) (by omega))) (by rw [List.length_drop]; omega)) (fun v47 Ps47 hR47 => ?_)) ?_
        ·
          obtain ⟨rfl, rfl⟩ := hR47
          refine ⟨⟨rfl, trivial⟩, ?_⟩
          refine (AH_takeT 11 rfl (by kernel_rfl) (by kernel_rfl) (by kernel_rfl) rfl rfl rfl (by rw [hsp4]; rfl) rfl (by decide) (Pu_bin rfl rfl rfl (run_neq _ _ _ _ _ _)) (AH_take 12 rfl (by kernel_rfl) (by kernel_rfl) (by kernel_rfl) rfl rfl (by decide) (Pu_pickF rfl rfl hsp4 rfl) (AH_take 13 rfl (by kernel_rfl) (by kernel_rfl) (by kernel_rfl) rfl rfl (by decide) (Pu_move rfl rfl) (AH_takeG 14 rfl (by kernel_rfl) (by kernel_rfl) (by kernel_rfl) rfl rfl rfl rfl (by decide) (fun hb => (Pu_move rfl rfl)) (AH_takeG 16 rfl (by kernel_rfl) (by kernel_rfl) (by kernel_rfl) rfl rfl rfl rfl (by decide) (fun hb => (Pu_move rfl rfl)) (AH_takeG 17 rfl (by kernel_rfl) (by kernel_rfl) (by kernel_rfl) rfl rfl rfl rfl (by decide) (fun hb => (Pu_bin rfl rfl (ev_gv rfl hb) (run_shl 1 (val pub 4) _ _ _ (by omega) (by omega)))) (AH_ready [15] (by kernel_rfl) (by decide) ?_)))))))
          refine AHs_consG (V := .int .i64 (val sig 4 : Int)) rfl rfl rfl rfl rfl (by decide) (fun hb => (OpT_call 700 [0] [] rfl Try.call40 (evL_cons (ev_gv rfl hb) evL_nil) rfl rfl (by decide) (by decide) (number6_spec _ sig _ (rd_star 0 rfl hsg) (by omega)) (fun v53 Ps53 hR53 => ⟨hR53.1, fun w hw => by rw [hR53.2] at hw; exact hw.sub (AllIn.look ⟨rfl, trivial⟩)⟩))) ⟨rfl, trivial⟩ ?_ ?_
          ·
            refine (AH_takeG 18 rfl (by kernel_rfl) (by kernel_rfl) (by kernel_rfl) rfl rfl rfl rfl (by decide) (fun hb => (Pu_bin rfl (ev_gv rfl hb) (ev_gv rfl hb) (run_geq _ _ _ _ _ _))) (AH_take 19 rfl (by kernel_rfl) (by kernel_rfl) (by kernel_rfl) rfl rfl (by decide) (Pu_or rfl rfl rfl) (AH_done (by kernel_rfl) (X_then ?_))))
            refine W_cond rfl (fun hc57 => ?_) (fun hc57 => ?_)
            ·
              have hbs : badSig (val pub 4) sig := by rw [Nat.one_mul] at hc57; unfold badSig; generalize 2 ^ val pub 4 = p2 at hc57 ⊢; simp at hc57; omega
              refine W_seq ?_
              refine W.pre (K' := [(0, _), (1, _), (2, _), (6, _), (7, _), (35, _), (57, _)]) (L' := [(0, _)]) ?_ ⟨rfl, ⟨rfl, ⟨rfl, ⟨rfl, ⟨rfl, ⟨rfl, ⟨rfl, trivial⟩⟩⟩⟩⟩⟩⟩ ⟨rfl, trivial⟩
              refine W_regL (WL_pure rfl rfl (by decide) (Pu_assign rfl rfl) (WL_nil (X_then ?_)))
              refine W_ret (X_then_ret ?_)
              exact X_ret [] (Ps := []) (res1 Try.results21 rfl) rfl (by decide) ⟨by rw [checkT_sig hgood hbs], rfl⟩
            ·
              have hgs : ¬ badSig (val pub 4) sig := by rw [Nat.one_mul] at hc57; unfold badSig; generalize 2 ^ val pub 4 = p2 at hc57 ⊢; simp at hc57; omega
              have hq : val sig 4 < 2 ^ val pub 4 := by unfold badSig at hgs; omega
              have hnm : (nmP pub).length = 16 := by rw [List.length_take, List.length_drop]; omega
              have h8 : 16 ≤ (pub.drop 8).length := by rw [List.length_drop]; omega
              refine W_skip (X_then ?_)
              refine W_seq ?_
              refine W.pre (K' := [(0, _), (1, _), (2, _), (6, _), (7, _), (35, _), (57, _)]) (L' := [(0, _)]) ?_ ⟨rfl, ⟨rfl, ⟨rfl, ⟨rfl, ⟨rfl, ⟨rfl, ⟨rfl, trivial⟩⟩⟩⟩⟩⟩⟩ ⟨rfl, trivial⟩
              refine W_regL (WL_cons rfl rfl (by decide) (OpT_alloc (r := 701) (cs := (bs (List.replicate 16 0))) rfl (zero_run (by kernel_rfl : (Try.prog.info? 52).bind (·.zero) = some (.agg (bs (List.replicate 16 0)).toArray))) rfl (fun g701 => (WL_nil (X_then ?_)))))
              refine W_seq ?_
              refine W.pre (K' := [(0, _), (1, _), (2, _), (6, _), (7, _), (8, _), (35, _), (57, _)]) (L' := [(0, _), (701, _)]) ?_ ⟨rfl, ⟨rfl, ⟨rfl, ⟨rfl, ⟨rfl, ⟨rfl, ⟨rfl, ⟨rfl, trivial⟩⟩⟩⟩⟩⟩⟩⟩ ⟨rfl, ⟨rfl, trivial⟩⟩
              refine W_draw (N := 4) (by kernel_rfl) rfl [(0, _)] ⟨rfl, trivial⟩ ?_
              refine (AH_take 0 rfl (by kernel_rfl) (by kernel_rfl) (by kernel_rfl) rfl rfl (by decide) (Pu_sliceArr rfl Try.runUnderlying52 Try.sizeOf5 rfl) (AH_take 1 rfl (by kernel_rfl) (by kernel_rfl) (by kernel_rfl) rfl rfl (by decide) (Pu_move rfl rfl) (AH_take 2 rfl (by kernel_rfl) (by kernel_rfl) (by kernel_rfl) rfl rfl (by decide) (Pu_slice (r := 0) (a := 8) (b := pub.length) rfl Try.runUnderlying30 Try.sizeOf5 rfl rfl hp (.inr ⟨_, _, _, rfl, rfl, rfl⟩) (.inl ⟨rfl, rfl⟩) (by omega) (by omega)) (AH_ready [3] (by kernel_rfl) (by decide) ?_))))
              refine AHs_cons rfl rfl rfl (by decide) (OpT_copyB (r := 701) (r2 := 0) rfl Try.underlying30 TI.hsm5 rfl rfl rfl rfl (fun h hq => rdB_tail (hp h hq) (by omega)) (bs_one _) (by rw [bs_length, List.length_replicate]; omega) (show over _ _ _ = bs (nmP pub) from nm_copy h8) ?_) ?_
              ·
                refine ⟨⟨rfl, trivial⟩, ?_⟩
                refine (AH_done (by kernel_rfl) (X_then ?_))
                refine W_seq ?_
                refine W.pre (K' := [(0, _), (1, _), (2, _), (6, _), (7, _), (8, _), (35, _), (57, _)]) (L' := [(0, _), (701, _)]) ?_ ⟨rfl, ⟨rfl, ⟨rfl, ⟨rfl, ⟨rfl, ⟨rfl, ⟨rfl, ⟨rfl, trivial⟩⟩⟩⟩⟩⟩⟩⟩ ⟨rfl, ⟨rfl, trivial⟩⟩
                refine W_regL (WL_pure rfl rfl (by decide) (Pu_move rfl rfl) (WL_cons rfl rfl (by decide) (OpT_call 800 [0, 701] [] rfl Try.call40 rfl rfl rfl (by decide) (by decide) (number6_spec _ sig _ (rd_star 0 rfl hsg) (by omega)) (fun v63 Ps63 hR63 => ?_))))
                obtain ⟨rfl, rfl⟩ := hR63
                refine (WL_pure rfl rfl (by decide) (Pu_assign rfl rfl) (WL_nil (X_then ?_)))
                refine W_cut (α := Nat) (fun z10 => [(0, pv), (2, sv), (7, .int .i64 (val pub 4 : Int)), (8, .pointer (some ⟨g701, 0, none⟩)), (9, .int .i64 (val sig 4 : Int)), (11, .int .i64 (bckE ((sig.drop 4).take 4292))), (10, .pointer (some ⟨z10, 0, none⟩))]) (fun z10 => [(0, F), (701, blk g701 52 (bs (nmP pub))), (181, blk z10 29 (bs (bckR (nmP pub) (val sig 4 : Nat) msg ((sig.drop 4).take 4292))))]) (fun z10 => True) ?_ (fun z10 _ => ?_)
                ·
                  refine W.pre (K' := [(0, _), (1, _), (2, _), (6, _), (7, _), (8, _), (9, _), (35, _), (57, _)]) (L' := [(0, _), (701, _)]) ?_ ⟨rfl, ⟨rfl, ⟨rfl, ⟨rfl, ⟨rfl, ⟨rfl, ⟨rfl, ⟨rfl, ⟨rfl, trivial⟩⟩⟩⟩⟩⟩⟩⟩⟩ ⟨rfl, ⟨rfl, trivial⟩⟩
                  refine W_draw (N := 12) (by kernel_rfl) rfl [(0, _), (701, _)] ⟨rfl, ⟨rfl, trivial⟩⟩ ?_
                  refine (AH_take 0 rfl (by kernel_rfl) (by kernel_rfl) (by kernel_rfl) rfl rfl (by decide) (Pu_loadBN (r := 701) rfl Try.isAgg52 Try.sizeOf52 rfl rfl ((bs_length _).trans hnm) (load_all ((bs_length _).trans hnm))) (AH_take 1 rfl (by kernel_rfl) (by kernel_rfl) (by kernel_rfl) rfl rfl (by decide) (Pu_move rfl rfl) (AH_take 2 rfl (by kernel_rfl) (by kernel_rfl) (by kernel_rfl) rfl rfl (by decide) (Pu_move rfl rfl) (AH_take 3 rfl (by kernel_rfl) (by kernel_rfl) (by kernel_rfl) rfl rfl (by decide) (Pu_move rfl rfl) (AH_take 4 rfl (by kernel_rfl) (by kernel_rfl) (by kernel_rfl) rfl rfl (by decide) (Pu_slice (r := 0) (a := 4) (b := 4296) rfl Try.runUnderlying30 Try.sizeOf5 rfl rfl hsg (.inr ⟨_, _, _, rfl, rfl, rfl⟩) (.inr ⟨_, _, _, rfl, rfl, rfl⟩) (by omega) (by omega)) (AH_ready [5, 9] (by kernel_rfl) (by decide) ?_))))))
                  refine AHs_cons rfl rfl rfl (by decide) (OpT_call 900 [0, 701] [] rfl Try.call41 rfl rfl rfl (by decide) (by decide) (kback_spec (nmP pub) hnm (val sig 4 : Nat) _ _ msg ((sig.drop 4).take 4292) hml _ (rd_star 0 rfl hm) (rd_star 0 rfl (fun h hq => rdB_subL (hsg h hq) (by omega) (by omega) rfl))) (fun v70 Ps70 hR70 => ?_)) ?_
                  ·
                    obtain ⟨rfl, rfl⟩ := hR70
                    refine ⟨⟨rfl, ⟨rfl, trivial⟩⟩, ?_⟩
                    refine (AH_take 6 rfl (by kernel_rfl) (by kernel_rfl) (by kernel_rfl) rfl rfl (by decide) (Pu_move rfl rfl) (AH_take 7 rfl (by kernel_rfl) (by kernel_rfl) (by kernel_rfl) rfl rfl (by decide) (Pu_extract rfl rfl rfl) (AH_take 8 rfl (by kernel_rfl) (by kernel_rfl) (by kernel_rfl) rfl rfl (by decide) (Pu_extract rfl rfl rfl) (AH_ready [9] (by kernel_rfl) (by decide) ?_))))
                    refine AHs_cons rfl rfl rfl (by decide) (OpT_alloc (r := 901) (cs := (bs zeroId)) rfl (zero_run (by kernel_rfl : (Try.prog.info? 29).bind (·.zero) = some (.agg (bs zeroId).toArray))) rfl (fun g901 => ⟨⟨rfl, ⟨rfl, trivial⟩⟩, ?_⟩)) ?_
                    ·
                      refine (AH_ready [10] (by kernel_rfl) (by decide) ?_)
                      refine AHs_cons0 rfl rfl rfl (OpT_storeAll (r := 901) rfl Try.sizeOf29 rfl rfl rfl rfl ((bs_length _).trans (bckR_length _ _ _ _)) (bs_one _) ?_) ?_
                      ·
                        refine ⟨⟨rfl, ⟨rfl, trivial⟩⟩, ?_⟩
                        refine (AH_take 11 rfl (by kernel_rfl) (by kernel_rfl) (by kernel_rfl) rfl rfl (by decide) (Pu_assign rfl rfl) (AH_done (by kernel_rfl) ?_))
                        refine X_ren 901 181 rfl ?_
                        exact X_cut g901 trivial ⟨rfl, rfl, rfl, rfl, rfl, rfl, rfl, trivial⟩ ⟨rfl, rfl, rfl, trivial⟩
                      exact AHs_nil
                    exact AHs_nil
                  refine AHs_cons rfl rfl rfl (by decide) (OpT_alloc (r := 801) (cs := (bs zeroId)) rfl (zero_run (by kernel_rfl : (Try.prog.info? 29).bind (·.zero) = some (.agg (bs zeroId).toArray))) rfl (fun g801 => ⟨⟨rfl, ⟨rfl, trivial⟩⟩, ?_⟩)) ?_
                  ·
                    refine (AH_ready [5] (by kernel_rfl) (by decide) ?_)
                    refine AHs_cons rfl rfl rfl (by decide) (OpT_call 900 [0, 701, 801] [] rfl Try.call41 rfl rfl rfl (by decide) (by decide) (kback_spec (nmP pub) hnm (val sig 4 : Nat) _ _ msg ((sig.drop 4).take 4292) hml _ (rd_star 0 rfl hm) (rd_star 0 rfl (fun h hq => rdB_subL (hsg h hq) (by omega) (by omega) rfl))) (fun v70 Ps70 hR70 => ?_)) ?_
                    ·
                      obtain ⟨rfl, rfl⟩ := hR70
                      refine ⟨⟨rfl, ⟨rfl, trivial⟩⟩, ?_⟩
                      refine (AH_take 6 rfl (by kernel_rfl) (by kernel_rfl) (by kernel_rfl) rfl rfl (by decide) (Pu_move rfl rfl) (AH_take 7 rfl (by kernel_rfl) (by kernel_rfl) (by kernel_rfl) rfl rfl (by decide) (Pu_extract rfl rfl rfl) (AH_take 8 rfl (by kernel_rfl) (by kernel_rfl) (by kernel_rfl) rfl rfl (by decide) (Pu_extract rfl rfl rfl) (AH_ready [10] (by kernel_rfl) (by decide) ?_))))
                      refine AHs_cons0 rfl rfl rfl (OpT_storeAll (r := 801) rfl Try.sizeOf29 rfl rfl rfl rfl ((bs_length _).trans (bckR_length _ _ _ _)) (bs_one _) ?_) ?_
                      ·
                        refine ⟨⟨rfl, ⟨rfl, trivial⟩⟩, ?_⟩
                        refine (AH_take 11 rfl (by kernel_rfl) (by kernel_rfl) (by kernel_rfl) rfl rfl (by decide) (Pu_assign rfl rfl) (AH_done (by kernel_rfl) ?_))
                        refine X_ren 801 181 rfl ?_
                        exact X_cut g801 trivial ⟨rfl, rfl, rfl, rfl, rfl, rfl, rfl, trivial⟩ ⟨rfl, rfl, rfl, trivial⟩
                      exact AHs_nil
                    exact AHs_nil
                  exact AHs_nil
                ·
                  refine W_seq ?_
                  refine W_seq ?_
                  refine W.pre (K' := [(0, _), (2, _), (7, _), (8, _), (9, _), (10, _), (11, _)]) (L' := [(0, _), (181, _), (701, _)]) ?_ ⟨rfl, ⟨rfl, ⟨rfl, ⟨rfl, ⟨rfl, ⟨rfl, ⟨rfl, trivial⟩⟩⟩⟩⟩⟩⟩ ⟨rfl, ⟨rfl, ⟨rfl, trivial⟩⟩⟩
                  refine W_regL (WL_pure rfl rfl (by decide) (Pu_move rfl rfl) (WL_pure rfl rfl (by decide) (Pu_bin rfl rfl rfl (run_neq _ _ _ _ _ _)) (WL_nil (X_then ?_))))
                  refine W_cond rfl (fun hc74 => ?_) (fun hc74 => ?_)
                  ·
                    have hno := bckE_bad hc74
                    refine W_seq ?_
                    refine W.pre (K' := [(0, _), (2, _), (7, _), (8, _), (9, _), (10, _), (11, _), (74, _)]) (L' := [(0, _), (181, _), (701, _)]) ?_ ⟨rfl, ⟨rfl, ⟨rfl, ⟨rfl, ⟨rfl, ⟨rfl, ⟨rfl, ⟨rfl, trivial⟩⟩⟩⟩⟩⟩⟩⟩ ⟨rfl, ⟨rfl, ⟨rfl, trivial⟩⟩⟩
                    refine W_regL (WL_pure rfl rfl (by decide) (Pu_move rfl rfl) (WL_pure rfl rfl (by decide) (Pu_assign rfl rfl) (WL_nil (X_then ?_))))
                    refine W_ret (X_then_ret ?_)
                    exact X_ret [] (Ps := []) (res1 Try.results21 rfl) rfl (by decide) ⟨by rw [checkT_front hgood hgs hno, bckE_false hno], rfl⟩
                  ·
                    have hok := bckE_good hc74
                    refine W_skip (X_then ?_)
                    refine W_seq ?_
                    refine W.pre (K' := [(0, _), (2, _), (7, _), (8, _), (9, _), (10, _), (11, _), (74, _)]) (L' := [(0, _), (181, _), (701, _)]) ?_ ⟨rfl, ⟨rfl, ⟨rfl, ⟨rfl, ⟨rfl, ⟨rfl, ⟨rfl, ⟨rfl, trivial⟩⟩⟩⟩⟩⟩⟩⟩ ⟨rfl, ⟨rfl, ⟨rfl, trivial⟩⟩⟩
                    refine W_regL (WL_pure rfl rfl (by decide) (Pu_move rfl rfl) (WL_pure rfl rfl (by decide) (Pu_bin rfl rfl rfl (run_shl 1 (val pub 4) _ _ _ (by omega) (by omega))) (WL_pure rfl rfl (by decide) (Pu_move rfl rfl) (WL_pure rfl rfl (by decide) (Pu_bin rfl rfl rfl (run_add _ _ _ _ _ (by omega))) ?_))))
                    rw [show ((1 * 2 ^ val pub 4 : Nat) : Int) + (val sig 4 : Int) = (((2 ^ val pub 4 + val sig 4 : Nat)) : Int) by rw [Nat.one_mul]; rfl]
                    refine (WL_pure rfl rfl (by decide) (Pu_assign rfl rfl) (WL_nil (X_then ?_)))
                    refine W_seq ?_
                    refine W.pre (K' := [(0, _), (2, _), (7, _), (8, _), (9, _), (10, _), (11, _), (12, _), (74, _)]) (L' := [(0, _), (181, _), (701, _)]) ?_ ⟨rfl, ⟨rfl, ⟨rfl, ⟨rfl, ⟨rfl, ⟨rfl, ⟨rfl, ⟨rfl, ⟨rfl, trivial⟩⟩⟩⟩⟩⟩⟩⟩⟩ ⟨rfl, ⟨rfl, ⟨rfl, trivial⟩⟩⟩
                    refine W_regL (WL_pure rfl rfl (by decide) (Pu_loadBN (r := 701) rfl Try.isAgg52 Try.sizeOf52 rfl rfl ((bs_length _).trans hnm) (load_all ((bs_length _).trans hnm))) (WL_pure rfl rfl (by decide) (Pu_move rfl rfl) (WL_pure rfl rfl (by decide) (Pu_loadBN (r := 181) rfl Try.isAgg29 Try.sizeOf29 rfl rfl ((bs_length _).trans (bckR_length _ _ _ _)) (load_all ((bs_length _).trans (bckR_length _ _ _ _)))) (WL_cons rfl rfl (by decide) (OpT_buildRows (r := 801) [bs (bckR (nmP pub) (val sig 4 : Nat) msg ((sig.drop 4).take 4292))] rfl rfl Try.runUnderlying80 Try.sizeOf29 Try.zeroValue29 rfl (by decide) rfl (by decide) (by intro r hr; simp at hr; rw [hr]; exact (bs_length _).trans (bckR_length _ _ _ _)) rfl (fun v83 => (WL_cons rfl rfl (by decide) (OpT_call 900 [0, 181, 701, 801] [] rfl Try.call42 rfl rfl rfl (by decide) (by decide) (lnode_spec (nmP pub) hnm (((2 ^ val pub 4 + val sig 4) : Nat) : Int) 130 _ [bckR (nmP pub) (val sig 4 : Nat) msg ((sig.drop 4).take 4292)] (ids_one (bckR_length _ _ _ _)) (Nat.le_of_ble_eq_true rfl) _ (fun h hq => rdP_cast (rd_star 3 rfl (fun _ h => rowP_rd h) h hq) (by simp [idsC]) rfl)) (fun v84 Ps84 hR84 => ?_)))))))))
                    obtain ⟨rfl, rfl⟩ := hR84
                    rw [flat_one]
                    refine (WL_cons rfl rfl (by decide) (OpT_alloc (r := 901) (cs := (bs zeroId)) rfl (zero_run (by kernel_rfl : (Try.prog.info? 29).bind (·.zero) = some (.agg (bs zeroId).toArray))) rfl (fun g901 => (WL_cons0 rfl rfl (OpT_storeAll (r := 901) rfl Try.sizeOf29 rfl rfl rfl rfl ((bs_length _).trans (nodH_length _ _ _ _)) (bs_one _) ?_)))))
                    refine (WL_nil (X_then ?_))
                    refine W_seq ?_
                    refine W_seq ?_
                    refine W.pre (K' := [(0, _), (2, _), (7, _), (8, _), (9, _), (10, _), (11, _), (12, _), (13, _), (74, _)]) (L' := [(0, _), (181, _), (701, _), (801, _), (901, _)]) ?_ ⟨rfl, ⟨rfl, ⟨rfl, ⟨rfl, ⟨rfl, ⟨rfl, ⟨rfl, ⟨rfl, ⟨rfl, ⟨rfl, trivial⟩⟩⟩⟩⟩⟩⟩⟩⟩⟩ ⟨rfl, ⟨rfl, ⟨rfl, ⟨rfl, ⟨rfl, trivial⟩⟩⟩⟩⟩
                    refine W_regL (WL_pure rfl rfl (by decide) (Pu_move rfl rfl) (WL_pure rfl rfl (by decide) (Pu_slice (r := 0) (a := 4300) (b := sig.length) rfl Try.runUnderlying30 Try.sizeOf5 rfl rfl hsg (.inr ⟨_, _, _, rfl, rfl, rfl⟩) (.inl ⟨rfl, rfl⟩) (by omega) (by omega)) (WL_pure rfl rfl (by decide) (Pu_assign rfl rfl) (WL_nil (X_then ?_)))))
                    refine W_block ?_
                    refine W_loop (α := Nat × Nat × List UInt8 × Value) (fun y => [(0, pv), (8, .pointer (some ⟨g701, 0, none⟩)), (12, .int .i64 ((y.2.1 : Nat) : Int)), (13, .pointer (some ⟨g901, 0, none⟩)), (14, y.2.2.2)]) (fun y => [(0, F), (701, blk g701 52 (bs (nmP pub))), (901, blk g901 29 (bs y.2.2.1))]) (fun y => UpT pub msg sig y.1 y.2.1 y.2.2.1 ∧ ∀ h, F h → rdB y.2.2.2 (sig.drop (4300 + 32 * y.1)) h) (fun y => val pub 4 - y.1) ((0, (2 ^ val pub 4 + val sig 4), nodH (nmP pub) (((2 ^ val pub 4 + val sig 4) : Nat) : Int) 130 (bckR (nmP pub) (val sig 4 : Nat) msg ((sig.drop 4).take 4292)), (subV 1 sv 4300 sig.length))) ⟨UpT.start hq hok, fun h hq => rdB_tail (hsg h hq) (by omega)⟩ ⟨rfl, ⟨rfl, ⟨rfl, ⟨rfl, ⟨rfl, trivial⟩⟩⟩⟩⟩ ⟨rfl, rfl, rfl, trivial⟩ (fun y hy => ?_)
                    obtain ⟨hu, hrd⟩ := hy
                    have hy : UpT pub msg sig y.1 y.2.1 y.2.2.1 ∧ True := ⟨hu, trivial⟩
                    have hyl := hu.len
                    have hle := hu.le
                    have hhi : y.2.1 < 64 := by have h1 := hu.hi; have h2 : 2 ^ (val pub 4 - y.1 + 1) ≤ 2 ^ 6 := Nat.pow_le_pow_right (by decide) (by omega); omega
                    refine W_seq ?_
                    refine W_seq ?_
                    refine W.pre (K' := [(0, _), (8, _), (12, _), (13, _), (14, _)]) (L' := [(0, _), (701, _), (901, _)]) ?_ ⟨rfl, ⟨rfl, ⟨rfl, ⟨rfl, ⟨rfl, trivial⟩⟩⟩⟩⟩ ⟨rfl, ⟨rfl, ⟨rfl, trivial⟩⟩⟩
                    refine W_regL (WL_pure rfl rfl (by decide) (Pu_move rfl rfl) (WL_pure rfl rfl (by decide) (Pu_bin rfl rfl rfl (run_gtr _ _ _ _ _ _)) (WL_nil (X_then ?_))))
                    refine W_cond rfl (fun hc88 => ?_) (fun hc88 => ?_)
                    ·
                      have hr1 : 1 < y.2.1 := by have := of_decide_eq_true hc88; omega
                      have hxh := hu.more hr1
                      have hPl : ((sig.drop (4300 + 32 * y.1)).take 32).length = 32 := by rw [List.length_take, List.length_drop]; omega
                      refine W_skip (X_then ?_)
                      refine W_seq ?_
                      refine W_block ?_
                      refine W_seq ?_
                      refine W.pre (K' := [(0, _), (8, _), (12, _), (13, _), (14, _), (88, _)]) (L' := [(0, _), (701, _), (901, _)]) ?_ ⟨rfl, ⟨rfl, ⟨rfl, ⟨rfl, ⟨rfl, ⟨rfl, trivial⟩⟩⟩⟩⟩⟩ ⟨rfl, ⟨rfl, ⟨rfl, trivial⟩⟩⟩
                      refine W_regL (WL_cons rfl rfl (by decide) (OpT_alloc (r := 902) (cs := (bs zeroId)) rfl (zero_run (by kernel_rfl : (Try.prog.info? 29).bind (·.zero) = some (.agg (bs zeroId).toArray))) rfl (fun g902 => (WL_nil (X_then ?_)))))
                      refine W_seq ?_
                      refine W.pre (K' := [(0, _), (8, _), (12, _), (13, _), (14, _), (15, _), (88, _)]) (L' := [(0, _), (701, _), (901, _), (902, _)]) ?_ ⟨rfl, ⟨rfl, ⟨rfl, ⟨rfl, ⟨rfl, ⟨rfl, ⟨rfl, trivial⟩⟩⟩⟩⟩⟩⟩ ⟨rfl, ⟨rfl, ⟨rfl, ⟨rfl, trivial⟩⟩⟩⟩
                      refine W_regL (WL_pure rfl rfl (by decide) (Pu_sliceArr rfl Try.runUnderlying29 Try.sizeOf5 rfl) (WL_pure rfl rfl (by decide) (Pu_move rfl rfl) (WL_cons rfl rfl (by decide) (OpT_copyB (r := 902) (r2 := 0) rfl Try.underlying30 TI.hsm5 rfl rfl rfl rfl hrd (bs_one _) (by rw [bs_length, zeroId_length]; omega) (show over _ _ _ = bs ((sig.drop (4300 + 32 * y.1)).take 32) from id_copy (by rw [List.length_drop]; omega)) ?_))))
                      refine (WL_nil (X_then ?_))
                      refine W_seq ?_
                      refine W.pre (K' := [(0, _), (8, _), (12, _), (13, _), (14, _), (15, _), (88, _)]) (L' := [(0, _), (701, _), (901, _), (902, _)]) ?_ ⟨rfl, ⟨rfl, ⟨rfl, ⟨rfl, ⟨rfl, ⟨rfl, ⟨rfl, trivial⟩⟩⟩⟩⟩⟩⟩ ⟨rfl, ⟨rfl, ⟨rfl, ⟨rfl, trivial⟩⟩⟩⟩
                      refine W_regL (WL_pure rfl rfl (by decide) (Pu_loadBN (r := 901) rfl Try.isAgg29 Try.sizeOf29 rfl rfl ((bs_length _).trans hyl) (load_all ((bs_length _).trans hyl))) (WL_pure rfl rfl (by decide) (Pu_loadBN (r := 902) rfl Try.isAgg29 Try.sizeOf29 rfl rfl ((bs_length _).trans hPl) (load_all ((bs_length _).trans hPl))) (WL_pure rfl rfl (by decide) (Pu_pair (zs := (bs (List.replicate 64 0))) rfl Try.underlying86 (by kernel_rfl : (Try.prog.info? 86).bind (·.zero) = some (.agg (bs (List.replicate 64 0)).toArray)) TI.hi29 TI.hs29 (by rw [bs_length]; rfl) ((bs_length _).trans hyl) ((bs_length _).trans hPl) rfl rfl) (WL_cons rfl rfl (by decide) (OpT_alloc (r := 903) (cs := (bs (List.replicate 64 0))) rfl (zero_run (by kernel_rfl : (Try.prog.info? 86).bind (·.zero) = some (.agg (bs (List.replicate 64 0)).toArray))) rfl (fun g903 => (WL_cons0 rfl rfl (OpT_storeAll (r := 903) rfl Try.sizeOf86 rfl rfl rfl rfl (by rw [List.length_append, bs_length, bs_length, hyl, hPl]) (by rw [← bs_append]; exact bs_one _) ?_))))))))
                      refine (WL_nil (X_then ?_))
                      refine W_seq ?_
                      refine W_seq ?_
                      refine W.pre (K' := [(0, _), (8, _), (12, _), (13, _), (14, _), (15, _), (16, _), (88, _)]) (L' := [(0, _), (701, _), (901, _), (902, _), (903, _)]) ?_ ⟨rfl, ⟨rfl, ⟨rfl, ⟨rfl, ⟨rfl, ⟨rfl, ⟨rfl, ⟨rfl, trivial⟩⟩⟩⟩⟩⟩⟩⟩ ⟨rfl, ⟨rfl, ⟨rfl, ⟨rfl, ⟨rfl, trivial⟩⟩⟩⟩⟩
                      refine W_regL (WL_pure rfl rfl (by decide) (Pu_move rfl rfl) (WL_pure rfl rfl (by decide) (Pu_bin rfl rfl rfl (run_rem _ _ _ _ _ (by omega))) (WL_pure rfl rfl (by decide) (Pu_bin rfl rfl rfl (run_eql _ _ _ _ _ _)) (WL_nil (X_then ?_)))))
                      refine W_cond rfl (fun hc99 => ?_) (fun hc99 => ?_)
                      ·
                        have he : ¬ y.2.1 % 2 = 0 := by have := of_decide_eq_true hc99; omega
                        refine W.pre (K' := [(0, _), (8, _), (12, _), (13, _), (14, _), (15, _), (16, _), (88, _), (99, _)]) (L' := [(0, _), (701, _), (901, _), (902, _), (903, _)]) ?_ ⟨rfl, ⟨rfl, ⟨rfl, ⟨rfl, ⟨rfl, ⟨rfl, ⟨rfl, ⟨rfl, ⟨rfl, trivial⟩⟩⟩⟩⟩⟩⟩⟩⟩ ⟨rfl, ⟨rfl, ⟨rfl, ⟨rfl, ⟨rfl, trivial⟩⟩⟩⟩⟩
                        refine W_regL (WL_pure rfl rfl (by decide) (Pu_loadBN (r := 902) rfl Try.isAgg29 Try.sizeOf29 rfl rfl ((bs_length _).trans hPl) (load_all ((bs_length _).trans hPl))) (WL_pure rfl rfl (by decide) (Pu_loadBN (r := 901) rfl Try.isAgg29 Try.sizeOf29 rfl rfl ((bs_length _).trans hyl) (load_all ((bs_length _).trans hyl))) (WL_pure rfl rfl (by decide) (Pu_pair (zs := (bs (List.replicate 64 0))) rfl Try.underlying86 (by kernel_rfl : (Try.prog.info? 86).bind (·.zero) = some (.agg (bs (List.replicate 64 0)).toArray)) TI.hi29 TI.hs29 (by rw [bs_length]; rfl) ((bs_length _).trans hPl) ((bs_length _).trans hyl) rfl rfl) (WL_cons0 rfl rfl (OpT_storeAll (r := 903) rfl Try.sizeOf86 rfl rfl rfl (by rw [List.length_append, bs_length, bs_length, hyl, hPl]) (by rw [List.length_append, bs_length, bs_length, hyl, hPl]) (by rw [← bs_append]; exact bs_one _) ?_)))))
                        refine (WL_nil (X_then ?_))
                        refine W_seq ?_
                        refine W.pre (K' := [(0, _), (8, _), (12, _), (13, _), (14, _), (15, _), (16, _), (88, _), (99, _)]) (L' := [(0, _), (701, _), (901, _), (902, _), (903, _)]) ?_ ⟨rfl, ⟨rfl, ⟨rfl, ⟨rfl, ⟨rfl, ⟨rfl, ⟨rfl, ⟨rfl, ⟨rfl, trivial⟩⟩⟩⟩⟩⟩⟩⟩⟩ ⟨rfl, ⟨rfl, ⟨rfl, ⟨rfl, ⟨rfl, trivial⟩⟩⟩⟩⟩
                        refine W_regL (WL_pure rfl rfl (by decide) (Pu_move rfl rfl) (WL_pure rfl rfl (by decide) (Pu_bin rfl rfl rfl (run_quo _ _ _ _ _ (by omega))) ?_))
                        rw [show ((y.2.1 : Nat) : Int) / 2 = ((y.2.1 / 2 : Nat) : Int) by omega]
                        refine (WL_pure rfl rfl (by decide) (Pu_assign rfl rfl) (WL_nil (X_then ?_)))
                        refine W.pre (K' := [(0, _), (8, _), (12, _), (13, _), (14, _), (15, _), (16, _), (88, _), (99, _)]) (L' := [(0, _), (701, _), (901, _), (902, _), (903, _)]) ?_ ⟨rfl, ⟨rfl, ⟨rfl, ⟨rfl, ⟨rfl, ⟨rfl, ⟨rfl, ⟨rfl, ⟨rfl, trivial⟩⟩⟩⟩⟩⟩⟩⟩⟩ ⟨rfl, ⟨rfl, ⟨rfl, ⟨rfl, ⟨rfl, trivial⟩⟩⟩⟩⟩
                        refine W_draw (N := 5) (by kernel_rfl) rfl [(0, _), (701, _), (902, _), (903, _)] ⟨rfl, ⟨rfl, ⟨rfl, ⟨rfl, trivial⟩⟩⟩⟩ ?_
                        refine (AH_take 0 rfl (by kernel_rfl) (by kernel_rfl) (by kernel_rfl) rfl rfl (by decide) (Pu_loadBN (r := 701) rfl Try.isAgg52 Try.sizeOf52 rfl rfl ((bs_length _).trans hnm) (load_all ((bs_length _).trans hnm))) (AH_take 1 rfl (by kernel_rfl) (by kernel_rfl) (by kernel_rfl) rfl rfl (by decide) (Pu_move rfl rfl) (AH_take 2 rfl (by kernel_rfl) (by kernel_rfl) (by kernel_rfl) rfl rfl (by decide) (Pu_sliceArrN rfl Try.runUnderlying86 Try.sizeOf29 rfl) (AH_ready [3] (by kernel_rfl) (by decide) ?_))))
                        refine AHs_cons rfl rfl rfl (by decide) (OpT_call 1000 [0, 701, 901, 902, 903] [] rfl Try.call42 rfl rfl rfl (by decide) (by decide) (lnode_spec (nmP pub) hnm ((y.2.1 / 2 : Nat) : Int) 131 _ [((sig.drop (4300 + 32 * y.1)).take 32), y.2.2.1] (ids_two hPl hyl) (Nat.le_of_ble_eq_true rfl) _ (fun h hq => rdP_cast (rd_star 4 rfl (fun _ h => blk_rd (size := 32) (m := 2) (c := 2) (xs := bs ((sig.drop (4300 + 32 * y.1)).take 32) ++ bs y.2.2.1) h (by rw [List.drop_zero, List.take_of_length_le (by rw [List.length_append, bs_length, bs_length, hPl, hyl]; decide)]) (by rw [List.length_append, bs_length, bs_length, hPl, hyl]) (Nat.le_refl _)) h hq) (idsC_two _ _).symm rfl)) (fun v108 Ps108 hR108 => ?_)) ?_
                        ·
                          obtain ⟨rfl, rfl⟩ := hR108
                          refine ⟨⟨rfl, ⟨rfl, ⟨rfl, ⟨rfl, trivial⟩⟩⟩⟩, ?_⟩
                          rw [flat_two]
                          refine (AH_ready [4] (by kernel_rfl) (by decide) ?_)
                          refine AHs_cons0 rfl rfl rfl (OpT_storeAll (r := 901) rfl Try.sizeOf29 rfl rfl rfl ((bs_length _).trans hyl) ((bs_length _).trans (nodH_length _ _ _ _)) (bs_one _) ?_) ?_
                          ·
                            refine ⟨⟨rfl, ⟨rfl, ⟨rfl, ⟨rfl, trivial⟩⟩⟩⟩, ?_⟩
                            refine (AH_done (by kernel_rfl) (X_block (X_then ?_)))
                            refine W.pre (K' := [(0, _), (8, _), (12, _), (13, _), (14, _), (15, _), (16, _), (88, _), (99, _)]) (L' := [(0, _), (701, _), (901, _), (902, _), (903, _)]) ?_ ⟨rfl, ⟨rfl, ⟨rfl, ⟨rfl, ⟨rfl, ⟨rfl, ⟨rfl, ⟨rfl, ⟨rfl, trivial⟩⟩⟩⟩⟩⟩⟩⟩⟩ ⟨rfl, ⟨rfl, ⟨rfl, ⟨rfl, ⟨rfl, trivial⟩⟩⟩⟩⟩
                            refine W_regL (WL_pure rfl rfl (by decide) (Pu_move rfl rfl) (WL_pure rfl rfl (by decide) (Pu_slice (r := 0) (a := 32) (b := (sig.drop (4300 + 32 * y.1)).length) rfl Try.runUnderlying30 Try.sizeOf5 rfl rfl hrd (.inr ⟨_, _, _, rfl, rfl, rfl⟩) (.inl ⟨rfl, rfl⟩) (by rw [List.length_drop]; omega) (Nat.le_refl _)) (WL_pure rfl rfl (by decide) (Pu_assign rfl rfl) (WL_nil ?_))))
                            exact X_round (y.1 + 1, y.2.1 / 2, _, _) ⟨hy.1.odd hr1 he, fun h hq => (by have := rdB_tail (hrd h hq) (a := 32) (by rw [List.length_drop]; omega); rw [List.drop_drop] at this; exact this)⟩ (by show val pub 4 - (y.1 + 1) < val pub 4 - y.1; omega) ⟨rfl, rfl, rfl, rfl, rfl, trivial⟩ ⟨rfl, rfl, rfl, trivial⟩
                          exact AHs_nil
                        exact AHs_nil
                      ·
                        have he : y.2.1 % 2 = 0 := by have := of_decide_eq_false hc99; omega
                        refine W_skip (X_then ?_)
                        refine W_seq ?_
                        refine W.pre (K' := [(0, _), (8, _), (12, _), (13, _), (14, _), (15, _), (16, _), (88, _), (99, _)]) (L' := [(0, _), (701, _), (901, _), (902, _), (903, _)]) ?_ ⟨rfl, ⟨rfl, ⟨rfl, ⟨rfl, ⟨rfl, ⟨rfl, ⟨rfl, ⟨rfl, ⟨rfl, trivial⟩⟩⟩⟩⟩⟩⟩⟩⟩ ⟨rfl, ⟨rfl, ⟨rfl, ⟨rfl, ⟨rfl, trivial⟩⟩⟩⟩⟩
                        refine W_regL (WL_pure rfl rfl (by decide) (Pu_move rfl rfl) (WL_pure rfl rfl (by decide) (Pu_bin rfl rfl rfl (run_quo _ _ _ _ _ (by omega))) ?_))
                        rw [show ((y.2.1 : Nat) : Int) / 2 = ((y.2.1 / 2 : Nat) : Int) by omega]
                        refine (WL_pure rfl rfl (by decide) (Pu_assign rfl rfl) (WL_nil (X_then ?_)))
                        refine W.pre (K' := [(0, _), (8, _), (12, _), (13, _), (14, _), (15, _), (16, _), (88, _), (99, _)]) (L' := [(0, _), (701, _), (901, _), (902, _), (903, _)]) ?_ ⟨rfl, ⟨rfl, ⟨rfl, ⟨rfl, ⟨rfl, ⟨rfl, ⟨rfl, ⟨rfl, ⟨rfl, trivial⟩⟩⟩⟩⟩⟩⟩⟩⟩ ⟨rfl, ⟨rfl, ⟨rfl, ⟨rfl, ⟨rfl, trivial⟩⟩⟩⟩⟩
                        refine W_draw (N := 5) (by kernel_rfl) rfl [(0, _), (701, _), (902, _), (903, _)] ⟨rfl, ⟨rfl, ⟨rfl, ⟨rfl, trivial⟩⟩⟩⟩ ?_
                        refine (AH_take 0 rfl (by kernel_rfl) (by kernel_rfl) (by kernel_rfl) rfl rfl (by decide) (Pu_loadBN (r := 701) rfl Try.isAgg52 Try.sizeOf52 rfl rfl ((bs_length _).trans hnm) (load_all ((bs_length _).trans hnm))) (AH_take 1 rfl (by kernel_rfl) (by kernel_rfl) (by kernel_rfl) rfl rfl (by decide) (Pu_move rfl rfl) (AH_take 2 rfl (by kernel_rfl) (by kernel_rfl) (by kernel_rfl) rfl rfl (by decide) (Pu_sliceArrN rfl Try.runUnderlying86 Try.sizeOf29 rfl) (AH_ready [3] (by kernel_rfl) (by decide) ?_))))
                        refine AHs_cons rfl rfl rfl (by decide) (OpT_call 1000 [0, 701, 901, 902, 903] [] rfl Try.call42 rfl rfl rfl (by decide) (by decide) (lnode_spec (nmP pub) hnm ((y.2.1 / 2 : Nat) : Int) 131 _ [y.2.2.1, ((sig.drop (4300 + 32 * y.1)).take 32)] (ids_two hyl hPl) (Nat.le_of_ble_eq_true rfl) _ (fun h hq => rdP_cast (rd_star 4 rfl (fun _ h => blk_rd (size := 32) (m := 2) (c := 2) (xs := bs y.2.2.1 ++ bs ((sig.drop (4300 + 32 * y.1)).take 32)) h (by rw [List.drop_zero, List.take_of_length_le (by rw [List.length_append, bs_length, bs_length, hyl, hPl]; decide)]) (by rw [List.length_append, bs_length, bs_length, hyl, hPl]) (Nat.le_refl _)) h hq) (idsC_two _ _).symm rfl)) (fun v108 Ps108 hR108 => ?_)) ?_
                        ·
                          obtain ⟨rfl, rfl⟩ := hR108
                          refine ⟨⟨rfl, ⟨rfl, ⟨rfl, ⟨rfl, trivial⟩⟩⟩⟩, ?_⟩
                          rw [flat_two]
                          refine (AH_ready [4] (by kernel_rfl) (by decide) ?_)
                          refine AHs_cons0 rfl rfl rfl (OpT_storeAll (r := 901) rfl Try.sizeOf29 rfl rfl rfl ((bs_length _).trans hyl) ((bs_length _).trans (nodH_length _ _ _ _)) (bs_one _) ?_) ?_
                          ·
                            refine ⟨⟨rfl, ⟨rfl, ⟨rfl, ⟨rfl, trivial⟩⟩⟩⟩, ?_⟩
                            refine (AH_done (by kernel_rfl) (X_block (X_then ?_)))
                            refine W.pre (K' := [(0, _), (8, _), (12, _), (13, _), (14, _), (15, _), (16, _), (88, _), (99, _)]) (L' := [(0, _), (701, _), (901, _), (902, _), (903, _)]) ?_ ⟨rfl, ⟨rfl, ⟨rfl, ⟨rfl, ⟨rfl, ⟨rfl, ⟨rfl, ⟨rfl, ⟨rfl, trivial⟩⟩⟩⟩⟩⟩⟩⟩⟩ ⟨rfl, ⟨rfl, ⟨rfl, ⟨rfl, ⟨rfl, trivial⟩⟩⟩⟩⟩
                            refine W_regL (WL_pure rfl rfl (by decide) (Pu_move rfl rfl) (WL_pure rfl rfl (by decide) (Pu_slice (r := 0) (a := 32) (b := (sig.drop (4300 + 32 * y.1)).length) rfl Try.runUnderlying30 Try.sizeOf5 rfl rfl hrd (.inr ⟨_, _, _, rfl, rfl, rfl⟩) (.inl ⟨rfl, rfl⟩) (by rw [List.length_drop]; omega) (Nat.le_refl _)) (WL_pure rfl rfl (by decide) (Pu_assign rfl rfl) (WL_nil ?_))))
                            exact X_round (y.1 + 1, y.2.1 / 2, _, _) ⟨hy.1.even hr1 he, fun h hq => (by have := rdB_tail (hrd h hq) (a := 32) (by rw [List.length_drop]; omega); rw [List.drop_drop] at this; exact this)⟩ (by show val pub 4 - (y.1 + 1) < val pub 4 - y.1; omega) ⟨rfl, rfl, rfl, rfl, rfl, trivial⟩ ⟨rfl, rfl, rfl, trivial⟩
                          exact AHs_nil
                        exact AHs_nil
                    ·
                      have hr1 : ¬ 1 < y.2.1 := by have := of_decide_eq_false hc88; omega
                      have hroot := hu.done hr1
                      refine W_exit (X_then_exit (X_then_exit (X_block_exit (X_then ?_))))
                      refine W_seq ?_
                      refine W_seq ?_
                      refine W.pre (K' := [(0, _), (8, _), (12, _), (13, _), (14, _), (88, _)]) (L' := [(0, _), (701, _), (901, _)]) ?_ ⟨rfl, ⟨rfl, ⟨rfl, ⟨rfl, ⟨rfl, ⟨rfl, trivial⟩⟩⟩⟩⟩⟩ ⟨rfl, ⟨rfl, ⟨rfl, trivial⟩⟩⟩
                      refine W_draw (N := 6) (by kernel_rfl) rfl [(0, _), (701, _), (901, _)] ⟨rfl, ⟨rfl, ⟨rfl, trivial⟩⟩⟩ ?_
                      refine (AH_take 0 rfl (by kernel_rfl) (by kernel_rfl) (by kernel_rfl) rfl rfl (by decide) (Pu_sliceArr rfl Try.runUnderlying29 Try.sizeOf5 rfl) (AH_take 1 rfl (by kernel_rfl) (by kernel_rfl) (by kernel_rfl) rfl rfl (by decide) (Pu_convBS (r := 901) rfl Try.underlying30 Try.underlying5 Try.underlying9 rfl rfl (fun _ h => rdP_cast (blk_all h hyl) rfl hyl.symm)) (AH_take 2 rfl (by kernel_rfl) (by kernel_rfl) (by kernel_rfl) rfl rfl (by decide) (Pu_move rfl rfl) (AH_take 3 rfl (by kernel_rfl) (by kernel_rfl) (by kernel_rfl) rfl rfl (by decide) (Pu_slice (r := 0) (a := 24) (b := pub.length) rfl Try.runUnderlying30 Try.sizeOf5 rfl rfl hp (.inr ⟨_, _, _, rfl, rfl, rfl⟩) (.inl ⟨rfl, rfl⟩) (by omega) (by omega)) (AH_take 4 rfl (by kernel_rfl) (by kernel_rfl) (by kernel_rfl) rfl rfl (by decide) (Pu_convBS (r := 0) rfl Try.underlying30 Try.underlying5 Try.underlying9 rfl rfl (fun h hq => rdB_tail (hp h hq) (by omega))) (AH_take 5 rfl (by kernel_rfl) (by kernel_rfl) (by kernel_rfl) rfl rfl (by decide) (Pu_bin rfl rfl rfl (run_strNe _ _ _ _ _)) (AH_done (by kernel_rfl) (X_then ?_))))))))
                      refine W_cond rfl (fun hc114 => ?_) (fun hc114 => ?_)
                      ·
                        refine W_seq ?_
                        refine W.pre (K' := [(0, _), (8, _), (12, _), (13, _), (14, _), (88, _), (114, _)]) (L' := [(0, _), (701, _), (901, _)]) ?_ ⟨rfl, ⟨rfl, ⟨rfl, ⟨rfl, ⟨rfl, ⟨rfl, ⟨rfl, trivial⟩⟩⟩⟩⟩⟩⟩ ⟨rfl, ⟨rfl, ⟨rfl, trivial⟩⟩⟩
                        refine W_regL (WL_pure rfl rfl (by decide) (Pu_assign rfl rfl) (WL_nil (X_then ?_)))
                        refine W_ret (X_then_ret ?_)
                        exact X_ret [] (Ps := []) (res1 Try.results21 rfl) rfl (by decide) ⟨by rw [checkT_at hgood hgs hok, if_neg (by rw [← hroot]; simpa using hc114)], rfl⟩
                      ·
                        refine W_skip (X_then ?_)
                        refine W_seq ?_
                        refine W.pre (K' := [(0, _), (8, _), (12, _), (13, _), (14, _), (88, _), (114, _)]) (L' := [(0, _), (701, _), (901, _)]) ?_ ⟨rfl, ⟨rfl, ⟨rfl, ⟨rfl, ⟨rfl, ⟨rfl, ⟨rfl, trivial⟩⟩⟩⟩⟩⟩⟩ ⟨rfl, ⟨rfl, ⟨rfl, trivial⟩⟩⟩
                        refine W_regL (WL_pure rfl rfl (by decide) (Pu_assign rfl rfl) (WL_nil (X_then ?_)))
                        refine W_ret ?_
                        exact X_ret [] (Ps := []) (res1 Try.results21 rfl) rfl (by decide) ⟨by rw [checkT_at hgood hgs hok, if_pos (by rw [← hroot]; simpa using hc114)], rfl⟩
              exact AHs_nil
          exact AHs_nil
        exact AHs_nil
end Go.Proofs.Ytinamipkpdlphaa
/- Slots: the object as a resource, in plain words. -/
namespace Go.Proofs.Ytinamipkpdlphaa
open Go.RowKit
set_option linter.unusedVariables false
set_option linter.unusedSimpArgs false
set_option linter.unusedSectionVars false
section
variable {P : Program} {E : Env} {n : Nat} {K : Slots} {L : Res} {o : Oper} {C : Value → Res → Prop}
section
variable {κ : Type} [DecidableEq κ] {kt mt et : TypeId} {enc : κ → Value} {ok : κ → Prop}
def putQ (k : κ) (v : Value) (es : List (κ × Value)) : List (κ × Value) := if (lookQ k es).isSome then setQ k v es else es ++ [(k, v)]
theorem OpT_mapPutQ {r g : Nat} {x y z : Operand} {k : κ} {v : Value} {es : List (κ × Value)} (T : KeyT P kt enc ok) (ho : o.op = .mapUpdate mt x y z) (hm : P.underlying mt = some (.map kt et))
    (hx : evK K x = some (.map (some g))) (hy : evK K y = some (enc k)) (hl : ok k) (hz : evK K z = some v) (hr : look L r = some (mapQ enc ok g es none)) (hc : C undef ((r, mapQ enc ok g (putQ k v es) none) :: L)) : OpT P E n o K L C := by
  unfold putQ at hc
  cases h : (lookQ k es).isSome with
  | true => rw [h] at hc; exact OpT_mapSetQ T ho hm hx hy hl hz hr h hc
  | false => rw [h] at hc; exact OpT_mapAddQ T ho hm hx hy hl hz hr (Option.isNone_iff_eq_none.1 (Option.isSome_eq_false_iff.1 h)) hc
end

theorem Pu_lenQ {κ : Type} [DecidableEq κ] {enc : κ → Value} {ok : κ → Prop} {kt et t : TypeId} {r g : Nat} {x : Operand} {es : List (κ × Value)} {it : Option (It κ)} (ho : o.op = .call { callee := .builtin .len, args := #[x], argTypes := #[t] }) (ht : P.underlying t = some (.map kt et)) (hx : evK K x = some (.map (some g))) (hr : look L r = some (mapQ enc ok g es it)) : Pure P E n o K L (.int .i64 (es.length : Int)) := fun a w hA hS => by
  obtain ⟨h, ⟨_, b, clk, h2, _, h3, _⟩, hi⟩ := hS.read hr
  have hg := hi _ _ h2
  have hl := ekv_len h3
  simp [execOp, ho, resolve, invoke, builtin, hA.eval hx, Builtin.len_, run_underlying ht, MapKept.run_getObj_map hg, goInt, hl, Result.andThen]
end
/-- A slot as it stands in memory, and its bytes. -/
abbrev EB := BV × List UInt8
structure S1 where
  key : List UInt8
  ver : Int
  data : List UInt8
  src : Int
  exp : Int
def toS (p : EB) : S1 := ⟨p.1.key, p.1.ver, p.2, p.1.src, p.1.exp⟩
def entsOf (es : List EB) : List (List UInt8 × Value) := mbs (es.map (·.1))
def datP (es : List EB) : HP := fun h => ∀ p ∈ es, rdB p.1.sl p.2 h
def findE (k : List UInt8) : List EB → Option EB
  | [] => none
  | p :: es => if k = p.1.key then some p else findE k es
def getB (k : List UInt8) (es : List EB) : BV := ((findE k es).map (·.1)).getD default
def datB (k : List UInt8) (es : List EB) : List UInt8 := ((findE k es).map (·.2)).getD []
theorem lookQ_ents (k : List UInt8) : ∀ es : List EB, lookQ k (entsOf es) = (findE k es).map fun p => encB p.1
  | [] => rfl
  | p :: es => by
    show (if k = p.1.key then some (encB p.1) else lookQ k (entsOf es)) = _
    rw [findE, lookQ_ents k es]
    split <;> rfl
theorem ents_get (k : List UInt8) (es : List EB) : (lookQ k (entsOf es)).getD (.agg (bkC zeroId 0 (.slice none 0 0) 0 0).toArray) = encB (getB k es) := by
  rw [lookQ_ents]
  unfold getB
  cases findE k es <;> rfl
theorem ents_is (k : List UInt8) (es : List EB) : (lookQ k (entsOf es)).isSome = (findE k es).isSome := by rw [lookQ_ents]; cases findE k es <;> rfl
theorem starL_le {Ps : List HP} {h : Hlt} (hs : starL Ps h) {φ : HP} (k : Nat) {P : HP} (hk : Ps[k]? = some P) (hφ : ∀ h', P h' → (∀ g o, h' g = some o → h g = some o) → φ h) : φ h := by
  obtain ⟨f, h1, _, h3⟩ := hs
  exact hφ _ (h1 k P hk) (fun g o ho => h3 k g o ho)
theorem datP_add {es : List EB} {p : EB} {t : TypeId} {h : Hlt} (hs : starL [datP es, rowB t p.1.sl p.2] h) : datP (es ++ [p]) h := by
  intro q hq
  rcases List.mem_append.1 hq with hq | hq
  · exact starL_le hs (φ := rdB q.1.sl q.2) 0 rfl fun h' h1 h2 => rdP_le h2 (h1 q hq)
  · simp only [List.mem_singleton] at hq
    subst hq
    exact starL_le hs (φ := rdB q.1.sl q.2) 1 rfl fun h' h1 h2 => rdP_le h2 (rowP_rd h1)

abbrev STy : TypeId := 51
abbrev slotB (g : Nat) (most : Int) (gm : Nat) : HP := blk g 51 [.int .i64 most, .map (some gm)]
abbrev slotParts (g : Nat) (most : Int) (gm : Nat) (es : List EB) : List HP := [slotB g most gm, mapB gm (entsOf es) none, datP es]
/-- At most one slot. -/
def slotP (g : Nat) (most : Int) (o : Option S1) : HP := fun h => ∃ q : Nat × List EB, q.2.map toS = o.toList ∧ starL (slotParts g most q.1 q.2) h
theorem closeS {g : Nat} {most : Int} {o : Option S1} {gm : Nat} {es : List EB} (he : es.map toS = o.toList) {h : Hlt} (hs : starL (slotParts g most gm es) h) : slotP g most o h := ⟨(gm, es), he, hs⟩
theorem W_openS {P : Program} {E : Env} {n : Nat} {K : Slots} {L : Res} {Q : Exit → Act → World → Prop} {c : Code} (r b : Nat) {g : Nat} {most : Int} {o : Option S1} (hr : look L r = some (slotP g most o))
    (k : ∀ gm es, es.map toS = o.toList → W P E n c K (En b (slotParts g most gm es) ++ (r, emp) :: L) Q) : W P E n c K L Q :=
  W_open (φ := fun q : Nat × List EB => q.2.map toS = o.toList) (Ps := fun q => slotParts g most q.1 q.2) r b hr (fun h hp => hp) (fun q hq => k q.1 q.2 hq)
theorem es_none {es : List EB} (h : es.map toS = (none : Option S1).toList) : es = [] := List.map_eq_nil_iff.1 h
theorem es_some {es : List EB} {p : S1} (h : es.map toS = (some p).toList) : ∃ e, es = [e] ∧ toS e = p := by
  match es, h with
  | [e], h => exact ⟨e, rfl, by simpa using h⟩
section
variable {P : Program} {E : Env} {n : Nat} {K : Slots} {L : Res} {o : Oper}
theorem Pu_look {r g : Nat} {x y : Operand} {k : List UInt8} {es : List EB} {it : Option (It (List UInt8))} (ho : o.op = .lookup 49 x y true) (hx : evK K x = some (.map (some g))) (hy : evK K y = some (idV k)) (hl : k.length = 32) (hr : look L r = some (mapB g (entsOf es) it)) :
    Pure Try.prog E n o K L (.tuple #[encB (getB k es), .bool (findE k es).isSome]) := by
  rw [← ents_get, ← ents_is]
  exact Pu_lookupOkQ keyB ho Try.underlying49 (zero_run (by kernel_rfl : (Try.prog.info? 37).bind (·.zero) = some (.agg (bkC zeroId 0 (.slice none 0 0) 0 0).toArray))) hx hy hl hr
end
/-- What Set answers, and what is kept then. -/
noncomputable def setO (o : Option S1) (l : List UInt8) (src exp now : Int) : Int × Option S1 :=
  if (decide (src < 0) || decide (exp ≤ now)) = true then (1, o)
  else if pRootE l ≠ 0 then (pRootE l, o)
  else if checkT (pRoot l).pl (claimL (pRoot l).ver (pRoot l).top) (pRoot l).tl ≠ 0 then (checkT (pRoot l).pl (claimL (pRoot l).ver (pRoot l).top) (pRoot l).tl, o)
  else match o with
    | none => (0, some ⟨sha (pRoot l).pl, (pRoot l).ver, l, src, exp⟩)
    | some p => if (pRoot l).ver < p.ver then (14, some p) else if p.ver = (pRoot l).ver then (0, some ⟨p.key, p.ver, p.data, p.src, max p.exp exp⟩) else (0, some ⟨sha (pRoot l).pl, (pRoot l).ver, l, src, exp⟩)
end Go.Proofs.Ytinamipkpdlphaa
/- Slots: made and swept. -/
namespace Go.Proofs.Ytinamipkpdlphaa
open Go.RowKit
set_option linter.unusedVariables false
set_option linter.unusedSimpArgs false
set_option maxRecDepth 8000

theorem newS_spec (most : Int) (hm : 1 ≤ most ∧ most ≤ 100) (F : HP) : CallsS Try.prog 7 #[.int .i64 most] F [] (fun r Ps => ∃ g, r = .tuple #[.pointer (some ⟨g, 0, none⟩), .int .i64 0] ∧ Ps = [slotP g most none]) := by
  refine callsS_enter Try.func7 rfl Try.ntmps7 (by simp) (fun E => ?_)
  refine W_seq ?_
  refine W.pre (K' := [(0, _)]) (L' := [(0, _)]) ?_ ⟨rfl, trivial⟩ ⟨rfl, trivial⟩
  refine W_regL (WL_pure rfl rfl (by decide) (Pu_assign rfl rfl) (WL_pure rfl rfl (by decide) (Pu_assign rfl rfl) (WL_nil (X_then ?_))))
  refine W_seq ?_
  refine W_seq ?_
  refine W.pre (K' := [(0, _), (2, _), (3, _)]) (L' := [(0, _)]) ?_ ⟨rfl, ⟨rfl, ⟨rfl, trivial⟩⟩⟩ ⟨rfl, trivial⟩
  refine W_regL (WL_pure rfl rfl (by decide) (Pu_move rfl rfl) (WL_pure rfl rfl (by decide) (Pu_bin rfl rfl rfl (run_lss _ _ _ _ _ _)) (WL_pure rfl rfl (by decide) (Pu_move rfl rfl) (WL_guardP rfl rfl rfl rfl (by decide) (fun hb => (Pu_move rfl rfl)) (WL_guardP rfl rfl rfl rfl (by decide) (fun hb => (Pu_bin rfl (ev_gv rfl hb) rfl (run_gtr _ _ _ _ _ _))) (WL_pure rfl rfl (by decide) (Pu_or rfl rfl rfl) (WL_nil (X_then ?_))))))))
  refine W_false rfl (by simp; omega) ?_
  refine W_skip (X_then ?_)
  refine W_seq ?_
  refine W.pre (K' := [(0, _), (2, _), (3, _), (9, _)]) (L' := [(0, _)]) ?_ ⟨rfl, ⟨rfl, ⟨rfl, ⟨rfl, trivial⟩⟩⟩⟩ ⟨rfl, trivial⟩
  refine W_regL (WL_pure rfl rfl (by decide) (Pu_move rfl rfl) (WL_cons rfl rfl (by decide) (OpT_makeMapQ (r := 150) (enc := idV) (ok := ok32) rfl (fun gm => ?_))))
  skip
  refine (WL_pure rfl rfl (by decide) (Pu_build (V := .agg #[.int .i64 most, .map (some gm)]) [(0, 1), (1, 1)] ([.int .i64 0, .map none]) rfl rfl (by kernel_rfl) (by kernel_rfl) (.one rfl rfl (by simp []) rfl (.one rfl rfl (by simp []) rfl (.nil _))) rfl) (WL_cons rfl rfl (by decide) (OpT_box (r := 101) rfl rfl rfl (fun g101 => (WL_pure rfl rfl (by decide) (Pu_assign rfl rfl) (WL_pure rfl rfl (by decide) (Pu_assign rfl rfl) (WL_nil (X_then ?_))))))))
  refine W_ret ?_
  refine X_nilRow 9901 29 32 ?_
  refine X_turn (P' := datP []) 9901 rfl (fun h hp p hm => by simp at hm) ?_
  refine X_join [101, 150, 9901] 160 (slotP g101 most none) rfl (by decide) (fun h hs => closeS (es := []) rfl hs) ?_
  exact X_ret [160] (Ps := [_]) (res2 Try.results7 rfl rfl) rfl (by decide) ⟨_, rfl, rfl⟩
theorem sweep1_spec (b : BV) (bx : Nat) (now : Int) (F : HP) : CallsS Try.prog 45 #[idV b.key, encB b, .pointer (some ⟨bx, 0, none⟩)] F [blk bx 3 [.int .i64 now]] (fun r Ps => r = .bool (decide (b.exp ≤ now)) ∧ Ps = [blk bx 3 [.int .i64 now]]) := by
  refine callsS_enter Try.func45 rfl Try.ntmps45 (by simp) (fun E => ?_)
  refine W_seq ?_
  refine W.pre (K' := [(0, _), (1, _), (2, _)]) (L' := [(0, _), (1, _)]) ?_ ⟨rfl, ⟨rfl, ⟨rfl, trivial⟩⟩⟩ ⟨rfl, ⟨rfl, trivial⟩⟩
  refine W_regL (WL_cons rfl rfl (by decide) (OpT_box (r := 101) rfl rfl rfl (fun g101 => (WL_cons rfl rfl (by decide) (OpT_box (r := 102) rfl rfl rfl (fun g102 => (WL_pure rfl rfl (by decide) (Pu_assign rfl rfl) (WL_nil (X_then ?_)))))))))
  refine W_seq ?_
  refine W.pre (K' := [(0, _), (1, _), (2, _), (4, _), (5, _)]) (L' := [(0, _), (1, _), (101, _), (102, _)]) ?_ ⟨rfl, ⟨rfl, ⟨rfl, ⟨rfl, ⟨rfl, trivial⟩⟩⟩⟩⟩ ⟨rfl, ⟨rfl, ⟨rfl, ⟨rfl, trivial⟩⟩⟩⟩
  refine W_regL (WL_pure rfl rfl (by decide) (Pu_fieldAddrB (off := 35) rfl rfl (by kernel_rfl)) (WL_pure rfl rfl (by decide) (Pu_loadB (r := 102) rfl Try.isAgg3 rfl rfl (bk_exp b.len)) (WL_pure rfl rfl (by decide) (Pu_loadB (r := 1) rfl Try.isAgg3 rfl rfl rfl) (WL_pure rfl rfl (by decide) (Pu_bin rfl rfl rfl (run_leq _ _ _ _ _ _)) (WL_pure rfl rfl (by decide) (Pu_assign rfl rfl) (WL_nil (X_then ?_)))))))
  refine W_ret ?_
  exact X_ret [1] (Ps := [_]) (res1 Try.results45 rfl) rfl (by decide) ⟨rfl, rfl⟩
theorem ents_mem {es : List EB} {p : List UInt8 × Value} (h : p ∈ entsOf es) : ∃ b ∈ es, p = (b.1.key, encB b.1) := by
  unfold entsOf mbs at h
  rw [List.map_map] at h
  obtain ⟨b, hb, rfl⟩ := List.mem_map.1 h
  exact ⟨b, hb, rfl⟩
theorem delf_spec (gm bx : Nat) (now : Int) (es : List EB) (hexp : ∀ b ∈ es, now < b.1.exp) (F : HP) : CallsS Try.prog 44 #[.map (some gm), .func (.func 45) #[] #[.pointer (some ⟨bx, 0, none⟩)]] F [mapB gm (entsOf es) none, blk bx 3 [.int .i64 now]] (fun r Ps => r = .tuple #[] ∧ Ps = [mapB gm (entsOf es) none, blk bx 3 [.int .i64 now]]) := by
  refine callsS_enter Try.func44 rfl Try.ntmps44 (by simp) (fun E => ?_)
  refine W_seq ?_
  refine W.pre (K' := [(0, _), (1, _)]) (L' := [(0, _), (1, _), (2, _)]) ?_ ⟨rfl, ⟨rfl, trivial⟩⟩ ⟨rfl, ⟨rfl, ⟨rfl, trivial⟩⟩⟩
  refine W_regL (WL_pure rfl rfl (by decide) (Pu_move rfl rfl) (WL_cons rfl rfl (by decide) (OpT_rangeQ (r := 1) rfl Try.underlying49 rfl rfl (fun it => (WL_nil (X_then ?_))))))
  refine W_block ?_
  refine W_loop (α := List (List UInt8 × Value)) (fun x => [(0, .map (some gm)), (1, .func (.func 45) #[] #[.pointer (some ⟨bx, 0, none⟩)]), (7, .pointer (some ⟨it, 0, none⟩))]) (fun x => [(0, F), (1, mapB gm (entsOf es) (some (it, x, none))), (2, blk bx 3 [.int .i64 now])]) (fun x => ∀ q ∈ x, q ∈ entsOf es) (fun x => x.length) ((entsOf es)) (fun q hq => hq) ⟨rfl, ⟨rfl, ⟨rfl, trivial⟩⟩⟩ ⟨rfl, ⟨rfl, ⟨rfl, trivial⟩⟩⟩ (fun x hx => ?_)
  refine W_seq ?_
  refine W.pre (K' := [(0, _), (1, _), (7, _)]) (L' := [(0, _), (1, _), (2, _)]) ?_ ⟨rfl, ⟨rfl, ⟨rfl, trivial⟩⟩⟩ ⟨rfl, ⟨rfl, ⟨rfl, trivial⟩⟩⟩
  refine W_regL (WL_cons rfl rfl (by decide) (OpT_nextQ (r := 1) keyB rfl rfl rfl (fun hnil => ?_) (fun p left hpe hpm => ?_)))
  ·
    refine (WL_pure rfl rfl (by decide) (Pu_extract rfl rfl rfl) (WL_nil (X_then ?_)))
    refine W_seq ?_
    refine W_false rfl (rfl) ?_
    refine W_exit (X_then_exit (X_then_exit (X_block_exit ?_)))
    refine X_turn 1 rfl (fun h hp => mapQ_none hp) ?_
    exact X_end [1, 2] (Ps := [_, _]) (res0 Try.results44) rfl (by decide) ⟨rfl, rfl⟩
  ·
    obtain ⟨b, hb, rfl⟩ := ents_mem (hx p (hpm.mem_iff.2 (by simp)))
    have hbx := hexp b hb
    refine (WL_pure rfl rfl (by decide) (Pu_extract rfl rfl rfl) (WL_nil (X_then ?_)))
    refine W_seq ?_
    refine W_true rfl (rfl) ?_
    refine W_skip (X_then ?_)
    refine W_block ?_
    refine W_seq ?_
    refine W.pre (K' := [(0, _), (1, _), (7, _), (9, _)]) (L' := [(0, _), (1, _), (2, _)]) ?_ ⟨rfl, ⟨rfl, ⟨rfl, ⟨rfl, trivial⟩⟩⟩⟩ ⟨rfl, ⟨rfl, ⟨rfl, trivial⟩⟩⟩
    refine W_regL (WL_pure rfl rfl (by decide) (Pu_entryQ (r := 1) rfl rfl rfl) (WL_pure rfl rfl (by decide) (Pu_extract rfl rfl rfl) (WL_pure rfl rfl (by decide) (Pu_extract rfl rfl rfl) (WL_cons rfl rfl (by decide) (OpT_alloc (r := 101) (cs := (bs zeroId)) rfl (zero_run (by kernel_rfl : (Try.prog.info? 29).bind (·.zero) = some (.agg (bs zeroId).toArray))) rfl (fun g101 => (WL_cons rfl rfl (by decide) (OpT_alloc (r := 102) (cs := (bkC zeroId 0 (.slice none 0 0) 0 0)) rfl (zero_run (by kernel_rfl : (Try.prog.info? 37).bind (·.zero) = some (.agg (bkC zeroId 0 (.slice none 0 0) 0 0).toArray))) rfl (fun g102 => (WL_cons0 rfl rfl (OpT_storeAll (r := 101) rfl Try.sizeOf29 rfl rfl rfl rfl ((bs_length _).trans b.1.len) (bs_one _) ?_)))))))))))
    refine (WL_cons0 rfl rfl (OpT_storeAll (r := 102) rfl Try.sizeOf37 rfl rfl rfl (bkC_length rfl) (bvC_length _) (bvC_one _) ?_))
    refine (WL_nil (X_then ?_))
    refine W_seq ?_
    refine W.pre (K' := [(0, _), (1, _), (4, _), (5, _), (7, _), (9, _)]) (L' := [(0, _), (1, _), (2, _), (101, _), (102, _)]) ?_ ⟨rfl, ⟨rfl, ⟨rfl, ⟨rfl, ⟨rfl, ⟨rfl, trivial⟩⟩⟩⟩⟩⟩ ⟨rfl, ⟨rfl, ⟨rfl, ⟨rfl, ⟨rfl, trivial⟩⟩⟩⟩⟩
    refine W_regL (WL_pure rfl rfl (by decide) (Pu_move rfl rfl) (WL_pure rfl rfl (by decide) (Pu_loadBN (r := 101) rfl Try.isAgg29 Try.sizeOf29 rfl rfl ((bs_length _).trans b.1.len) (load_all ((bs_length _).trans b.1.len))) (WL_pure rfl rfl (by decide) (Pu_loadBN (r := 102) rfl Try.isAgg37 Try.sizeOf37 rfl rfl (bvC_length b.1) (load_all (bvC_length b.1))) (WL_cons rfl rfl (by decide) (OpT_callV (cap := [.pointer (some ⟨bx, 0, none⟩)]) 900 [0, 1, 101, 102] [2] rfl rfl Try.call45 rfl rfl rfl (by decide) (by decide) (sweep1_spec b.1 bx now _) (fun v16 Ps16 hR16 => ?_))))))
    obtain ⟨rfl, rfl⟩ := hR16
    refine (WL_nil (X_then ?_))
    refine W_false rfl (decide_eq_false (by omega)) ?_
    refine W_skip (X_block ?_)
    refine X_ren 900 2 rfl ?_
    refine X_turn 1 rfl (fun h hp => mapQ_uncur hp) ?_
    exact X_round left (fun q hq => hx q (hpm.mem_iff.2 (by simp [hq]))) (by have := hpm.length_eq; simp at this; omega) ⟨rfl, rfl, rfl, trivial⟩ ⟨rfl, rfl, rfl, trivial⟩
theorem es_live {es : List EB} {o : Option S1} {now : Int} (h : es.map toS = o.toList) (hl : ∀ p, o = some p → now < p.exp) : ∀ b ∈ es, now < b.1.exp := by
  intro b hb
  cases o with
  | none => rw [es_none h] at hb; simp at hb
  | some p =>
    obtain ⟨e, rfl, he⟩ := es_some h
    simp at hb
    subst hb
    have := hl p rfl
    rw [← he] at this
    exact this
theorem es_len {es : List EB} {o : Option S1} (h : es.map toS = o.toList) : es.length ≤ 1 := by
  have := congrArg List.length h
  rw [List.length_map] at this
  rw [this]
  cases o <;> simp
theorem sweepS_spec (g : Nat) (most now : Int) (o : Option S1) (hlive : ∀ p, o = some p → now < p.exp) (F : HP) : CallsS Try.prog 23 #[.pointer (some ⟨g, 0, none⟩), .int .i64 now] F [slotP g most o] (fun r Ps => r = .int .i64 0 ∧ Ps = [slotP g most o]) := by
  refine callsS_enter Try.func23 rfl Try.ntmps23 (by simp) (fun E => ?_)
  refine W_seq ?_
  refine W.pre (K' := [(0, _), (1, _)]) (L' := [(0, _), (1, _)]) ?_ ⟨rfl, ⟨rfl, trivial⟩⟩ ⟨rfl, ⟨rfl, trivial⟩⟩
  refine W_regL (WL_cons rfl rfl (by decide) (OpT_box (r := 101) rfl rfl rfl (fun g101 => (WL_pure rfl rfl (by decide) (Pu_assign rfl rfl) (WL_nil (X_then ?_))))))
  refine W_seq ?_
  refine W.pre (K' := [(0, _), (1, _), (3, _), (4, _)]) (L' := [(0, _), (1, _), (101, _)]) ?_ ⟨rfl, ⟨rfl, ⟨rfl, ⟨rfl, trivial⟩⟩⟩⟩ ⟨rfl, ⟨rfl, ⟨rfl, trivial⟩⟩⟩
  refine W_openS 1 200 rfl (fun gm es hes => ?_)
  have hexp : ∀ b ∈ es, now < b.1.exp := es_live hes hlive
  refine W_regL (WL_pure rfl rfl (by decide) (Pu_move rfl rfl) (WL_pure rfl rfl (by decide) (Pu_nilCheck rfl rfl) (WL_pure rfl rfl (by decide) (Pu_fieldAddrB (off := 1) rfl rfl (by kernel_rfl)) (WL_pure rfl rfl (by decide) (Pu_loadB (r := 200) rfl Try.isAgg49 rfl rfl rfl) (WL_pure rfl rfl (by decide) (Pu_lenQ (r := 201) rfl Try.underlying49 rfl rfl) (WL_pure rfl rfl (by decide) (Pu_assign rfl rfl) (WL_nil (X_then ?_))))))))
  refine W_seq ?_
  refine W.pre (K' := [(0, _), (1, _), (3, _), (4, _), (5, _)]) (L' := [(0, _), (101, _), (200, _), (201, _), (202, _)]) ?_ ⟨rfl, ⟨rfl, ⟨rfl, ⟨rfl, ⟨rfl, trivial⟩⟩⟩⟩⟩ ⟨rfl, ⟨rfl, ⟨rfl, ⟨rfl, ⟨rfl, trivial⟩⟩⟩⟩⟩
  refine W_regL (WL_pure rfl rfl (by decide) (Pu_move rfl rfl) (WL_pure rfl rfl (by decide) (Pu_nilCheck rfl rfl) (WL_pure rfl rfl (by decide) (Pu_fieldAddrB (off := 1) rfl rfl (by kernel_rfl)) (WL_pure rfl rfl (by decide) (Pu_loadB (r := 200) rfl Try.isAgg49 rfl rfl rfl) (WL_pure rfl rfl (by decide) (Pu_makeFunc rfl rfl) (WL_cons rfl rfl (by decide) (OpT_call 300 [0, 200, 202] [201, 101] rfl Try.call44 rfl rfl rfl (by decide) (by decide) (delf_spec gm g101 now es hexp _) (fun v16 Ps16 hR16 => ?_))))))))
  obtain ⟨rfl, rfl⟩ := hR16
  skip
  refine (WL_nil (X_then ?_))
  refine W_seq ?_
  refine W.pre (K' := [(0, _), (1, _), (3, _), (4, _), (5, _)]) (L' := [(0, _), (200, _), (202, _), (300, _), (301, _)]) ?_ ⟨rfl, ⟨rfl, ⟨rfl, ⟨rfl, ⟨rfl, trivial⟩⟩⟩⟩⟩ ⟨rfl, ⟨rfl, ⟨rfl, ⟨rfl, ⟨rfl, trivial⟩⟩⟩⟩⟩
  refine W_regL (WL_pure rfl rfl (by decide) (Pu_move rfl rfl) (WL_pure rfl rfl (by decide) (Pu_move rfl rfl) (WL_pure rfl rfl (by decide) (Pu_nilCheck rfl rfl) (WL_pure rfl rfl (by decide) (Pu_fieldAddrB (off := 1) rfl rfl (by kernel_rfl)) (WL_pure rfl rfl (by decide) (Pu_loadB (r := 200) rfl Try.isAgg49 rfl rfl rfl) (WL_pure rfl rfl (by decide) (Pu_lenQ (r := 300) rfl Try.underlying49 rfl rfl) (WL_pure rfl rfl (by decide) (Pu_bin rfl rfl rfl (run_sub _ _ _ _ _ (by have := es_len hes; omega))) (WL_pure rfl rfl (by decide) (Pu_assign rfl rfl) (WL_nil (X_then ?_))))))))))
  refine W_ret ?_
  refine X_join [200, 300, 202] 1 (slotP g most o) rfl (by decide) (fun h hs => closeS hes hs) ?_
  exact X_ret [1] (Ps := [_]) (res1 Try.results23 rfl) rfl (by decide) ⟨by rw [Int.sub_self], rfl⟩
end Go.Proofs.Ytinamipkpdlphaa
/- Slots: a root set. -/
namespace Go.Proofs.Ytinamipkpdlphaa
open Go.RowKit
set_option linter.unusedVariables false
set_option linter.unusedSimpArgs false
set_option maxRecDepth 8000

theorem pRoot_pl (l : List UInt8) : (pRoot l).pl.length ≤ l.length := by
  unfold pRoot
  split
  · show ((l.drop 1).take 56).length ≤ _
    simp only [List.length_take, List.length_drop]
    omega
  · exact Nat.zero_le _
theorem slot_over {k : List UInt8} (h : k.length = 32) : over (bkC zeroId 0 (.slice none 0 0) 0 0) 0 (bs k) = bkC k 0 (.slice none 0 0) 0 0 := by
  unfold over bkC
  rw [bs_length, h, List.take_zero, List.nil_append, List.drop_append_of_le_length (by rw [bs_length]; decide), List.drop_of_length_le (by rw [bs_length]; decide), List.nil_append]
theorem bk_set_ver {k : List UInt8} {n : Int} {v : Value} {s e : Int} (h : k.length = 32) (n' : Int) : (bkC k n v s e).set 32 (.int .i64 n') = bkC k n' v s e := by
  unfold bkC; rw [List.set_append_right _ _ (by rw [bs_length]; omega), bs_length, h]; rfl
theorem bk_set_src {k : List UInt8} {n : Int} {v : Value} {s e : Int} (h : k.length = 32) (s' : Int) : (bkC k n v s e).set 34 (.int .i64 s') = bkC k n v s' e := by
  unfold bkC; rw [List.set_append_right _ _ (by rw [bs_length]; omega), bs_length, h]; rfl
theorem slot_build {k : List UInt8} (h : k.length = 32) (n : Int) (v : Value) (s e : Int) : Value.agg ((((over (bkC zeroId 0 (.slice none 0 0) 0 0) 0 (bs k)).set 32 (.int .i64 n)).set 33 v).set 34 (.int .i64 s) |>.set 35 (.int .i64 e)).toArray = .agg (bkC k n v s e).toArray := by
  rw [slot_over h, bk_set_ver h, bk_set_data h, bk_set_src h, bk_set_exp h]
theorem slot_fit {k : List UInt8} (h : k.length = 32) : (over (bkC zeroId 0 (.slice none 0 0) 0 0) 0 (bs k)).length = 36 := by rw [slot_over h, bkC_length h]
theorem setO_arg {o : Option S1} {l : List UInt8} {src exp now : Int} (h : (decide (src < 0) || decide (exp ≤ now)) = true) : setO o l src exp now = (1, o) := by unfold setO; rw [if_pos h]
theorem setO_cut {o : Option S1} {l : List UInt8} {src exp now : Int} (h : (decide (src < 0) || decide (exp ≤ now)) = false) (h2 : pRootE l ≠ 0) : setO o l src exp now = (pRootE l, o) := by unfold setO; rw [if_neg (by rw [h]; decide), if_pos h2]
noncomputable abbrev chkL (l : List UInt8) : Int := checkT (pRoot l).pl (claimL (pRoot l).ver (pRoot l).top) (pRoot l).tl
theorem setO_sign {o : Option S1} {l : List UInt8} {src exp now : Int} (h : (decide (src < 0) || decide (exp ≤ now)) = false) (h2 : pRootE l = 0) (h3 : chkL l ≠ 0) : setO o l src exp now = (chkL l, o) := by unfold setO; rw [if_neg (by rw [h]; decide), if_neg (by rw [h2]; simp), if_pos h3]
theorem setO_none {l : List UInt8} {src exp now : Int} (h : (decide (src < 0) || decide (exp ≤ now)) = false) (h2 : pRootE l = 0) (h3 : chkL l = 0) : setO none l src exp now = (0, some ⟨sha (pRoot l).pl, (pRoot l).ver, l, src, exp⟩) := by unfold setO; rw [if_neg (by rw [h]; decide), if_neg (by rw [h2]; simp), if_neg (fun q => q h3)]
theorem setS_none (g : Nat) (most : Int) (hm : 1 ≤ most) (v : Value) (l : List UInt8) (hl : l.length ≤ 1000000) (src exp now : Int) (F : HP) (hF : ∀ h, F h → rdB v l h) : CallsS Try.prog 10 #[.pointer (some ⟨g, 0, none⟩), v, .int .i64 src, .int .i64 exp, .int .i64 now] F [slotP g most none] (fun r Ps => r = .int .i64 (setO none l src exp now).1 ∧ Ps = [slotP g most (setO none l src exp now).2]) := by
  refine callsS_enter Try.func10 rfl Try.ntmps10 (by simp) (fun E => ?_)
  refine W_seq ?_
  refine W.pre (K' := [(0, _), (1, _), (2, _), (3, _), (4, _)]) (L' := [(0, _), (1, _)]) ?_ ⟨rfl, ⟨rfl, ⟨rfl, ⟨rfl, ⟨rfl, trivial⟩⟩⟩⟩⟩ ⟨rfl, ⟨rfl, trivial⟩⟩
  refine W_regL (WL_pure rfl rfl (by decide) (Pu_assign rfl rfl) (WL_nil (X_then ?_)))
  refine W_seq ?_
  refine W_seq ?_
  refine W.pre (K' := [(0, _), (1, _), (2, _), (3, _), (4, _), (10, _)]) (L' := [(0, _), (1, _)]) ?_ ⟨rfl, ⟨rfl, ⟨rfl, ⟨rfl, ⟨rfl, ⟨rfl, trivial⟩⟩⟩⟩⟩⟩ ⟨rfl, ⟨rfl, trivial⟩⟩
  refine W_regL (WL_pure rfl rfl (by decide) (Pu_move rfl rfl) (WL_pure rfl rfl (by decide) (Pu_bin rfl rfl rfl (run_lss _ _ _ _ _ _)) (WL_pure rfl rfl (by decide) (Pu_move rfl rfl) (WL_guardP rfl rfl rfl rfl (by decide) (fun hb => (Pu_move rfl rfl)) (WL_guardP rfl rfl rfl rfl (by decide) (fun hb => (Pu_move rfl rfl)) (WL_guardP rfl rfl rfl rfl (by decide) (fun hb => (Pu_bin rfl (ev_gv rfl hb) (ev_gv rfl hb) (run_leq _ _ _ _ _ _))) (WL_pure rfl rfl (by decide) (Pu_or rfl rfl rfl) (WL_nil (X_then ?_)))))))))
  refine W_cond rfl (fun hc23 => ?_) (fun hc23 => ?_)
  ·
    have hset := setO_arg (o := none) (l := l) hc23
    refine W_seq ?_
    refine W.pre (K' := [(0, _), (1, _), (2, _), (3, _), (4, _), (10, _), (23, _)]) (L' := [(0, _), (1, _)]) ?_ ⟨rfl, ⟨rfl, ⟨rfl, ⟨rfl, ⟨rfl, ⟨rfl, ⟨rfl, trivial⟩⟩⟩⟩⟩⟩⟩ ⟨rfl, ⟨rfl, trivial⟩⟩
    refine W_regL (WL_pure rfl rfl (by decide) (Pu_assign rfl rfl) (WL_nil (X_then ?_)))
    refine W_ret (X_then_ret ?_)
    exact X_ret [1] (Ps := [_]) (res1 Try.results10 rfl) rfl (by decide) ⟨by rw [hset]; try rfl, by rw [hset]; try rfl⟩
  ·
    refine W_skip (X_then ?_)
    refine W_seq ?_
    refine W.pre (K' := [(0, _), (1, _), (2, _), (3, _), (4, _), (10, _), (23, _)]) (L' := [(0, _), (1, _)]) ?_ ⟨rfl, ⟨rfl, ⟨rfl, ⟨rfl, ⟨rfl, ⟨rfl, ⟨rfl, trivial⟩⟩⟩⟩⟩⟩⟩ ⟨rfl, ⟨rfl, trivial⟩⟩
    refine W_regL (WL_pure rfl rfl (by decide) (Pu_move rfl rfl) (WL_cons rfl rfl (by decide) (OpT_call 200 [0, 1] [] rfl Try.call20 rfl rfl rfl (by decide) (by decide) (parseRoot_spec v l (by omega) _ (rd_star 0 rfl hF)) (fun v26 Ps26 hR26 => ?_))))
    obtain ⟨pv, tv, rfl, rfl⟩ := hR26
    have ht := pRoot_top l
    refine WL_fact (r := 200) rfl (fun h hp => rd_one (rowB_rd _ hp)) (fun hpo => ?_)
    refine WL_fact (r := 201) rfl (fun h hp => rd_one (rowB_rd _ hp)) (fun hto => ?_)
    refine (WL_pure rfl rfl (by decide) (Pu_move rfl rfl) (WL_pure rfl rfl (by decide) (Pu_extract rfl rfl rfl) (WL_pure rfl rfl (by decide) (Pu_extract rfl rfl rfl) (WL_cons rfl rfl (by decide) (OpT_alloc (r := 203) (cs := (rootC nilS 0 zeroId nilS)) rfl (zero_run (by kernel_rfl : (Try.prog.info? 39).bind (·.zero) = some (.agg (rootC nilS 0 zeroId nilS).toArray))) rfl (fun g203 => (WL_cons0 rfl rfl (OpT_storeAll (r := 203) rfl Try.sizeOf39 rfl rfl rfl (rootC_length zeroId_length) (rootC_length ht) (one_root hpo hto) ?_))))))))
    skip
    refine (WL_pure rfl rfl (by decide) (Pu_assign rfl rfl) (WL_nil (X_then ?_)))
    refine W_seq ?_
    refine W_seq ?_
    refine W.pre (K' := [(0, _), (1, _), (2, _), (3, _), (4, _), (10, _), (11, _), (12, _), (23, _)]) (L' := [(0, _), (1, _), (200, _), (201, _), (203, _)]) ?_ ⟨rfl, ⟨rfl, ⟨rfl, ⟨rfl, ⟨rfl, ⟨rfl, ⟨rfl, ⟨rfl, ⟨rfl, trivial⟩⟩⟩⟩⟩⟩⟩⟩⟩ ⟨rfl, ⟨rfl, ⟨rfl, ⟨rfl, ⟨rfl, trivial⟩⟩⟩⟩⟩
    refine W_regL (WL_pure rfl rfl (by decide) (Pu_move rfl rfl) (WL_pure rfl rfl (by decide) (Pu_bin rfl rfl rfl (run_neq _ _ _ _ _ _)) (WL_nil (X_then ?_))))
    refine W_cond rfl (fun hc30 => ?_) (fun hc30 => ?_)
    ·
      have hne : pRootE l ≠ 0 := by simpa using hc30
      have hset := setO_cut (o := none) hc23 hne
      refine W_seq ?_
      refine W.pre (K' := [(0, _), (1, _), (2, _), (3, _), (4, _), (10, _), (11, _), (12, _), (23, _), (30, _)]) (L' := [(0, _), (1, _), (200, _), (201, _), (203, _)]) ?_ ⟨rfl, ⟨rfl, ⟨rfl, ⟨rfl, ⟨rfl, ⟨rfl, ⟨rfl, ⟨rfl, ⟨rfl, ⟨rfl, trivial⟩⟩⟩⟩⟩⟩⟩⟩⟩⟩ ⟨rfl, ⟨rfl, ⟨rfl, ⟨rfl, ⟨rfl, trivial⟩⟩⟩⟩⟩
      refine W_regL (WL_pure rfl rfl (by decide) (Pu_move rfl rfl) (WL_pure rfl rfl (by decide) (Pu_assign rfl rfl) (WL_nil (X_then ?_))))
      refine W_ret (X_then_ret ?_)
      exact X_ret [1] (Ps := [_]) (res1 Try.results10 rfl) rfl (by decide) ⟨by rw [hset]; try rfl, by rw [hset]; try rfl⟩
    ·
      have hok : pRootE l = 0 := by simpa using hc30
      refine W_skip (X_then ?_)
      refine W_seq ?_
      refine W_seq ?_
      refine W.pre (K' := [(0, _), (1, _), (2, _), (3, _), (4, _), (10, _), (11, _), (12, _), (23, _), (30, _)]) (L' := [(0, _), (1, _), (200, _), (201, _), (203, _)]) ?_ ⟨rfl, ⟨rfl, ⟨rfl, ⟨rfl, ⟨rfl, ⟨rfl, ⟨rfl, ⟨rfl, ⟨rfl, ⟨rfl, trivial⟩⟩⟩⟩⟩⟩⟩⟩⟩⟩ ⟨rfl, ⟨rfl, ⟨rfl, ⟨rfl, ⟨rfl, trivial⟩⟩⟩⟩⟩
      refine W_draw (N := 11) (by kernel_rfl) rfl [(0, _), (203, _)] ⟨rfl, ⟨rfl, trivial⟩⟩ ?_
      refine (AH_take 0 rfl (by kernel_rfl) (by kernel_rfl) (by kernel_rfl) rfl rfl (by decide) (Pu_fieldAddrB (off := 0) rfl rfl (by kernel_rfl)) (AH_take 1 rfl (by kernel_rfl) (by kernel_rfl) (by kernel_rfl) rfl rfl (by decide) (Pu_loadB (r := 203) rfl Try.isAgg30 rfl rfl rfl) (AH_take 2 rfl (by kernel_rfl) (by kernel_rfl) (by kernel_rfl) rfl rfl (by decide) (Pu_fieldAddrB (off := 1) rfl rfl (by kernel_rfl)) (AH_take 3 rfl (by kernel_rfl) (by kernel_rfl) (by kernel_rfl) rfl rfl (by decide) (Pu_loadB (r := 203) rfl Try.isAgg3 rfl rfl rfl) (AH_take 4 rfl (by kernel_rfl) (by kernel_rfl) (by kernel_rfl) rfl rfl (by decide) (Pu_fieldAddrB (off := 2) rfl rfl (by kernel_rfl)) (AH_take 5 rfl (by kernel_rfl) (by kernel_rfl) (by kernel_rfl) rfl rfl (by decide) (Pu_loadBN (r := 203) rfl Try.isAgg29 Try.sizeOf29 rfl rfl ((bs_length _).trans ht) (take_rtop ht)) (AH_take 7 rfl (by kernel_rfl) (by kernel_rfl) (by kernel_rfl) rfl rfl (by decide) (Pu_fieldAddrB (off := 34) rfl rfl (by kernel_rfl)) (AH_take 8 rfl (by kernel_rfl) (by kernel_rfl) (by kernel_rfl) rfl rfl (by decide) (Pu_loadB (r := 203) rfl Try.isAgg30 rfl rfl (root_tail ht)) (AH_ready [6] (by kernel_rfl) (by decide) ?_)))))))))
      refine AHs_cons rfl rfl rfl (by decide) (OpT_call 300 [0, 1, 200, 201, 203] [] rfl Try.call22 rfl rfl rfl (by decide) (by decide) (claim_spec (pRoot l).ver (pRoot l).top ht _) (fun v38 Ps38 hR38 => ?_)) ?_
      ·
        subst hR38
        refine ⟨⟨rfl, ⟨rfl, trivial⟩⟩, ?_⟩
        refine (AH_ready [9] (by kernel_rfl) (by decide) ?_)
        refine AHs_cons rfl rfl rfl (by decide) (OpT_call 400 [0, 1, 200, 201, 203, 300] [] rfl Try.call21 rfl rfl rfl (by decide) (by decide) (lcheck_spec pv _ tv (pRoot l).pl (claimL (pRoot l).ver (pRoot l).top) (pRoot l).tl (by rw [claimL_length ht]; omega) _ (rd_star 2 rfl rowB_rd) (rd_star 5 rfl rowB_rd) (rd_star 3 rfl rowB_rd)) (fun v41 Ps41 hR41 => ?_)) ?_
        ·
          obtain ⟨rfl, rfl⟩ := hR41
          refine ⟨⟨rfl, ⟨rfl, trivial⟩⟩, ?_⟩
          refine (AH_take 10 rfl (by kernel_rfl) (by kernel_rfl) (by kernel_rfl) rfl rfl (by decide) (Pu_assign rfl rfl) (AH_done (by kernel_rfl) (X_then ?_)))
          refine W_seq ?_
          refine W.pre (K' := [(0, _), (1, _), (2, _), (3, _), (4, _), (10, _), (11, _), (12, _), (13, _), (23, _), (30, _)]) (L' := [(0, _), (1, _), (200, _), (201, _), (203, _), (300, _)]) ?_ ⟨rfl, ⟨rfl, ⟨rfl, ⟨rfl, ⟨rfl, ⟨rfl, ⟨rfl, ⟨rfl, ⟨rfl, ⟨rfl, ⟨rfl, trivial⟩⟩⟩⟩⟩⟩⟩⟩⟩⟩⟩ ⟨rfl, ⟨rfl, ⟨rfl, ⟨rfl, ⟨rfl, ⟨rfl, trivial⟩⟩⟩⟩⟩⟩
          refine W_regL (WL_pure rfl rfl (by decide) (Pu_move rfl rfl) (WL_pure rfl rfl (by decide) (Pu_bin rfl rfl rfl (run_neq _ _ _ _ _ _)) (WL_nil (X_then ?_))))
          refine W_cond rfl (fun hc43 => ?_) (fun hc43 => ?_)
          ·
            have hbad : chkL l ≠ 0 := by simpa using hc43
            have hset := setO_sign (o := none) hc23 hok hbad
            refine W_seq ?_
            refine W.pre (K' := [(0, _), (1, _), (2, _), (3, _), (4, _), (10, _), (11, _), (12, _), (13, _), (23, _), (30, _), (43, _)]) (L' := [(0, _), (1, _), (200, _), (201, _), (203, _), (300, _)]) ?_ ⟨rfl, ⟨rfl, ⟨rfl, ⟨rfl, ⟨rfl, ⟨rfl, ⟨rfl, ⟨rfl, ⟨rfl, ⟨rfl, ⟨rfl, ⟨rfl, trivial⟩⟩⟩⟩⟩⟩⟩⟩⟩⟩⟩⟩ ⟨rfl, ⟨rfl, ⟨rfl, ⟨rfl, ⟨rfl, ⟨rfl, trivial⟩⟩⟩⟩⟩⟩
            refine W_regL (WL_pure rfl rfl (by decide) (Pu_move rfl rfl) (WL_pure rfl rfl (by decide) (Pu_assign rfl rfl) (WL_nil (X_then ?_))))
            refine W_ret (X_then_ret ?_)
            exact X_ret [1] (Ps := [_]) (res1 Try.results10 rfl) rfl (by decide) ⟨by rw [hset]; try rfl, by rw [hset]; try rfl⟩
          ·
            have hgood : chkL l = 0 := by simpa using hc43
            refine W_skip (X_then ?_)
            refine W_seq ?_
            refine W.pre (K' := [(0, _), (1, _), (2, _), (3, _), (4, _), (10, _), (11, _), (12, _), (13, _), (23, _), (30, _), (43, _)]) (L' := [(0, _), (1, _), (200, _), (201, _), (203, _), (300, _)]) ?_ ⟨rfl, ⟨rfl, ⟨rfl, ⟨rfl, ⟨rfl, ⟨rfl, ⟨rfl, ⟨rfl, ⟨rfl, ⟨rfl, ⟨rfl, ⟨rfl, trivial⟩⟩⟩⟩⟩⟩⟩⟩⟩⟩⟩⟩ ⟨rfl, ⟨rfl, ⟨rfl, ⟨rfl, ⟨rfl, ⟨rfl, trivial⟩⟩⟩⟩⟩⟩
            refine W_regL (WL_pure rfl rfl (by decide) (Pu_move rfl rfl) (WL_pure rfl rfl (by decide) (Pu_move rfl rfl) (WL_cons rfl rfl (by decide) (OpT_call 500 [0, 200, 201, 203, 300] [1] rfl Try.call23 rfl rfl rfl (by decide) (by decide) (sweepS_spec g most now none (fun q h => by cases h) _) (fun v47 Ps47 hR47 => ?_)))))
            obtain ⟨rfl, rfl⟩ := hR47
            skip
            refine (WL_nil (X_then ?_))
            refine W_cut (α := Nat × Value) (fun z => [(0, .pointer (some ⟨g, 0, none⟩)), (3, .int .i64 exp), (11, .pointer (some ⟨g203, 0, none⟩)), (14, .pointer (some ⟨z.1, 0, none⟩))]) (fun z => [(0, F), (500, slotP g most none), (203, blk g203 39 (rootC pv (pRoot l).ver (pRoot l).top tv)), (182, blk z.1 37 (bkC (sha (pRoot l).pl) (pRoot l).ver z.2 src exp)), (183, rowB 5 z.2 l)]) (fun z => z.2.oneCell' = true) ?_ (fun z hzo => ?_)
            ·
              refine W.pre (K' := [(0, _), (1, _), (2, _), (3, _), (4, _), (10, _), (11, _), (12, _), (13, _), (23, _), (30, _), (43, _)]) (L' := [(0, _), (200, _), (201, _), (203, _), (300, _), (500, _)]) ?_ ⟨rfl, ⟨rfl, ⟨rfl, ⟨rfl, ⟨rfl, ⟨rfl, ⟨rfl, ⟨rfl, ⟨rfl, ⟨rfl, ⟨rfl, ⟨rfl, trivial⟩⟩⟩⟩⟩⟩⟩⟩⟩⟩⟩⟩ ⟨rfl, ⟨rfl, ⟨rfl, ⟨rfl, ⟨rfl, ⟨rfl, trivial⟩⟩⟩⟩⟩⟩
              refine W_draw (N := 12) (by kernel_rfl) rfl [(0, _), (203, _)] ⟨rfl, ⟨rfl, trivial⟩⟩ ?_
              refine (AH_take 0 rfl (by kernel_rfl) (by kernel_rfl) (by kernel_rfl) rfl rfl (by decide) (Pu_fieldAddrB (off := 0) rfl rfl (by kernel_rfl)) (AH_take 1 rfl (by kernel_rfl) (by kernel_rfl) (by kernel_rfl) rfl rfl (by decide) (Pu_loadB (r := 203) rfl Try.isAgg30 rfl rfl rfl) (AH_take 3 rfl (by kernel_rfl) (by kernel_rfl) (by kernel_rfl) rfl rfl (by decide) (Pu_fieldAddrB (off := 1) rfl rfl (by kernel_rfl)) (AH_take 4 rfl (by kernel_rfl) (by kernel_rfl) (by kernel_rfl) rfl rfl (by decide) (Pu_loadB (r := 203) rfl Try.isAgg3 rfl rfl rfl) (AH_take 5 rfl (by kernel_rfl) (by kernel_rfl) (by kernel_rfl) rfl rfl (by decide) (Pu_move rfl rfl) (AH_take 7 rfl (by kernel_rfl) (by kernel_rfl) (by kernel_rfl) rfl rfl (by decide) (Pu_move rfl rfl) (AH_take 8 rfl (by kernel_rfl) (by kernel_rfl) (by kernel_rfl) rfl rfl (by decide) (Pu_move rfl rfl) (AH_ready [2, 10] (by kernel_rfl) (by decide) ?_))))))))
              refine AHs_cons rfl rfl rfl (by decide) (OpT_call 600 [0, 200, 201, 203, 300, 500] [] rfl Try.call24 rfl rfl rfl (by decide) (by decide) (sum_spec pv (pRoot l).pl (by have := pRoot_pl l; omega) _ (rd_star 1 rfl rowB_rd)) (fun v50 Ps50 hR50 => ?_)) ?_
              ·
                obtain ⟨rfl, rfl⟩ := hR50
                refine ⟨⟨rfl, ⟨rfl, trivial⟩⟩, ?_⟩
                refine (AH_ready [6, 10] (by kernel_rfl) (by decide) ?_)
                refine AHs_cons rfl rfl rfl (by decide) (OpT_call 700 [0, 200, 201, 203, 300, 500] [] rfl Try.call25 rfl rfl rfl (by decide) (by decide) (clone_spec v l (by omega) _ (rd_star 0 rfl hF)) (fun v54 Ps54 hR54 => ?_)) ?_
                ·
                  obtain ⟨ho54, rfl⟩ := hR54
                  refine ⟨⟨rfl, ⟨rfl, trivial⟩⟩, ?_⟩
                  skip
                  refine (AH_take 9 rfl (by kernel_rfl) (by kernel_rfl) (by kernel_rfl) rfl rfl (by decide) (Pu_build (V := .agg (bkC (sha (pRoot l).pl) (pRoot l).ver v54 src exp).toArray) [(0, 32), (32, 1), (33, 1), (34, 1), (35, 1)] (bkC zeroId 0 (.slice none 0 0) 0 0) rfl rfl (by kernel_rfl) (by kernel_rfl) (.many rfl ((bs_length _).trans (sha_length _)) (by simp [bkC, bs_length, zeroId_length]) rfl (.one rfl rfl (by simp only [List.length_set, slot_fit (sha_length _)]; decide) rfl (.one rfl ho54 (by simp only [List.length_set, slot_fit (sha_length _)]; decide) rfl (.one rfl rfl (by simp only [List.length_set, slot_fit (sha_length _)]; decide) rfl (.one rfl rfl (by simp only [List.length_set, slot_fit (sha_length _)]; decide) rfl (.nil _)))))) (slot_build (sha_length _) _ _ _ _)) (AH_ready [10] (by kernel_rfl) (by decide) ?_))
                  refine AHs_cons rfl rfl rfl (by decide) (OpT_alloc (r := 701) (cs := (bkC zeroId 0 (.slice none 0 0) 0 0)) rfl (zero_run (by kernel_rfl : (Try.prog.info? 37).bind (·.zero) = some (.agg (bkC zeroId 0 (.slice none 0 0) 0 0).toArray))) rfl (fun g701 => ⟨⟨rfl, ⟨rfl, trivial⟩⟩, ?_⟩)) ?_
                  ·
                    refine (AH_ready [11] (by kernel_rfl) (by decide) ?_)
                    refine AHs_cons0 rfl rfl rfl (OpT_storeAll (r := 701) rfl Try.sizeOf37 rfl rfl rfl (bkC_length rfl) (bkC_length (sha_length _)) (bkC_one ho54) ?_) ?_
                    ·
                      refine ⟨⟨rfl, ⟨rfl, trivial⟩⟩, ?_⟩
                      refine (AH_done (by kernel_rfl) ?_)
                      refine X_ren 701 182 rfl ?_
                      refine X_ren 700 183 rfl ?_
                      exact X_cut (g701, v54) ho54 ⟨rfl, rfl, rfl, rfl, trivial⟩ ⟨rfl, rfl, rfl, rfl, rfl, trivial⟩
                    exact AHs_nil
                  exact AHs_nil
                refine AHs_cons rfl rfl rfl (by decide) (OpT_alloc (r := 601) (cs := (bkC zeroId 0 (.slice none 0 0) 0 0)) rfl (zero_run (by kernel_rfl : (Try.prog.info? 37).bind (·.zero) = some (.agg (bkC zeroId 0 (.slice none 0 0) 0 0).toArray))) rfl (fun g601 => ⟨⟨rfl, ⟨rfl, trivial⟩⟩, ?_⟩)) ?_
                ·
                  refine (AH_ready [6] (by kernel_rfl) (by decide) ?_)
                  refine AHs_cons rfl rfl rfl (by decide) (OpT_call 700 [0, 200, 201, 203, 300, 500, 601] [] rfl Try.call25 rfl rfl rfl (by decide) (by decide) (clone_spec v l (by omega) _ (rd_star 0 rfl hF)) (fun v54 Ps54 hR54 => ?_)) ?_
                  ·
                    obtain ⟨ho54, rfl⟩ := hR54
                    refine ⟨⟨rfl, ⟨rfl, trivial⟩⟩, ?_⟩
                    skip
                    refine (AH_take 9 rfl (by kernel_rfl) (by kernel_rfl) (by kernel_rfl) rfl rfl (by decide) (Pu_build (V := .agg (bkC (sha (pRoot l).pl) (pRoot l).ver v54 src exp).toArray) [(0, 32), (32, 1), (33, 1), (34, 1), (35, 1)] (bkC zeroId 0 (.slice none 0 0) 0 0) rfl rfl (by kernel_rfl) (by kernel_rfl) (.many rfl ((bs_length _).trans (sha_length _)) (by simp [bkC, bs_length, zeroId_length]) rfl (.one rfl rfl (by simp only [List.length_set, slot_fit (sha_length _)]; decide) rfl (.one rfl ho54 (by simp only [List.length_set, slot_fit (sha_length _)]; decide) rfl (.one rfl rfl (by simp only [List.length_set, slot_fit (sha_length _)]; decide) rfl (.one rfl rfl (by simp only [List.length_set, slot_fit (sha_length _)]; decide) rfl (.nil _)))))) (slot_build (sha_length _) _ _ _ _)) (AH_ready [11] (by kernel_rfl) (by decide) ?_))
                    refine AHs_cons0 rfl rfl rfl (OpT_storeAll (r := 601) rfl Try.sizeOf37 rfl rfl rfl (bkC_length rfl) (bkC_length (sha_length _)) (bkC_one ho54) ?_) ?_
                    ·
                      refine ⟨⟨rfl, ⟨rfl, trivial⟩⟩, ?_⟩
                      refine (AH_done (by kernel_rfl) ?_)
                      refine X_ren 601 182 rfl ?_
                      refine X_ren 700 183 rfl ?_
                      exact X_cut (g601, v54) ho54 ⟨rfl, rfl, rfl, rfl, trivial⟩ ⟨rfl, rfl, rfl, rfl, rfl, trivial⟩
                    exact AHs_nil
                  exact AHs_nil
                exact AHs_nil
              refine AHs_cons rfl rfl rfl (by decide) (OpT_alloc (r := 501) (cs := (bkC zeroId 0 (.slice none 0 0) 0 0)) rfl (zero_run (by kernel_rfl : (Try.prog.info? 37).bind (·.zero) = some (.agg (bkC zeroId 0 (.slice none 0 0) 0 0).toArray))) rfl (fun g501 => ⟨⟨rfl, ⟨rfl, trivial⟩⟩, ?_⟩)) ?_
              ·
                refine (AH_ready [2] (by kernel_rfl) (by decide) ?_)
                refine AHs_cons rfl rfl rfl (by decide) (OpT_call 600 [0, 200, 201, 203, 300, 500, 501] [] rfl Try.call24 rfl rfl rfl (by decide) (by decide) (sum_spec pv (pRoot l).pl (by have := pRoot_pl l; omega) _ (rd_star 1 rfl rowB_rd)) (fun v50 Ps50 hR50 => ?_)) ?_
                ·
                  obtain ⟨rfl, rfl⟩ := hR50
                  refine ⟨⟨rfl, ⟨rfl, trivial⟩⟩, ?_⟩
                  refine (AH_ready [6] (by kernel_rfl) (by decide) ?_)
                  refine AHs_cons rfl rfl rfl (by decide) (OpT_call 700 [0, 200, 201, 203, 300, 500, 501] [] rfl Try.call25 rfl rfl rfl (by decide) (by decide) (clone_spec v l (by omega) _ (rd_star 0 rfl hF)) (fun v54 Ps54 hR54 => ?_)) ?_
                  ·
                    obtain ⟨ho54, rfl⟩ := hR54
                    refine ⟨⟨rfl, ⟨rfl, trivial⟩⟩, ?_⟩
                    skip
                    refine (AH_take 9 rfl (by kernel_rfl) (by kernel_rfl) (by kernel_rfl) rfl rfl (by decide) (Pu_build (V := .agg (bkC (sha (pRoot l).pl) (pRoot l).ver v54 src exp).toArray) [(0, 32), (32, 1), (33, 1), (34, 1), (35, 1)] (bkC zeroId 0 (.slice none 0 0) 0 0) rfl rfl (by kernel_rfl) (by kernel_rfl) (.many rfl ((bs_length _).trans (sha_length _)) (by simp [bkC, bs_length, zeroId_length]) rfl (.one rfl rfl (by simp only [List.length_set, slot_fit (sha_length _)]; decide) rfl (.one rfl ho54 (by simp only [List.length_set, slot_fit (sha_length _)]; decide) rfl (.one rfl rfl (by simp only [List.length_set, slot_fit (sha_length _)]; decide) rfl (.one rfl rfl (by simp only [List.length_set, slot_fit (sha_length _)]; decide) rfl (.nil _)))))) (slot_build (sha_length _) _ _ _ _)) (AH_ready [11] (by kernel_rfl) (by decide) ?_))
                    refine AHs_cons0 rfl rfl rfl (OpT_storeAll (r := 501) rfl Try.sizeOf37 rfl rfl rfl (bkC_length rfl) (bkC_length (sha_length _)) (bkC_one ho54) ?_) ?_
                    ·
                      refine ⟨⟨rfl, ⟨rfl, trivial⟩⟩, ?_⟩
                      refine (AH_done (by kernel_rfl) ?_)
                      refine X_ren 501 182 rfl ?_
                      refine X_ren 700 183 rfl ?_
                      exact X_cut (g501, v54) ho54 ⟨rfl, rfl, rfl, rfl, trivial⟩ ⟨rfl, rfl, rfl, rfl, rfl, trivial⟩
                    exact AHs_nil
                  exact AHs_nil
                exact AHs_nil
              exact AHs_nil
            ·
              refine W_seq ?_
              refine W.pre (K' := [(0, _), (3, _), (11, _), (14, _)]) (L' := [(0, _), (182, _), (183, _), (203, _), (500, _)]) ?_ ⟨rfl, ⟨rfl, ⟨rfl, ⟨rfl, trivial⟩⟩⟩⟩ ⟨rfl, ⟨rfl, ⟨rfl, ⟨rfl, ⟨rfl, trivial⟩⟩⟩⟩⟩
              refine W_openS 500 500 rfl (fun gm es hes => ?_)
              obtain rfl := es_none hes
              refine W_draw (N := 13) (by kernel_rfl) rfl [(0, _), (182, _), (203, _), (500, _)] ⟨rfl, ⟨rfl, ⟨rfl, ⟨rfl, trivial⟩⟩⟩⟩ ?_
              refine (AH_take 0 rfl (by kernel_rfl) (by kernel_rfl) (by kernel_rfl) rfl rfl (by decide) (Pu_move rfl rfl) (AH_take 1 rfl (by kernel_rfl) (by kernel_rfl) (by kernel_rfl) rfl rfl (by decide) (Pu_nilCheck rfl rfl) (AH_take 2 rfl (by kernel_rfl) (by kernel_rfl) (by kernel_rfl) rfl rfl (by decide) (Pu_fieldAddrB (off := 1) rfl rfl (by kernel_rfl)) (AH_take 3 rfl (by kernel_rfl) (by kernel_rfl) (by kernel_rfl) rfl rfl (by decide) (Pu_loadB (r := 500) rfl Try.isAgg49 rfl rfl rfl) (AH_take 4 rfl (by kernel_rfl) (by kernel_rfl) (by kernel_rfl) rfl rfl (by decide) (Pu_fieldAddrB (off := 0) rfl rfl (by kernel_rfl)) (AH_take 5 rfl (by kernel_rfl) (by kernel_rfl) (by kernel_rfl) rfl rfl (by decide) (Pu_loadBN (r := 182) rfl Try.isAgg29 Try.sizeOf29 rfl rfl ((bs_length _).trans (sha_length _)) (bk_key (sha_length _))) (AH_ready [6, 10] (by kernel_rfl) (by decide) ?_)))))))
              refine AHs_cons rfl rfl rfl (by decide) (OpT_run (Pu_look (r := 501) rfl rfl rfl (sha_length _) rfl) ⟨⟨rfl, ⟨rfl, ⟨rfl, ⟨rfl, trivial⟩⟩⟩⟩, ?_⟩) ?_
              ·
                refine (AH_take 7 rfl (by kernel_rfl) (by kernel_rfl) (by kernel_rfl) rfl rfl (by decide) (Pu_move rfl rfl) (AH_take 8 rfl (by kernel_rfl) (by kernel_rfl) (by kernel_rfl) rfl rfl (by decide) (Pu_extract rfl rfl rfl) (AH_take 9 rfl (by kernel_rfl) (by kernel_rfl) (by kernel_rfl) rfl rfl (by decide) (Pu_extract rfl rfl rfl) (AH_ready [10] (by kernel_rfl) (by decide) ?_))))
                refine AHs_cons rfl rfl rfl (by decide) (OpT_alloc (r := 551) (cs := (bkC zeroId 0 (.slice none 0 0) 0 0)) rfl (zero_run (by kernel_rfl : (Try.prog.info? 37).bind (·.zero) = some (.agg (bkC zeroId 0 (.slice none 0 0) 0 0).toArray))) rfl (fun g551 => ⟨⟨rfl, ⟨rfl, ⟨rfl, ⟨rfl, trivial⟩⟩⟩⟩, ?_⟩)) ?_
                ·
                  refine (AH_ready [11] (by kernel_rfl) (by decide) ?_)
                  refine AHs_cons0 rfl rfl rfl (OpT_storeAll (r := 551) rfl Try.sizeOf37 rfl rfl rfl (bkC_length rfl) (bvC_length _) (bvC_one _) ?_) ?_
                  ·
                    refine ⟨⟨rfl, ⟨rfl, ⟨rfl, ⟨rfl, trivial⟩⟩⟩⟩, ?_⟩
                    refine (AH_take 12 rfl (by kernel_rfl) (by kernel_rfl) (by kernel_rfl) rfl rfl (by decide) (Pu_assign rfl rfl) (AH_done (by kernel_rfl) (X_then ?_)))
                    refine W_seq ?_
                    refine W_block ?_
                    refine W_seq ?_
                    refine W.pre (K' := [(0, _), (3, _), (11, _), (14, _), (15, _), (16, _)]) (L' := [(0, _), (182, _), (183, _), (203, _), (500, _), (501, _), (502, _), (551, _)]) ?_ ⟨rfl, ⟨rfl, ⟨rfl, ⟨rfl, ⟨rfl, ⟨rfl, trivial⟩⟩⟩⟩⟩⟩ ⟨rfl, ⟨rfl, ⟨rfl, ⟨rfl, ⟨rfl, ⟨rfl, ⟨rfl, ⟨rfl, trivial⟩⟩⟩⟩⟩⟩⟩⟩
                    refine W_regL (WL_pure rfl rfl (by decide) (Pu_move rfl rfl) (WL_pure rfl rfl (by decide) (Pu_move rfl rfl) (WL_gF rfl rfl rfl rfl rfl (by decide) (WL_gF rfl rfl rfl rfl rfl (by decide) (WL_gF rfl rfl rfl rfl rfl (by decide) (WL_gF rfl rfl rfl rfl rfl (by decide) (WL_gF rfl rfl rfl rfl rfl (by decide) (WL_pure rfl rfl (by decide) (Pu_pickF rfl rfl rfl rfl) (WL_pure rfl rfl (by decide) (Pu_assign rfl rfl) (WL_nil (X_then ?_)))))))))))
                    refine W_false rfl (rfl) ?_
                    refine W_seq ?_
                    refine W.pre (K' := [(0, _), (3, _), (11, _), (14, _), (15, _), (16, _), (68, _)]) (L' := [(0, _), (182, _), (183, _), (203, _), (500, _), (501, _), (502, _), (551, _)]) ?_ ⟨rfl, ⟨rfl, ⟨rfl, ⟨rfl, ⟨rfl, ⟨rfl, ⟨rfl, trivial⟩⟩⟩⟩⟩⟩⟩ ⟨rfl, ⟨rfl, ⟨rfl, ⟨rfl, ⟨rfl, ⟨rfl, ⟨rfl, ⟨rfl, trivial⟩⟩⟩⟩⟩⟩⟩⟩
                    refine W_regL (WL_pure rfl rfl (by decide) (Pu_move rfl rfl) (WL_pure rfl rfl (by decide) (Pu_move rfl rfl) (WL_gF rfl rfl rfl rfl rfl (by decide) (WL_gF rfl rfl rfl rfl rfl (by decide) (WL_gF rfl rfl rfl rfl rfl (by decide) (WL_gF rfl rfl rfl rfl rfl (by decide) (WL_gF rfl rfl rfl rfl rfl (by decide) (WL_pure rfl rfl (by decide) (Pu_pickF rfl rfl rfl rfl) (WL_pure rfl rfl (by decide) (Pu_assign rfl rfl) (WL_nil (X_then ?_)))))))))))
                    refine W_false rfl (rfl) ?_
                    refine W_seq ?_
                    refine W.pre (K' := [(0, _), (3, _), (11, _), (14, _), (15, _), (16, _), (68, _), (77, _)]) (L' := [(0, _), (182, _), (183, _), (203, _), (500, _), (501, _), (502, _), (551, _)]) ?_ ⟨rfl, ⟨rfl, ⟨rfl, ⟨rfl, ⟨rfl, ⟨rfl, ⟨rfl, ⟨rfl, trivial⟩⟩⟩⟩⟩⟩⟩⟩ ⟨rfl, ⟨rfl, ⟨rfl, ⟨rfl, ⟨rfl, ⟨rfl, ⟨rfl, ⟨rfl, trivial⟩⟩⟩⟩⟩⟩⟩⟩
                    refine W_draw (N := 15) (by kernel_rfl) rfl [(0, _), (182, _), (203, _), (500, _), (551, _), (501, _)] ⟨rfl, ⟨rfl, ⟨rfl, ⟨rfl, ⟨rfl, ⟨rfl, trivial⟩⟩⟩⟩⟩⟩ ?_
                    refine (AH_take 0 rfl (by kernel_rfl) (by kernel_rfl) (by kernel_rfl) rfl rfl (by decide) (Pu_move rfl rfl) (AH_take 1 rfl (by kernel_rfl) (by kernel_rfl) (by kernel_rfl) rfl rfl (by decide) (Pu_un rfl rfl (run_not _)) (AH_take 2 rfl (by kernel_rfl) (by kernel_rfl) (by kernel_rfl) rfl rfl (by decide) (Pu_move rfl rfl) (AH_takeT 3 rfl (by kernel_rfl) (by kernel_rfl) (by kernel_rfl) rfl rfl rfl rfl rfl (by decide) (Pu_move rfl rfl) (AH_takeT 4 rfl (by kernel_rfl) (by kernel_rfl) (by kernel_rfl) rfl rfl rfl rfl rfl (by decide) (Pu_nilCheck rfl rfl) (AH_takeT 5 rfl (by kernel_rfl) (by kernel_rfl) (by kernel_rfl) rfl rfl rfl rfl rfl (by decide) (Pu_fieldAddrB (off := 1) rfl rfl (by kernel_rfl)) (AH_takeT 6 rfl (by kernel_rfl) (by kernel_rfl) (by kernel_rfl) rfl rfl rfl rfl rfl (by decide) (Pu_loadB (r := 500) rfl Try.isAgg49 rfl rfl rfl) (AH_takeT 7 rfl (by kernel_rfl) (by kernel_rfl) (by kernel_rfl) rfl rfl rfl rfl rfl (by decide) (Pu_lenQ (r := 501) rfl Try.underlying49 rfl rfl) (AH_takeT 8 rfl (by kernel_rfl) (by kernel_rfl) (by kernel_rfl) rfl rfl rfl rfl rfl (by decide) (Pu_move rfl rfl) (AH_takeT 9 rfl (by kernel_rfl) (by kernel_rfl) (by kernel_rfl) rfl rfl rfl rfl rfl (by decide) (Pu_nilCheck rfl rfl) (AH_takeT 10 rfl (by kernel_rfl) (by kernel_rfl) (by kernel_rfl) rfl rfl rfl rfl rfl (by decide) (Pu_fieldAddrB (off := 0) rfl rfl (by kernel_rfl)) (AH_takeT 11 rfl (by kernel_rfl) (by kernel_rfl) (by kernel_rfl) rfl rfl rfl rfl rfl (by decide) (Pu_loadB (r := 500) rfl Try.isAgg3 rfl rfl rfl) (AH_takeT 12 rfl (by kernel_rfl) (by kernel_rfl) (by kernel_rfl) rfl rfl rfl rfl rfl (by decide) (Pu_bin rfl rfl rfl (run_geq _ _ _ _ _ _)) (AH_take 13 rfl (by kernel_rfl) (by kernel_rfl) (by kernel_rfl) rfl rfl (by decide) (Pu_pickT rfl rfl rfl rfl) (AH_take 14 rfl (by kernel_rfl) (by kernel_rfl) (by kernel_rfl) rfl rfl (by decide) (Pu_assign rfl rfl) (AH_done (by kernel_rfl) (X_then ?_)))))))))))))))))
                    refine W_false rfl (decide_eq_false (by show ¬ (most ≤ ((0 : Nat) : Int)); omega)) ?_
                    refine W_skip (X_block (X_then ?_))
                    refine W_seq ?_
                    refine W.pre (K' := [(0, _), (3, _), (11, _), (14, _), (15, _), (16, _), (68, _), (77, _), (92, _)]) (L' := [(0, _), (182, _), (183, _), (203, _), (500, _), (501, _), (502, _), (551, _)]) ?_ ⟨rfl, ⟨rfl, ⟨rfl, ⟨rfl, ⟨rfl, ⟨rfl, ⟨rfl, ⟨rfl, ⟨rfl, trivial⟩⟩⟩⟩⟩⟩⟩⟩⟩ ⟨rfl, ⟨rfl, ⟨rfl, ⟨rfl, ⟨rfl, ⟨rfl, ⟨rfl, ⟨rfl, trivial⟩⟩⟩⟩⟩⟩⟩⟩
                    refine W_draw (N := 8) (by kernel_rfl) rfl [(0, _), (182, _), (203, _), (500, _), (551, _)] ⟨rfl, ⟨rfl, ⟨rfl, ⟨rfl, ⟨rfl, trivial⟩⟩⟩⟩⟩ ?_
                    refine (AH_take 0 rfl (by kernel_rfl) (by kernel_rfl) (by kernel_rfl) rfl rfl (by decide) (Pu_move rfl rfl) (AH_take 1 rfl (by kernel_rfl) (by kernel_rfl) (by kernel_rfl) rfl rfl (by decide) (Pu_nilCheck rfl rfl) (AH_take 2 rfl (by kernel_rfl) (by kernel_rfl) (by kernel_rfl) rfl rfl (by decide) (Pu_fieldAddrB (off := 1) rfl rfl (by kernel_rfl)) (AH_take 3 rfl (by kernel_rfl) (by kernel_rfl) (by kernel_rfl) rfl rfl (by decide) (Pu_loadB (r := 500) rfl Try.isAgg49 rfl rfl rfl) (AH_take 4 rfl (by kernel_rfl) (by kernel_rfl) (by kernel_rfl) rfl rfl (by decide) (Pu_fieldAddrB (off := 0) rfl rfl (by kernel_rfl)) (AH_take 5 rfl (by kernel_rfl) (by kernel_rfl) (by kernel_rfl) rfl rfl (by decide) (Pu_loadBN (r := 182) rfl Try.isAgg29 Try.sizeOf29 rfl rfl ((bs_length _).trans (sha_length _)) (bk_key (sha_length _))) (AH_take 6 rfl (by kernel_rfl) (by kernel_rfl) (by kernel_rfl) rfl rfl (by decide) (Pu_loadBN (r := 182) rfl Try.isAgg37 Try.sizeOf37 rfl rfl (bkC_length (sha_length _)) (load_all (bkC_length (sha_length _)))) (AH_ready [7] (by kernel_rfl) (by decide) ?_))))))))
                    refine AHs_cons0 rfl rfl rfl (OpT_mapPutQ (r := 501) (k := (sha (pRoot l).pl)) (es := entsOf []) (g := gm) keyB rfl Try.underlying49 rfl rfl (sha_length _) rfl rfl ?_) ?_
                    ·
                      refine ⟨⟨rfl, ⟨rfl, ⟨rfl, ⟨rfl, ⟨rfl, trivial⟩⟩⟩⟩⟩, ?_⟩
                      refine (AH_done (by kernel_rfl) (X_then ?_))
                      refine W_seq ?_
                      refine W.pre (K' := [(0, _), (3, _), (11, _), (14, _), (15, _), (16, _), (68, _), (77, _), (92, _)]) (L' := [(0, _), (182, _), (183, _), (203, _), (500, _), (501, _), (502, _), (551, _)]) ?_ ⟨rfl, ⟨rfl, ⟨rfl, ⟨rfl, ⟨rfl, ⟨rfl, ⟨rfl, ⟨rfl, ⟨rfl, trivial⟩⟩⟩⟩⟩⟩⟩⟩⟩ ⟨rfl, ⟨rfl, ⟨rfl, ⟨rfl, ⟨rfl, ⟨rfl, ⟨rfl, ⟨rfl, trivial⟩⟩⟩⟩⟩⟩⟩⟩
                      refine W_regL (WL_pure rfl rfl (by decide) (Pu_assign rfl rfl) (WL_nil (X_then ?_)))
                      refine W_ret ?_
                      have hset := setO_none hc23 hok hgood
                      refine X_turn (P' := mapB gm (entsOf [((⟨((sha (pRoot l).pl), (pRoot l).ver, z.2, src, exp), sha_length _, hzo⟩, l) : EB)]) none) 501 rfl (fun h hp => hp) ?_
                      refine X_turn (P' := datP [((⟨((sha (pRoot l).pl), (pRoot l).ver, z.2, src, exp), sha_length _, hzo⟩, l) : EB)]) 183 rfl (fun h hp q hq => by rw [List.mem_singleton.1 hq]; exact rowB_rd _ hp) ?_
                      refine X_join [500, 501, 183] 1 (slotP g most (some ⟨(sha (pRoot l).pl), (pRoot l).ver, l, src, exp⟩)) rfl (by decide) (fun h hs => closeS (es := [((⟨((sha (pRoot l).pl), (pRoot l).ver, z.2, src, exp), sha_length _, hzo⟩, l) : EB)]) rfl hs) ?_
                      exact X_ret [1] (Ps := [_]) (res1 Try.results10 rfl) rfl (by decide) ⟨by rw [hset]; try rfl, by rw [hset]; try rfl⟩
                    exact AHs_nil
                  exact AHs_nil
                exact AHs_nil
              refine AHs_cons rfl rfl rfl (by decide) (OpT_alloc (r := 551) (cs := (bkC zeroId 0 (.slice none 0 0) 0 0)) rfl (zero_run (by kernel_rfl : (Try.prog.info? 37).bind (·.zero) = some (.agg (bkC zeroId 0 (.slice none 0 0) 0 0).toArray))) rfl (fun g551 => ⟨⟨rfl, ⟨rfl, ⟨rfl, ⟨rfl, trivial⟩⟩⟩⟩, ?_⟩)) ?_
              ·
                refine (AH_ready [6] (by kernel_rfl) (by decide) ?_)
                refine AHs_cons rfl rfl rfl (by decide) (OpT_run (Pu_look (r := 501) rfl rfl rfl (sha_length _) rfl) ⟨⟨rfl, ⟨rfl, ⟨rfl, ⟨rfl, trivial⟩⟩⟩⟩, ?_⟩) ?_
                ·
                  refine (AH_take 7 rfl (by kernel_rfl) (by kernel_rfl) (by kernel_rfl) rfl rfl (by decide) (Pu_move rfl rfl) (AH_take 8 rfl (by kernel_rfl) (by kernel_rfl) (by kernel_rfl) rfl rfl (by decide) (Pu_extract rfl rfl rfl) (AH_take 9 rfl (by kernel_rfl) (by kernel_rfl) (by kernel_rfl) rfl rfl (by decide) (Pu_extract rfl rfl rfl) (AH_ready [11] (by kernel_rfl) (by decide) ?_))))
                  refine AHs_cons0 rfl rfl rfl (OpT_storeAll (r := 551) rfl Try.sizeOf37 rfl rfl rfl (bkC_length rfl) (bvC_length _) (bvC_one _) ?_) ?_
                  ·
                    refine ⟨⟨rfl, ⟨rfl, ⟨rfl, ⟨rfl, trivial⟩⟩⟩⟩, ?_⟩
                    refine (AH_take 12 rfl (by kernel_rfl) (by kernel_rfl) (by kernel_rfl) rfl rfl (by decide) (Pu_assign rfl rfl) (AH_done (by kernel_rfl) (X_then ?_)))
                    refine W_seq ?_
                    refine W_block ?_
                    refine W_seq ?_
                    refine W.pre (K' := [(0, _), (3, _), (11, _), (14, _), (15, _), (16, _)]) (L' := [(0, _), (182, _), (183, _), (203, _), (500, _), (501, _), (502, _), (551, _)]) ?_ ⟨rfl, ⟨rfl, ⟨rfl, ⟨rfl, ⟨rfl, ⟨rfl, trivial⟩⟩⟩⟩⟩⟩ ⟨rfl, ⟨rfl, ⟨rfl, ⟨rfl, ⟨rfl, ⟨rfl, ⟨rfl, ⟨rfl, trivial⟩⟩⟩⟩⟩⟩⟩⟩
                    refine W_regL (WL_pure rfl rfl (by decide) (Pu_move rfl rfl) (WL_pure rfl rfl (by decide) (Pu_move rfl rfl) (WL_gF rfl rfl rfl rfl rfl (by decide) (WL_gF rfl rfl rfl rfl rfl (by decide) (WL_gF rfl rfl rfl rfl rfl (by decide) (WL_gF rfl rfl rfl rfl rfl (by decide) (WL_gF rfl rfl rfl rfl rfl (by decide) (WL_pure rfl rfl (by decide) (Pu_pickF rfl rfl rfl rfl) (WL_pure rfl rfl (by decide) (Pu_assign rfl rfl) (WL_nil (X_then ?_)))))))))))
                    refine W_false rfl (rfl) ?_
                    refine W_seq ?_
                    refine W.pre (K' := [(0, _), (3, _), (11, _), (14, _), (15, _), (16, _), (68, _)]) (L' := [(0, _), (182, _), (183, _), (203, _), (500, _), (501, _), (502, _), (551, _)]) ?_ ⟨rfl, ⟨rfl, ⟨rfl, ⟨rfl, ⟨rfl, ⟨rfl, ⟨rfl, trivial⟩⟩⟩⟩⟩⟩⟩ ⟨rfl, ⟨rfl, ⟨rfl, ⟨rfl, ⟨rfl, ⟨rfl, ⟨rfl, ⟨rfl, trivial⟩⟩⟩⟩⟩⟩⟩⟩
                    refine W_regL (WL_pure rfl rfl (by decide) (Pu_move rfl rfl) (WL_pure rfl rfl (by decide) (Pu_move rfl rfl) (WL_gF rfl rfl rfl rfl rfl (by decide) (WL_gF rfl rfl rfl rfl rfl (by decide) (WL_gF rfl rfl rfl rfl rfl (by decide) (WL_gF rfl rfl rfl rfl rfl (by decide) (WL_gF rfl rfl rfl rfl rfl (by decide) (WL_pure rfl rfl (by decide) (Pu_pickF rfl rfl rfl rfl) (WL_pure rfl rfl (by decide) (Pu_assign rfl rfl) (WL_nil (X_then ?_)))))))))))
                    refine W_false rfl (rfl) ?_
                    refine W_seq ?_
                    refine W.pre (K' := [(0, _), (3, _), (11, _), (14, _), (15, _), (16, _), (68, _), (77, _)]) (L' := [(0, _), (182, _), (183, _), (203, _), (500, _), (501, _), (502, _), (551, _)]) ?_ ⟨rfl, ⟨rfl, ⟨rfl, ⟨rfl, ⟨rfl, ⟨rfl, ⟨rfl, ⟨rfl, trivial⟩⟩⟩⟩⟩⟩⟩⟩ ⟨rfl, ⟨rfl, ⟨rfl, ⟨rfl, ⟨rfl, ⟨rfl, ⟨rfl, ⟨rfl, trivial⟩⟩⟩⟩⟩⟩⟩⟩
                    refine W_draw (N := 15) (by kernel_rfl) rfl [(0, _), (182, _), (203, _), (500, _), (551, _), (501, _)] ⟨rfl, ⟨rfl, ⟨rfl, ⟨rfl, ⟨rfl, ⟨rfl, trivial⟩⟩⟩⟩⟩⟩ ?_
                    refine (AH_take 0 rfl (by kernel_rfl) (by kernel_rfl) (by kernel_rfl) rfl rfl (by decide) (Pu_move rfl rfl) (AH_take 1 rfl (by kernel_rfl) (by kernel_rfl) (by kernel_rfl) rfl rfl (by decide) (Pu_un rfl rfl (run_not _)) (AH_take 2 rfl (by kernel_rfl) (by kernel_rfl) (by kernel_rfl) rfl rfl (by decide) (Pu_move rfl rfl) (AH_takeT 3 rfl (by kernel_rfl) (by kernel_rfl) (by kernel_rfl) rfl rfl rfl rfl rfl (by decide) (Pu_move rfl rfl) (AH_takeT 4 rfl (by kernel_rfl) (by kernel_rfl) (by kernel_rfl) rfl rfl rfl rfl rfl (by decide) (Pu_nilCheck rfl rfl) (AH_takeT 5 rfl (by kernel_rfl) (by kernel_rfl) (by kernel_rfl) rfl rfl rfl rfl rfl (by decide) (Pu_fieldAddrB (off := 1) rfl rfl (by kernel_rfl)) (AH_takeT 6 rfl (by kernel_rfl) (by kernel_rfl) (by kernel_rfl) rfl rfl rfl rfl rfl (by decide) (Pu_loadB (r := 500) rfl Try.isAgg49 rfl rfl rfl) (AH_takeT 7 rfl (by kernel_rfl) (by kernel_rfl) (by kernel_rfl) rfl rfl rfl rfl rfl (by decide) (Pu_lenQ (r := 501) rfl Try.underlying49 rfl rfl) (AH_takeT 8 rfl (by kernel_rfl) (by kernel_rfl) (by kernel_rfl) rfl rfl rfl rfl rfl (by decide) (Pu_move rfl rfl) (AH_takeT 9 rfl (by kernel_rfl) (by kernel_rfl) (by kernel_rfl) rfl rfl rfl rfl rfl (by decide) (Pu_nilCheck rfl rfl) (AH_takeT 10 rfl (by kernel_rfl) (by kernel_rfl) (by kernel_rfl) rfl rfl rfl rfl rfl (by decide) (Pu_fieldAddrB (off := 0) rfl rfl (by kernel_rfl)) (AH_takeT 11 rfl (by kernel_rfl) (by kernel_rfl) (by kernel_rfl) rfl rfl rfl rfl rfl (by decide) (Pu_loadB (r := 500) rfl Try.isAgg3 rfl rfl rfl) (AH_takeT 12 rfl (by kernel_rfl) (by kernel_rfl) (by kernel_rfl) rfl rfl rfl rfl rfl (by decide) (Pu_bin rfl rfl rfl (run_geq _ _ _ _ _ _)) (AH_take 13 rfl (by kernel_rfl) (by kernel_rfl) (by kernel_rfl) rfl rfl (by decide) (Pu_pickT rfl rfl rfl rfl) (AH_take 14 rfl (by kernel_rfl) (by kernel_rfl) (by kernel_rfl) rfl rfl (by decide) (Pu_assign rfl rfl) (AH_done (by kernel_rfl) (X_then ?_)))))))))))))))))
                    refine W_false rfl (decide_eq_false (by show ¬ (most ≤ ((0 : Nat) : Int)); omega)) ?_
                    refine W_skip (X_block (X_then ?_))
                    refine W_seq ?_
                    refine W.pre (K' := [(0, _), (3, _), (11, _), (14, _), (15, _), (16, _), (68, _), (77, _), (92, _)]) (L' := [(0, _), (182, _), (183, _), (203, _), (500, _), (501, _), (502, _), (551, _)]) ?_ ⟨rfl, ⟨rfl, ⟨rfl, ⟨rfl, ⟨rfl, ⟨rfl, ⟨rfl, ⟨rfl, ⟨rfl, trivial⟩⟩⟩⟩⟩⟩⟩⟩⟩ ⟨rfl, ⟨rfl, ⟨rfl, ⟨rfl, ⟨rfl, ⟨rfl, ⟨rfl, ⟨rfl, trivial⟩⟩⟩⟩⟩⟩⟩⟩
                    refine W_draw (N := 8) (by kernel_rfl) rfl [(0, _), (182, _), (203, _), (500, _), (551, _)] ⟨rfl, ⟨rfl, ⟨rfl, ⟨rfl, ⟨rfl, trivial⟩⟩⟩⟩⟩ ?_
                    refine (AH_take 0 rfl (by kernel_rfl) (by kernel_rfl) (by kernel_rfl) rfl rfl (by decide) (Pu_move rfl rfl) (AH_take 1 rfl (by kernel_rfl) (by kernel_rfl) (by kernel_rfl) rfl rfl (by decide) (Pu_nilCheck rfl rfl) (AH_take 2 rfl (by kernel_rfl) (by kernel_rfl) (by kernel_rfl) rfl rfl (by decide) (Pu_fieldAddrB (off := 1) rfl rfl (by kernel_rfl)) (AH_take 3 rfl (by kernel_rfl) (by kernel_rfl) (by kernel_rfl) rfl rfl (by decide) (Pu_loadB (r := 500) rfl Try.isAgg49 rfl rfl rfl) (AH_take 4 rfl (by kernel_rfl) (by kernel_rfl) (by kernel_rfl) rfl rfl (by decide) (Pu_fieldAddrB (off := 0) rfl rfl (by kernel_rfl)) (AH_take 5 rfl (by kernel_rfl) (by kernel_rfl) (by kernel_rfl) rfl rfl (by decide) (Pu_loadBN (r := 182) rfl Try.isAgg29 Try.sizeOf29 rfl rfl ((bs_length _).trans (sha_length _)) (bk_key (sha_length _))) (AH_take 6 rfl (by kernel_rfl) (by kernel_rfl) (by kernel_rfl) rfl rfl (by decide) (Pu_loadBN (r := 182) rfl Try.isAgg37 Try.sizeOf37 rfl rfl (bkC_length (sha_length _)) (load_all (bkC_length (sha_length _)))) (AH_ready [7] (by kernel_rfl) (by decide) ?_))))))))
                    refine AHs_cons0 rfl rfl rfl (OpT_mapPutQ (r := 501) (k := (sha (pRoot l).pl)) (es := entsOf []) (g := gm) keyB rfl Try.underlying49 rfl rfl (sha_length _) rfl rfl ?_) ?_
                    ·
                      refine ⟨⟨rfl, ⟨rfl, ⟨rfl, ⟨rfl, ⟨rfl, trivial⟩⟩⟩⟩⟩, ?_⟩
                      refine (AH_done (by kernel_rfl) (X_then ?_))
                      refine W_seq ?_
                      refine W.pre (K' := [(0, _), (3, _), (11, _), (14, _), (15, _), (16, _), (68, _), (77, _), (92, _)]) (L' := [(0, _), (182, _), (183, _), (203, _), (500, _), (501, _), (502, _), (551, _)]) ?_ ⟨rfl, ⟨rfl, ⟨rfl, ⟨rfl, ⟨rfl, ⟨rfl, ⟨rfl, ⟨rfl, ⟨rfl, trivial⟩⟩⟩⟩⟩⟩⟩⟩⟩ ⟨rfl, ⟨rfl, ⟨rfl, ⟨rfl, ⟨rfl, ⟨rfl, ⟨rfl, ⟨rfl, trivial⟩⟩⟩⟩⟩⟩⟩⟩
                      refine W_regL (WL_pure rfl rfl (by decide) (Pu_assign rfl rfl) (WL_nil (X_then ?_)))
                      refine W_ret ?_
                      have hset := setO_none hc23 hok hgood
                      refine X_turn (P' := mapB gm (entsOf [((⟨((sha (pRoot l).pl), (pRoot l).ver, z.2, src, exp), sha_length _, hzo⟩, l) : EB)]) none) 501 rfl (fun h hp => hp) ?_
                      refine X_turn (P' := datP [((⟨((sha (pRoot l).pl), (pRoot l).ver, z.2, src, exp), sha_length _, hzo⟩, l) : EB)]) 183 rfl (fun h hp q hq => by rw [List.mem_singleton.1 hq]; exact rowB_rd _ hp) ?_
                      refine X_join [500, 501, 183] 1 (slotP g most (some ⟨(sha (pRoot l).pl), (pRoot l).ver, l, src, exp⟩)) rfl (by decide) (fun h hs => closeS (es := [((⟨((sha (pRoot l).pl), (pRoot l).ver, z.2, src, exp), sha_length _, hzo⟩, l) : EB)]) rfl hs) ?_
                      exact X_ret [1] (Ps := [_]) (res1 Try.results10 rfl) rfl (by decide) ⟨by rw [hset]; try rfl, by rw [hset]; try rfl⟩
                    exact AHs_nil
                  exact AHs_nil
                exact AHs_nil
              exact AHs_nil
        exact AHs_nil
      exact AHs_nil
end Go.Proofs.Ytinamipkpdlphaa
/- Slots: rows of them, in words. -/
namespace Go.Proofs.Ytinamipkpdlphaa
open Go.RowKit
set_option linter.unusedVariables false
set_option linter.unusedSimpArgs false
set_option maxRecDepth 8000

theorem bvs_len (xs : List BV) : ∀ x ∈ xs, (bvC x).length = 36 := fun x _ => bvC_length x
theorem bvs_all {xs : List BV} {k : Nat} (hk : k < xs.length) : ((recC bvC xs).drop (k * 36)).take 36 = bvC (xs.getD k default) := recC_get (d := default) (bvs_len xs) hk
def setSl (v : Value) (hv : v.oneCell' = true) (x : BV) : BV := ⟨(x.key, x.ver, v, x.src, x.exp), x.len, hv⟩
theorem bvs_setData {xs : List BV} {k : Nat} (hk : k < xs.length) (v : Value) (hv : v.oneCell' = true) : (recC bvC xs).set (k * 36 + 33) v = recC bvC (xs.set k (setSl v hv (xs.getD k default))) := by
  have hl := recC_length (bvs_len xs)
  rw [show (recC bvC xs).set (k * 36 + 33) v = over (recC bvC xs) (k * 36 + 33) [v] from (over_one _ _ _ (by rw [hl]; omega)).symm]
  refine recC_setF (d := default) (bvs_len xs) hk (by simp) ?_
  have : over (bvC (xs.getD k default)) 33 [v] = (bvC (xs.getD k default)).set 33 v := over_one _ _ _ (by rw [bvC_length]; decide)
  rw [this]
  exact bk_set_data (xs.getD k default).len v
/-- One slot's bytes put elsewhere. -/
def moveE (k : Nat) (v : Value) (hv : v.oneCell' = true) (ys : List EB) : List EB := ys.set k (setSl v hv (ys.getD k default).1, (ys.getD k default).2)
theorem moveE_len (k : Nat) (v : Value) (hv : v.oneCell' = true) (ys : List EB) : (moveE k v hv ys).length = ys.length := by simp [moveE]
theorem moveE_told {k : Nat} {v : Value} {hv : v.oneCell' = true} {ys : List EB} (hk : k < ys.length) : (moveE k v hv ys).map toS = ys.map toS := by
  unfold moveE
  apply List.ext_getElem?
  intro j
  rw [List.getElem?_map, List.getElem?_map, List.getElem?_set]
  by_cases h : k = j
  · subst h
    rw [if_pos rfl, if_pos hk, show ys.getD k default = ys[k] by simp [hk], List.getElem?_eq_getElem hk]
    rfl
  · rw [if_neg h]
theorem moveE_sl {k : Nat} {v : Value} {hv : v.oneCell' = true} {ys : List EB} (hk : k < ys.length) : (moveE k v hv ys).map (·.1) = (ys.map (·.1)).set k (setSl v hv ((ys.map (·.1)).getD k default)) := by
  unfold moveE
  rw [List.map_set]
  congr 2
  simp [hk]
theorem moveE_drop {k : Nat} {v : Value} {hv : v.oneCell' = true} {ys : List EB} : (moveE k v hv ys).drop (k + 1) = ys.drop (k + 1) := by
  unfold moveE
  rw [List.drop_set]
  simp
theorem moveE_take {k : Nat} {v : Value} {hv : v.oneCell' = true} {ys : List EB} (hk : k < ys.length) : (moveE k v hv ys).take (k + 1) = ys.take k ++ [(setSl v hv (ys.getD k default).1, (ys.getD k default).2)] := by
  have hl : k < (moveE k v hv ys).length := by rw [moveE_len]; exact hk
  rw [List.take_succ_eq_append_getElem hl]
  congr 1
  · unfold moveE; rw [List.take_set, List.set_eq_of_length_le (by rw [List.length_take]; omega)]
  · unfold moveE; simp
theorem getD_map1 {ys : List EB} {k : Nat} (hk : k < ys.length) : (ys.map (·.1)).getD k default = (ys.getD k default).1 := by simp [hk]
theorem getD_of_drop {ys zs : List EB} {k : Nat} (h : zs.drop k = ys.drop k) (hk : k < zs.length) : zs.getD k default = ys.getD k default ∧ k < ys.length := by
  have h0 := congrArg List.length h
  simp only [List.length_drop] at h0
  have h1 : zs[k]? = ys[k]? := by have := congrArg (fun l => l[0]?) h; simpa using this
  have h2 : k < ys.length := by omega
  refine ⟨by simp [List.getD_eq_getElem?_getD, h1], h2⟩
theorem drop_next {ys zs : List EB} {k : Nat} (h : zs.drop k = ys.drop k) : zs.drop (k + 1) = ys.drop (k + 1) := by
  have := congrArg (List.drop 1) h
  simpa [List.drop_drop] using this
theorem small_told {o : Option S1} {es : List EB} (h : es.map toS = o.toList) {xs : List BV} (hp : xs.Perm (es.map (·.1))) : ∃ ys : List EB, ys.Perm es ∧ ys.map (·.1) = xs ∧ ys.map toS = o.toList := by
  have hl := es_len h
  match es, hl with
  | [], _ => exact ⟨[], List.Perm.refl _, (List.Perm.eq_nil hp).symm, h⟩
  | [e], _ => exact ⟨[e], List.Perm.refl _, (List.perm_singleton.1 hp).symm, h⟩
end Go.Proofs.Ytinamipkpdlphaa
