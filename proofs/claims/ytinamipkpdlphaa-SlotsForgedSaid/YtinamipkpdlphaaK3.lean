/- Texts of this proof, one behind the other: ShaB, ShaP, Cut, IdL, ShaQ, ShaC, ShaS, ShaD, LmsR, LmsA, LmsB. -/
import Derived.Test.YtinamipkpdlphaaK2
import Derived.Test.YtinamipkpdlphaaK1
/- The hash: a piece mixed in. -/
namespace Go.Proofs.Ytinamipkpdlphaa
open Go.RowKit
set_option linter.unusedVariables false
set_option linter.unusedSimpArgs false
set_option maxRecDepth 8000
theorem bs_atZ0 {l : List UInt8} {k : Nat} {z : Int} (hz : z.toNat = k) (h : k < l.length) : (bs l)[z.toNat]? = some (bv (at0 l k)) := by rw [hz]; exact bs_at1 h
theorem ws_atI {l : List UInt32} {k : Nat} {z : Int} (hz : z.toNat = k) (h : k < l.length) : (ws l)[z.toNat]? = some (wv (l.getD k 0)) := by rw [hz]; exact ws_at h
set_option maxHeartbeats 2000000 in
theorem mix_spec (s : S8) (v : Value) (b : List UInt8) (hbl : b.length = 64) (F : HP) (hF : ∀ h, F h → rdB v b h) : CallsS Try.prog 67 #[.agg (ws s.list).toArray, v] F [] (fun r Ps => r = .agg (ws (mixS b 0 s).list).toArray ∧ Ps = []) := by
  refine callsS_enter Try.func67 rfl Try.ntmps67 (by simp) (fun E => ?_)
  refine W_seq ?_
  refine W.pre (K' := [(0, _), (1, _)]) (L' := [(0, _)]) ?_ ⟨rfl, ⟨rfl, trivial⟩⟩ ⟨rfl, trivial⟩
  refine W_regL (WL_cons rfl rfl (by decide) (OpT_box (r := 101) rfl rfl rfl (fun g101 => (WL_cons rfl rfl (by decide) (OpT_alloc (r := 102) (cs := (ws [0, 0, 0, 0, 0, 0, 0, 0])) rfl (zero_run (by kernel_rfl : (Try.prog.info? 76).bind (·.zero) = some (.agg (ws [0, 0, 0, 0, 0, 0, 0, 0]).toArray))) rfl (fun g102 => (WL_nil (X_then ?_))))))))
  refine W_seq ?_
  refine W.pre (K' := [(0, _), (1, _), (2, _), (4, _)]) (L' := [(0, _), (101, _), (102, _)]) ?_ ⟨rfl, ⟨rfl, ⟨rfl, ⟨rfl, trivial⟩⟩⟩⟩ ⟨rfl, ⟨rfl, ⟨rfl, trivial⟩⟩⟩
  refine W_regL (WL_cons rfl rfl (by decide) (OpT_alloc (r := 103) (cs := (ws (List.replicate 64 0))) rfl (zero_run (by kernel_rfl : (Try.prog.info? 74).bind (·.zero) = some (.agg (ws (List.replicate 64 0)).toArray))) rfl (fun g103 => (WL_nil (X_then ?_)))))
  refine W_seq ?_
  refine W_seq ?_
  refine W.pre (K' := [(0, _), (1, _), (2, _), (4, _), (5, _)]) (L' := [(0, _), (101, _), (102, _), (103, _)]) ?_ ⟨rfl, ⟨rfl, ⟨rfl, ⟨rfl, ⟨rfl, trivial⟩⟩⟩⟩⟩ ⟨rfl, ⟨rfl, ⟨rfl, ⟨rfl, trivial⟩⟩⟩⟩
  refine W_regL (WL_pure rfl rfl (by decide) (Pu_sliceArrHi (b := 16) rfl Try.runUnderlying74 Try.sizeOf73 rfl rfl (by decide) (by decide)) (WL_pure rfl rfl (by decide) (Pu_len (r := 103) rfl Try.runUnderlying118 rfl rfl (fun h hp => blk_rd (size := 1) (m := 16) hp rfl (by rw [List.length_take, List.length_drop, ws_length, List.length_replicate]; decide) (by decide))) (WL_pure rfl rfl (by decide) (Pu_move rfl rfl) (WL_nil (X_then ?_)))))
  refine W_block ?_
  refine W_turn (P' := blk g103 74 (ws (schZ b 0 0))) 103 rfl (fun h hp => hp) ?_
  refine W_loop (α := Nat) (fun x => [(1, v), (2, .pointer (some ⟨g101, 0, none⟩)), (4, .pointer (some ⟨g102, 0, none⟩)), (5, .pointer (some ⟨g103, 0, none⟩)), (22, .int .i64 16), (23, .int .i64 (x : Int))]) (fun x => [(0, F), (101, blk g101 76 (ws s.list)), (102, blk g102 76 (ws [0, 0, 0, 0, 0, 0, 0, 0])), (103, blk g103 74 (ws (schZ b 0 x)))]) (fun x => x ≤ 16) (fun x => 16 - x) (0) (by omega) ⟨rfl, ⟨rfl, ⟨rfl, ⟨rfl, ⟨rfl, ⟨rfl, trivial⟩⟩⟩⟩⟩⟩ ⟨rfl, ⟨rfl, ⟨rfl, ⟨rfl, trivial⟩⟩⟩⟩ (fun x hx => ?_)
  refine W_seq ?_
  refine W.pre (K' := [(1, _), (2, _), (4, _), (5, _), (22, _), (23, _)]) (L' := [(0, _), (101, _), (102, _), (103, _)]) ?_ ⟨rfl, ⟨rfl, ⟨rfl, ⟨rfl, ⟨rfl, ⟨rfl, trivial⟩⟩⟩⟩⟩⟩ ⟨rfl, ⟨rfl, ⟨rfl, ⟨rfl, trivial⟩⟩⟩⟩
  refine W_regL (WL_pure rfl rfl (by decide) (Pu_bin rfl rfl rfl (run_lss _ _ _ _ _ _)) (WL_nil (X_then ?_)))
  refine W_seq ?_
  refine W_cond rfl (fun hc24 => ?_) (fun hc24 => ?_)
  ·
    have hlt : x < 16 := by have := of_decide_eq_true hc24; omega
    refine W_skip (X_then ?_)
    refine W_seq ?_
    refine W_block ?_
    refine W_seq ?_
    refine W.pre (K' := [(1, _), (2, _), (4, _), (5, _), (22, _), (23, _), (24, _)]) (L' := [(0, _), (101, _), (102, _), (103, _)]) ?_ ⟨rfl, ⟨rfl, ⟨rfl, ⟨rfl, ⟨rfl, ⟨rfl, ⟨rfl, trivial⟩⟩⟩⟩⟩⟩⟩ ⟨rfl, ⟨rfl, ⟨rfl, ⟨rfl, trivial⟩⟩⟩⟩
    refine W_regL (WL_pure rfl rfl (by decide) (Pu_move rfl rfl) (WL_pure rfl rfl (by decide) (Pu_assign rfl rfl) (WL_nil (X_then ?_))))
    refine W.pre (K' := [(1, _), (2, _), (4, _), (5, _), (6, _), (22, _), (23, _), (24, _)]) (L' := [(0, _), (101, _), (102, _), (103, _)]) ?_ ⟨rfl, ⟨rfl, ⟨rfl, ⟨rfl, ⟨rfl, ⟨rfl, ⟨rfl, ⟨rfl, trivial⟩⟩⟩⟩⟩⟩⟩⟩ ⟨rfl, ⟨rfl, ⟨rfl, ⟨rfl, trivial⟩⟩⟩⟩
    refine W_draw (N := 36) (by kernel_rfl) rfl [(0, _), (101, _), (102, _)] ⟨rfl, ⟨rfl, ⟨rfl, trivial⟩⟩⟩ ?_
    refine (AH_take 0 rfl (by kernel_rfl) (by kernel_rfl) (by kernel_rfl) rfl rfl (by decide) (Pu_move rfl rfl) (AH_take 1 rfl (by kernel_rfl) (by kernel_rfl) (by kernel_rfl) rfl rfl (by decide) (Pu_move rfl rfl) (AH_take 2 rfl (by kernel_rfl) (by kernel_rfl) (by kernel_rfl) rfl rfl (by decide) (Pu_move rfl rfl) (AH_take 3 rfl (by kernel_rfl) (by kernel_rfl) (by kernel_rfl) rfl rfl (by decide) (Pu_bin rfl rfl rfl (run_mul _ _ _ _ _ (by omega))) (AH_take 4 rfl (by kernel_rfl) (by kernel_rfl) (by kernel_rfl) rfl rfl (by decide) (Pu_idxS1 (r := 0) rfl Try.runUnderlying30 Try.sizeOf5 rfl rfl rfl hF (by omega)) (AH_take 5 rfl (by kernel_rfl) (by kernel_rfl) (by kernel_rfl) rfl rfl (by decide) (Pu_loadS (r := 0) rfl Try.isAgg5 rfl rfl hF (bs_atZ0 (k := 4 * x) (by omega) (by omega))) (AH_take 6 rfl (by kernel_rfl) (by kernel_rfl) (by kernel_rfl) rfl rfl (by decide) (Pu_conv rfl rfl (conv_u8W _ Try.runUnderlying5 Try.runUnderlying73)) (AH_take 7 rfl (by kernel_rfl) (by kernel_rfl) (by kernel_rfl) rfl rfl (by decide) (Pu_bin rfl rfl rfl (run_shlW _ (24) (by decide) _ _ _)) (AH_take 8 rfl (by kernel_rfl) (by kernel_rfl) (by kernel_rfl) rfl rfl (by decide) (Pu_move rfl rfl) (AH_take 9 rfl (by kernel_rfl) (by kernel_rfl) (by kernel_rfl) rfl rfl (by decide) (Pu_move rfl rfl) (AH_take 10 rfl (by kernel_rfl) (by kernel_rfl) (by kernel_rfl) rfl rfl (by decide) (Pu_bin rfl rfl rfl (run_mul _ _ _ _ _ (by omega))) (AH_take 11 rfl (by kernel_rfl) (by kernel_rfl) (by kernel_rfl) rfl rfl (by decide) (Pu_bin rfl rfl rfl (run_add _ _ _ _ _ (by omega))) (AH_take 12 rfl (by kernel_rfl) (by kernel_rfl) (by kernel_rfl) rfl rfl (by decide) (Pu_idxS1 (r := 0) rfl Try.runUnderlying30 Try.sizeOf5 rfl rfl rfl hF (by omega)) (AH_take 13 rfl (by kernel_rfl) (by kernel_rfl) (by kernel_rfl) rfl rfl (by decide) (Pu_loadS (r := 0) rfl Try.isAgg5 rfl rfl hF (bs_atZ0 (k := 4 * x + 1) (by omega) (by omega))) (AH_take 14 rfl (by kernel_rfl) (by kernel_rfl) (by kernel_rfl) rfl rfl (by decide) (Pu_conv rfl rfl (conv_u8W _ Try.runUnderlying5 Try.runUnderlying73)) (AH_take 15 rfl (by kernel_rfl) (by kernel_rfl) (by kernel_rfl) rfl rfl (by decide) (Pu_bin rfl rfl rfl (run_shlW _ (16) (by decide) _ _ _)) (AH_take 16 rfl (by kernel_rfl) (by kernel_rfl) (by kernel_rfl) rfl rfl (by decide) (Pu_bin rfl rfl rfl (run_orW _ _ _ _ _)) (AH_take 17 rfl (by kernel_rfl) (by kernel_rfl) (by kernel_rfl) rfl rfl (by decide) (Pu_move rfl rfl) (AH_take 18 rfl (by kernel_rfl) (by kernel_rfl) (by kernel_rfl) rfl rfl (by decide) (Pu_move rfl rfl) (AH_take 19 rfl (by kernel_rfl) (by kernel_rfl) (by kernel_rfl) rfl rfl (by decide) (Pu_bin rfl rfl rfl (run_mul _ _ _ _ _ (by omega))) (AH_take 20 rfl (by kernel_rfl) (by kernel_rfl) (by kernel_rfl) rfl rfl (by decide) (Pu_bin rfl rfl rfl (run_add _ _ _ _ _ (by omega))) (AH_take 21 rfl (by kernel_rfl) (by kernel_rfl) (by kernel_rfl) rfl rfl (by decide) (Pu_idxS1 (r := 0) rfl Try.runUnderlying30 Try.sizeOf5 rfl rfl rfl hF (by omega)) (AH_take 22 rfl (by kernel_rfl) (by kernel_rfl) (by kernel_rfl) rfl rfl (by decide) (Pu_loadS (r := 0) rfl Try.isAgg5 rfl rfl hF (bs_atZ0 (k := 4 * x + 2) (by omega) (by omega))) (AH_take 23 rfl (by kernel_rfl) (by kernel_rfl) (by kernel_rfl) rfl rfl (by decide) (Pu_conv rfl rfl (conv_u8W _ Try.runUnderlying5 Try.runUnderlying73)) (AH_take 24 rfl (by kernel_rfl) (by kernel_rfl) (by kernel_rfl) rfl rfl (by decide) (Pu_bin rfl rfl rfl (run_shlW _ (8) (by decide) _ _ _)) (AH_take 25 rfl (by kernel_rfl) (by kernel_rfl) (by kernel_rfl) rfl rfl (by decide) (Pu_bin rfl rfl rfl (run_orW _ _ _ _ _)) (AH_take 26 rfl (by kernel_rfl) (by kernel_rfl) (by kernel_rfl) rfl rfl (by decide) (Pu_move rfl rfl) (AH_take 27 rfl (by kernel_rfl) (by kernel_rfl) (by kernel_rfl) rfl rfl (by decide) (Pu_move rfl rfl) (AH_take 28 rfl (by kernel_rfl) (by kernel_rfl) (by kernel_rfl) rfl rfl (by decide) (Pu_bin rfl rfl rfl (run_mul _ _ _ _ _ (by omega))) (AH_take 29 rfl (by kernel_rfl) (by kernel_rfl) (by kernel_rfl) rfl rfl (by decide) (Pu_bin rfl rfl rfl (run_add _ _ _ _ _ (by omega))) (AH_take 30 rfl (by kernel_rfl) (by kernel_rfl) (by kernel_rfl) rfl rfl (by decide) (Pu_idxS1 (r := 0) rfl Try.runUnderlying30 Try.sizeOf5 rfl rfl rfl hF (by omega)) (AH_take 31 rfl (by kernel_rfl) (by kernel_rfl) (by kernel_rfl) rfl rfl (by decide) (Pu_loadS (r := 0) rfl Try.isAgg5 rfl rfl hF (bs_atZ0 (k := 4 * x + 3) (by omega) (by omega))) (AH_take 32 rfl (by kernel_rfl) (by kernel_rfl) (by kernel_rfl) rfl rfl (by decide) (Pu_conv rfl rfl (conv_u8W _ Try.runUnderlying5 Try.runUnderlying73)) (AH_take 33 rfl (by kernel_rfl) (by kernel_rfl) (by kernel_rfl) rfl rfl (by decide) (Pu_bin rfl rfl rfl (run_orW _ _ _ _ _)) (AH_take 34 rfl (by kernel_rfl) (by kernel_rfl) (by kernel_rfl) rfl rfl (by decide) (Pu_idxA rfl Try.runUnderlying74 Try.sizeOf73 rfl rfl (by omega)) (AH_ready [35] (by kernel_rfl) (by decide) ?_))))))))))))))))))))))))))))))))))))
    refine AHs_cons0 rfl rfl rfl (OpT_storeB1 (r := 103) rfl Try.sizeOf73 rfl rfl rfl rfl (by rw [ws_length, schZ_length (by omega)]; omega) (ws_set _ _ _) ?_) ?_
    ·
      refine ⟨⟨rfl, ⟨rfl, ⟨rfl, trivial⟩⟩⟩, ?_⟩
      refine (AH_done (by kernel_rfl) (X_block (X_then ?_)))
      refine W.pre (K' := [(1, _), (2, _), (4, _), (5, _), (6, _), (22, _), (23, _), (24, _)]) (L' := [(0, _), (101, _), (102, _), (103, _)]) ?_ ⟨rfl, ⟨rfl, ⟨rfl, ⟨rfl, ⟨rfl, ⟨rfl, ⟨rfl, ⟨rfl, trivial⟩⟩⟩⟩⟩⟩⟩⟩ ⟨rfl, ⟨rfl, ⟨rfl, ⟨rfl, trivial⟩⟩⟩⟩
      refine W_regL (WL_pure rfl rfl (by decide) (Pu_bin rfl rfl rfl (run_add _ _ _ _ _ (by omega))) (WL_pure rfl rfl (by decide) (Pu_move rfl rfl) (WL_nil ?_)))
      refine X_turn (P' := blk g103 74 (ws (schZ b 0 (x + 1)))) 103 rfl (fun h hp => by rw [← schZ_set (t := x) (z := (x : Int)) (w := word b (4 * x)) (by omega) (by omega) (by rw [if_pos hlt, Nat.zero_add])]; exact hp) ?_
      exact X_round (x + 1) (by omega) (by omega) ⟨rfl, rfl, rfl, rfl, rfl, rfl, trivial⟩ ⟨rfl, rfl, rfl, rfl, trivial⟩
    exact AHs_nil
  ·
    obtain rfl : x = 16 := by have := of_decide_eq_false hc24; omega
    refine W_exit (X_then_exit (X_then_exit (X_block_exit (X_then ?_))))
    refine W_seq ?_
    refine W_seq ?_
    refine W.pre (K' := [(1, _), (2, _), (4, _), (5, _), (22, _), (23, _), (24, _)]) (L' := [(0, _), (101, _), (102, _), (103, _)]) ?_ ⟨rfl, ⟨rfl, ⟨rfl, ⟨rfl, ⟨rfl, ⟨rfl, ⟨rfl, trivial⟩⟩⟩⟩⟩⟩⟩ ⟨rfl, ⟨rfl, ⟨rfl, ⟨rfl, trivial⟩⟩⟩⟩
    refine W_regL (WL_pure rfl rfl (by decide) (Pu_assign rfl rfl) (WL_nil (X_then ?_)))
    refine W_block ?_
    refine W_loop (α := Nat) (fun x => [(1, v), (2, .pointer (some ⟨g101, 0, none⟩)), (4, .pointer (some ⟨g102, 0, none⟩)), (5, .pointer (some ⟨g103, 0, none⟩)), (7, .int .i64 (x : Int))]) (fun x => [(0, F), (101, blk g101 76 (ws s.list)), (102, blk g102 76 (ws [0, 0, 0, 0, 0, 0, 0, 0])), (103, blk g103 74 (ws (schZ b 0 x)))]) (fun x => 16 ≤ x ∧ x ≤ 64) (fun x => 64 - x) (16) (by omega) ⟨rfl, ⟨rfl, ⟨rfl, ⟨rfl, ⟨rfl, trivial⟩⟩⟩⟩⟩ ⟨rfl, ⟨rfl, ⟨rfl, ⟨rfl, trivial⟩⟩⟩⟩ (fun x hx => ?_)
    obtain ⟨h16, h64⟩ := hx
    have hzl := schZ_length (b := b) (p := 0) h64
    refine W_seq ?_
    refine W_seq ?_
    refine W.pre (K' := [(1, _), (2, _), (4, _), (5, _), (7, _)]) (L' := [(0, _), (101, _), (102, _), (103, _)]) ?_ ⟨rfl, ⟨rfl, ⟨rfl, ⟨rfl, ⟨rfl, trivial⟩⟩⟩⟩⟩ ⟨rfl, ⟨rfl, ⟨rfl, ⟨rfl, trivial⟩⟩⟩⟩
    refine W_regL (WL_pure rfl rfl (by decide) (Pu_move rfl rfl) (WL_pure rfl rfl (by decide) (Pu_bin rfl rfl rfl (run_lss _ _ _ _ _ _)) (WL_nil (X_then ?_))))
    refine W_cond rfl (fun hc63 => ?_) (fun hc63 => ?_)
    ·
      have hlt : x < 64 := by have := of_decide_eq_true hc63; omega
      refine W_skip (X_then ?_)
      refine W_seq ?_
      refine W_block ?_
      refine W.pre (K' := [(1, _), (2, _), (4, _), (5, _), (7, _), (63, _)]) (L' := [(0, _), (101, _), (102, _), (103, _)]) ?_ ⟨rfl, ⟨rfl, ⟨rfl, ⟨rfl, ⟨rfl, ⟨rfl, trivial⟩⟩⟩⟩⟩⟩ ⟨rfl, ⟨rfl, ⟨rfl, ⟨rfl, trivial⟩⟩⟩⟩
      refine W_drawI (N := 24) (by kernel_rfl) rfl [(0, _), (101, _), (102, _), (103, frontW g103 74 (schZ b 0 x) x)] ⟨⟨_, rfl, fun h hp => hp⟩, ⟨⟨_, rfl, fun h hp => hp⟩, ⟨⟨_, rfl, fun h hp => hp⟩, ⟨⟨_, rfl, by first | exact front_a (by omega) | exact front_b (by omega) (by omega)⟩, trivial⟩⟩⟩⟩ ?_
      refine (AH_take 0 rfl (by kernel_rfl) (by kernel_rfl) (by kernel_rfl) rfl rfl (by decide) (Pu_move rfl rfl) (AH_take 1 rfl (by kernel_rfl) (by kernel_rfl) (by kernel_rfl) rfl rfl (by decide) (Pu_move rfl rfl) (AH_take 2 rfl (by kernel_rfl) (by kernel_rfl) (by kernel_rfl) rfl rfl (by decide) (Pu_bin rfl rfl rfl (run_sub _ _ _ _ _ (by omega))) (AH_take 3 rfl (by kernel_rfl) (by kernel_rfl) (by kernel_rfl) rfl rfl (by decide) (Pu_idxA rfl Try.runUnderlying74 Try.sizeOf73 rfl rfl (by omega)) (AH_take 4 rfl (by kernel_rfl) (by kernel_rfl) (by kernel_rfl) rfl rfl (by decide) (Pu_load1 (r := 103) rfl Try.isAgg73 rfl rfl (fun h hp => front_get hp (k := x - 2) (by omega) (by omega))) (AH_take 6 rfl (by kernel_rfl) (by kernel_rfl) (by kernel_rfl) rfl rfl (by decide) (Pu_move rfl rfl) (AH_take 7 rfl (by kernel_rfl) (by kernel_rfl) (by kernel_rfl) rfl rfl (by decide) (Pu_bin rfl rfl rfl (run_sub _ _ _ _ _ (by omega))) (AH_take 8 rfl (by kernel_rfl) (by kernel_rfl) (by kernel_rfl) rfl rfl (by decide) (Pu_idxA rfl Try.runUnderlying74 Try.sizeOf73 rfl rfl (by omega)) (AH_take 9 rfl (by kernel_rfl) (by kernel_rfl) (by kernel_rfl) rfl rfl (by decide) (Pu_load1 (r := 103) rfl Try.isAgg73 rfl rfl (fun h hp => front_get hp (k := x - 7) (by omega) (by omega))) (AH_take 11 rfl (by kernel_rfl) (by kernel_rfl) (by kernel_rfl) rfl rfl (by decide) (Pu_move rfl rfl) (AH_take 12 rfl (by kernel_rfl) (by kernel_rfl) (by kernel_rfl) rfl rfl (by decide) (Pu_bin rfl rfl rfl (run_sub _ _ _ _ _ (by omega))) (AH_take 13 rfl (by kernel_rfl) (by kernel_rfl) (by kernel_rfl) rfl rfl (by decide) (Pu_idxA rfl Try.runUnderlying74 Try.sizeOf73 rfl rfl (by omega)) (AH_take 14 rfl (by kernel_rfl) (by kernel_rfl) (by kernel_rfl) rfl rfl (by decide) (Pu_load1 (r := 103) rfl Try.isAgg73 rfl rfl (fun h hp => front_get hp (k := x - 15) (by omega) (by omega))) (AH_take 17 rfl (by kernel_rfl) (by kernel_rfl) (by kernel_rfl) rfl rfl (by decide) (Pu_move rfl rfl) (AH_take 18 rfl (by kernel_rfl) (by kernel_rfl) (by kernel_rfl) rfl rfl (by decide) (Pu_bin rfl rfl rfl (run_sub _ _ _ _ _ (by omega))) (AH_take 19 rfl (by kernel_rfl) (by kernel_rfl) (by kernel_rfl) rfl rfl (by decide) (Pu_idxA rfl Try.runUnderlying74 Try.sizeOf73 rfl rfl (by omega)) (AH_take 20 rfl (by kernel_rfl) (by kernel_rfl) (by kernel_rfl) rfl rfl (by decide) (Pu_load1 (r := 103) rfl Try.isAgg73 rfl rfl (fun h hp => front_get hp (k := x - 16) (by omega) (by omega))) (AH_ready [5] (by kernel_rfl) (by decide) ?_))))))))))))))))))
      refine AHs_consI rfl rfl rfl (by decide) (OpT_call 200 [0, 101, 102, 103] [] rfl Try.call74 rfl rfl rfl (by decide) (by decide) (small1_spec _ _) (fun v71 Ps71 hR71 => ?_)) ?_
      ·
        obtain ⟨rfl, rfl⟩ := hR71
        refine ⟨⟨⟨_, rfl, fun h hp => hp⟩, ⟨⟨_, rfl, fun h hp => hp⟩, ⟨⟨_, rfl, fun h hp => hp⟩, ⟨⟨_, rfl, by first | exact front_a (by omega) | exact front_b (by omega) (by omega)⟩, trivial⟩⟩⟩⟩, ?_⟩
        refine (AH_take 10 rfl (by kernel_rfl) (by kernel_rfl) (by kernel_rfl) rfl rfl (by decide) (Pu_bin rfl rfl rfl (run_addW _ _ _ _ _)) (AH_ready [15] (by kernel_rfl) (by decide) ?_))
        refine AHs_consI rfl rfl rfl (by decide) (OpT_call 300 [0, 101, 102, 103] [] rfl Try.call75 rfl rfl rfl (by decide) (by decide) (small0_spec _ _) (fun v81 Ps81 hR81 => ?_)) ?_
        ·
          obtain ⟨rfl, rfl⟩ := hR81
          refine ⟨⟨⟨_, rfl, fun h hp => hp⟩, ⟨⟨_, rfl, fun h hp => hp⟩, ⟨⟨_, rfl, fun h hp => hp⟩, ⟨⟨_, rfl, by first | exact front_a (by omega) | exact front_b (by omega) (by omega)⟩, trivial⟩⟩⟩⟩, ?_⟩
          refine (AH_take 16 rfl (by kernel_rfl) (by kernel_rfl) (by kernel_rfl) rfl rfl (by decide) (Pu_bin rfl rfl rfl (run_addW _ _ _ _ _)) (AH_take 21 rfl (by kernel_rfl) (by kernel_rfl) (by kernel_rfl) rfl rfl (by decide) (Pu_bin rfl rfl rfl (run_addW _ _ _ _ _)) (AH_take 22 rfl (by kernel_rfl) (by kernel_rfl) (by kernel_rfl) rfl rfl (by decide) (Pu_idxA rfl Try.runUnderlying74 Try.sizeOf73 rfl rfl (by omega)) (AH_ready [23] (by kernel_rfl) (by decide) ?_))))
          refine AHs_cons0I rfl rfl rfl (OpT_storeB1 (r := 103) rfl Try.sizeOf73 rfl rfl rfl rfl (by rw [ws_length, hzl]; omega) (ws_set _ _ _) ?_) ?_
          ·
            refine ⟨⟨⟨_, rfl, fun h hp => hp⟩, ⟨⟨_, rfl, fun h hp => hp⟩, ⟨⟨_, rfl, fun h hp => hp⟩, ⟨⟨_, rfl, by first | exact front_a (by omega) | exact front_b (by omega) (by omega)⟩, trivial⟩⟩⟩⟩, ?_⟩
            refine (AH_done (by kernel_rfl) (X_block (X_then ?_)))
            refine W.pre (K' := [(1, _), (2, _), (4, _), (5, _), (7, _), (63, _)]) (L' := [(0, _), (101, _), (102, _), (103, _)]) ?_ ⟨rfl, ⟨rfl, ⟨rfl, ⟨rfl, ⟨rfl, ⟨rfl, trivial⟩⟩⟩⟩⟩⟩ ⟨rfl, ⟨rfl, ⟨rfl, ⟨rfl, trivial⟩⟩⟩⟩
            refine W_regL (WL_pure rfl rfl (by decide) (Pu_move rfl rfl) (WL_pure rfl rfl (by decide) (Pu_bin rfl rfl rfl (run_add _ _ _ _ _ (by omega))) (WL_pure rfl rfl (by decide) (Pu_assign rfl rfl) (WL_nil ?_))))
            refine X_turn (P' := blk g103 74 (ws (schZ b 0 (x + 1)))) 103 rfl (fun h hp => by rw [← schZ_set (t := x) (z := (x : Int)) (by omega) (by omega) (schZ_next h16)]; exact hp) ?_
            exact X_round (x + 1) (by omega) (by omega) ⟨rfl, rfl, rfl, rfl, rfl, trivial⟩ ⟨rfl, rfl, rfl, rfl, trivial⟩
          exact AHs_nil
        exact AHs_nil
      exact AHs_nil
    ·
      obtain rfl : x = 64 := by have := of_decide_eq_false hc63; omega
      rw [schZ_full]
      refine W_exit (X_then_exit (X_then_exit (X_block_exit (X_then ?_))))
      refine W_seq ?_
      refine W.pre (K' := [(1, _), (2, _), (4, _), (5, _), (7, _), (63, _)]) (L' := [(0, _), (101, _), (102, _), (103, _)]) ?_ ⟨rfl, ⟨rfl, ⟨rfl, ⟨rfl, ⟨rfl, ⟨rfl, trivial⟩⟩⟩⟩⟩⟩ ⟨rfl, ⟨rfl, ⟨rfl, ⟨rfl, trivial⟩⟩⟩⟩
      refine W_regL (WL_cons rfl rfl (by decide) (OpT_call 200 [0, 101, 102, 103] [] rfl Try.call76 rfl rfl rfl (by decide) (by decide) (consts_spec _) (fun v89 Ps89 hR89 => ?_)))
      obtain ⟨rfl, rfl⟩ := hR89
      refine (WL_cons rfl rfl (by decide) (OpT_alloc (r := 201) (cs := (ws (List.replicate 64 0))) rfl (zero_run (by kernel_rfl : (Try.prog.info? 74).bind (·.zero) = some (.agg (ws (List.replicate 64 0)).toArray))) rfl (fun g201 => (WL_cons0 rfl rfl (OpT_storeAll (r := 201) rfl Try.sizeOf74 rfl rfl rfl rfl rfl (ws_one _) ?_)))))
      refine (WL_nil (X_then ?_))
      refine W_seq ?_
      refine W.pre (K' := [(1, _), (2, _), (4, _), (5, _), (7, _), (8, _), (63, _)]) (L' := [(0, _), (101, _), (102, _), (103, _), (201, _)]) ?_ ⟨rfl, ⟨rfl, ⟨rfl, ⟨rfl, ⟨rfl, ⟨rfl, ⟨rfl, trivial⟩⟩⟩⟩⟩⟩⟩ ⟨rfl, ⟨rfl, ⟨rfl, ⟨rfl, ⟨rfl, trivial⟩⟩⟩⟩⟩
      refine W_draw (N := 24) (by kernel_rfl) rfl [(0, _), (101, _), (102, _), (103, _), (201, _)] ⟨rfl, ⟨rfl, ⟨rfl, ⟨rfl, ⟨rfl, trivial⟩⟩⟩⟩⟩ ?_
      refine (AH_take 0 rfl (by kernel_rfl) (by kernel_rfl) (by kernel_rfl) rfl rfl (by decide) (Pu_idxA rfl Try.runUnderlying76 Try.sizeOf73 rfl rfl (by omega)) (AH_take 1 rfl (by kernel_rfl) (by kernel_rfl) (by kernel_rfl) rfl rfl (by decide) (Pu_loadB (r := 101) rfl Try.isAgg73 rfl rfl rfl) (AH_take 2 rfl (by kernel_rfl) (by kernel_rfl) (by kernel_rfl) rfl rfl (by decide) (Pu_idxA rfl Try.runUnderlying76 Try.sizeOf73 rfl rfl (by omega)) (AH_take 3 rfl (by kernel_rfl) (by kernel_rfl) (by kernel_rfl) rfl rfl (by decide) (Pu_loadB (r := 101) rfl Try.isAgg73 rfl rfl rfl) (AH_take 4 rfl (by kernel_rfl) (by kernel_rfl) (by kernel_rfl) rfl rfl (by decide) (Pu_idxA rfl Try.runUnderlying76 Try.sizeOf73 rfl rfl (by omega)) (AH_take 5 rfl (by kernel_rfl) (by kernel_rfl) (by kernel_rfl) rfl rfl (by decide) (Pu_loadB (r := 101) rfl Try.isAgg73 rfl rfl rfl) (AH_take 6 rfl (by kernel_rfl) (by kernel_rfl) (by kernel_rfl) rfl rfl (by decide) (Pu_idxA rfl Try.runUnderlying76 Try.sizeOf73 rfl rfl (by omega)) (AH_take 7 rfl (by kernel_rfl) (by kernel_rfl) (by kernel_rfl) rfl rfl (by decide) (Pu_loadB (r := 101) rfl Try.isAgg73 rfl rfl rfl) (AH_take 8 rfl (by kernel_rfl) (by kernel_rfl) (by kernel_rfl) rfl rfl (by decide) (Pu_idxA rfl Try.runUnderlying76 Try.sizeOf73 rfl rfl (by omega)) (AH_take 9 rfl (by kernel_rfl) (by kernel_rfl) (by kernel_rfl) rfl rfl (by decide) (Pu_loadB (r := 101) rfl Try.isAgg73 rfl rfl rfl) (AH_take 10 rfl (by kernel_rfl) (by kernel_rfl) (by kernel_rfl) rfl rfl (by decide) (Pu_idxA rfl Try.runUnderlying76 Try.sizeOf73 rfl rfl (by omega)) (AH_take 11 rfl (by kernel_rfl) (by kernel_rfl) (by kernel_rfl) rfl rfl (by decide) (Pu_loadB (r := 101) rfl Try.isAgg73 rfl rfl rfl) (AH_take 12 rfl (by kernel_rfl) (by kernel_rfl) (by kernel_rfl) rfl rfl (by decide) (Pu_idxA rfl Try.runUnderlying76 Try.sizeOf73 rfl rfl (by omega)) (AH_take 13 rfl (by kernel_rfl) (by kernel_rfl) (by kernel_rfl) rfl rfl (by decide) (Pu_loadB (r := 101) rfl Try.isAgg73 rfl rfl rfl) (AH_take 14 rfl (by kernel_rfl) (by kernel_rfl) (by kernel_rfl) rfl rfl (by decide) (Pu_idxA rfl Try.runUnderlying76 Try.sizeOf73 rfl rfl (by omega)) (AH_take 15 rfl (by kernel_rfl) (by kernel_rfl) (by kernel_rfl) rfl rfl (by decide) (Pu_loadB (r := 101) rfl Try.isAgg73 rfl rfl rfl) (AH_take 16 rfl (by kernel_rfl) (by kernel_rfl) (by kernel_rfl) rfl rfl (by decide) (Pu_assign rfl rfl) (AH_take 17 rfl (by kernel_rfl) (by kernel_rfl) (by kernel_rfl) rfl rfl (by decide) (Pu_assign rfl rfl) (AH_take 18 rfl (by kernel_rfl) (by kernel_rfl) (by kernel_rfl) rfl rfl (by decide) (Pu_assign rfl rfl) (AH_take 19 rfl (by kernel_rfl) (by kernel_rfl) (by kernel_rfl) rfl rfl (by decide) (Pu_assign rfl rfl) (AH_take 20 rfl (by kernel_rfl) (by kernel_rfl) (by kernel_rfl) rfl rfl (by decide) (Pu_assign rfl rfl) (AH_take 21 rfl (by kernel_rfl) (by kernel_rfl) (by kernel_rfl) rfl rfl (by decide) (Pu_assign rfl rfl) (AH_take 22 rfl (by kernel_rfl) (by kernel_rfl) (by kernel_rfl) rfl rfl (by decide) (Pu_assign rfl rfl) (AH_take 23 rfl (by kernel_rfl) (by kernel_rfl) (by kernel_rfl) rfl rfl (by decide) (Pu_assign rfl rfl) (AH_done (by kernel_rfl) (X_then ?_))))))))))))))))))))))))))
      refine W_seq ?_
      refine W_seq ?_
      refine W.pre (K' := [(1, _), (2, _), (4, _), (5, _), (7, _), (8, _), (9, _), (10, _), (11, _), (12, _), (13, _), (14, _), (15, _), (16, _), (63, _)]) (L' := [(0, _), (101, _), (102, _), (103, _), (201, _)]) ?_ ⟨rfl, ⟨rfl, ⟨rfl, ⟨rfl, ⟨rfl, ⟨rfl, ⟨rfl, ⟨rfl, ⟨rfl, ⟨rfl, ⟨rfl, ⟨rfl, ⟨rfl, ⟨rfl, ⟨rfl, trivial⟩⟩⟩⟩⟩⟩⟩⟩⟩⟩⟩⟩⟩⟩⟩ ⟨rfl, ⟨rfl, ⟨rfl, ⟨rfl, ⟨rfl, trivial⟩⟩⟩⟩⟩
      refine W_regL (WL_pure rfl rfl (by decide) (Pu_loadBN (r := 103) rfl Try.isAgg74 Try.sizeOf74 rfl rfl ((ws_length _).trans (sch_length b 0 64)) (load_all ((ws_length _).trans (sch_length b 0 64)))) (WL_pure rfl rfl (by decide) (Pu_move rfl rfl) (WL_nil (X_then ?_))))
      refine W_block ?_
      refine W_loop (α := Nat) (fun x => [(2, .pointer (some ⟨g101, 0, none⟩)), (4, .pointer (some ⟨g102, 0, none⟩)), (8, .pointer (some ⟨g201, 0, none⟩)), (9, wv (rnds (sch b 0 64) s x).a), (10, wv (rnds (sch b 0 64) s x).b), (11, wv (rnds (sch b 0 64) s x).c), (12, wv (rnds (sch b 0 64) s x).d), (13, wv (rnds (sch b 0 64) s x).e), (14, wv (rnds (sch b 0 64) s x).f), (15, wv (rnds (sch b 0 64) s x).g), (16, wv (rnds (sch b 0 64) s x).h), (106, .agg (ws (sch b 0 64)).toArray), (107, .int .i64 (x : Int))]) (fun x => [(0, F), (101, blk g101 76 (ws s.list)), (102, blk g102 76 (ws [0, 0, 0, 0, 0, 0, 0, 0])), (201, blk g201 74 (ws KS))]) (fun x => x ≤ 64) (fun x => 64 - x) (0) (by omega) ⟨rfl, ⟨rfl, ⟨rfl, ⟨rfl, ⟨rfl, ⟨rfl, ⟨rfl, ⟨rfl, ⟨rfl, ⟨rfl, ⟨rfl, ⟨rfl, ⟨rfl, trivial⟩⟩⟩⟩⟩⟩⟩⟩⟩⟩⟩⟩⟩ ⟨rfl, ⟨rfl, ⟨rfl, ⟨rfl, trivial⟩⟩⟩⟩ (fun x hx => ?_)
      have hsl := sch_length b 0 64
      refine W_seq ?_
      refine W.pre (K' := [(2, _), (4, _), (8, _), (9, _), (10, _), (11, _), (12, _), (13, _), (14, _), (15, _), (16, _), (106, _), (107, _)]) (L' := [(0, _), (101, _), (102, _), (201, _)]) ?_ ⟨rfl, ⟨rfl, ⟨rfl, ⟨rfl, ⟨rfl, ⟨rfl, ⟨rfl, ⟨rfl, ⟨rfl, ⟨rfl, ⟨rfl, ⟨rfl, ⟨rfl, trivial⟩⟩⟩⟩⟩⟩⟩⟩⟩⟩⟩⟩⟩ ⟨rfl, ⟨rfl, ⟨rfl, ⟨rfl, trivial⟩⟩⟩⟩
      refine W_regL (WL_pure rfl rfl (by decide) (Pu_bin rfl rfl rfl (run_lss _ _ _ _ _ _)) (WL_nil (X_then ?_)))
      refine W_seq ?_
      refine W_cond rfl (fun hc108 => ?_) (fun hc108 => ?_)
      ·
        have hlt : x < 64 := by have := of_decide_eq_true hc108; omega
        refine W_skip (X_then ?_)
        refine W_seq ?_
        refine W_block ?_
        refine W_seq ?_
        refine W.pre (K' := [(2, _), (4, _), (8, _), (9, _), (10, _), (11, _), (12, _), (13, _), (14, _), (15, _), (16, _), (106, _), (107, _), (108, _)]) (L' := [(0, _), (101, _), (102, _), (201, _)]) ?_ ⟨rfl, ⟨rfl, ⟨rfl, ⟨rfl, ⟨rfl, ⟨rfl, ⟨rfl, ⟨rfl, ⟨rfl, ⟨rfl, ⟨rfl, ⟨rfl, ⟨rfl, ⟨rfl, trivial⟩⟩⟩⟩⟩⟩⟩⟩⟩⟩⟩⟩⟩⟩ ⟨rfl, ⟨rfl, ⟨rfl, ⟨rfl, trivial⟩⟩⟩⟩
        refine W_regL (WL_pure rfl rfl (by decide) (Pu_move rfl rfl) (WL_pure rfl rfl (by decide) (Pu_index rfl Try.runUnderlying74 Try.sizeOf73 Try.isAgg73 rfl rfl (by omega) (ws_atI (k := x) (by omega) (by omega))) (WL_pure rfl rfl (by decide) (Pu_assign rfl rfl) (WL_pure rfl rfl (by decide) (Pu_assign rfl rfl) (WL_nil (X_then ?_))))))
        refine W_seq ?_
        refine W.pre (K' := [(2, _), (4, _), (8, _), (9, _), (10, _), (11, _), (12, _), (13, _), (14, _), (15, _), (16, _), (17, _), (18, _), (106, _), (107, _), (108, _)]) (L' := [(0, _), (101, _), (102, _), (201, _)]) ?_ ⟨rfl, ⟨rfl, ⟨rfl, ⟨rfl, ⟨rfl, ⟨rfl, ⟨rfl, ⟨rfl, ⟨rfl, ⟨rfl, ⟨rfl, ⟨rfl, ⟨rfl, ⟨rfl, ⟨rfl, ⟨rfl, trivial⟩⟩⟩⟩⟩⟩⟩⟩⟩⟩⟩⟩⟩⟩⟩⟩ ⟨rfl, ⟨rfl, ⟨rfl, ⟨rfl, trivial⟩⟩⟩⟩
        refine W_draw (N := 20) (by kernel_rfl) rfl [(0, _), (101, _), (102, _), (201, _)] ⟨rfl, ⟨rfl, ⟨rfl, ⟨rfl, trivial⟩⟩⟩⟩ ?_
        refine (AH_take 0 rfl (by kernel_rfl) (by kernel_rfl) (by kernel_rfl) rfl rfl (by decide) (Pu_move rfl rfl) (AH_take 1 rfl (by kernel_rfl) (by kernel_rfl) (by kernel_rfl) rfl rfl (by decide) (Pu_move rfl rfl) (AH_take 4 rfl (by kernel_rfl) (by kernel_rfl) (by kernel_rfl) rfl rfl (by decide) (Pu_move rfl rfl) (AH_take 5 rfl (by kernel_rfl) (by kernel_rfl) (by kernel_rfl) rfl rfl (by decide) (Pu_move rfl rfl) (AH_take 6 rfl (by kernel_rfl) (by kernel_rfl) (by kernel_rfl) rfl rfl (by decide) (Pu_bin rfl rfl rfl (run_andW _ _ _ _ _)) (AH_take 7 rfl (by kernel_rfl) (by kernel_rfl) (by kernel_rfl) rfl rfl (by decide) (Pu_move rfl rfl) (AH_take 8 rfl (by kernel_rfl) (by kernel_rfl) (by kernel_rfl) rfl rfl (by decide) (Pu_un rfl rfl (run_notW _)) (AH_take 9 rfl (by kernel_rfl) (by kernel_rfl) (by kernel_rfl) rfl rfl (by decide) (Pu_move rfl rfl) (AH_take 10 rfl (by kernel_rfl) (by kernel_rfl) (by kernel_rfl) rfl rfl (by decide) (Pu_bin rfl rfl rfl (run_andW _ _ _ _ _)) (AH_take 11 rfl (by kernel_rfl) (by kernel_rfl) (by kernel_rfl) rfl rfl (by decide) (Pu_bin rfl rfl rfl (run_xorW _ _ _ _ _)) (AH_take 13 rfl (by kernel_rfl) (by kernel_rfl) (by kernel_rfl) rfl rfl (by decide) (Pu_move rfl rfl) (AH_take 14 rfl (by kernel_rfl) (by kernel_rfl) (by kernel_rfl) rfl rfl (by decide) (Pu_idxA rfl Try.runUnderlying74 Try.sizeOf73 rfl rfl (by omega)) (AH_take 15 rfl (by kernel_rfl) (by kernel_rfl) (by kernel_rfl) rfl rfl (by decide) (Pu_loadB (r := 201) rfl Try.isAgg73 rfl rfl (ws_at0 (k := x) (by omega) (by rw [KS_length]; omega))) (AH_take 17 rfl (by kernel_rfl) (by kernel_rfl) (by kernel_rfl) rfl rfl (by decide) (Pu_move rfl rfl) (AH_ready [2] (by kernel_rfl) (by decide) ?_)))))))))))))))
        refine AHs_cons rfl rfl rfl (by decide) (OpT_call 300 [0, 101, 102, 201] [] rfl Try.call77 rfl rfl rfl (by decide) (by decide) (great1_spec _ _) (fun v113 Ps113 hR113 => ?_)) ?_
        ·
          obtain ⟨rfl, rfl⟩ := hR113
          refine ⟨⟨rfl, ⟨rfl, ⟨rfl, ⟨rfl, trivial⟩⟩⟩⟩, ?_⟩
          refine (AH_take 3 rfl (by kernel_rfl) (by kernel_rfl) (by kernel_rfl) rfl rfl (by decide) (Pu_bin rfl rfl rfl (run_addW _ _ _ _ _)) (AH_take 12 rfl (by kernel_rfl) (by kernel_rfl) (by kernel_rfl) rfl rfl (by decide) (Pu_bin rfl rfl rfl (run_addW _ _ _ _ _)) (AH_take 16 rfl (by kernel_rfl) (by kernel_rfl) (by kernel_rfl) rfl rfl (by decide) (Pu_bin rfl rfl rfl (run_addW _ _ _ _ _)) (AH_take 18 rfl (by kernel_rfl) (by kernel_rfl) (by kernel_rfl) rfl rfl (by decide) (Pu_bin rfl rfl rfl (run_addW _ _ _ _ _)) (AH_take 19 rfl (by kernel_rfl) (by kernel_rfl) (by kernel_rfl) rfl rfl (by decide) (Pu_assign rfl rfl) (AH_done (by kernel_rfl) (X_then ?_)))))))
          refine W_seq ?_
          refine W.pre (K' := [(2, _), (4, _), (8, _), (9, _), (10, _), (11, _), (12, _), (13, _), (14, _), (15, _), (16, _), (17, _), (18, _), (19, _), (106, _), (107, _), (108, _)]) (L' := [(0, _), (101, _), (102, _), (201, _)]) ?_ ⟨rfl, ⟨rfl, ⟨rfl, ⟨rfl, ⟨rfl, ⟨rfl, ⟨rfl, ⟨rfl, ⟨rfl, ⟨rfl, ⟨rfl, ⟨rfl, ⟨rfl, ⟨rfl, ⟨rfl, ⟨rfl, ⟨rfl, trivial⟩⟩⟩⟩⟩⟩⟩⟩⟩⟩⟩⟩⟩⟩⟩⟩⟩ ⟨rfl, ⟨rfl, ⟨rfl, ⟨rfl, trivial⟩⟩⟩⟩
          refine W_regL (WL_pure rfl rfl (by decide) (Pu_move rfl rfl) (WL_cons rfl rfl (by decide) (OpT_call 400 [0, 101, 102, 201] [] rfl Try.call78 rfl rfl rfl (by decide) (by decide) (great0_spec _ _) (fun v131 Ps131 hR131 => ?_))))
          obtain ⟨rfl, rfl⟩ := hR131
          refine (WL_pure rfl rfl (by decide) (Pu_move rfl rfl) (WL_pure rfl rfl (by decide) (Pu_move rfl rfl) (WL_pure rfl rfl (by decide) (Pu_bin rfl rfl rfl (run_andW _ _ _ _ _)) (WL_pure rfl rfl (by decide) (Pu_move rfl rfl) (WL_pure rfl rfl (by decide) (Pu_move rfl rfl) (WL_pure rfl rfl (by decide) (Pu_bin rfl rfl rfl (run_andW _ _ _ _ _)) (WL_pure rfl rfl (by decide) (Pu_bin rfl rfl rfl (run_xorW _ _ _ _ _)) (WL_pure rfl rfl (by decide) (Pu_move rfl rfl) (WL_pure rfl rfl (by decide) (Pu_move rfl rfl) (WL_pure rfl rfl (by decide) (Pu_bin rfl rfl rfl (run_andW _ _ _ _ _)) (WL_pure rfl rfl (by decide) (Pu_bin rfl rfl rfl (run_xorW _ _ _ _ _)) (WL_pure rfl rfl (by decide) (Pu_bin rfl rfl rfl (run_addW _ _ _ _ _)) (WL_pure rfl rfl (by decide) (Pu_assign rfl rfl) (WL_nil (X_then ?_)))))))))))))))
          refine W_seq ?_
          refine W.pre (K' := [(2, _), (4, _), (8, _), (9, _), (10, _), (11, _), (12, _), (13, _), (14, _), (15, _), (16, _), (17, _), (18, _), (19, _), (20, _), (106, _), (107, _), (108, _)]) (L' := [(0, _), (101, _), (102, _), (201, _)]) ?_ ⟨rfl, ⟨rfl, ⟨rfl, ⟨rfl, ⟨rfl, ⟨rfl, ⟨rfl, ⟨rfl, ⟨rfl, ⟨rfl, ⟨rfl, ⟨rfl, ⟨rfl, ⟨rfl, ⟨rfl, ⟨rfl, ⟨rfl, ⟨rfl, trivial⟩⟩⟩⟩⟩⟩⟩⟩⟩⟩⟩⟩⟩⟩⟩⟩⟩⟩ ⟨rfl, ⟨rfl, ⟨rfl, ⟨rfl, trivial⟩⟩⟩⟩
          refine W_regL (WL_pure rfl rfl (by decide) (Pu_move rfl rfl) (WL_pure rfl rfl (by decide) (Pu_move rfl rfl) (WL_pure rfl rfl (by decide) (Pu_move rfl rfl) (WL_pure rfl rfl (by decide) (Pu_move rfl rfl) (WL_pure rfl rfl (by decide) (Pu_move rfl rfl) (WL_pure rfl rfl (by decide) (Pu_bin rfl rfl rfl (run_addW _ _ _ _ _)) (WL_pure rfl rfl (by decide) (Pu_assign rfl rfl) (WL_pure rfl rfl (by decide) (Pu_assign rfl rfl) (WL_pure rfl rfl (by decide) (Pu_assign rfl rfl) (WL_pure rfl rfl (by decide) (Pu_assign rfl rfl) (WL_nil (X_then ?_))))))))))))
          refine W.pre (K' := [(2, _), (4, _), (8, _), (9, _), (10, _), (11, _), (12, _), (13, _), (14, _), (15, _), (16, _), (17, _), (18, _), (19, _), (20, _), (106, _), (107, _), (108, _)]) (L' := [(0, _), (101, _), (102, _), (201, _)]) ?_ ⟨rfl, ⟨rfl, ⟨rfl, ⟨rfl, ⟨rfl, ⟨rfl, ⟨rfl, ⟨rfl, ⟨rfl, ⟨rfl, ⟨rfl, ⟨rfl, ⟨rfl, ⟨rfl, ⟨rfl, ⟨rfl, ⟨rfl, ⟨rfl, trivial⟩⟩⟩⟩⟩⟩⟩⟩⟩⟩⟩⟩⟩⟩⟩⟩⟩⟩ ⟨rfl, ⟨rfl, ⟨rfl, ⟨rfl, trivial⟩⟩⟩⟩
          refine W_regL (WL_pure rfl rfl (by decide) (Pu_move rfl rfl) (WL_pure rfl rfl (by decide) (Pu_move rfl rfl) (WL_pure rfl rfl (by decide) (Pu_move rfl rfl) (WL_pure rfl rfl (by decide) (Pu_move rfl rfl) (WL_pure rfl rfl (by decide) (Pu_move rfl rfl) (WL_pure rfl rfl (by decide) (Pu_bin rfl rfl rfl (run_addW _ _ _ _ _)) (WL_pure rfl rfl (by decide) (Pu_assign rfl rfl) (WL_pure rfl rfl (by decide) (Pu_assign rfl rfl) (WL_pure rfl rfl (by decide) (Pu_assign rfl rfl) (WL_pure rfl rfl (by decide) (Pu_assign rfl rfl) (WL_nil (X_block (X_then ?_)))))))))))))
          refine W.pre (K' := [(2, _), (4, _), (8, _), (9, _), (10, _), (11, _), (12, _), (13, _), (14, _), (15, _), (16, _), (17, _), (18, _), (19, _), (20, _), (106, _), (107, _), (108, _)]) (L' := [(0, _), (101, _), (102, _), (201, _)]) ?_ ⟨rfl, ⟨rfl, ⟨rfl, ⟨rfl, ⟨rfl, ⟨rfl, ⟨rfl, ⟨rfl, ⟨rfl, ⟨rfl, ⟨rfl, ⟨rfl, ⟨rfl, ⟨rfl, ⟨rfl, ⟨rfl, ⟨rfl, ⟨rfl, trivial⟩⟩⟩⟩⟩⟩⟩⟩⟩⟩⟩⟩⟩⟩⟩⟩⟩⟩ ⟨rfl, ⟨rfl, ⟨rfl, ⟨rfl, trivial⟩⟩⟩⟩
          refine W_regL (WL_pure rfl rfl (by decide) (Pu_bin rfl rfl rfl (run_add _ _ _ _ _ (by omega))) (WL_pure rfl rfl (by decide) (Pu_move rfl rfl) (WL_nil ?_)))
          exact X_round (x + 1) (by omega) (by omega) ⟨rfl, rfl, rfl, rfl, rfl, rfl, rfl, rfl, rfl, rfl, rfl, rfl, rfl, trivial⟩ ⟨rfl, rfl, rfl, rfl, trivial⟩
        exact AHs_nil
      ·
        obtain rfl : x = 64 := by have := of_decide_eq_false hc108; omega
        obtain ⟨r, hr⟩ : ∃ r, rnds (sch b 0 64) s 64 = r := ⟨_, rfl⟩
        rw [hr]
        refine W_exit (X_then_exit (X_then_exit (X_block_exit (X_then ?_))))
        refine W_seq ?_
        refine W.pre (K' := [(2, _), (4, _), (8, _), (9, _), (10, _), (11, _), (12, _), (13, _), (14, _), (15, _), (16, _), (106, _), (107, _), (108, _)]) (L' := [(0, _), (101, _), (102, _), (201, _)]) ?_ ⟨rfl, ⟨rfl, ⟨rfl, ⟨rfl, ⟨rfl, ⟨rfl, ⟨rfl, ⟨rfl, ⟨rfl, ⟨rfl, ⟨rfl, ⟨rfl, ⟨rfl, ⟨rfl, trivial⟩⟩⟩⟩⟩⟩⟩⟩⟩⟩⟩⟩⟩⟩ ⟨rfl, ⟨rfl, ⟨rfl, ⟨rfl, trivial⟩⟩⟩⟩
        refine W_regL (WL_pure rfl rfl (by decide) (Pu_idxA rfl Try.runUnderlying76 Try.sizeOf73 rfl rfl (by omega)) (WL_pure rfl rfl (by decide) (Pu_loadB (r := 101) rfl Try.isAgg73 rfl rfl rfl) (WL_pure rfl rfl (by decide) (Pu_move rfl rfl) (WL_pure rfl rfl (by decide) (Pu_bin rfl rfl rfl (run_addW _ _ _ _ _)) (WL_pure rfl rfl (by decide) (Pu_idxA rfl Try.runUnderlying76 Try.sizeOf73 rfl rfl (by omega)) (WL_pure rfl rfl (by decide) (Pu_loadB (r := 101) rfl Try.isAgg73 rfl rfl rfl) (WL_pure rfl rfl (by decide) (Pu_move rfl rfl) (WL_pure rfl rfl (by decide) (Pu_bin rfl rfl rfl (run_addW _ _ _ _ _)) (WL_pure rfl rfl (by decide) (Pu_idxA rfl Try.runUnderlying76 Try.sizeOf73 rfl rfl (by omega)) (WL_pure rfl rfl (by decide) (Pu_loadB (r := 101) rfl Try.isAgg73 rfl rfl rfl) (WL_pure rfl rfl (by decide) (Pu_move rfl rfl) (WL_pure rfl rfl (by decide) (Pu_bin rfl rfl rfl (run_addW _ _ _ _ _)) (WL_pure rfl rfl (by decide) (Pu_idxA rfl Try.runUnderlying76 Try.sizeOf73 rfl rfl (by omega)) (WL_pure rfl rfl (by decide) (Pu_loadB (r := 101) rfl Try.isAgg73 rfl rfl rfl) (WL_pure rfl rfl (by decide) (Pu_move rfl rfl) (WL_pure rfl rfl (by decide) (Pu_bin rfl rfl rfl (run_addW _ _ _ _ _)) (WL_pure rfl rfl (by decide) (Pu_idxA rfl Try.runUnderlying76 Try.sizeOf73 rfl rfl (by omega)) (WL_pure rfl rfl (by decide) (Pu_loadB (r := 101) rfl Try.isAgg73 rfl rfl rfl) (WL_pure rfl rfl (by decide) (Pu_move rfl rfl) (WL_pure rfl rfl (by decide) (Pu_bin rfl rfl rfl (run_addW _ _ _ _ _)) (WL_pure rfl rfl (by decide) (Pu_idxA rfl Try.runUnderlying76 Try.sizeOf73 rfl rfl (by omega)) (WL_pure rfl rfl (by decide) (Pu_loadB (r := 101) rfl Try.isAgg73 rfl rfl rfl) (WL_pure rfl rfl (by decide) (Pu_move rfl rfl) (WL_pure rfl rfl (by decide) (Pu_bin rfl rfl rfl (run_addW _ _ _ _ _)) (WL_pure rfl rfl (by decide) (Pu_idxA rfl Try.runUnderlying76 Try.sizeOf73 rfl rfl (by omega)) (WL_pure rfl rfl (by decide) (Pu_loadB (r := 101) rfl Try.isAgg73 rfl rfl rfl) (WL_pure rfl rfl (by decide) (Pu_move rfl rfl) (WL_pure rfl rfl (by decide) (Pu_bin rfl rfl rfl (run_addW _ _ _ _ _)) (WL_pure rfl rfl (by decide) (Pu_idxA rfl Try.runUnderlying76 Try.sizeOf73 rfl rfl (by omega)) (WL_pure rfl rfl (by decide) (Pu_loadB (r := 101) rfl Try.isAgg73 rfl rfl rfl) (WL_pure rfl rfl (by decide) (Pu_move rfl rfl) (WL_pure rfl rfl (by decide) (Pu_bin rfl rfl rfl (run_addW _ _ _ _ _)) (WL_pure rfl rfl (by decide) (Pu_built (cells := ws (addS s r).list) rfl rfl (built8 Try.underlying76 (by kernel_rfl) (by kernel_rfl) _ _ _ _ _ _ _ _)) (WL_cons0 rfl rfl (OpT_storeAll (r := 102) rfl Try.sizeOf76 rfl rfl rfl rfl rfl (ws_one _) ?_)))))))))))))))))))))))))))))))))))
        refine (WL_nil (X_then ?_))
        refine W_ret ?_
        exact X_ret [] (Ps := []) (resC1 (r := 102) Try.results67 rfl Try.isAgg76 Try.sizeOf76 rfl rfl) rfl (by decide) ⟨by unfold mixS; rw [hr], rfl⟩
end Go.Proofs.Ytinamipkpdlphaa
/- The hash: plain words of the padding and of what is put out. -/
namespace Go.Proofs.Ytinamipkpdlphaa
open Go.RowKit
set_option linter.unusedVariables false
set_option linter.unusedSimpArgs false
def zs8 (k : Nat) : List UInt8 := List.replicate k 0
theorem zs8_length (k : Nat) : (zs8 k).length = k := List.length_replicate
theorem bs_app (a b : List UInt8) : bs (a ++ b) = bs a ++ bs b := by simp [bs]
/-- Bytes put at the front of zeros. -/
theorem over_zeros {p a : List UInt8} {k off : Nat} {rest : List Value} (ho : off = p.length) (hk : a.length ≤ k) : over (bs (p ++ zs8 k) ++ rest) off (bs a) = bs (p ++ a ++ zs8 (k - a.length)) ++ rest := by
  subst ho
  unfold over
  rw [bs_app, List.append_assoc, List.take_left' (bs_length p), bs_length]
  rw [← List.drop_drop, List.drop_left' (bs_length p)]
  have h1 : zs8 k = zs8 a.length ++ zs8 (k - a.length) := by unfold zs8; rw [List.replicate_append_replicate]; congr 1; omega
  rw [h1, bs_app, List.append_assoc, List.drop_left' ((bs_length _).trans (zs8_length _)), bs_app, bs_app]
  simp [List.append_assoc]
theorem set_zero {p : List UInt8} {k off : Nat} {rest : List Value} {x : UInt8} (ho : off = p.length) (hk : 1 ≤ k) : (bs (p ++ zs8 k) ++ rest).set off (bv x) = bs (p ++ [x] ++ zs8 (k - 1)) ++ rest := by
  have h := over_zeros (p := p) (a := [x]) (k := k) (off := off) (rest := rest) ho hk
  rw [show k - 1 = k - [x].length from rfl, ← h]
  exact (over_one _ _ _ (by simp [bs_length, zs8_length]; omega)).symm
def lenAt (n j : Nat) : UInt8 := byte (((n * 8 / 2 ^ (8 * (7 - j)) : Nat)) : Int)
/-- The length's bytes, the last i of them written. -/
def tailB (n zc i : Nat) : List UInt8 := zs8 (zc - i) ++ (lenB n).drop (8 - i)
theorem lenB_length (n : Nat) : (lenB n).length = 8 := by simp [lenB]
theorem lenB_at {n j : Nat} (hj : j < 8) : (lenB n)[j]? = some (lenAt n j) := by
  unfold lenB lenAt
  rw [List.getElem?_map, List.getElem?_range hj]
  show some _ = some _
  congr 1
  apply UInt8.toNat_inj.1
  have := byte_toNat ((n * 8 / 2 ^ (8 * (7 - j)) : Nat) : Int)
  rw [UInt8.toNat_ofNat', Nat.mul_comm 8 n]
  omega
theorem tailB_length {n zc i : Nat} (hi : i ≤ 8) (hz : 8 ≤ zc) : (tailB n zc i).length = zc := by
  unfold tailB
  rw [List.length_append, zs8_length, List.length_drop, lenB_length]
  omega
theorem tailB_zero (n zc : Nat) : tailB n zc 0 = zs8 zc := by
  unfold tailB
  rw [show 8 - 0 = 8 from rfl, List.drop_of_length_le (by rw [lenB_length]; exact Nat.le_refl _), List.append_nil]
  rfl
theorem tailB_set {n zc i : Nat} {p : List UInt8} {off : Nat} {rest : List Value} (hi : i < 8) (hz : 8 ≤ zc) (ho : off = p.length + (zc - 1 - i)) : (bs (p ++ tailB n zc i) ++ rest).set off (bv (lenAt n (7 - i))) = bs (p ++ tailB n zc (i + 1)) ++ rest := by
  have h1 : zs8 (zc - i) = zs8 (zc - (i + 1)) ++ [0] := by
    unfold zs8
    rw [show zc - i = (zc - (i + 1)) + 1 by omega, List.replicate_succ']
  have h2 : (lenB n).drop (8 - (i + 1)) = lenAt n (7 - i) :: (lenB n).drop (8 - i) := by
    rw [show 8 - (i + 1) = 7 - i by omega, show 8 - i = 7 - i + 1 by omega]
    have hlt : 7 - i < (lenB n).length := by rw [lenB_length]; omega
    rw [List.drop_eq_getElem_cons hlt]
    congr 1
    have := lenB_at (n := n) (j := 7 - i) (by omega)
    rw [List.getElem?_eq_getElem hlt] at this
    injection this
  unfold tailB
  rw [h1, h2]
  have e1 : bs (p ++ (zs8 (zc - (i + 1)) ++ [0] ++ (lenB n).drop (8 - i))) ++ rest = (bs (p ++ zs8 (zc - (i + 1)))) ++ (bv 0 :: (bs ((lenB n).drop (8 - i)) ++ rest)) := by simp [bs]
  have e2 : bs (p ++ (zs8 (zc - (i + 1)) ++ lenAt n (7 - i) :: (lenB n).drop (8 - i))) ++ rest = (bs (p ++ zs8 (zc - (i + 1)))) ++ (bv (lenAt n (7 - i)) :: (bs ((lenB n).drop (8 - i)) ++ rest)) := by simp [bs]
  rw [e1, e2, List.set_append_right _ _ (by simp [bs_length, zs8_length]; omega)]
  have e3 : off - (bs (p ++ zs8 (zc - (i + 1)))).length = 0 := by rw [bs_length, List.length_append, zs8_length]; omega
  rw [e3]
  rfl
/-- The whole is the padding. -/
theorem pad_eq {d : List UInt8} {n N : Nat} (hn : d.length = n) (hN : N = (n + 8) / 64 * 64 + 64) : d ++ [128] ++ tailB n (N - n - 1) 8 = padB d ∧ (padB d).length = N := by
  have hl := padB_length d
  refine ⟨?_, by rw [hl, hn, hN]⟩
  unfold padB tailB
  rw [hn, show 8 - 8 = 0 from rfl, List.drop_zero]
  have : N - n - 1 - 8 = padZ n := by unfold padZ; omega
  rw [this]
  unfold zs8
  simp
theorem outB_at {s : S8} {i k : Nat} (hi : i < 8) (hk : k < 4) : (outB s).getD (4 * i + k) 0 = ((s.list.getD i 0) >>> UInt32.ofNat (24 - 8 * k)).toUInt8 := by
  have h0 : ∀ x : UInt32, x >>> UInt32.ofNat 0 = x := fun x => by simp
  have hi' : i = 0 ∨ i = 1 ∨ i = 2 ∨ i = 3 ∨ i = 4 ∨ i = 5 ∨ i = 6 ∨ i = 7 := by omega
  have hk' : k = 0 ∨ k = 1 ∨ k = 2 ∨ k = 3 := by omega
  rcases hi' with rfl | rfl | rfl | rfl | rfl | rfl | rfl | rfl <;> rcases hk' with rfl | rfl | rfl | rfl <;> first | rfl | (show _ = (_ >>> UInt32.ofNat 0).toUInt8; rw [h0]; rfl)
def outZ (s : S8) (q : Nat) : List UInt8 := (outB s).take q ++ zs8 (32 - q)
theorem outZ_length {s : S8} {q : Nat} (h : q ≤ 32) : (outZ s q).length = 32 := by unfold outZ; rw [List.length_append, List.length_take, outB_length, zs8_length]; omega
theorem outZ_full (s : S8) : outZ s 32 = outB s := by
  unfold outZ
  rw [List.take_of_length_le (by rw [outB_length]; exact Nat.le_refl _)]
  exact List.append_nil _
theorem outZ_set {s : S8} {i k off : Nat} (hi : i < 8) (hk : k < 4) (ho : off = 4 * i + k) : (bs (outZ s (4 * i + k))).set off (bv ((s.list.getD i 0) >>> UInt32.ofNat (24 - 8 * k)).toUInt8) = bs (outZ s (4 * i + k + 1)) := by
  subst ho
  rw [← outB_at hi hk]
  have hq : 4 * i + k < (outB s).length := by rw [outB_length]; omega
  have e : outZ s (4 * i + k) = (outB s).take (4 * i + k) ++ (0 :: zs8 (32 - (4 * i + k + 1))) := by
    unfold outZ zs8
    rw [show 32 - (4 * i + k) = (32 - (4 * i + k + 1)) + 1 by omega, List.replicate_succ]
  have e2 : outZ s (4 * i + k + 1) = (outB s).take (4 * i + k) ++ ((outB s).getD (4 * i + k) 0 :: zs8 (32 - (4 * i + k + 1))) := by
    unfold outZ
    rw [List.take_succ_eq_append_getElem hq, List.append_assoc]
    congr 1
    rw [List.getD_eq_getElem?_getD, List.getElem?_eq_getElem hq]
    rfl
  rw [e, e2, bs_app, bs_app, List.set_append_right _ _ (by rw [bs_length, List.length_take]; omega)]
  congr 1
  rw [bs_length, List.length_take, show 4 * i + k - min (4 * i + k) (outB s).length = 0 by omega]
  rfl
/-- A piece of what is padded. -/
theorem piece {d : List UInt8} {p : Nat} {s : S8} (h : p + 64 ≤ d.length) : mixS ((d.drop p).take 64) 0 s = mixS d p s ∧ ((d.drop p).take 64).length = 64 := by
  refine ⟨mixS_at fun j hj => ?_, by rw [List.length_take, List.length_drop]; omega⟩
  unfold at0
  rw [List.getD_eq_getElem?_getD, List.getD_eq_getElem?_getD, Nat.zero_add, List.getElem?_take, if_pos hj, List.getElem?_drop]
end Go.Proofs.Ytinamipkpdlphaa
/- Symbolic states: ways that meet again, gone on from once. -/
namespace Go.Proofs.Ytinamipkpdlphaa
open Go.RowKit
set_option linter.unusedVariables false
section
variable {P : Program} {E : Env} {n : Nat} {K : Slots} {L : Res} {Q : Exit → Act → World → Prop}
/-- What stands between two pieces of code. -/
theorem W_cut {x y : Code} {α : Type} (Kf : α → Slots) (Lf : α → Res) (φ : α → Prop) (h1 : W P E n x K L (Exit.then (fun a w => ∃ z, φ z ∧ Agr n (Kf z) a ∧ Sat E (Lf z) w) Q)) (h2 : ∀ z, φ z → W P E n y (Kf z) (Lf z) Q) : W P E n (.seq x y) K L Q := fun a w hA hS =>
  wp_seq (Code.wp_mono (fun e a' w' hq => by
    cases e with
    | normal => obtain ⟨z, z1, z2, z3⟩ := hq; exact h2 z z1 a' w' z2 z3
    | _ => exact hq) (h1 a w hA hS))
theorem X_cut {α : Type} {Kf : α → Slots} {Lf : α → Res} {φ : α → Prop} (z : α) (hz : φ z) (hK : AllIn K (Kf z)) (hL : AllIn L (Lf z)) : X E n (Exit.then (fun a w => ∃ z, φ z ∧ Agr n (Kf z) a ∧ Sat E (Lf z) w) Q) .normal K L := fun a w hA hS => ⟨z, hz, hA.sub hK.look, hS.sub hL.look⟩
end
end Go.Proofs.Ytinamipkpdlphaa
/- Lists of ids: plain words. -/
namespace Go.Proofs.Ytinamipkpdlphaa
set_option linter.unusedVariables false
set_option linter.unusedSimpArgs false
theorem Ids.drop {l : List (List UInt8)} (h : Ids l) (i : Nat) : Ids (l.drop i) := fun x hx => h x (List.mem_of_mem_drop hx)
theorem int_eq {k : IntKind} {a b : Int} (h : a = b) : Value.int k a = Value.int k b := by rw [h]
theorem Ids.set {l : List (List UInt8)} (h : Ids l) {i : Nat} {x : List UInt8} (hx : x.length = 32) : Ids (l.set i x) := fun y hy => by
  rcases List.mem_or_eq_of_mem_set hy with h' | rfl
  · exact h y h'
  · exact hx
/-- Where a key stands. -/
def idxI (k : List UInt8) (l : List (List UInt8)) : Int := match l.findIdx? (fun y => k == y) with
  | some i => i
  | none => -1
/-- The first i and the last i changed. -/
def revTo (l : List (List UInt8)) (i : Nat) : List (List UInt8) := (List.range l.length).map fun k => if k < i ∨ l.length ≤ k + i then l.getD (l.length - 1 - k) [] else l.getD k []
section
variable {P : Program} {E : Env} {n : Nat} {K : Slots} {L : Res} {o : Oper}
theorem Pu_lenK {t e : TypeId} {x : Operand} {A : Option Addr} {m c : Nat} (ho : o.op = .call { callee := .builtin .len, args := #[x], argTypes := #[t] }) (hu : ∀ w, (underlying t).run P w = .ok (.slice e) w) (hx : evK K x = some (.slice A m c)) : Pure P E n o K L (.int .i64 (m : Int)) := fun a w hA hS => by
  simp [execOp, ho, resolve, invoke, builtin, hA.eval hx, Builtin.len_, hu, goInt]
end
end Go.Proofs.Ytinamipkpdlphaa
/- The hash: rules for its walk. -/
namespace Go.Proofs.Ytinamipkpdlphaa
open Go.RowKit
set_option linter.unusedVariables false
set_option linter.unusedSimpArgs false
section
variable {P : Program} {E : Env} {n : Nat} {K : Slots} {L : Res} {o : Oper} {Q : Exit → Act → World → Prop} {ex : Exit}
theorem X_openRow (r : Nat) {e : TypeId} {size : Nat} {v : Value} {m : Nat} {xs : List Value} (hr : look L r = some (rowP e size v m xs)) (hm : 0 < m)
    (k : ∀ g cap cs, v = .slice (some ⟨g, 0, none⟩) m cap → m ≤ cap → cap ≤ maxLen → cs.length = cap * size → cs.take (m * size) = xs → X E n Q ex K ((r, blk g e cs) :: L)) : X E n Q ex K L := fun a w hA hS => by
  obtain ⟨q, hS2⟩ := hS.ex hr (fun h hp => rowP_open hp hm)
  obtain ⟨h1, h2, h3, h4, h5⟩ : v = .slice (some ⟨q.1, 0, none⟩) m q.2.1 ∧ m ≤ q.2.1 ∧ q.2.1 ≤ maxLen ∧ q.2.2.length = q.2.1 * size ∧ q.2.2.take (m * size) = xs := hS2.get (look_same _ _ _) fun h hp => ⟨hp.1, hp.2.1, hp.2.2.1, hp.2.2.2.1, hp.2.2.2.2.1⟩
  have hS3 := hS2.cons (P' := blk q.1 e q.2.2) (look_same _ _ _) fun h hp => hp.2.2.2.2.2
  refine k q.1 q.2.1 q.2.2 h1 h2 h3 h4 h5 a w hA (hS3.sub fun r' P' h => ?_)
  by_cases hrr : r = r'
  · subst hrr; rw [look_same] at h ⊢; exact h
  · rw [look_other hrr] at h; rw [look_other hrr, look_other hrr]; exact h
end
theorem copy_front {p a : List UInt8} {k off m : Nat} {rest : List Value} (ho : off = p.length) (hk : a.length ≤ k) (hm : a.length ≤ m) : over (bs (p ++ zs8 k) ++ rest) off ((bs a).take (min a.length m)) = bs (p ++ a ++ zs8 (k - a.length)) ++ rest := by
  rw [Nat.min_eq_left hm, List.take_of_length_le (by rw [bs_length]; exact Nat.le_refl _)]
  exact over_zeros ho hk
theorem lenAt_rev {n i : Nat} (hi : i ≤ 7) : lenAt n (7 - i) = byte (((n * 8 / 2 ^ (8 * i) : Nat)) : Int) := by
  unfold lenAt
  rw [show 7 - (7 - i) = i by omega]
theorem tailB_step {n zc i : Nat} {p : List UInt8} {off : Nat} {rest : List Value} (hi : i < 8) (hz : 8 ≤ zc) (ho : off = p.length + (zc - 1 - i)) : (bs (p ++ tailB n zc i) ++ rest).set off (bv (byte (((n * 8 / 2 ^ (8 * i) : Nat)) : Int))) = bs (p ++ tailB n zc (i + 1)) ++ rest := by
  rw [← lenAt_rev (n := n) (i := i) (by omega)]
  exact tailB_set hi hz ho
theorem piece_rd {g p c : Nat} {T : TypeId} {d : List UInt8} {rest : List Value} {h : Hlt} (hb : blk g T (bs d ++ rest) h) (hp : p + 64 ≤ d.length) (hc : 64 ≤ c) : rdB (.slice (some ⟨g, p * 1, none⟩) (p + 64 - p) c) ((d.drop p).take 64) h := by
  have hl := (piece (s := S8.of HS) hp).2
  have hx : ((bs d ++ rest).drop (p * 1)).take (64 * 1) = bs ((d.drop p).take 64) := by
    rw [Nat.mul_one, Nat.mul_one, List.drop_append_of_le_length (by rw [bs_length]; omega), List.take_append_of_le_length (by rw [List.length_drop, bs_length]; omega)]
    unfold bs
    rw [List.map_take, List.map_drop]
  have := blk_rd (size := 1) (m := 64) (c := c) hb hx (by rw [bs_length, hl]) hc
  rw [show p + 64 - p = 64 by omega]
  exact rdP_cast this rfl hl.symm
end Go.Proofs.Ytinamipkpdlphaa
/- The hash of bytes. -/
namespace Go.Proofs.Ytinamipkpdlphaa
open Go.RowKit
set_option linter.unusedVariables false
set_option linter.unusedSimpArgs false
set_option maxRecDepth 8000
set_option maxHeartbeats 2000000 in
theorem pair_spec (va vb : Value) (a b : List UInt8) (hla : a.length ≤ 1000000000) (hlb : b.length ≤ 1000000000) (F : HP) (hFa : ∀ h, F h → rdB va a h) (hFb : ∀ h, F h → rdB vb b h) : CallsS Try.prog 46 #[va, vb] F [] (fun r Ps => r = idV (sha (a ++ b)) ∧ Ps = []) := by
  refine callsS_enter Try.func46 rfl Try.ntmps46 (by simp) (fun E => ?_)
  refine W_seq ?_
  refine W.pre (K' := [(0, _), (1, _)]) (L' := [(0, _)]) ?_ ⟨rfl, ⟨rfl, trivial⟩⟩ ⟨rfl, trivial⟩
  refine W_regL (WL_cons rfl rfl (by decide) (OpT_alloc (r := 101) (cs := (bs zeroId)) rfl (zero_run (by kernel_rfl : (Try.prog.info? 29).bind (·.zero) = some (.agg (bs zeroId).toArray))) rfl (fun g101 => (WL_nil (X_then ?_)))))
  refine W_seq ?_
  refine W.pre (K' := [(0, _), (1, _), (4, _)]) (L' := [(0, _), (101, _)]) ?_ ⟨rfl, ⟨rfl, ⟨rfl, trivial⟩⟩⟩ ⟨rfl, ⟨rfl, trivial⟩⟩
  refine W_regL (WL_pure rfl rfl (by decide) (Pu_move rfl rfl) (WL_pure rfl rfl (by decide) (Pu_len (r := 0) rfl Try.runUnderlying30 rfl rfl hFa) (WL_pure rfl rfl (by decide) (Pu_move rfl rfl) (WL_pure rfl rfl (by decide) (Pu_len (r := 0) rfl Try.runUnderlying30 rfl rfl hFb) (WL_pure rfl rfl (by decide) (Pu_bin rfl rfl rfl (run_add _ _ _ _ _ (by omega))) ?_)))))
  obtain ⟨n, hn⟩ : ∃ n, a.length + b.length = n := ⟨_, rfl⟩
  rw [show (a.length : Int) + (b.length : Int) = (n : Int) by omega]
  refine (WL_pure rfl rfl (by decide) (Pu_assign rfl rfl) (WL_nil (X_then ?_)))
  refine W_seq ?_
  refine W.pre (K' := [(0, _), (1, _), (4, _), (5, _)]) (L' := [(0, _), (101, _)]) ?_ ⟨rfl, ⟨rfl, ⟨rfl, ⟨rfl, trivial⟩⟩⟩⟩ ⟨rfl, ⟨rfl, trivial⟩⟩
  refine W_regL (WL_cons rfl rfl (by decide) (OpT_alloc (r := 102) (cs := (bs (zs8 128))) rfl (zero_run (by kernel_rfl : (Try.prog.info? 110).bind (·.zero) = some (.agg (bs (zs8 128)).toArray))) rfl (fun g102 => (WL_nil (X_then ?_)))))
  refine W_seq ?_
  refine W.pre (K' := [(0, _), (1, _), (4, _), (5, _), (6, _)]) (L' := [(0, _), (101, _), (102, _)]) ?_ ⟨rfl, ⟨rfl, ⟨rfl, ⟨rfl, ⟨rfl, trivial⟩⟩⟩⟩⟩ ⟨rfl, ⟨rfl, ⟨rfl, trivial⟩⟩⟩
  refine W_regL (WL_pure rfl rfl (by decide) (Pu_sliceArr rfl Try.runUnderlying110 Try.sizeOf5 rfl) (WL_pure rfl rfl (by decide) (Pu_assign rfl rfl) (WL_nil (X_then ?_))))
  obtain ⟨N, hN⟩ : ∃ N, N = (n + 8) / 64 * 64 + 64 := ⟨_, rfl⟩
  refine W_cut (α := Nat × TypeId × List Value) (fun z => [(0, va), (1, vb), (4, .pointer (some ⟨g101, 0, none⟩)), (5, .int .i64 (n : Int)), (7, .slice (some ⟨z.1, 0, none⟩) N (N + z.2.2.length))]) (fun z => [(0, F), (101, blk g101 29 (bs zeroId)), (150, blk z.1 z.2.1 (bs (zs8 N) ++ z.2.2))]) (fun z => True) ?_ (fun z hz => ?_)
  ·
    refine W_seq ?_
    refine W.pre (K' := [(0, _), (1, _), (4, _), (5, _), (6, _), (7, _)]) (L' := [(0, _), (101, _), (102, _)]) ?_ ⟨rfl, ⟨rfl, ⟨rfl, ⟨rfl, ⟨rfl, ⟨rfl, trivial⟩⟩⟩⟩⟩⟩ ⟨rfl, ⟨rfl, ⟨rfl, trivial⟩⟩⟩
    refine W_regL (WL_pure rfl rfl (by decide) (Pu_move rfl rfl) (WL_pure rfl rfl (by decide) (Pu_bin rfl rfl rfl (run_add _ _ _ _ _ (by omega))) (WL_pure rfl rfl (by decide) (Pu_bin rfl rfl rfl (run_quo _ _ _ _ _ (by omega))) (WL_pure rfl rfl (by decide) (Pu_bin rfl rfl rfl (run_mul _ _ _ _ _ (by omega))) (WL_pure rfl rfl (by decide) (Pu_bin rfl rfl rfl (run_add _ _ _ _ _ (by omega))) ?_)))))
    rw [show ((n : Int) + 8) / 64 * 64 + 64 = (N : Int) by omega]
    refine (WL_pure rfl rfl (by decide) (Pu_assign rfl rfl) (WL_nil (X_then ?_)))
    refine W_seq ?_
    refine W.pre (K' := [(0, _), (1, _), (4, _), (5, _), (6, _), (7, _), (8, _)]) (L' := [(0, _), (101, _), (102, _)]) ?_ ⟨rfl, ⟨rfl, ⟨rfl, ⟨rfl, ⟨rfl, ⟨rfl, ⟨rfl, trivial⟩⟩⟩⟩⟩⟩⟩ ⟨rfl, ⟨rfl, ⟨rfl, trivial⟩⟩⟩
    refine W_regL (WL_pure rfl rfl (by decide) (Pu_move rfl rfl) (WL_pure rfl rfl (by decide) (Pu_move rfl rfl) (WL_pure rfl rfl (by decide) (Pu_lenK rfl Try.runUnderlying30 rfl) (WL_pure rfl rfl (by decide) (Pu_bin rfl rfl rfl (run_leq _ _ _ _ _ _)) (WL_nil (X_then ?_))))))
    refine W_cond rfl (fun hc30 => ?_) (fun hc30 => ?_)
    ·
      have hle : N ≤ 128 := by have := of_decide_eq_true hc30; omega
      refine W.pre (K' := [(0, _), (1, _), (4, _), (5, _), (6, _), (7, _), (8, _), (30, _)]) (L' := [(0, _), (101, _), (102, _)]) ?_ ⟨rfl, ⟨rfl, ⟨rfl, ⟨rfl, ⟨rfl, ⟨rfl, ⟨rfl, ⟨rfl, trivial⟩⟩⟩⟩⟩⟩⟩⟩ ⟨rfl, ⟨rfl, ⟨rfl, trivial⟩⟩⟩
      refine W_regL (WL_pure rfl rfl (by decide) (Pu_move rfl rfl) (WL_pure rfl rfl (by decide) (Pu_move rfl rfl) (WL_pure rfl rfl (by decide) (Pu_sliceK (a := 0) (b := N) rfl Try.runUnderlying30 Try.sizeOf5 rfl (.inl ⟨rfl, rfl⟩) (.inr ⟨_, _, _, rfl, rfl, rfl⟩) (Nat.zero_le _) (by omega) (by omega)) (WL_pure rfl rfl (by decide) (Pu_assign rfl rfl) (WL_nil ?_)))))
      refine X_turn (P' := blk g102 110 (bs (zs8 N) ++ bs (zs8 (128 - N)))) 102 rfl (fun h hp => by rw [← bs_app, show zs8 N ++ zs8 (128 - N) = zs8 128 by unfold zs8; rw [List.replicate_append_replicate, show N + (128 - N) = 128 by omega]]; exact hp) ?_
      refine X_ren 102 150 rfl ?_
      exact X_cut (g102, 110, bs (zs8 (128 - N))) trivial ⟨rfl, rfl, rfl, rfl, lookV_eq rfl (by rw [bs_length, zs8_length, show N + (128 - N) = 128 by omega]; rfl), trivial⟩ ⟨rfl, rfl, rfl, trivial⟩
    ·
      refine W.pre (K' := [(0, _), (1, _), (4, _), (5, _), (6, _), (7, _), (8, _), (30, _)]) (L' := [(0, _), (101, _), (102, _)]) ?_ ⟨rfl, ⟨rfl, ⟨rfl, ⟨rfl, ⟨rfl, ⟨rfl, ⟨rfl, ⟨rfl, trivial⟩⟩⟩⟩⟩⟩⟩⟩ ⟨rfl, ⟨rfl, ⟨rfl, trivial⟩⟩⟩
      refine W_regL (WL_pure rfl rfl (by decide) (Pu_move rfl rfl) (WL_cons rfl rfl (by decide) (OpT_make (r := 103) (m := N) rfl Try.underlying30 TI.hi5 TI.hz5 TI.hs5 rfl rfl (by rw [TI.hby5]; omega) (by unfold maxLen; omega) ((made_one _ _).trans (made_bytes N)) (fun v35 => ?_))))
      skip
      refine (WL_pure rfl rfl (by decide) (Pu_assign rfl rfl) (WL_nil ?_))
      refine X_openRow 103 rfl (by omega) (fun g cap cs hv hmc _ hcl hct => ?_)
      rw [Nat.mul_one] at hcl hct
      refine X_turn (P' := blk g 5 (bs (zs8 N) ++ cs.drop N)) 103 rfl (fun h hp => by rw [show bs (zs8 N) ++ cs.drop N = cs by rw [show bs (zs8 N) = cs.take N from hct.symm, List.take_append_drop]]; exact hp) ?_
      refine X_ren 103 150 rfl ?_
      exact X_cut (g, 5, cs.drop N) trivial ⟨rfl, rfl, rfl, rfl, lookV_eq rfl (by rw [hv, List.length_drop, hcl, show N + (cap - N) = cap by omega]), trivial⟩ ⟨rfl, rfl, rfl, trivial⟩
  ·
    obtain ⟨g, T, rest⟩ := z
    have hnN : n + 9 ≤ N := by omega
    obtain ⟨cap, hcap⟩ : ∃ c, N + rest.length = c := ⟨_, rfl⟩
    refine W.pre (K' := [(0, va), (1, vb), (4, .pointer (some ⟨g101, 0, none⟩)), (5, .int .i64 (n : Int)), (7, .slice (some ⟨g, 0, none⟩) N cap)]) (L' := [(0, F), (101, blk g101 29 (bs zeroId)), (150, blk g T (bs (zs8 N) ++ rest))]) ?_ ⟨rfl, rfl, rfl, rfl, lookV_eq rfl (by rw [← hcap]), trivial⟩ ⟨rfl, rfl, rfl, trivial⟩
    refine W_seq ?_
    refine W.pre (K' := [(0, _), (1, _), (4, _), (5, _), (7, _)]) (L' := [(0, _), (101, _), (150, _)]) ?_ ⟨rfl, ⟨rfl, ⟨rfl, ⟨rfl, ⟨rfl, trivial⟩⟩⟩⟩⟩ ⟨rfl, ⟨rfl, ⟨rfl, trivial⟩⟩⟩
    refine W_regL (WL_pure rfl rfl (by decide) (Pu_move rfl rfl) (WL_pure rfl rfl (by decide) (Pu_move rfl rfl) (WL_pure rfl rfl (by decide) (Pu_move rfl rfl) (WL_cons rfl rfl (by decide) (OpT_copyB (r := 150) (r2 := 0) (cs' := bs ([] ++ a ++ zs8 (N - a.length)) ++ rest) rfl Try.underlying30 TI.hsm5 rfl rfl rfl rfl hFa (bs_one _) (by simp [bs_length, zs8_length]; omega) (copy_front (p := []) rfl (by omega) (by omega)) ?_)))))
    rw [Nat.min_eq_left (show a.length ≤ N by omega)]
    refine (WL_pure rfl rfl (by decide) (Pu_sliceK (a := a.length) (b := N) rfl Try.runUnderlying30 Try.sizeOf5 rfl (.inr ⟨_, _, _, rfl, rfl, rfl⟩) (.inl ⟨rfl, rfl⟩) (by omega) (by omega) (by omega)) (WL_pure rfl rfl (by decide) (Pu_move rfl rfl) (WL_cons rfl rfl (by decide) (OpT_copyB (r := 150) (r2 := 0) (cs' := bs (([] ++ a) ++ b ++ zs8 (N - a.length - b.length)) ++ rest) rfl Try.underlying30 TI.hsm5 rfl rfl rfl rfl hFb (bs_one _) (by simp [bs_length, zs8_length]; omega) (copy_front (p := [] ++ a) (by simp) (by omega) (by omega)) ?_))))
    refine (WL_nil (X_then ?_))
    refine W_seq ?_
    refine W.pre (K' := [(0, _), (1, _), (4, _), (5, _), (7, _)]) (L' := [(0, _), (101, _), (150, _)]) ?_ ⟨rfl, ⟨rfl, ⟨rfl, ⟨rfl, ⟨rfl, trivial⟩⟩⟩⟩⟩ ⟨rfl, ⟨rfl, ⟨rfl, trivial⟩⟩⟩
    obtain ⟨d, hd⟩ : ∃ d, a ++ b = d := ⟨_, rfl⟩
    have hdn : d.length = n := by rw [← hd, List.length_append]; exact hn
    refine W_turn (P' := blk g T (bs (d ++ zs8 (N - n)) ++ rest)) 150 rfl (fun h hp => by rw [← hd, show N - n = N - a.length - b.length by omega]; exact hp) ?_
    obtain ⟨hpad, hpl⟩ := pad_eq hdn hN
    refine W_regL (WL_pure rfl rfl (by decide) (Pu_move rfl rfl) (WL_pure rfl rfl (by decide) (Pu_move rfl rfl) (WL_pure rfl rfl (by decide) (Pu_idxK (r := 150) rfl Try.runUnderlying30 Try.sizeOf5 rfl rfl rfl (by simp [bs_length, zs8_length]; omega) (by omega) (by omega)) (WL_cons0 rfl rfl (OpT_storeB1 (r := 150) rfl Try.sizeOf5 rfl rfl rfl rfl (by simp [bs_length, zs8_length]; omega) (set_zero (x := 128) (by rw [hdn]; omega) (by omega)) ?_)))))
    refine (WL_nil (X_then ?_))
    refine W_seq ?_
    refine W_seq ?_
    refine W.pre (K' := [(0, _), (1, _), (4, _), (5, _), (7, _)]) (L' := [(0, _), (101, _), (150, _)]) ?_ ⟨rfl, ⟨rfl, ⟨rfl, ⟨rfl, ⟨rfl, trivial⟩⟩⟩⟩⟩ ⟨rfl, ⟨rfl, ⟨rfl, trivial⟩⟩⟩
    refine W_regL (WL_pure rfl rfl (by decide) (Pu_move rfl rfl) (WL_nil (X_then ?_)))
    refine W_block ?_
    refine W_turn (P' := blk g T (bs (d ++ [128] ++ tailB n (N - n - 1) 0) ++ rest)) 150 rfl (fun h hp => by rw [tailB_zero]; exact hp) ?_
    refine W_loop (α := Nat) (fun x => [(4, .pointer (some ⟨g101, 0, none⟩)), (5, .int .i64 (n : Int)), (7, .slice (some ⟨g, 0, none⟩) N cap), (46, .int .i64 (x : Int))]) (fun x => [(0, F), (101, blk g101 29 (bs zeroId)), (150, blk g T (bs (d ++ [128] ++ tailB n (N - n - 1) x) ++ rest))]) (fun x => x ≤ 8) (fun x => 8 - x) (0) (by omega) ⟨rfl, ⟨rfl, ⟨rfl, ⟨rfl, trivial⟩⟩⟩⟩ ⟨rfl, ⟨rfl, ⟨rfl, trivial⟩⟩⟩ (fun x hx => ?_)
    have htl := tailB_length (n := n) (zc := N - n - 1) hx (by omega)
    refine W_seq ?_
    refine W.pre (K' := [(4, _), (5, _), (7, _), (46, _)]) (L' := [(0, _), (101, _), (150, _)]) ?_ ⟨rfl, ⟨rfl, ⟨rfl, ⟨rfl, trivial⟩⟩⟩⟩ ⟨rfl, ⟨rfl, ⟨rfl, trivial⟩⟩⟩
    refine W_regL (WL_pure rfl rfl (by decide) (Pu_bin rfl rfl rfl (run_lss _ _ _ _ _ _)) (WL_nil (X_then ?_)))
    refine W_seq ?_
    refine W_cond rfl (fun hc47 => ?_) (fun hc47 => ?_)
    ·
      have hlt : x < 8 := by have := of_decide_eq_true hc47; omega
      refine W_skip (X_then ?_)
      refine W_seq ?_
      refine W_block ?_
      refine W_seq ?_
      refine W.pre (K' := [(4, _), (5, _), (7, _), (46, _), (47, _)]) (L' := [(0, _), (101, _), (150, _)]) ?_ ⟨rfl, ⟨rfl, ⟨rfl, ⟨rfl, ⟨rfl, trivial⟩⟩⟩⟩⟩ ⟨rfl, ⟨rfl, ⟨rfl, trivial⟩⟩⟩
      refine W_regL (WL_pure rfl rfl (by decide) (Pu_move rfl rfl) (WL_pure rfl rfl (by decide) (Pu_assign rfl rfl) (WL_nil (X_then ?_))))
      refine W.pre (K' := [(4, _), (5, _), (7, _), (9, _), (46, _), (47, _)]) (L' := [(0, _), (101, _), (150, _)]) ?_ ⟨rfl, ⟨rfl, ⟨rfl, ⟨rfl, ⟨rfl, ⟨rfl, trivial⟩⟩⟩⟩⟩⟩ ⟨rfl, ⟨rfl, ⟨rfl, trivial⟩⟩⟩
      refine W_regL (WL_pure rfl rfl (by decide) (Pu_move rfl rfl) (WL_pure rfl rfl (by decide) (Pu_move rfl rfl) (WL_pure rfl rfl (by decide) (Pu_lenK rfl Try.runUnderlying30 rfl) (WL_pure rfl rfl (by decide) (Pu_bin rfl rfl rfl (run_sub _ _ _ _ _ (by omega))) (WL_pure rfl rfl (by decide) (Pu_move rfl rfl) (WL_pure rfl rfl (by decide) (Pu_bin rfl rfl rfl (run_sub _ _ _ _ _ (by omega))) (WL_pure rfl rfl (by decide) (Pu_move rfl rfl) (WL_pure rfl rfl (by decide) (Pu_conv rfl rfl (conv_u64 n Try.runUnderlying3 Try.runUnderlying77 (by omega))) (WL_pure rfl rfl (by decide) (Pu_bin rfl rfl rfl (run_mulU n 8 _ _ _ (by omega))) (WL_pure rfl rfl (by decide) (Pu_move rfl rfl) (WL_pure rfl rfl (by decide) (Pu_bin rfl rfl rfl (run_mul _ _ _ _ _ (by omega))) ?_)))))))))))
      rw [show (8 * (x : Int)) = ((8 * x : Nat) : Int) by omega]
      refine (WL_pure rfl rfl (by decide) (Pu_bin rfl rfl rfl (run_shrU (n * 8) (8 * x) _ _ _ (by omega))) (WL_pure rfl rfl (by decide) (Pu_conv rfl rfl (conv_byte _ _ Try.runUnderlying77 Try.runUnderlying5)) (WL_pure rfl rfl (by decide) (Pu_idxK (r := 150) rfl Try.runUnderlying30 Try.sizeOf5 rfl rfl rfl (by rw [List.length_append, bs_length, List.length_append, List.length_append, htl, hdn]; simp; omega) (by omega) (by omega)) (WL_cons0 rfl rfl (OpT_storeB1 (r := 150) rfl Try.sizeOf5 rfl rfl rfl rfl (by rw [List.length_append, bs_length, List.length_append, List.length_append, htl, hdn]; simp; omega) (tailB_step hlt (by omega) (by rw [List.length_append, hdn]; simp; omega)) ?_)))))
      refine (WL_nil (X_block (X_then ?_)))
      refine W.pre (K' := [(4, _), (5, _), (7, _), (9, _), (46, _), (47, _)]) (L' := [(0, _), (101, _), (150, _)]) ?_ ⟨rfl, ⟨rfl, ⟨rfl, ⟨rfl, ⟨rfl, ⟨rfl, trivial⟩⟩⟩⟩⟩⟩ ⟨rfl, ⟨rfl, ⟨rfl, trivial⟩⟩⟩
      refine W_regL (WL_pure rfl rfl (by decide) (Pu_bin rfl rfl rfl (run_add _ _ _ _ _ (by omega))) (WL_pure rfl rfl (by decide) (Pu_move rfl rfl) (WL_nil ?_)))
      exact X_round (x + 1) (by omega) (by omega) ⟨rfl, rfl, rfl, rfl, trivial⟩ ⟨rfl, rfl, rfl, trivial⟩
    ·
      obtain rfl : x = 8 := by have := of_decide_eq_false hc47; omega
      rw [hpad]
      refine W_exit (X_then_exit (X_then_exit (X_block_exit (X_then ?_))))
      refine W_seq ?_
      refine W.pre (K' := [(4, _), (5, _), (7, _), (46, _), (47, _)]) (L' := [(0, _), (101, _), (150, _)]) ?_ ⟨rfl, ⟨rfl, ⟨rfl, ⟨rfl, ⟨rfl, trivial⟩⟩⟩⟩⟩ ⟨rfl, ⟨rfl, ⟨rfl, trivial⟩⟩⟩
      refine W_regL (WL_cons rfl rfl (by decide) (OpT_call 200 [0, 101, 150] [] rfl Try.call66 rfl rfl rfl (by decide) (by decide) (begin_spec _) (fun v64 Ps64 hR64 => ?_)))
      obtain ⟨rfl, rfl⟩ := hR64
      refine (WL_cons rfl rfl (by decide) (OpT_alloc (r := 201) (cs := (ws [0, 0, 0, 0, 0, 0, 0, 0])) rfl (zero_run (by kernel_rfl : (Try.prog.info? 76).bind (·.zero) = some (.agg (ws [0, 0, 0, 0, 0, 0, 0, 0]).toArray))) rfl (fun g201 => (WL_cons0 rfl rfl (OpT_storeAll (r := 201) rfl Try.sizeOf76 rfl rfl rfl rfl rfl (ws_one _) ?_)))))
      refine (WL_nil (X_then ?_))
      refine W_seq ?_
      refine W_seq ?_
      refine W.pre (K' := [(4, _), (5, _), (7, _), (10, _), (46, _), (47, _)]) (L' := [(0, _), (101, _), (150, _), (201, _)]) ?_ ⟨rfl, ⟨rfl, ⟨rfl, ⟨rfl, ⟨rfl, ⟨rfl, trivial⟩⟩⟩⟩⟩⟩ ⟨rfl, ⟨rfl, ⟨rfl, ⟨rfl, trivial⟩⟩⟩⟩
      refine W_regL (WL_pure rfl rfl (by decide) (Pu_assign rfl rfl) (WL_nil (X_then ?_)))
      refine W_block ?_
      refine W_loop (α := Nat) (fun x => [(4, .pointer (some ⟨g101, 0, none⟩)), (7, .slice (some ⟨g, 0, none⟩) N cap), (10, .pointer (some ⟨g201, 0, none⟩)), (11, .int .i64 ((64 * x : Nat) : Int))]) (fun x => [(0, F), (101, blk g101 29 (bs zeroId)), (150, blk g T (bs (padB d) ++ rest)), (201, blk g201 76 (ws (mixes (padB d) (S8.of HS) x).list))]) (fun x => 64 * x ≤ N) (fun x => N - 64 * x) (0) (by omega) ⟨rfl, ⟨rfl, ⟨rfl, ⟨rfl, trivial⟩⟩⟩⟩ ⟨rfl, ⟨rfl, ⟨rfl, ⟨rfl, trivial⟩⟩⟩⟩ (fun x hx => ?_)
      refine W_seq ?_
      refine W_seq ?_
      refine W.pre (K' := [(4, _), (7, _), (10, _), (11, _)]) (L' := [(0, _), (101, _), (150, _), (201, _)]) ?_ ⟨rfl, ⟨rfl, ⟨rfl, ⟨rfl, trivial⟩⟩⟩⟩ ⟨rfl, ⟨rfl, ⟨rfl, ⟨rfl, trivial⟩⟩⟩⟩
      refine W_regL (WL_pure rfl rfl (by decide) (Pu_move rfl rfl) (WL_pure rfl rfl (by decide) (Pu_move rfl rfl) (WL_pure rfl rfl (by decide) (Pu_lenK rfl Try.runUnderlying30 rfl) (WL_pure rfl rfl (by decide) (Pu_bin rfl rfl rfl (run_lss _ _ _ _ _ _)) (WL_nil (X_then ?_))))))
      refine W_cond rfl (fun hc68 => ?_) (fun hc68 => ?_)
      ·
        have hlt : 64 * x + 64 ≤ N := by have := of_decide_eq_true hc68; omega
        obtain ⟨hp1, hp2⟩ := piece (d := padB d) (p := 64 * x) (s := mixes (padB d) (S8.of HS) x) (by omega)
        refine W_skip (X_then ?_)
        refine W_seq ?_
        refine W_block ?_
        refine W.pre (K' := [(4, _), (7, _), (10, _), (11, _), (68, _)]) (L' := [(0, _), (101, _), (150, _), (201, _)]) ?_ ⟨rfl, ⟨rfl, ⟨rfl, ⟨rfl, ⟨rfl, trivial⟩⟩⟩⟩⟩ ⟨rfl, ⟨rfl, ⟨rfl, ⟨rfl, trivial⟩⟩⟩⟩
        refine W_draw (N := 8) (by kernel_rfl) rfl [(0, _), (101, _), (150, _)] ⟨rfl, ⟨rfl, ⟨rfl, trivial⟩⟩⟩ ?_
        refine (AH_take 1 rfl (by kernel_rfl) (by kernel_rfl) (by kernel_rfl) rfl rfl (by decide) (Pu_move rfl rfl) (AH_take 2 rfl (by kernel_rfl) (by kernel_rfl) (by kernel_rfl) rfl rfl (by decide) (Pu_move rfl rfl) (AH_take 3 rfl (by kernel_rfl) (by kernel_rfl) (by kernel_rfl) rfl rfl (by decide) (Pu_move rfl rfl) (AH_take 4 rfl (by kernel_rfl) (by kernel_rfl) (by kernel_rfl) rfl rfl (by decide) (Pu_bin rfl rfl rfl (run_add _ _ _ _ _ (by omega))) (AH_take 5 rfl (by kernel_rfl) (by kernel_rfl) (by kernel_rfl) rfl rfl (by decide) (Pu_sliceK (a := 64 * x) (b := 64 * x + 64) rfl Try.runUnderlying30 Try.sizeOf5 rfl (.inr ⟨_, _, _, rfl, rfl, rfl⟩) (.inr ⟨_, _, _, rfl, rfl, (by omega)⟩) (by omega) (by omega) (by omega)) (AH_ready [0] (by kernel_rfl) (by decide) ?_))))))
        refine AHs_cons rfl rfl rfl (by decide) (OpT_run (Pu_loadBN (r := 201) rfl Try.isAgg76 Try.sizeOf76 rfl rfl rfl (load_all rfl)) ⟨⟨rfl, ⟨rfl, ⟨rfl, trivial⟩⟩⟩, ?_⟩) ?_
        ·
          refine (AH_ready [6] (by kernel_rfl) (by decide) ?_)
          refine AHs_cons rfl rfl rfl (by decide) (OpT_call 300 [0, 101, 150, 201] [] rfl Try.call67 rfl rfl rfl (by decide) (by decide) (mix_spec (mixes (padB d) (S8.of HS) x) _ (((padB d).drop (64 * x)).take 64) hp2 _ (rd_star 2 rfl (fun h hp => piece_rd hp (by omega) (by omega)))) (fun v77 Ps77 hR77 => ?_)) ?_
          ·
            obtain ⟨rfl, rfl⟩ := hR77
            refine ⟨⟨rfl, ⟨rfl, ⟨rfl, trivial⟩⟩⟩, ?_⟩
            rw [hp1]
            refine (AH_ready [7] (by kernel_rfl) (by decide) ?_)
            refine AHs_cons0 rfl rfl rfl (OpT_storeAll (r := 201) rfl Try.sizeOf76 rfl rfl rfl rfl rfl (ws_one _) ?_) ?_
            ·
              refine ⟨⟨rfl, ⟨rfl, ⟨rfl, trivial⟩⟩⟩, ?_⟩
              refine (AH_done (by kernel_rfl) (X_block (X_then ?_)))
              refine W.pre (K' := [(4, _), (7, _), (10, _), (11, _), (68, _)]) (L' := [(0, _), (101, _), (150, _), (201, _)]) ?_ ⟨rfl, ⟨rfl, ⟨rfl, ⟨rfl, ⟨rfl, trivial⟩⟩⟩⟩⟩ ⟨rfl, ⟨rfl, ⟨rfl, ⟨rfl, trivial⟩⟩⟩⟩
              refine W_regL (WL_pure rfl rfl (by decide) (Pu_move rfl rfl) (WL_pure rfl rfl (by decide) (Pu_bin rfl rfl rfl (run_add _ _ _ _ _ (by omega))) (WL_pure rfl rfl (by decide) (Pu_assign rfl rfl) (WL_nil ?_))))
              exact X_round (x + 1) (by omega) (by omega) ⟨rfl, rfl, rfl, lookV_eq rfl (int_eq (by omega)), trivial⟩ ⟨rfl, rfl, rfl, rfl, trivial⟩
            exact AHs_nil
          exact AHs_nil
        exact AHs_nil
      ·
        have hxe : x = (padB d).length / 64 := by have := of_decide_eq_false hc68; omega
        obtain ⟨S, hS⟩ : ∃ S, mixes (padB d) (S8.of HS) x = S := ⟨_, rfl⟩
        rw [hS]
        have hsha : sha d = outB S := by unfold sha; rw [← hxe, hS]
        refine W_exit (X_then_exit (X_then_exit (X_block_exit (X_then ?_))))
        refine W_seq ?_
        refine W.pre (K' := [(4, _), (7, _), (10, _), (11, _), (68, _)]) (L' := [(0, _), (101, _), (150, _), (201, _)]) ?_ ⟨rfl, ⟨rfl, ⟨rfl, ⟨rfl, ⟨rfl, trivial⟩⟩⟩⟩⟩ ⟨rfl, ⟨rfl, ⟨rfl, ⟨rfl, trivial⟩⟩⟩⟩
        refine W_regL (WL_cons rfl rfl (by decide) (OpT_alloc (r := 202) (cs := (bs zeroId)) rfl (zero_run (by kernel_rfl : (Try.prog.info? 29).bind (·.zero) = some (.agg (bs zeroId).toArray))) rfl (fun g202 => (WL_nil (X_then ?_)))))
        refine W_seq ?_
        refine W_seq ?_
        refine W.pre (K' := [(4, _), (7, _), (10, _), (11, _), (12, _), (68, _)]) (L' := [(0, _), (101, _), (150, _), (201, _), (202, _)]) ?_ ⟨rfl, ⟨rfl, ⟨rfl, ⟨rfl, ⟨rfl, ⟨rfl, trivial⟩⟩⟩⟩⟩⟩ ⟨rfl, ⟨rfl, ⟨rfl, ⟨rfl, ⟨rfl, trivial⟩⟩⟩⟩⟩
        refine W_regL (WL_pure rfl rfl (by decide) (Pu_loadBN (r := 201) rfl Try.isAgg76 Try.sizeOf76 rfl rfl rfl (load_all rfl)) (WL_pure rfl rfl (by decide) (Pu_move rfl rfl) (WL_nil (X_then ?_))))
        refine W_block ?_
        refine W_loop (α := Nat) (fun x => [(4, .pointer (some ⟨g101, 0, none⟩)), (12, .pointer (some ⟨g202, 0, none⟩)), (78, .agg (ws S.list).toArray), (79, .int .i64 (x : Int))]) (fun x => [(0, F), (101, blk g101 29 (bs zeroId)), (202, blk g202 29 (bs (outZ S (4 * x))))]) (fun x => x ≤ 8) (fun x => 8 - x) (0) (by omega) ⟨rfl, ⟨rfl, ⟨rfl, ⟨rfl, trivial⟩⟩⟩⟩ ⟨rfl, ⟨rfl, ⟨rfl, trivial⟩⟩⟩ (fun x hx => ?_)
        refine W_seq ?_
        refine W.pre (K' := [(4, _), (12, _), (78, _), (79, _)]) (L' := [(0, _), (101, _), (202, _)]) ?_ ⟨rfl, ⟨rfl, ⟨rfl, ⟨rfl, trivial⟩⟩⟩⟩ ⟨rfl, ⟨rfl, ⟨rfl, trivial⟩⟩⟩
        refine W_regL (WL_pure rfl rfl (by decide) (Pu_bin rfl rfl rfl (run_lss _ _ _ _ _ _)) (WL_nil (X_then ?_)))
        refine W_seq ?_
        refine W_cond rfl (fun hc80 => ?_) (fun hc80 => ?_)
        ·
          have hlx : x < 8 := by have := of_decide_eq_true hc80; omega
          refine W_skip (X_then ?_)
          refine W_seq ?_
          refine W_block ?_
          refine W_seq ?_
          refine W.pre (K' := [(4, _), (12, _), (78, _), (79, _), (80, _)]) (L' := [(0, _), (101, _), (202, _)]) ?_ ⟨rfl, ⟨rfl, ⟨rfl, ⟨rfl, ⟨rfl, trivial⟩⟩⟩⟩⟩ ⟨rfl, ⟨rfl, ⟨rfl, trivial⟩⟩⟩
          refine W_regL (WL_pure rfl rfl (by decide) (Pu_move rfl rfl) (WL_pure rfl rfl (by decide) (Pu_index rfl Try.runUnderlying76 Try.sizeOf73 Try.isAgg73 rfl rfl (by omega) (ws_atI (k := x) (by omega) (by rw [S8.list_length]; omega))) (WL_pure rfl rfl (by decide) (Pu_assign rfl rfl) (WL_pure rfl rfl (by decide) (Pu_assign rfl rfl) (WL_nil (X_then ?_))))))
          refine W_seq ?_
          refine W.pre (K' := [(4, _), (12, _), (13, _), (14, _), (78, _), (79, _), (80, _)]) (L' := [(0, _), (101, _), (202, _)]) ?_ ⟨rfl, ⟨rfl, ⟨rfl, ⟨rfl, ⟨rfl, ⟨rfl, ⟨rfl, trivial⟩⟩⟩⟩⟩⟩⟩ ⟨rfl, ⟨rfl, ⟨rfl, trivial⟩⟩⟩
          refine W_regL (WL_pure rfl rfl (by decide) (Pu_move rfl rfl) (WL_nil (X_then ?_)))
          refine W_block ?_
          refine W_loop (α := Nat) (fun y => [(4, .pointer (some ⟨g101, 0, none⟩)), (12, .pointer (some ⟨g202, 0, none⟩)), (13, .int .i64 (x : Int)), (14, wv (S.list.getD x 0)), (78, .agg (ws S.list).toArray), (79, .int .i64 (x : Int)), (83, .int .i64 (y : Int))]) (fun y => [(0, F), (101, blk g101 29 (bs zeroId)), (202, blk g202 29 (bs (outZ S (4 * x + y))))]) (fun y => y ≤ 4) (fun y => 4 - y) (0) (by omega) ⟨rfl, ⟨rfl, ⟨rfl, ⟨rfl, ⟨rfl, ⟨rfl, ⟨rfl, trivial⟩⟩⟩⟩⟩⟩⟩ ⟨rfl, ⟨rfl, ⟨rfl, trivial⟩⟩⟩ (fun y hy => ?_)
          have hzl := outZ_length (s := S) (q := 4 * x + y) (by omega)
          refine W_seq ?_
          refine W.pre (K' := [(4, _), (12, _), (13, _), (14, _), (78, _), (79, _), (83, _)]) (L' := [(0, _), (101, _), (202, _)]) ?_ ⟨rfl, ⟨rfl, ⟨rfl, ⟨rfl, ⟨rfl, ⟨rfl, ⟨rfl, trivial⟩⟩⟩⟩⟩⟩⟩ ⟨rfl, ⟨rfl, ⟨rfl, trivial⟩⟩⟩
          refine W_regL (WL_pure rfl rfl (by decide) (Pu_bin rfl rfl rfl (run_lss _ _ _ _ _ _)) (WL_nil (X_then ?_)))
          refine W_seq ?_
          refine W_cond rfl (fun hc84 => ?_) (fun hc84 => ?_)
          ·
            have hly : y < 4 := by have := of_decide_eq_true hc84; omega
            refine W_skip (X_then ?_)
            refine W_seq ?_
            refine W_block ?_
            refine W_seq ?_
            refine W.pre (K' := [(4, _), (12, _), (13, _), (14, _), (78, _), (79, _), (83, _), (84, _)]) (L' := [(0, _), (101, _), (202, _)]) ?_ ⟨rfl, ⟨rfl, ⟨rfl, ⟨rfl, ⟨rfl, ⟨rfl, ⟨rfl, ⟨rfl, trivial⟩⟩⟩⟩⟩⟩⟩⟩ ⟨rfl, ⟨rfl, ⟨rfl, trivial⟩⟩⟩
            refine W_regL (WL_pure rfl rfl (by decide) (Pu_move rfl rfl) (WL_pure rfl rfl (by decide) (Pu_assign rfl rfl) (WL_nil (X_then ?_))))
            refine W.pre (K' := [(4, _), (12, _), (13, _), (14, _), (15, _), (78, _), (79, _), (83, _), (84, _)]) (L' := [(0, _), (101, _), (202, _)]) ?_ ⟨rfl, ⟨rfl, ⟨rfl, ⟨rfl, ⟨rfl, ⟨rfl, ⟨rfl, ⟨rfl, ⟨rfl, trivial⟩⟩⟩⟩⟩⟩⟩⟩⟩ ⟨rfl, ⟨rfl, ⟨rfl, trivial⟩⟩⟩
            refine W_regL (WL_pure rfl rfl (by decide) (Pu_move rfl rfl) (WL_pure rfl rfl (by decide) (Pu_bin rfl rfl rfl (run_mul _ _ _ _ _ (by omega))) (WL_pure rfl rfl (by decide) (Pu_move rfl rfl) (WL_pure rfl rfl (by decide) (Pu_bin rfl rfl rfl (run_add _ _ _ _ _ (by omega))) (WL_pure rfl rfl (by decide) (Pu_move rfl rfl) (WL_pure rfl rfl (by decide) (Pu_move rfl rfl) (WL_pure rfl rfl (by decide) (Pu_bin rfl rfl rfl (run_mul _ _ _ _ _ (by omega))) (WL_pure rfl rfl (by decide) (Pu_bin rfl rfl rfl (run_sub _ _ _ _ _ (by omega))) ?_))))))))
            rw [show 24 - 8 * (y : Int) = ((24 - 8 * y : Nat) : Int) by omega]
            refine (WL_pure rfl rfl (by decide) (Pu_bin rfl rfl rfl (run_shrW _ (24 - 8 * y) (by omega) _ _ _)) (WL_pure rfl rfl (by decide) (Pu_conv rfl rfl (conv_byteW _ Try.runUnderlying73 Try.runUnderlying5)) (WL_pure rfl rfl (by decide) (Pu_idxA rfl Try.runUnderlying29 Try.sizeOf5 rfl rfl (by omega)) (WL_cons0 rfl rfl (OpT_storeB1 (r := 202) rfl Try.sizeOf5 rfl rfl rfl rfl (by rw [bs_length, hzl]; omega) (outZ_set hlx hly (by omega)) ?_)))))
            refine (WL_nil (X_block (X_then ?_)))
            refine W.pre (K' := [(4, _), (12, _), (13, _), (14, _), (15, _), (78, _), (79, _), (83, _), (84, _)]) (L' := [(0, _), (101, _), (202, _)]) ?_ ⟨rfl, ⟨rfl, ⟨rfl, ⟨rfl, ⟨rfl, ⟨rfl, ⟨rfl, ⟨rfl, ⟨rfl, trivial⟩⟩⟩⟩⟩⟩⟩⟩⟩ ⟨rfl, ⟨rfl, ⟨rfl, trivial⟩⟩⟩
            refine W_regL (WL_pure rfl rfl (by decide) (Pu_bin rfl rfl rfl (run_add _ _ _ _ _ (by omega))) (WL_pure rfl rfl (by decide) (Pu_move rfl rfl) (WL_nil ?_)))
            exact X_round (y + 1) (by omega) (by omega) ⟨rfl, rfl, rfl, rfl, rfl, rfl, rfl, trivial⟩ ⟨rfl, rfl, rfl, trivial⟩
          ·
            obtain rfl : y = 4 := by have := of_decide_eq_false hc84; omega
            refine W_exit (X_then_exit (X_then_exit (X_block_exit (X_block (X_then ?_)))))
            refine W.pre (K' := [(4, _), (12, _), (13, _), (14, _), (78, _), (79, _), (83, _), (84, _)]) (L' := [(0, _), (101, _), (202, _)]) ?_ ⟨rfl, ⟨rfl, ⟨rfl, ⟨rfl, ⟨rfl, ⟨rfl, ⟨rfl, ⟨rfl, trivial⟩⟩⟩⟩⟩⟩⟩⟩ ⟨rfl, ⟨rfl, ⟨rfl, trivial⟩⟩⟩
            refine W_regL (WL_pure rfl rfl (by decide) (Pu_bin rfl rfl rfl (run_add _ _ _ _ _ (by omega))) (WL_pure rfl rfl (by decide) (Pu_move rfl rfl) (WL_nil ?_)))
            exact X_round (x + 1) (by omega) (by omega) ⟨rfl, rfl, rfl, rfl, trivial⟩ ⟨rfl, rfl, look_eq rfl (by rw [show 4 * (x + 1) = 4 * x + 4 by omega]), trivial⟩
        ·
          obtain rfl : x = 8 := by have := of_decide_eq_false hc80; omega
          rw [show 4 * 8 = 32 from rfl, outZ_full]
          refine W_exit (X_then_exit (X_then_exit (X_block_exit (X_then ?_))))
          refine W_seq ?_
          refine W.pre (K' := [(4, _), (12, _), (78, _), (79, _), (80, _)]) (L' := [(0, _), (101, _), (202, _)]) ?_ ⟨rfl, ⟨rfl, ⟨rfl, ⟨rfl, ⟨rfl, trivial⟩⟩⟩⟩⟩ ⟨rfl, ⟨rfl, ⟨rfl, trivial⟩⟩⟩
          refine W_regL (WL_pure rfl rfl (by decide) (Pu_loadBN (r := 202) rfl Try.isAgg29 Try.sizeOf29 rfl rfl rfl (load_all rfl)) (WL_cons0 rfl rfl (OpT_storeAll (r := 101) rfl Try.sizeOf29 rfl rfl rfl rfl rfl (bs_one _) ?_)))
          refine (WL_nil (X_then ?_))
          refine W_ret ?_
          exact X_ret [] (Ps := []) (resC1 (r := 101) Try.results46 rfl Try.isAgg29 Try.sizeOf29 rfl rfl) rfl (by decide) ⟨by rw [hd, hsha]; rfl, rfl⟩
theorem sum_spec (va : Value) (a : List UInt8) (hla : a.length ≤ 1000000000) (F : HP) (hFa : ∀ h, F h → rdB va a h) : CallsS Try.prog 24 #[va] F [] (fun r Ps => r = idV (sha a) ∧ Ps = []) := by
  refine callsS_enter Try.func24 rfl Try.ntmps24 (by simp) (fun E => ?_)
  refine W_seq ?_
  refine W.pre (K' := [(0, _)]) (L' := [(0, _)]) ?_ ⟨rfl, trivial⟩ ⟨rfl, trivial⟩
  refine W_regL (WL_cons rfl rfl (by decide) (OpT_alloc (r := 101) (cs := (bs zeroId)) rfl (zero_run (by kernel_rfl : (Try.prog.info? 29).bind (·.zero) = some (.agg (bs zeroId).toArray))) rfl (fun g101 => (WL_nil (X_then ?_)))))
  refine W_seq ?_
  refine W.pre (K' := [(0, _), (2, _)]) (L' := [(0, _), (101, _)]) ?_ ⟨rfl, ⟨rfl, trivial⟩⟩ ⟨rfl, ⟨rfl, trivial⟩⟩
  refine W_regL (WL_pure rfl rfl (by decide) (Pu_move rfl rfl) (WL_cons rfl rfl (by decide) (OpT_call 200 [0, 101] [] rfl Try.call46 rfl rfl rfl (by decide) (by decide) (pair_spec va (.slice none 0 0) a [] hla (by simp) _ (rd_star 0 rfl hFa) (fun h _ => rd_const 0 1 h)) (fun v4 Ps4 hR4 => ?_))))
  obtain ⟨rfl, rfl⟩ := hR4
  rw [List.append_nil]
  refine (WL_cons0 rfl rfl (OpT_storeAll (r := 101) rfl Try.sizeOf29 rfl rfl rfl rfl ((bs_length _).trans (sha_length a)) (bs_one _) ?_))
  refine (WL_nil (X_then ?_))
  refine W_ret ?_
  exact X_ret [] (Ps := []) (resC1 (r := 101) Try.results24 rfl Try.isAgg29 Try.sizeOf29 rfl ((bs_length _).trans (sha_length a))) rfl (by decide) ⟨rfl, rfl⟩
end Go.Proofs.Ytinamipkpdlphaa
/- The hash, the document's way: plain words. -/
namespace Go.Proofs.Ytinamipkpdlphaa
open Go.RowKit
set_option linter.unusedVariables false
set_option linter.unusedSimpArgs false
/-- The words of a piece, over what stood there. -/
def schW (w : List UInt32) (b : List UInt8) (p t : Nat) : List UInt32 := sch b p t ++ w.drop t
section
variable {w : List UInt32} {b : List UInt8} {p t : Nat}
theorem schW_length (hw : w.length = 64) (h : t ≤ 64) : (schW w b p t).length = 64 := by unfold schW; rw [List.length_append, sch_length, List.length_drop]; omega
theorem schW_full (hw : w.length = 64) : schW w b p 64 = sch b p 64 := by unfold schW; rw [List.drop_of_length_le (by omega), List.append_nil]
theorem schW_get {k : Nat} (h : k < t) : (schW w b p t).getD k 0 = (sch b p t).getD k 0 := by
  unfold schW
  rw [List.getD_eq_getElem?_getD, List.getD_eq_getElem?_getD, List.getElem?_append_left (by rw [sch_length]; exact h)]
theorem schW_set {z : Int} {x : UInt32} (hw : w.length = 64) (hz : z.toNat = t) (ht : t < 64) (hx : x = if t < 16 then word b (p + 4 * t) else nextW (sch b p t) t) : (schW w b p t).set (0 + z.toNat) x = schW w b p (t + 1) := by
  rw [hz, Nat.zero_add]
  have hs : sch b p (t + 1) = sch b p t ++ [x] := by rw [hx]; rfl
  unfold schW
  rw [hs, List.set_append_right _ _ (by rw [sch_length]; omega), sch_length, Nat.sub_self, List.drop_eq_getElem_cons (by omega), List.set_cons_zero, List.append_assoc]
  rfl
theorem schW_next (h1 : 16 ≤ t) : sm1 ((schW w b p t).getD (t - 2) 0) + (schW w b p t).getD (t - 7) 0 + sm0 ((schW w b p t).getD (t - 15) 0) + (schW w b p t).getD (t - 16) 0 = if t < 16 then word b (p + 4 * t) else nextW (sch b p t) t := by
  rw [if_neg (by omega), schW_get (by omega), schW_get (by omega), schW_get (by omega), schW_get (by omega)]
  rfl
end
/-- The first i added. -/
def addK (s a : List UInt32) (i : Nat) : List UInt32 := (List.zipWith (· + ·) s a).take i ++ s.drop i
theorem addK_length {s a : List UInt32} {i : Nat} (hs : s.length = 8) (ha : a.length = 8) (hi : i ≤ 8) : (addK s a i).length = 8 := by
  unfold addK
  rw [List.length_append, List.length_take, List.length_zipWith, List.length_drop]
  omega
theorem addK_get {s a : List UInt32} {i : Nat} (hs : s.length = 8) (ha : a.length = 8) (hi : i < 8) : (addK s a i).getD i 0 = s.getD i 0 := by
  unfold addK
  have hl : ((List.zipWith (· + ·) s a).take i).length = i := by rw [List.length_take, List.length_zipWith]; omega
  rw [List.getD_eq_getElem?_getD, List.getD_eq_getElem?_getD, List.getElem?_append_right (by omega), hl, Nat.sub_self, List.getElem?_drop]
  rfl
theorem addK_set {s a : List UInt32} {i : Nat} {z : Int} (hs : s.length = 8) (ha : a.length = 8) (hz : z.toNat = i) (hi : i < 8) : (addK s a i).set (0 + z.toNat) ((addK s a i).getD i 0 + a.getD i 0) = addK s a (i + 1) := by
  rw [addK_get hs ha hi, hz, Nat.zero_add]
  have hl : ((List.zipWith (· + ·) s a).take i).length = i := by rw [List.length_take, List.length_zipWith]; omega
  have hz2 : i < (List.zipWith (· + ·) s a).length := by rw [List.length_zipWith]; omega
  unfold addK
  rw [List.set_append_right _ _ (by omega), hl, Nat.sub_self, List.drop_eq_getElem_cons (by omega), List.set_cons_zero, List.take_succ_eq_append_getElem hz2, List.append_assoc]
  congr 1
  rw [List.getElem_zipWith, List.getD_eq_getElem?_getD, List.getD_eq_getElem?_getD, List.getElem?_eq_getElem (by omega), List.getElem?_eq_getElem (by omega)]
  rfl
theorem addK_full (s a : S8) : addK s.list a.list 8 = (addS s a).list := rfl
theorem padZ_stop (n : Nat) : (n + 1 + padZ n) % 64 = 56 := by unfold padZ; omega
theorem padZ_goes {n x : Nat} (h : x < padZ n) : (n + 1 + x) % 64 ≠ 56 := by unfold padZ at h; omega
theorem padZ_last {n x : Nat} (h : x ≤ padZ n) (he : (n + 1 + x) % 64 = 56) : x = padZ n := by
  rcases Nat.lt_or_ge x (padZ n) with h1 | h1
  · exact absurd he (padZ_goes h1)
  · omega
theorem lenB_next {n j : Nat} (hj : j < 8) : (lenB n).take (j + 1) = (lenB n).take j ++ [lenAt n j] := by
  have hl : j < (lenB n).length := by rw [lenB_length]; exact hj
  rw [List.take_succ_eq_append_getElem hl]
  have := lenB_at (n := n) hj
  rw [List.getElem?_eq_getElem hl] at this
  injection this with this
  rw [this]
theorem outZ_set3 {s : S8} {i off : Nat} (hi : i < 8) (ho : off = 4 * i + 3) : (bs (outZ s (4 * i + 3))).set off (bv (s.list.getD i 0).toUInt8) = bs (outZ s (4 * i + 3 + 1)) := by
  have h := outZ_set (s := s) (i := i) (k := 3) (off := off) hi (by decide) ho
  have h0 : (s.list.getD i 0) >>> UInt32.ofNat (24 - 8 * 3) = s.list.getD i 0 := by simp
  rw [h0] at h
  exact h
end Go.Proofs.Ytinamipkpdlphaa
/- The hash of bytes, the document's way. -/
namespace Go.Proofs.Ytinamipkpdlphaa
open Go.RowKit
set_option linter.unusedVariables false
set_option linter.unusedSimpArgs false
set_option maxRecDepth 8000
theorem rowB_zero {t : TypeId} (v : Value) (d : List UInt8) : rowP t 1 v (0 + d.length) (bs [] ++ bs d) = rowB t v d := by
  unfold rowB
  rw [Nat.zero_add]
  rfl
theorem rowB_app1 {t : TypeId} {v : Value} {d : List UInt8} {h : Hlt} (hp : rowP t 1 v (d.length + 1) (bs d ++ bs [128]) h) : rowB t v (d ++ [128] ++ zs8 0) h := by
  unfold rowB
  rw [show d ++ [128] ++ zs8 0 = d ++ [128] from List.append_nil _, List.length_append]
  simpa [bs] using hp
theorem rowB_app0 {t : TypeId} {v : Value} {d : List UInt8} {k : Nat} {h : Hlt} (hp : rowP t 1 v ((d ++ zs8 k).length + 1) (bs (d ++ zs8 k) ++ bs [0]) h) : rowB t v (d ++ zs8 (k + 1)) h := by
  have e : d ++ zs8 (k + 1) = (d ++ zs8 k) ++ [0] := by unfold zs8; rw [List.replicate_succ', List.append_assoc]
  unfold rowB
  rw [e, show ((d ++ zs8 k) ++ [(0 : UInt8)]).length = (d ++ zs8 k).length + 1 from List.length_append, bs_app]
  exact hp
theorem rowB_appL {t : TypeId} {v : Value} {d m : List UInt8} {x : UInt8} {h : Hlt} (hp : rowP t 1 v ((d ++ m).length + 1) (bs (d ++ m) ++ bs [x]) h) : rowB t v (d ++ (m ++ [x])) h := by
  unfold rowB
  rw [← List.append_assoc, show ((d ++ m) ++ [x]).length = (d ++ m).length + 1 from List.length_append, bs_app]
  exact hp
theorem rot_spec (x : UInt32) (r : Nat) (hr : 0 < r ∧ r < 32) (F : HP) : CallsS Try.prog 34 #[wv x, .int .u64 (r : Int)] F [] (fun v Ps => v = wv (rotr x r) ∧ Ps = []) := by
  refine callsS_enter Try.func34 rfl Try.ntmps34 (by simp) (fun E => ?_)
  refine W_seq ?_
  refine W.pre (K' := [(0, _), (1, _)]) (L' := [(0, _)]) ?_ ⟨rfl, ⟨rfl, trivial⟩⟩ ⟨rfl, trivial⟩
  refine W_regL (WL_pure rfl rfl (by decide) (Pu_assign rfl rfl) (WL_nil (X_then ?_)))
  refine W_seq ?_
  refine W.pre (K' := [(0, _), (1, _), (4, _)]) (L' := [(0, _)]) ?_ ⟨rfl, ⟨rfl, ⟨rfl, trivial⟩⟩⟩ ⟨rfl, trivial⟩
  refine W_regL (WL_pure rfl rfl (by decide) (Pu_move rfl rfl) (WL_pure rfl rfl (by decide) (Pu_move rfl rfl) (WL_pure rfl rfl (by decide) (Pu_bin rfl rfl rfl (run_shrW _ (r) hr.2 _ _ _)) (WL_pure rfl rfl (by decide) (Pu_move rfl rfl) (WL_pure rfl rfl (by decide) (Pu_move rfl rfl) (WL_pure rfl rfl (by decide) (Pu_bin rfl rfl rfl (run_subU 32 r _ _ _ (by omega))) (WL_pure rfl rfl (by decide) (Pu_bin rfl rfl rfl (run_shlW _ (32 - r) (by omega) _ _ _)) (WL_pure rfl rfl (by decide) (Pu_bin rfl rfl rfl (run_orW _ _ _ _ _)) (WL_pure rfl rfl (by decide) (Pu_assign rfl rfl) (WL_nil (X_then ?_)))))))))))
  refine W_ret ?_
  exact X_ret [] (Ps := []) (res1 Try.results34 rfl) rfl (by decide) ⟨rfl, rfl⟩
set_option maxHeartbeats 4000000 in
theorem refSum_spec (vd : Value) (d : List UInt8) (hld : d.length ≤ 1000000000) (F : HP) (hF : ∀ h, F h → rdB vd d h) : CallsS Try.prog 14 #[vd] F [] (fun r Ps => r = idV (sha d) ∧ Ps = []) := by
  refine callsS_enter Try.func14 rfl Try.ntmps14 (by simp) (fun E => ?_)
  refine W_seq ?_
  refine W.pre (K' := [(0, _)]) (L' := [(0, _)]) ?_ ⟨rfl, trivial⟩ ⟨rfl, trivial⟩
  refine W_regL (WL_cons rfl rfl (by decide) (OpT_alloc (r := 101) (cs := (bs zeroId)) rfl (zero_run (by kernel_rfl : (Try.prog.info? 29).bind (·.zero) = some (.agg (bs zeroId).toArray))) rfl (fun g101 => (WL_nil (X_then ?_)))))
  refine W_seq ?_
  refine W.pre (K' := [(0, _), (2, _)]) (L' := [(0, _), (101, _)]) ?_ ⟨rfl, ⟨rfl, trivial⟩⟩ ⟨rfl, ⟨rfl, trivial⟩⟩
  refine W_regL (WL_cons rfl rfl (by decide) (OpT_call 200 [0, 101] [] rfl Try.call33 rfl rfl rfl (by decide) (by decide) (words_spec _) (fun v23 Ps23 hR23 => ?_)))
  obtain ⟨rfl, rfl⟩ := hR23
  refine (WL_cons rfl rfl (by decide) (OpT_alloc (r := 201) (cs := (ws (List.replicate 64 0))) rfl (zero_run (by kernel_rfl : (Try.prog.info? 74).bind (·.zero) = some (.agg (ws (List.replicate 64 0)).toArray))) rfl (fun g201 => (WL_cons0 rfl rfl (OpT_storeAll (r := 201) rfl Try.sizeOf74 rfl rfl rfl rfl rfl (ws_one _) ?_)))))
  refine (WL_nil (X_then ?_))
  refine W_seq ?_
  refine W.pre (K' := [(0, _), (2, _), (3, _)]) (L' := [(0, _), (101, _), (201, _)]) ?_ ⟨rfl, ⟨rfl, ⟨rfl, trivial⟩⟩⟩ ⟨rfl, ⟨rfl, ⟨rfl, trivial⟩⟩⟩
  refine W_regL (WL_pure rfl rfl (by decide) (Pu_built (cells := ws HS) rfl rfl (by kernel_rfl)) (WL_cons rfl rfl (by decide) (OpT_alloc (r := 202) (cs := (ws [0, 0, 0, 0, 0, 0, 0, 0])) rfl (zero_run (by kernel_rfl : (Try.prog.info? 76).bind (·.zero) = some (.agg (ws [0, 0, 0, 0, 0, 0, 0, 0]).toArray))) rfl (fun g202 => (WL_cons0 rfl rfl (OpT_storeAll (r := 202) rfl Try.sizeOf76 rfl rfl rfl rfl rfl (ws_one _) ?_))))))
  refine (WL_nil (X_then ?_))
  refine W_seq ?_
  refine W.pre (K' := [(0, _), (2, _), (3, _), (4, _)]) (L' := [(0, _), (101, _), (201, _), (202, _)]) ?_ ⟨rfl, ⟨rfl, ⟨rfl, ⟨rfl, trivial⟩⟩⟩⟩ ⟨rfl, ⟨rfl, ⟨rfl, ⟨rfl, trivial⟩⟩⟩⟩
  refine W_regL (WL_cons rfl rfl (by decide) (OpT_buildOnes (r := 203) (bs []) rfl rfl Try.runUnderlying30 Try.sizeOf5 Try.zeroValue5 rfl rfl (by decide) rfl (bs_cells _) (fun v25 => (WL_pure rfl rfl (by decide) (Pu_move rfl rfl) (WL_cons rfl rfl (by decide) (OpT_append (r := 203) (r2 := 0) rfl Try.underlying30 TI.hi5 TI.hz5 TI.hs5 TI.hby5 TI.hzs5 (by decide) rfl rfl rfl rfl hF (bs_one _) (by unfold maxLen; omega) (by omega) (fun v27 => ?_)))))))
  skip
  refine (WL_pure rfl rfl (by decide) (Pu_assign rfl rfl) (WL_nil (X_then ?_)))
  refine W_seq ?_
  refine W.pre (K' := [(0, _), (2, _), (3, _), (4, _), (5, _)]) (L' := [(0, _), (101, _), (201, _), (202, _), (203, _)]) ?_ ⟨rfl, ⟨rfl, ⟨rfl, ⟨rfl, ⟨rfl, trivial⟩⟩⟩⟩⟩ ⟨rfl, ⟨rfl, ⟨rfl, ⟨rfl, ⟨rfl, trivial⟩⟩⟩⟩⟩
  refine W_turn (P' := rowB 5 v27 d) 203 rfl (fun h hp => (congrFun (rowB_zero _ _) h).mp hp) ?_
  refine W_regL (WL_pure rfl rfl (by decide) (Pu_move rfl rfl) (WL_cons rfl rfl (by decide) (OpT_buildOnes (r := 204) (bs [128]) rfl rfl Try.runUnderlying30 Try.sizeOf5 Try.zeroValue5 rfl rfl (by decide) rfl (bs_cells _) (fun v29 => (WL_cons rfl rfl (by decide) (OpT_append (r := 203) (r2 := 204) rfl Try.underlying30 TI.hi5 TI.hz5 TI.hs5 TI.hby5 TI.hzs5 (by decide) rfl rfl rfl rfl (fun _ h => rowP_rd h) (bs_one _) (by unfold maxLen; omega) (by omega) (fun v30 => ?_)))))))
  refine (WL_pure rfl rfl (by decide) (Pu_assign rfl rfl) (WL_nil (X_then ?_)))
  refine W_seq ?_
  refine W_block ?_
  refine W_turn (P' := rowB 5 v30 (d ++ [128] ++ zs8 0)) 203 rfl (fun h hp => rowB_app1 hp) ?_
  refine W_loop (α := Value × Nat) (fun x => [(0, vd), (2, .pointer (some ⟨g101, 0, none⟩)), (3, .pointer (some ⟨g201, 0, none⟩)), (4, .pointer (some ⟨g202, 0, none⟩)), (5, x.1)]) (fun x => [(0, F), (101, blk g101 29 (bs zeroId)), (201, blk g201 74 (ws KS)), (202, blk g202 76 (ws HS)), (203, rowB 5 x.1 (d ++ [128] ++ zs8 x.2))]) (fun x => x.2 ≤ padZ d.length) (fun x => padZ d.length - x.2) ((v30, 0)) (Nat.zero_le _) ⟨rfl, ⟨rfl, ⟨rfl, ⟨rfl, ⟨rfl, trivial⟩⟩⟩⟩⟩ ⟨rfl, ⟨rfl, ⟨rfl, ⟨rfl, ⟨rfl, trivial⟩⟩⟩⟩⟩ (fun x hx => ?_)
  have hzl : (d ++ [128] ++ zs8 x.2).length = d.length + 1 + x.2 := by simp [zs8_length]; omega
  have hpz : padZ d.length < 64 := by unfold padZ; omega
  refine W_seq ?_
  refine W_seq ?_
  refine W.pre (K' := [(0, _), (2, _), (3, _), (4, _), (5, _)]) (L' := [(0, _), (101, _), (201, _), (202, _), (203, _)]) ?_ ⟨rfl, ⟨rfl, ⟨rfl, ⟨rfl, ⟨rfl, trivial⟩⟩⟩⟩⟩ ⟨rfl, ⟨rfl, ⟨rfl, ⟨rfl, ⟨rfl, trivial⟩⟩⟩⟩⟩
  refine W_regL (WL_pure rfl rfl (by decide) (Pu_move rfl rfl) (WL_pure rfl rfl (by decide) (Pu_len (r := 203) rfl Try.runUnderlying30 rfl rfl (fun _ h => rowP_rd h)) (WL_pure rfl rfl (by decide) (Pu_bin rfl rfl rfl (run_rem _ _ _ _ _ (by omega))) (WL_pure rfl rfl (by decide) (Pu_bin rfl rfl rfl (run_neq _ _ _ _ _ _)) (WL_nil (X_then ?_))))))
  refine W_cond rfl (fun hc34 => ?_) (fun hc34 => ?_)
  ·
    have hlt : x.2 < padZ d.length := by
      have h1 : ¬ (d.length + 1 + x.2) % 64 = 56 := by rw [hzl] at hc34; intro e; simp at hc34; omega
      have := padZ_stop d.length
      rcases Nat.lt_or_ge x.2 (padZ d.length) with h | h
      · exact h
      · exfalso; apply h1; rw [show x.2 = padZ d.length by omega]; exact this
    refine W_skip (X_then ?_)
    refine W_block ?_
    refine W.pre (K' := [(0, _), (2, _), (3, _), (4, _), (5, _), (34, _)]) (L' := [(0, _), (101, _), (201, _), (202, _), (203, _)]) ?_ ⟨rfl, ⟨rfl, ⟨rfl, ⟨rfl, ⟨rfl, ⟨rfl, trivial⟩⟩⟩⟩⟩⟩ ⟨rfl, ⟨rfl, ⟨rfl, ⟨rfl, ⟨rfl, trivial⟩⟩⟩⟩⟩
    refine W_regL (WL_pure rfl rfl (by decide) (Pu_move rfl rfl) (WL_cons rfl rfl (by decide) (OpT_buildOnes (r := 205) (bs [0]) rfl rfl Try.runUnderlying30 Try.sizeOf5 Try.zeroValue5 rfl rfl (by decide) rfl (bs_cells _) (fun v36 => (WL_cons rfl rfl (by decide) (OpT_append (r := 203) (r2 := 205) rfl Try.underlying30 TI.hi5 TI.hz5 TI.hs5 TI.hby5 TI.hzs5 (by decide) rfl rfl rfl rfl (fun _ h => rowP_rd h) (bs_one _) (by unfold maxLen; omega) (by omega) (fun v37 => ?_)))))))
    refine (WL_pure rfl rfl (by decide) (Pu_assign rfl rfl) (WL_nil (X_block ?_)))
    refine X_turn (P' := rowB 5 v37 (d ++ [128] ++ zs8 (x.2 + 1))) 203 rfl (fun h hp => rowB_app0 hp) ?_
    exact X_round (v37, x.2 + 1) (by dsimp only; omega) (by show padZ d.length - (x.2 + 1) < padZ d.length - x.2; omega) ⟨rfl, rfl, rfl, rfl, rfl, trivial⟩ ⟨rfl, rfl, rfl, rfl, rfl, trivial⟩
  ·
    have hxe : x.2 = padZ d.length := padZ_last hx (by rw [hzl] at hc34; simp at hc34; omega)
    rw [hxe] at hzl ⊢
    refine W_exit (X_then_exit (X_then_exit (X_block_exit (X_then ?_))))
    refine W_seq ?_
    refine W.pre (K' := [(0, _), (2, _), (3, _), (4, _), (5, _), (34, _)]) (L' := [(0, _), (101, _), (201, _), (202, _), (203, _)]) ?_ ⟨rfl, ⟨rfl, ⟨rfl, ⟨rfl, ⟨rfl, ⟨rfl, trivial⟩⟩⟩⟩⟩⟩ ⟨rfl, ⟨rfl, ⟨rfl, ⟨rfl, ⟨rfl, trivial⟩⟩⟩⟩⟩
    refine W_regL (WL_pure rfl rfl (by decide) (Pu_move rfl rfl) (WL_pure rfl rfl (by decide) (Pu_len (r := 0) rfl Try.runUnderlying30 rfl rfl hF) (WL_pure rfl rfl (by decide) (Pu_conv rfl rfl (conv_u64 d.length Try.runUnderlying3 Try.runUnderlying77 (by omega))) (WL_pure rfl rfl (by decide) (Pu_bin rfl rfl rfl (run_mulU d.length 8 _ _ _ (by omega))) (WL_pure rfl rfl (by decide) (Pu_assign rfl rfl) (WL_nil (X_then ?_)))))))
    refine W_seq ?_
    refine W_seq ?_
    refine W.pre (K' := [(0, _), (2, _), (3, _), (4, _), (5, _), (6, _), (34, _)]) (L' := [(0, _), (101, _), (201, _), (202, _), (203, _)]) ?_ ⟨rfl, ⟨rfl, ⟨rfl, ⟨rfl, ⟨rfl, ⟨rfl, ⟨rfl, trivial⟩⟩⟩⟩⟩⟩⟩ ⟨rfl, ⟨rfl, ⟨rfl, ⟨rfl, ⟨rfl, trivial⟩⟩⟩⟩⟩
    refine W_regL (WL_pure rfl rfl (by decide) (Pu_assign rfl rfl) (WL_nil (X_then ?_)))
    refine W_block ?_
    refine W_loop (α := Value × Nat) (fun y => [(0, vd), (2, .pointer (some ⟨g101, 0, none⟩)), (3, .pointer (some ⟨g201, 0, none⟩)), (4, .pointer (some ⟨g202, 0, none⟩)), (5, y.1), (6, .int .u64 ((d.length * 8 : Nat) : Int)), (7, .int .i64 (7 - (y.2 : Int)))]) (fun y => [(0, F), (101, blk g101 29 (bs zeroId)), (201, blk g201 74 (ws KS)), (202, blk g202 76 (ws HS)), (203, rowB 5 y.1 (d ++ [128] ++ zs8 (padZ d.length) ++ (lenB d.length).take y.2))]) (fun y => y.2 ≤ 8) (fun y => 8 - y.2) ((x.1, 0)) (by dsimp only; omega) ⟨rfl, ⟨rfl, ⟨rfl, ⟨rfl, ⟨rfl, ⟨rfl, ⟨rfl, trivial⟩⟩⟩⟩⟩⟩⟩ ⟨rfl, rfl, rfl, rfl, look_eq rfl (by rw [List.take_zero, List.append_nil]), trivial⟩ (fun y hy => ?_)
    have hyl : (d ++ [128] ++ zs8 (padZ d.length) ++ (lenB d.length).take y.2).length = d.length + 1 + padZ d.length + y.2 := by rw [List.length_append, hzl, List.length_take, lenB_length]; omega
    refine W_seq ?_
    refine W_seq ?_
    refine W.pre (K' := [(0, _), (2, _), (3, _), (4, _), (5, _), (6, _), (7, _)]) (L' := [(0, _), (101, _), (201, _), (202, _), (203, _)]) ?_ ⟨rfl, ⟨rfl, ⟨rfl, ⟨rfl, ⟨rfl, ⟨rfl, ⟨rfl, trivial⟩⟩⟩⟩⟩⟩⟩ ⟨rfl, ⟨rfl, ⟨rfl, ⟨rfl, ⟨rfl, trivial⟩⟩⟩⟩⟩
    refine W_regL (WL_pure rfl rfl (by decide) (Pu_move rfl rfl) (WL_pure rfl rfl (by decide) (Pu_bin rfl rfl rfl (run_geq _ _ _ _ _ _)) (WL_nil (X_then ?_))))
    refine W_cond rfl (fun hc43 => ?_) (fun hc43 => ?_)
    ·
      have hly : y.2 < 8 := by have := of_decide_eq_true hc43; omega
      refine W_skip (X_then ?_)
      refine W_seq ?_
      refine W_block ?_
      refine W.pre (K' := [(0, _), (2, _), (3, _), (4, _), (5, _), (6, _), (7, _), (43, _)]) (L' := [(0, _), (101, _), (201, _), (202, _), (203, _)]) ?_ ⟨rfl, ⟨rfl, ⟨rfl, ⟨rfl, ⟨rfl, ⟨rfl, ⟨rfl, ⟨rfl, trivial⟩⟩⟩⟩⟩⟩⟩⟩ ⟨rfl, ⟨rfl, ⟨rfl, ⟨rfl, ⟨rfl, trivial⟩⟩⟩⟩⟩
      refine W_regL (WL_pure rfl rfl (by decide) (Pu_move rfl rfl) (WL_pure rfl rfl (by decide) (Pu_move rfl rfl) (WL_pure rfl rfl (by decide) (Pu_move rfl rfl) ?_)))
      rw [show 7 - (y.2 : Int) = ((7 - y.2 : Nat) : Int) by omega]
      refine (WL_pure rfl rfl (by decide) (Pu_conv rfl rfl (conv_u64 (7 - y.2) Try.runUnderlying3 Try.runUnderlying71 (by omega))) (WL_pure rfl rfl (by decide) (Pu_bin rfl rfl rfl (run_mulU 8 (7 - y.2) _ _ _ (by omega))) (WL_pure rfl rfl (by decide) (Pu_bin rfl rfl rfl (run_shrU (d.length * 8) (8 * (7 - y.2)) _ _ _ (by omega))) (WL_pure rfl rfl (by decide) (Pu_conv rfl rfl (conv_byte _ _ Try.runUnderlying77 Try.runUnderlying5)) (WL_cons rfl rfl (by decide) (OpT_buildOnes (r := 205) (bs [lenAt d.length y.2]) rfl rfl Try.runUnderlying30 Try.sizeOf5 Try.zeroValue5 rfl rfl (by decide) rfl (bs_cells _) (fun v53 => (WL_cons rfl rfl (by decide) (OpT_append (r := 203) (r2 := 205) rfl Try.underlying30 TI.hi5 TI.hz5 TI.hs5 TI.hby5 TI.hzs5 (by decide) rfl rfl rfl rfl (fun _ h => rowP_rd h) (bs_one _) (by unfold maxLen; omega) (by omega) (fun v54 => ?_))))))))))
      refine (WL_pure rfl rfl (by decide) (Pu_assign rfl rfl) (WL_nil (X_block (X_then ?_))))
      refine W.pre (K' := [(0, _), (2, _), (3, _), (4, _), (5, _), (6, _), (7, _), (43, _)]) (L' := [(0, _), (101, _), (201, _), (202, _), (203, _), (205, _)]) ?_ ⟨rfl, ⟨rfl, ⟨rfl, ⟨rfl, ⟨rfl, ⟨rfl, ⟨rfl, ⟨rfl, trivial⟩⟩⟩⟩⟩⟩⟩⟩ ⟨rfl, ⟨rfl, ⟨rfl, ⟨rfl, ⟨rfl, ⟨rfl, trivial⟩⟩⟩⟩⟩⟩
      refine W_regL (WL_pure rfl rfl (by decide) (Pu_move rfl rfl) (WL_pure rfl rfl (by decide) (Pu_bin rfl rfl rfl (run_sub _ _ _ _ _ (by omega))) (WL_pure rfl rfl (by decide) (Pu_assign rfl rfl) (WL_nil ?_))))
      refine X_turn (P' := rowB 5 v54 (d ++ [128] ++ zs8 (padZ d.length) ++ (lenB d.length).take (y.2 + 1))) 203 rfl (fun h hp => by rw [lenB_next hly]; exact rowB_appL hp) ?_
      exact X_round (v54, y.2 + 1) (by dsimp only; omega) (by show 8 - (y.2 + 1) < 8 - y.2; omega) ⟨rfl, rfl, rfl, rfl, rfl, rfl, lookV_eq rfl (int_eq (by dsimp only; omega)), trivial⟩ ⟨rfl, rfl, rfl, rfl, rfl, trivial⟩
    ·
      have hye : y.2 = 8 := by have := of_decide_eq_false hc43; omega
      have hpe : d ++ [128] ++ zs8 (padZ d.length) ++ (lenB d.length).take 8 = padB d := by rw [List.take_of_length_le (by rw [lenB_length]; exact Nat.le_refl _)]; rfl
      have hpl := padB_length d
      rw [hye, hpe]
      refine W_exit (X_then_exit (X_then_exit (X_block_exit (X_then ?_))))
      refine W_seq ?_
      refine W.pre (K' := [(0, _), (2, _), (3, _), (4, _), (5, _), (6, _), (7, _), (43, _)]) (L' := [(0, _), (101, _), (201, _), (202, _), (203, _)]) ?_ ⟨rfl, ⟨rfl, ⟨rfl, ⟨rfl, ⟨rfl, ⟨rfl, ⟨rfl, ⟨rfl, trivial⟩⟩⟩⟩⟩⟩⟩⟩ ⟨rfl, ⟨rfl, ⟨rfl, ⟨rfl, ⟨rfl, trivial⟩⟩⟩⟩⟩
      refine W_regL (WL_cons rfl rfl (by decide) (OpT_alloc (r := 205) (cs := (ws (List.replicate 64 0))) rfl (zero_run (by kernel_rfl : (Try.prog.info? 74).bind (·.zero) = some (.agg (ws (List.replicate 64 0)).toArray))) rfl (fun g205 => (WL_nil (X_then ?_)))))
      refine W_seq ?_
      refine W_seq ?_
      refine W.pre (K' := [(0, _), (2, _), (3, _), (4, _), (5, _), (6, _), (7, _), (8, _), (43, _)]) (L' := [(0, _), (101, _), (201, _), (202, _), (203, _), (205, _)]) ?_ ⟨rfl, ⟨rfl, ⟨rfl, ⟨rfl, ⟨rfl, ⟨rfl, ⟨rfl, ⟨rfl, ⟨rfl, trivial⟩⟩⟩⟩⟩⟩⟩⟩⟩ ⟨rfl, ⟨rfl, ⟨rfl, ⟨rfl, ⟨rfl, ⟨rfl, trivial⟩⟩⟩⟩⟩⟩
      refine W_regL (WL_pure rfl rfl (by decide) (Pu_assign rfl rfl) (WL_nil (X_then ?_)))
      refine W_block ?_
      refine W_loop (α := Nat × List UInt32) (fun p => [(2, .pointer (some ⟨g101, 0, none⟩)), (3, .pointer (some ⟨g201, 0, none⟩)), (4, .pointer (some ⟨g202, 0, none⟩)), (5, y.1), (8, .pointer (some ⟨g205, 0, none⟩)), (9, .int .i64 ((64 * p.1 : Nat) : Int))]) (fun p => [(0, F), (101, blk g101 29 (bs zeroId)), (201, blk g201 74 (ws KS)), (202, blk g202 76 (ws (mixes (padB d) (S8.of HS) p.1).list)), (203, rowB 5 y.1 (padB d)), (205, blk g205 74 (ws p.2))]) (fun p => 64 * p.1 ≤ (padB d).length ∧ p.2.length = 64) (fun p => (padB d).length - 64 * p.1) ((0, List.replicate 64 0)) ⟨by dsimp only; omega, rfl⟩ ⟨rfl, ⟨rfl, ⟨rfl, ⟨rfl, ⟨rfl, ⟨rfl, trivial⟩⟩⟩⟩⟩⟩ ⟨rfl, ⟨rfl, ⟨rfl, ⟨rfl, ⟨rfl, ⟨rfl, trivial⟩⟩⟩⟩⟩⟩ (fun p hp => ?_)
      obtain ⟨hp1, hp2⟩ := hp
      refine W_seq ?_
      refine W_seq ?_
      refine W.pre (K' := [(2, _), (3, _), (4, _), (5, _), (8, _), (9, _)]) (L' := [(0, _), (101, _), (201, _), (202, _), (203, _), (205, _)]) ?_ ⟨rfl, ⟨rfl, ⟨rfl, ⟨rfl, ⟨rfl, ⟨rfl, trivial⟩⟩⟩⟩⟩⟩ ⟨rfl, ⟨rfl, ⟨rfl, ⟨rfl, ⟨rfl, ⟨rfl, trivial⟩⟩⟩⟩⟩⟩
      refine W_regL (WL_pure rfl rfl (by decide) (Pu_move rfl rfl) (WL_pure rfl rfl (by decide) (Pu_move rfl rfl) (WL_pure rfl rfl (by decide) (Pu_len (r := 203) rfl Try.runUnderlying30 rfl rfl (fun _ h => rowP_rd h)) (WL_pure rfl rfl (by decide) (Pu_bin rfl rfl rfl (run_lss _ _ _ _ _ _)) (WL_nil (X_then ?_))))))
      refine W_cond rfl (fun hc58 => ?_) (fun hc58 => ?_)
      ·
        have hlp : 64 * p.1 + 64 ≤ (padB d).length := by have := of_decide_eq_true hc58; omega
        obtain ⟨s, hs⟩ : ∃ s, (mixes (padB d) (S8.of HS) p.1) = s := ⟨_, rfl⟩
        rw [hs]
        refine W_skip (X_then ?_)
        refine W_seq ?_
        refine W_block ?_
        refine W_seq ?_
        refine W_seq ?_
        refine W.pre (K' := [(2, _), (3, _), (4, _), (5, _), (8, _), (9, _), (58, _)]) (L' := [(0, _), (101, _), (201, _), (202, _), (203, _), (205, _)]) ?_ ⟨rfl, ⟨rfl, ⟨rfl, ⟨rfl, ⟨rfl, ⟨rfl, ⟨rfl, trivial⟩⟩⟩⟩⟩⟩⟩ ⟨rfl, ⟨rfl, ⟨rfl, ⟨rfl, ⟨rfl, ⟨rfl, trivial⟩⟩⟩⟩⟩⟩
        refine W_regL (WL_pure rfl rfl (by decide) (Pu_assign rfl rfl) (WL_nil (X_then ?_)))
        refine W_block ?_
        refine W_loop (α := Nat) (fun x => [(2, .pointer (some ⟨g101, 0, none⟩)), (3, .pointer (some ⟨g201, 0, none⟩)), (4, .pointer (some ⟨g202, 0, none⟩)), (5, y.1), (8, .pointer (some ⟨g205, 0, none⟩)), (9, .int .i64 ((64 * p.1 : Nat) : Int)), (10, .int .i64 (x : Int))]) (fun x => [(0, F), (101, blk g101 29 (bs zeroId)), (201, blk g201 74 (ws KS)), (202, blk g202 76 (ws s.list)), (203, rowB 5 y.1 (padB d)), (205, blk g205 74 (ws (schW p.2 (padB d) (64 * p.1) x)))]) (fun x => x ≤ 16) (fun x => 16 - x) (0) (by omega) ⟨rfl, ⟨rfl, ⟨rfl, ⟨rfl, ⟨rfl, ⟨rfl, ⟨rfl, trivial⟩⟩⟩⟩⟩⟩⟩ ⟨rfl, ⟨rfl, ⟨rfl, ⟨rfl, ⟨rfl, ⟨rfl, trivial⟩⟩⟩⟩⟩⟩ (fun x hx => ?_)
        have hzl := schW_length (b := padB d) (p := 64 * p.1) (t := x) hp2 (by omega)
        refine W_seq ?_
        refine W_seq ?_
        refine W.pre (K' := [(2, _), (3, _), (4, _), (5, _), (8, _), (9, _), (10, _)]) (L' := [(0, _), (101, _), (201, _), (202, _), (203, _), (205, _)]) ?_ ⟨rfl, ⟨rfl, ⟨rfl, ⟨rfl, ⟨rfl, ⟨rfl, ⟨rfl, trivial⟩⟩⟩⟩⟩⟩⟩ ⟨rfl, ⟨rfl, ⟨rfl, ⟨rfl, ⟨rfl, ⟨rfl, trivial⟩⟩⟩⟩⟩⟩
        refine W_regL (WL_pure rfl rfl (by decide) (Pu_move rfl rfl) (WL_pure rfl rfl (by decide) (Pu_bin rfl rfl rfl (run_lss _ _ _ _ _ _)) (WL_nil (X_then ?_))))
        refine W_cond rfl (fun hc62 => ?_) (fun hc62 => ?_)
        ·
          have hlt : x < 16 := by have := of_decide_eq_true hc62; omega
          refine W_skip (X_then ?_)
          refine W_seq ?_
          refine W_block ?_
          refine W_seq ?_
          refine W.pre (K' := [(2, _), (3, _), (4, _), (5, _), (8, _), (9, _), (10, _), (62, _)]) (L' := [(0, _), (101, _), (201, _), (202, _), (203, _), (205, _)]) ?_ ⟨rfl, ⟨rfl, ⟨rfl, ⟨rfl, ⟨rfl, ⟨rfl, ⟨rfl, ⟨rfl, trivial⟩⟩⟩⟩⟩⟩⟩⟩ ⟨rfl, ⟨rfl, ⟨rfl, ⟨rfl, ⟨rfl, ⟨rfl, trivial⟩⟩⟩⟩⟩⟩
          refine W_regL (WL_pure rfl rfl (by decide) (Pu_move rfl rfl) (WL_pure rfl rfl (by decide) (Pu_move rfl rfl) (WL_pure rfl rfl (by decide) (Pu_bin rfl rfl rfl (run_mul _ _ _ _ _ (by omega))) (WL_pure rfl rfl (by decide) (Pu_bin rfl rfl rfl (run_add _ _ _ _ _ (by omega))) (WL_pure rfl rfl (by decide) (Pu_assign rfl rfl) (WL_nil (X_then ?_)))))))
          refine W.pre (K' := [(2, _), (3, _), (4, _), (5, _), (8, _), (9, _), (10, _), (11, _), (62, _)]) (L' := [(0, _), (101, _), (201, _), (202, _), (203, _), (205, _)]) ?_ ⟨rfl, ⟨rfl, ⟨rfl, ⟨rfl, ⟨rfl, ⟨rfl, ⟨rfl, ⟨rfl, ⟨rfl, trivial⟩⟩⟩⟩⟩⟩⟩⟩⟩ ⟨rfl, ⟨rfl, ⟨rfl, ⟨rfl, ⟨rfl, ⟨rfl, trivial⟩⟩⟩⟩⟩⟩
          refine W_draw (N := 32) (by kernel_rfl) rfl [(0, _), (101, _), (201, _), (202, _), (203, _)] ⟨rfl, ⟨rfl, ⟨rfl, ⟨rfl, ⟨rfl, trivial⟩⟩⟩⟩⟩ ?_
          refine (AH_take 0 rfl (by kernel_rfl) (by kernel_rfl) (by kernel_rfl) rfl rfl (by decide) (Pu_move rfl rfl) (AH_take 1 rfl (by kernel_rfl) (by kernel_rfl) (by kernel_rfl) rfl rfl (by decide) (Pu_move rfl rfl) (AH_take 2 rfl (by kernel_rfl) (by kernel_rfl) (by kernel_rfl) rfl rfl (by decide) (Pu_move rfl rfl) (AH_take 3 rfl (by kernel_rfl) (by kernel_rfl) (by kernel_rfl) rfl rfl (by decide) (Pu_idxS1 (r := 203) rfl Try.runUnderlying30 Try.sizeOf5 rfl rfl rfl (fun _ h => rowP_rd h) (by omega)) (AH_take 4 rfl (by kernel_rfl) (by kernel_rfl) (by kernel_rfl) rfl rfl (by decide) (Pu_loadS (r := 203) rfl Try.isAgg5 rfl rfl (fun _ h => rowP_rd h) (bs_atZ0 (k := 64 * p.1 + 4 * x) (by omega) (by omega))) (AH_take 5 rfl (by kernel_rfl) (by kernel_rfl) (by kernel_rfl) rfl rfl (by decide) (Pu_conv rfl rfl (conv_u8W _ Try.runUnderlying5 Try.runUnderlying73)) (AH_take 6 rfl (by kernel_rfl) (by kernel_rfl) (by kernel_rfl) rfl rfl (by decide) (Pu_bin rfl rfl rfl (run_shlW _ (24) (by decide) _ _ _)) (AH_take 7 rfl (by kernel_rfl) (by kernel_rfl) (by kernel_rfl) rfl rfl (by decide) (Pu_move rfl rfl) (AH_take 8 rfl (by kernel_rfl) (by kernel_rfl) (by kernel_rfl) rfl rfl (by decide) (Pu_move rfl rfl) (AH_take 9 rfl (by kernel_rfl) (by kernel_rfl) (by kernel_rfl) rfl rfl (by decide) (Pu_bin rfl rfl rfl (run_add _ _ _ _ _ (by omega))) (AH_take 10 rfl (by kernel_rfl) (by kernel_rfl) (by kernel_rfl) rfl rfl (by decide) (Pu_idxS1 (r := 203) rfl Try.runUnderlying30 Try.sizeOf5 rfl rfl rfl (fun _ h => rowP_rd h) (by omega)) (AH_take 11 rfl (by kernel_rfl) (by kernel_rfl) (by kernel_rfl) rfl rfl (by decide) (Pu_loadS (r := 203) rfl Try.isAgg5 rfl rfl (fun _ h => rowP_rd h) (bs_atZ0 (k := 64 * p.1 + 4 * x + 1) (by omega) (by omega))) (AH_take 12 rfl (by kernel_rfl) (by kernel_rfl) (by kernel_rfl) rfl rfl (by decide) (Pu_conv rfl rfl (conv_u8W _ Try.runUnderlying5 Try.runUnderlying73)) (AH_take 13 rfl (by kernel_rfl) (by kernel_rfl) (by kernel_rfl) rfl rfl (by decide) (Pu_bin rfl rfl rfl (run_shlW _ (16) (by decide) _ _ _)) (AH_take 14 rfl (by kernel_rfl) (by kernel_rfl) (by kernel_rfl) rfl rfl (by decide) (Pu_bin rfl rfl rfl (run_orW _ _ _ _ _)) (AH_take 15 rfl (by kernel_rfl) (by kernel_rfl) (by kernel_rfl) rfl rfl (by decide) (Pu_move rfl rfl) (AH_take 16 rfl (by kernel_rfl) (by kernel_rfl) (by kernel_rfl) rfl rfl (by decide) (Pu_move rfl rfl) (AH_take 17 rfl (by kernel_rfl) (by kernel_rfl) (by kernel_rfl) rfl rfl (by decide) (Pu_bin rfl rfl rfl (run_add _ _ _ _ _ (by omega))) (AH_take 18 rfl (by kernel_rfl) (by kernel_rfl) (by kernel_rfl) rfl rfl (by decide) (Pu_idxS1 (r := 203) rfl Try.runUnderlying30 Try.sizeOf5 rfl rfl rfl (fun _ h => rowP_rd h) (by omega)) (AH_take 19 rfl (by kernel_rfl) (by kernel_rfl) (by kernel_rfl) rfl rfl (by decide) (Pu_loadS (r := 203) rfl Try.isAgg5 rfl rfl (fun _ h => rowP_rd h) (bs_atZ0 (k := 64 * p.1 + 4 * x + 2) (by omega) (by omega))) (AH_take 20 rfl (by kernel_rfl) (by kernel_rfl) (by kernel_rfl) rfl rfl (by decide) (Pu_conv rfl rfl (conv_u8W _ Try.runUnderlying5 Try.runUnderlying73)) (AH_take 21 rfl (by kernel_rfl) (by kernel_rfl) (by kernel_rfl) rfl rfl (by decide) (Pu_bin rfl rfl rfl (run_shlW _ (8) (by decide) _ _ _)) (AH_take 22 rfl (by kernel_rfl) (by kernel_rfl) (by kernel_rfl) rfl rfl (by decide) (Pu_bin rfl rfl rfl (run_orW _ _ _ _ _)) (AH_take 23 rfl (by kernel_rfl) (by kernel_rfl) (by kernel_rfl) rfl rfl (by decide) (Pu_move rfl rfl) (AH_take 24 rfl (by kernel_rfl) (by kernel_rfl) (by kernel_rfl) rfl rfl (by decide) (Pu_move rfl rfl) (AH_take 25 rfl (by kernel_rfl) (by kernel_rfl) (by kernel_rfl) rfl rfl (by decide) (Pu_bin rfl rfl rfl (run_add _ _ _ _ _ (by omega))) (AH_take 26 rfl (by kernel_rfl) (by kernel_rfl) (by kernel_rfl) rfl rfl (by decide) (Pu_idxS1 (r := 203) rfl Try.runUnderlying30 Try.sizeOf5 rfl rfl rfl (fun _ h => rowP_rd h) (by omega)) (AH_take 27 rfl (by kernel_rfl) (by kernel_rfl) (by kernel_rfl) rfl rfl (by decide) (Pu_loadS (r := 203) rfl Try.isAgg5 rfl rfl (fun _ h => rowP_rd h) (bs_atZ0 (k := 64 * p.1 + 4 * x + 3) (by omega) (by omega))) (AH_take 28 rfl (by kernel_rfl) (by kernel_rfl) (by kernel_rfl) rfl rfl (by decide) (Pu_conv rfl rfl (conv_u8W _ Try.runUnderlying5 Try.runUnderlying73)) (AH_take 29 rfl (by kernel_rfl) (by kernel_rfl) (by kernel_rfl) rfl rfl (by decide) (Pu_bin rfl rfl rfl (run_orW _ _ _ _ _)) (AH_take 30 rfl (by kernel_rfl) (by kernel_rfl) (by kernel_rfl) rfl rfl (by decide) (Pu_idxA rfl Try.runUnderlying74 Try.sizeOf73 rfl rfl (by omega)) (AH_ready [31] (by kernel_rfl) (by decide) ?_))))))))))))))))))))))))))))))))
          refine AHs_cons0 rfl rfl rfl (OpT_storeB1 (r := 205) rfl Try.sizeOf73 rfl rfl rfl rfl (by rw [ws_length, hzl]; omega) (ws_set _ _ _) ?_) ?_
          ·
            refine ⟨⟨rfl, ⟨rfl, ⟨rfl, ⟨rfl, ⟨rfl, trivial⟩⟩⟩⟩⟩, ?_⟩
            refine (AH_done (by kernel_rfl) (X_block (X_then ?_)))
            refine W.pre (K' := [(2, _), (3, _), (4, _), (5, _), (8, _), (9, _), (10, _), (11, _), (62, _)]) (L' := [(0, _), (101, _), (201, _), (202, _), (203, _), (205, _)]) ?_ ⟨rfl, ⟨rfl, ⟨rfl, ⟨rfl, ⟨rfl, ⟨rfl, ⟨rfl, ⟨rfl, ⟨rfl, trivial⟩⟩⟩⟩⟩⟩⟩⟩⟩ ⟨rfl, ⟨rfl, ⟨rfl, ⟨rfl, ⟨rfl, ⟨rfl, trivial⟩⟩⟩⟩⟩⟩
            refine W_regL (WL_pure rfl rfl (by decide) (Pu_move rfl rfl) (WL_pure rfl rfl (by decide) (Pu_bin rfl rfl rfl (run_add _ _ _ _ _ (by omega))) (WL_pure rfl rfl (by decide) (Pu_assign rfl rfl) (WL_nil ?_))))
            refine X_turn (P' := blk g205 74 (ws (schW p.2 (padB d) (64 * p.1) (x + 1)))) 205 rfl (fun h hp => by rw [← schW_set (t := x) (z := (x : Int)) (w := p.2) (x := word (padB d) (64 * p.1 + 4 * x)) hp2 (by omega) (by omega) (by rw [if_pos hlt])]; exact hp) ?_
            exact X_round (x + 1) (by omega) (by omega) ⟨rfl, rfl, rfl, rfl, rfl, rfl, rfl, trivial⟩ ⟨rfl, rfl, rfl, rfl, rfl, rfl, trivial⟩
          exact AHs_nil
        ·
          obtain rfl : x = 16 := by have := of_decide_eq_false hc62; omega
          refine W_exit (X_then_exit (X_then_exit (X_block_exit (X_then ?_))))
          refine W_seq ?_
          refine W_seq ?_
          refine W.pre (K' := [(2, _), (3, _), (4, _), (5, _), (8, _), (9, _), (10, _), (62, _)]) (L' := [(0, _), (101, _), (201, _), (202, _), (203, _), (205, _)]) ?_ ⟨rfl, ⟨rfl, ⟨rfl, ⟨rfl, ⟨rfl, ⟨rfl, ⟨rfl, ⟨rfl, trivial⟩⟩⟩⟩⟩⟩⟩⟩ ⟨rfl, ⟨rfl, ⟨rfl, ⟨rfl, ⟨rfl, ⟨rfl, trivial⟩⟩⟩⟩⟩⟩
          refine W_regL (WL_pure rfl rfl (by decide) (Pu_assign rfl rfl) (WL_nil (X_then ?_)))
          refine W_block ?_
          refine W_loop (α := Nat) (fun x => [(2, .pointer (some ⟨g101, 0, none⟩)), (3, .pointer (some ⟨g201, 0, none⟩)), (4, .pointer (some ⟨g202, 0, none⟩)), (5, y.1), (8, .pointer (some ⟨g205, 0, none⟩)), (9, .int .i64 ((64 * p.1 : Nat) : Int)), (12, .int .i64 (x : Int))]) (fun x => [(0, F), (101, blk g101 29 (bs zeroId)), (201, blk g201 74 (ws KS)), (202, blk g202 76 (ws s.list)), (203, rowB 5 y.1 (padB d)), (205, blk g205 74 (ws (schW p.2 (padB d) (64 * p.1) x)))]) (fun x => 16 ≤ x ∧ x ≤ 64) (fun x => 64 - x) (16) (by omega) ⟨rfl, ⟨rfl, ⟨rfl, ⟨rfl, ⟨rfl, ⟨rfl, ⟨rfl, trivial⟩⟩⟩⟩⟩⟩⟩ ⟨rfl, ⟨rfl, ⟨rfl, ⟨rfl, ⟨rfl, ⟨rfl, trivial⟩⟩⟩⟩⟩⟩ (fun x hx => ?_)
          obtain ⟨h16, h64⟩ := hx
          have hzl := schW_length (b := padB d) (p := 64 * p.1) (t := x) hp2 h64
          refine W_seq ?_
          refine W_seq ?_
          refine W.pre (K' := [(2, _), (3, _), (4, _), (5, _), (8, _), (9, _), (12, _)]) (L' := [(0, _), (101, _), (201, _), (202, _), (203, _), (205, _)]) ?_ ⟨rfl, ⟨rfl, ⟨rfl, ⟨rfl, ⟨rfl, ⟨rfl, ⟨rfl, trivial⟩⟩⟩⟩⟩⟩⟩ ⟨rfl, ⟨rfl, ⟨rfl, ⟨rfl, ⟨rfl, ⟨rfl, trivial⟩⟩⟩⟩⟩⟩
          refine W_regL (WL_pure rfl rfl (by decide) (Pu_move rfl rfl) (WL_pure rfl rfl (by decide) (Pu_bin rfl rfl rfl (run_lss _ _ _ _ _ _)) (WL_nil (X_then ?_))))
          refine W_cond rfl (fun hc101 => ?_) (fun hc101 => ?_)
          ·
            have hlt : x < 64 := by have := of_decide_eq_true hc101; omega
            refine W_skip (X_then ?_)
            refine W_seq ?_
            refine W_block ?_
            refine W_seq ?_
            refine W.pre (K' := [(2, _), (3, _), (4, _), (5, _), (8, _), (9, _), (12, _), (101, _)]) (L' := [(0, _), (101, _), (201, _), (202, _), (203, _), (205, _)]) ?_ ⟨rfl, ⟨rfl, ⟨rfl, ⟨rfl, ⟨rfl, ⟨rfl, ⟨rfl, ⟨rfl, trivial⟩⟩⟩⟩⟩⟩⟩⟩ ⟨rfl, ⟨rfl, ⟨rfl, ⟨rfl, ⟨rfl, ⟨rfl, trivial⟩⟩⟩⟩⟩⟩
            refine W_draw (N := 10) (by kernel_rfl) rfl [(0, _), (101, _), (201, _), (202, _), (205, _)] ⟨rfl, ⟨rfl, ⟨rfl, ⟨rfl, ⟨rfl, trivial⟩⟩⟩⟩⟩ ?_
            refine (AH_take 0 rfl (by kernel_rfl) (by kernel_rfl) (by kernel_rfl) rfl rfl (by decide) (Pu_move rfl rfl) (AH_take 1 rfl (by kernel_rfl) (by kernel_rfl) (by kernel_rfl) rfl rfl (by decide) (Pu_bin rfl rfl rfl (run_sub _ _ _ _ _ (by omega))) (AH_take 2 rfl (by kernel_rfl) (by kernel_rfl) (by kernel_rfl) rfl rfl (by decide) (Pu_idxA rfl Try.runUnderlying74 Try.sizeOf73 rfl rfl (by omega)) (AH_take 3 rfl (by kernel_rfl) (by kernel_rfl) (by kernel_rfl) rfl rfl (by decide) (Pu_loadB (r := 205) rfl Try.isAgg73 rfl rfl (ws_at0 (l := (schW p.2 (padB d) (64 * p.1) x)) (k := x - 15) (by omega) (by omega))) (AH_take 4 rfl (by kernel_rfl) (by kernel_rfl) (by kernel_rfl) rfl rfl (by decide) (Pu_move rfl rfl) (AH_take 5 rfl (by kernel_rfl) (by kernel_rfl) (by kernel_rfl) rfl rfl (by decide) (Pu_bin rfl rfl rfl (run_sub _ _ _ _ _ (by omega))) (AH_take 6 rfl (by kernel_rfl) (by kernel_rfl) (by kernel_rfl) rfl rfl (by decide) (Pu_idxA rfl Try.runUnderlying74 Try.sizeOf73 rfl rfl (by omega)) (AH_take 7 rfl (by kernel_rfl) (by kernel_rfl) (by kernel_rfl) rfl rfl (by decide) (Pu_loadB (r := 205) rfl Try.isAgg73 rfl rfl (ws_at0 (l := (schW p.2 (padB d) (64 * p.1) x)) (k := x - 2) (by omega) (by omega))) (AH_take 8 rfl (by kernel_rfl) (by kernel_rfl) (by kernel_rfl) rfl rfl (by decide) (Pu_assign rfl rfl) (AH_take 9 rfl (by kernel_rfl) (by kernel_rfl) (by kernel_rfl) rfl rfl (by decide) (Pu_assign rfl rfl) (AH_done (by kernel_rfl) (X_then ?_))))))))))))
            refine W.pre (K' := [(2, _), (3, _), (4, _), (5, _), (8, _), (9, _), (12, _), (13, _), (14, _), (101, _)]) (L' := [(0, _), (101, _), (201, _), (202, _), (203, _), (205, _)]) ?_ ⟨rfl, ⟨rfl, ⟨rfl, ⟨rfl, ⟨rfl, ⟨rfl, ⟨rfl, ⟨rfl, ⟨rfl, ⟨rfl, trivial⟩⟩⟩⟩⟩⟩⟩⟩⟩⟩ ⟨rfl, ⟨rfl, ⟨rfl, ⟨rfl, ⟨rfl, ⟨rfl, trivial⟩⟩⟩⟩⟩⟩
            refine W_drawI (N := 30) (by kernel_rfl) rfl [(0, _), (101, _), (201, _), (202, _), (205, frontW g205 74 (schW p.2 (padB d) (64 * p.1) x) x)] ⟨⟨_, rfl, fun h hp => hp⟩, ⟨⟨_, rfl, fun h hp => hp⟩, ⟨⟨_, rfl, fun h hp => hp⟩, ⟨⟨_, rfl, fun h hp => hp⟩, ⟨⟨_, rfl, by first | exact front_a (by omega) | exact front_b (by omega) (by omega)⟩, trivial⟩⟩⟩⟩⟩ ?_
            refine (AH_take 0 rfl (by kernel_rfl) (by kernel_rfl) (by kernel_rfl) rfl rfl (by decide) (Pu_move rfl rfl) (AH_take 1 rfl (by kernel_rfl) (by kernel_rfl) (by kernel_rfl) rfl rfl (by decide) (Pu_move rfl rfl) (AH_take 3 rfl (by kernel_rfl) (by kernel_rfl) (by kernel_rfl) rfl rfl (by decide) (Pu_move rfl rfl) (AH_take 6 rfl (by kernel_rfl) (by kernel_rfl) (by kernel_rfl) rfl rfl (by decide) (Pu_move rfl rfl) (AH_take 7 rfl (by kernel_rfl) (by kernel_rfl) (by kernel_rfl) rfl rfl (by decide) (Pu_bin rfl rfl rfl (run_shrW _ (10) (by decide) _ _ _)) (AH_take 9 rfl (by kernel_rfl) (by kernel_rfl) (by kernel_rfl) rfl rfl (by decide) (Pu_move rfl rfl) (AH_take 10 rfl (by kernel_rfl) (by kernel_rfl) (by kernel_rfl) rfl rfl (by decide) (Pu_bin rfl rfl rfl (run_sub _ _ _ _ _ (by omega))) (AH_take 11 rfl (by kernel_rfl) (by kernel_rfl) (by kernel_rfl) rfl rfl (by decide) (Pu_idxA rfl Try.runUnderlying74 Try.sizeOf73 rfl rfl (by omega)) (AH_take 12 rfl (by kernel_rfl) (by kernel_rfl) (by kernel_rfl) rfl rfl (by decide) (Pu_load1 (r := 205) rfl Try.isAgg73 rfl rfl (fun h hp => front_get hp (k := x - 7) (by omega) (by omega))) (AH_take 14 rfl (by kernel_rfl) (by kernel_rfl) (by kernel_rfl) rfl rfl (by decide) (Pu_move rfl rfl) (AH_take 16 rfl (by kernel_rfl) (by kernel_rfl) (by kernel_rfl) rfl rfl (by decide) (Pu_move rfl rfl) (AH_take 19 rfl (by kernel_rfl) (by kernel_rfl) (by kernel_rfl) rfl rfl (by decide) (Pu_move rfl rfl) (AH_take 20 rfl (by kernel_rfl) (by kernel_rfl) (by kernel_rfl) rfl rfl (by decide) (Pu_bin rfl rfl rfl (run_shrW _ (3) (by decide) _ _ _)) (AH_take 23 rfl (by kernel_rfl) (by kernel_rfl) (by kernel_rfl) rfl rfl (by decide) (Pu_move rfl rfl) (AH_take 24 rfl (by kernel_rfl) (by kernel_rfl) (by kernel_rfl) rfl rfl (by decide) (Pu_bin rfl rfl rfl (run_sub _ _ _ _ _ (by omega))) (AH_take 25 rfl (by kernel_rfl) (by kernel_rfl) (by kernel_rfl) rfl rfl (by decide) (Pu_idxA rfl Try.runUnderlying74 Try.sizeOf73 rfl rfl (by omega)) (AH_take 26 rfl (by kernel_rfl) (by kernel_rfl) (by kernel_rfl) rfl rfl (by decide) (Pu_load1 (r := 205) rfl Try.isAgg73 rfl rfl (fun h hp => front_get hp (k := x - 16) (by omega) (by omega))) (AH_ready [2] (by kernel_rfl) (by decide) ?_))))))))))))))))))
            refine AHs_consI rfl rfl rfl (by decide) (OpT_call 300 [0, 101, 201, 202, 203, 205] [] rfl Try.call34 rfl rfl rfl (by decide) (by decide) (rot_spec _ 17 (by decide) _) (fun v114 Ps114 hR114 => ?_)) ?_
            ·
              obtain ⟨rfl, rfl⟩ := hR114
              refine ⟨⟨⟨_, rfl, fun h hp => hp⟩, ⟨⟨_, rfl, fun h hp => hp⟩, ⟨⟨_, rfl, fun h hp => hp⟩, ⟨⟨_, rfl, fun h hp => hp⟩, ⟨⟨_, rfl, by first | exact front_a (by omega) | exact front_b (by omega) (by omega)⟩, trivial⟩⟩⟩⟩⟩, ?_⟩
              refine (AH_ready [4] (by kernel_rfl) (by decide) ?_)
              refine AHs_consI rfl rfl rfl (by decide) (OpT_call 400 [0, 101, 201, 202, 203, 205] [] rfl Try.call34 rfl rfl rfl (by decide) (by decide) (rot_spec _ 19 (by decide) _) (fun v116 Ps116 hR116 => ?_)) ?_
              ·
                obtain ⟨rfl, rfl⟩ := hR116
                refine ⟨⟨⟨_, rfl, fun h hp => hp⟩, ⟨⟨_, rfl, fun h hp => hp⟩, ⟨⟨_, rfl, fun h hp => hp⟩, ⟨⟨_, rfl, fun h hp => hp⟩, ⟨⟨_, rfl, by first | exact front_a (by omega) | exact front_b (by omega) (by omega)⟩, trivial⟩⟩⟩⟩⟩, ?_⟩
                refine (AH_take 5 rfl (by kernel_rfl) (by kernel_rfl) (by kernel_rfl) rfl rfl (by decide) (Pu_bin rfl rfl rfl (run_xorW _ _ _ _ _)) (AH_take 8 rfl (by kernel_rfl) (by kernel_rfl) (by kernel_rfl) rfl rfl (by decide) (Pu_bin rfl rfl rfl (run_xorW _ _ _ _ _)) (AH_take 13 rfl (by kernel_rfl) (by kernel_rfl) (by kernel_rfl) rfl rfl (by decide) (Pu_bin rfl rfl rfl (run_addW _ _ _ _ _)) (AH_ready [15] (by kernel_rfl) (by decide) ?_))))
                refine AHs_consI rfl rfl rfl (by decide) (OpT_call 500 [0, 101, 201, 202, 203, 205] [] rfl Try.call34 rfl rfl rfl (by decide) (by decide) (rot_spec _ 7 (by decide) _) (fun v127 Ps127 hR127 => ?_)) ?_
                ·
                  obtain ⟨rfl, rfl⟩ := hR127
                  refine ⟨⟨⟨_, rfl, fun h hp => hp⟩, ⟨⟨_, rfl, fun h hp => hp⟩, ⟨⟨_, rfl, fun h hp => hp⟩, ⟨⟨_, rfl, fun h hp => hp⟩, ⟨⟨_, rfl, by first | exact front_a (by omega) | exact front_b (by omega) (by omega)⟩, trivial⟩⟩⟩⟩⟩, ?_⟩
                  refine (AH_ready [17] (by kernel_rfl) (by decide) ?_)
                  refine AHs_consI rfl rfl rfl (by decide) (OpT_call 600 [0, 101, 201, 202, 203, 205] [] rfl Try.call34 rfl rfl rfl (by decide) (by decide) (rot_spec _ 18 (by decide) _) (fun v129 Ps129 hR129 => ?_)) ?_
                  ·
                    obtain ⟨rfl, rfl⟩ := hR129
                    refine ⟨⟨⟨_, rfl, fun h hp => hp⟩, ⟨⟨_, rfl, fun h hp => hp⟩, ⟨⟨_, rfl, fun h hp => hp⟩, ⟨⟨_, rfl, fun h hp => hp⟩, ⟨⟨_, rfl, by first | exact front_a (by omega) | exact front_b (by omega) (by omega)⟩, trivial⟩⟩⟩⟩⟩, ?_⟩
                    refine (AH_take 18 rfl (by kernel_rfl) (by kernel_rfl) (by kernel_rfl) rfl rfl (by decide) (Pu_bin rfl rfl rfl (run_xorW _ _ _ _ _)) (AH_take 21 rfl (by kernel_rfl) (by kernel_rfl) (by kernel_rfl) rfl rfl (by decide) (Pu_bin rfl rfl rfl (run_xorW _ _ _ _ _)) (AH_take 22 rfl (by kernel_rfl) (by kernel_rfl) (by kernel_rfl) rfl rfl (by decide) (Pu_bin rfl rfl rfl (run_addW _ _ _ _ _)) (AH_take 27 rfl (by kernel_rfl) (by kernel_rfl) (by kernel_rfl) rfl rfl (by decide) (Pu_bin rfl rfl rfl (run_addW _ _ _ _ _)) (AH_take 28 rfl (by kernel_rfl) (by kernel_rfl) (by kernel_rfl) rfl rfl (by decide) (Pu_idxA rfl Try.runUnderlying74 Try.sizeOf73 rfl rfl (by omega)) (AH_ready [29] (by kernel_rfl) (by decide) ?_))))))
                    refine AHs_cons0I rfl rfl rfl (OpT_storeB1 (r := 205) rfl Try.sizeOf73 rfl rfl rfl rfl (by rw [ws_length, hzl]; omega) (ws_set _ _ _) ?_) ?_
                    ·
                      refine ⟨⟨⟨_, rfl, fun h hp => hp⟩, ⟨⟨_, rfl, fun h hp => hp⟩, ⟨⟨_, rfl, fun h hp => hp⟩, ⟨⟨_, rfl, fun h hp => hp⟩, ⟨⟨_, rfl, by first | exact front_a (by omega) | exact front_b (by omega) (by omega)⟩, trivial⟩⟩⟩⟩⟩, ?_⟩
                      refine (AH_done (by kernel_rfl) (X_block (X_then ?_)))
                      refine W.pre (K' := [(2, _), (3, _), (4, _), (5, _), (8, _), (9, _), (12, _), (13, _), (14, _), (101, _)]) (L' := [(0, _), (101, _), (201, _), (202, _), (203, _), (205, _)]) ?_ ⟨rfl, ⟨rfl, ⟨rfl, ⟨rfl, ⟨rfl, ⟨rfl, ⟨rfl, ⟨rfl, ⟨rfl, ⟨rfl, trivial⟩⟩⟩⟩⟩⟩⟩⟩⟩⟩ ⟨rfl, ⟨rfl, ⟨rfl, ⟨rfl, ⟨rfl, ⟨rfl, trivial⟩⟩⟩⟩⟩⟩
                      refine W_regL (WL_pure rfl rfl (by decide) (Pu_move rfl rfl) (WL_pure rfl rfl (by decide) (Pu_bin rfl rfl rfl (run_add _ _ _ _ _ (by omega))) (WL_pure rfl rfl (by decide) (Pu_assign rfl rfl) (WL_nil ?_))))
                      refine X_turn (P' := blk g205 74 (ws (schW p.2 (padB d) (64 * p.1) (x + 1)))) 205 rfl (fun h hp => by rw [← schW_set (t := x) (z := (x : Int)) hp2 (by omega) (by omega) (schW_next h16)]; exact hp) ?_
                      exact X_round (x + 1) (by omega) (by omega) ⟨rfl, rfl, rfl, rfl, rfl, rfl, rfl, trivial⟩ ⟨rfl, rfl, rfl, rfl, rfl, rfl, trivial⟩
                    exact AHs_nil
                  exact AHs_nil
                exact AHs_nil
              exact AHs_nil
            exact AHs_nil
          ·
            obtain rfl : x = 64 := by have := of_decide_eq_false hc101; omega
            rw [schW_full hp2]
            obtain ⟨ww, hW⟩ : ∃ ww, sch (padB d) (64 * p.1) 64 = ww := ⟨_, rfl⟩
            have hWl : ww.length = 64 := by rw [← hW]; exact sch_length _ _ _
            rw [hW]
            refine W_exit (X_then_exit (X_then_exit (X_block_exit (X_then ?_))))
            refine W_seq ?_
            refine W.pre (K' := [(2, _), (3, _), (4, _), (5, _), (8, _), (9, _), (12, _), (101, _)]) (L' := [(0, _), (101, _), (201, _), (202, _), (203, _), (205, _)]) ?_ ⟨rfl, ⟨rfl, ⟨rfl, ⟨rfl, ⟨rfl, ⟨rfl, ⟨rfl, ⟨rfl, trivial⟩⟩⟩⟩⟩⟩⟩⟩ ⟨rfl, ⟨rfl, ⟨rfl, ⟨rfl, ⟨rfl, ⟨rfl, trivial⟩⟩⟩⟩⟩⟩
            refine W_regL (WL_pure rfl rfl (by decide) (Pu_loadBN (r := 202) rfl Try.isAgg76 Try.sizeOf76 rfl rfl rfl (load_all rfl)) (WL_cons rfl rfl (by decide) (OpT_alloc (r := 206) (cs := (ws [0, 0, 0, 0, 0, 0, 0, 0])) rfl (zero_run (by kernel_rfl : (Try.prog.info? 76).bind (·.zero) = some (.agg (ws [0, 0, 0, 0, 0, 0, 0, 0]).toArray))) rfl (fun g206 => (WL_cons0 rfl rfl (OpT_storeAll (r := 206) rfl Try.sizeOf76 rfl rfl rfl rfl rfl (ws_one _) ?_))))))
            refine (WL_nil (X_then ?_))
            refine W_seq ?_
            refine W_seq ?_
            refine W.pre (K' := [(2, _), (3, _), (4, _), (5, _), (8, _), (9, _), (12, _), (15, _), (101, _)]) (L' := [(0, _), (101, _), (201, _), (202, _), (203, _), (205, _), (206, _)]) ?_ ⟨rfl, ⟨rfl, ⟨rfl, ⟨rfl, ⟨rfl, ⟨rfl, ⟨rfl, ⟨rfl, ⟨rfl, trivial⟩⟩⟩⟩⟩⟩⟩⟩⟩ ⟨rfl, ⟨rfl, ⟨rfl, ⟨rfl, ⟨rfl, ⟨rfl, ⟨rfl, trivial⟩⟩⟩⟩⟩⟩⟩
            refine W_regL (WL_pure rfl rfl (by decide) (Pu_assign rfl rfl) (WL_nil (X_then ?_)))
            refine W_block ?_
            refine W_loop (α := Nat) (fun x => [(2, .pointer (some ⟨g101, 0, none⟩)), (3, .pointer (some ⟨g201, 0, none⟩)), (4, .pointer (some ⟨g202, 0, none⟩)), (5, y.1), (8, .pointer (some ⟨g205, 0, none⟩)), (9, .int .i64 ((64 * p.1 : Nat) : Int)), (15, .pointer (some ⟨g206, 0, none⟩)), (16, .int .i64 (x : Int))]) (fun x => [(0, F), (101, blk g101 29 (bs zeroId)), (201, blk g201 74 (ws KS)), (202, blk g202 76 (ws s.list)), (203, rowB 5 y.1 (padB d)), (205, blk g205 74 (ws ww)), (206, blk g206 76 (ws (rnds ww s x).list))]) (fun x => x ≤ 64) (fun x => 64 - x) (0) (by omega) ⟨rfl, ⟨rfl, ⟨rfl, ⟨rfl, ⟨rfl, ⟨rfl, ⟨rfl, ⟨rfl, trivial⟩⟩⟩⟩⟩⟩⟩⟩ ⟨rfl, ⟨rfl, ⟨rfl, ⟨rfl, ⟨rfl, ⟨rfl, ⟨rfl, trivial⟩⟩⟩⟩⟩⟩⟩ (fun x hx => ?_)
            refine W_seq ?_
            refine W_seq ?_
            refine W.pre (K' := [(2, _), (3, _), (4, _), (5, _), (8, _), (9, _), (15, _), (16, _)]) (L' := [(0, _), (101, _), (201, _), (202, _), (203, _), (205, _), (206, _)]) ?_ ⟨rfl, ⟨rfl, ⟨rfl, ⟨rfl, ⟨rfl, ⟨rfl, ⟨rfl, ⟨rfl, trivial⟩⟩⟩⟩⟩⟩⟩⟩ ⟨rfl, ⟨rfl, ⟨rfl, ⟨rfl, ⟨rfl, ⟨rfl, ⟨rfl, trivial⟩⟩⟩⟩⟩⟩⟩
            refine W_regL (WL_pure rfl rfl (by decide) (Pu_move rfl rfl) (WL_pure rfl rfl (by decide) (Pu_bin rfl rfl rfl (run_lss _ _ _ _ _ _)) (WL_nil (X_then ?_))))
            refine W_cond rfl (fun hc143 => ?_) (fun hc143 => ?_)
            ·
              have hlt : x < 64 := by have := of_decide_eq_true hc143; omega
              obtain ⟨A, hA⟩ : ∃ A, rnds ww s x = A := ⟨_, rfl⟩
              have hA1 : rnds ww s (x + 1) = rnd (KS.getD x 0) (ww.getD x 0) A := by rw [← hA]; rfl
              rw [hA]
              refine W_skip (X_then ?_)
              refine W_seq ?_
              refine W_block ?_
              refine W_seq ?_
              refine W.pre (K' := [(2, _), (3, _), (4, _), (5, _), (8, _), (9, _), (15, _), (16, _), (143, _)]) (L' := [(0, _), (101, _), (201, _), (202, _), (203, _), (205, _), (206, _)]) ?_ ⟨rfl, ⟨rfl, ⟨rfl, ⟨rfl, ⟨rfl, ⟨rfl, ⟨rfl, ⟨rfl, ⟨rfl, trivial⟩⟩⟩⟩⟩⟩⟩⟩⟩ ⟨rfl, ⟨rfl, ⟨rfl, ⟨rfl, ⟨rfl, ⟨rfl, ⟨rfl, trivial⟩⟩⟩⟩⟩⟩⟩
              refine W_regL (WL_pure rfl rfl (by decide) (Pu_idxA rfl Try.runUnderlying76 Try.sizeOf73 rfl rfl (by omega)) (WL_pure rfl rfl (by decide) (Pu_loadB (r := 206) rfl Try.isAgg73 rfl rfl rfl) (WL_pure rfl rfl (by decide) (Pu_assign rfl rfl) (WL_nil (X_then ?_)))))
              refine W_seq ?_
              refine W.pre (K' := [(2, _), (3, _), (4, _), (5, _), (8, _), (9, _), (15, _), (16, _), (17, _), (143, _)]) (L' := [(0, _), (101, _), (201, _), (202, _), (203, _), (205, _), (206, _)]) ?_ ⟨rfl, ⟨rfl, ⟨rfl, ⟨rfl, ⟨rfl, ⟨rfl, ⟨rfl, ⟨rfl, ⟨rfl, ⟨rfl, trivial⟩⟩⟩⟩⟩⟩⟩⟩⟩⟩ ⟨rfl, ⟨rfl, ⟨rfl, ⟨rfl, ⟨rfl, ⟨rfl, ⟨rfl, trivial⟩⟩⟩⟩⟩⟩⟩
              refine W_draw (N := 31) (by kernel_rfl) rfl [(0, _), (101, _), (201, _), (202, _), (205, _), (206, _)] ⟨rfl, ⟨rfl, ⟨rfl, ⟨rfl, ⟨rfl, ⟨rfl, trivial⟩⟩⟩⟩⟩⟩ ?_
              refine (AH_take 0 rfl (by kernel_rfl) (by kernel_rfl) (by kernel_rfl) rfl rfl (by decide) (Pu_idxA rfl Try.runUnderlying76 Try.sizeOf73 rfl rfl (by omega)) (AH_take 1 rfl (by kernel_rfl) (by kernel_rfl) (by kernel_rfl) rfl rfl (by decide) (Pu_loadB (r := 206) rfl Try.isAgg73 rfl rfl rfl) (AH_take 2 rfl (by kernel_rfl) (by kernel_rfl) (by kernel_rfl) rfl rfl (by decide) (Pu_move rfl rfl) (AH_take 4 rfl (by kernel_rfl) (by kernel_rfl) (by kernel_rfl) rfl rfl (by decide) (Pu_move rfl rfl) (AH_take 7 rfl (by kernel_rfl) (by kernel_rfl) (by kernel_rfl) rfl rfl (by decide) (Pu_move rfl rfl) (AH_take 11 rfl (by kernel_rfl) (by kernel_rfl) (by kernel_rfl) rfl rfl (by decide) (Pu_move rfl rfl) (AH_take 12 rfl (by kernel_rfl) (by kernel_rfl) (by kernel_rfl) rfl rfl (by decide) (Pu_idxA rfl Try.runUnderlying76 Try.sizeOf73 rfl rfl (by omega)) (AH_take 13 rfl (by kernel_rfl) (by kernel_rfl) (by kernel_rfl) rfl rfl (by decide) (Pu_loadB (r := 206) rfl Try.isAgg73 rfl rfl rfl) (AH_take 14 rfl (by kernel_rfl) (by kernel_rfl) (by kernel_rfl) rfl rfl (by decide) (Pu_bin rfl rfl rfl (run_andW _ _ _ _ _)) (AH_take 15 rfl (by kernel_rfl) (by kernel_rfl) (by kernel_rfl) rfl rfl (by decide) (Pu_move rfl rfl) (AH_take 16 rfl (by kernel_rfl) (by kernel_rfl) (by kernel_rfl) rfl rfl (by decide) (Pu_un rfl rfl (run_notW _)) (AH_take 17 rfl (by kernel_rfl) (by kernel_rfl) (by kernel_rfl) rfl rfl (by decide) (Pu_idxA rfl Try.runUnderlying76 Try.sizeOf73 rfl rfl (by omega)) (AH_take 18 rfl (by kernel_rfl) (by kernel_rfl) (by kernel_rfl) rfl rfl (by decide) (Pu_loadB (r := 206) rfl Try.isAgg73 rfl rfl rfl) (AH_take 19 rfl (by kernel_rfl) (by kernel_rfl) (by kernel_rfl) rfl rfl (by decide) (Pu_bin rfl rfl rfl (run_andW _ _ _ _ _)) (AH_take 20 rfl (by kernel_rfl) (by kernel_rfl) (by kernel_rfl) rfl rfl (by decide) (Pu_bin rfl rfl rfl (run_xorW _ _ _ _ _)) (AH_take 22 rfl (by kernel_rfl) (by kernel_rfl) (by kernel_rfl) rfl rfl (by decide) (Pu_move rfl rfl) (AH_take 23 rfl (by kernel_rfl) (by kernel_rfl) (by kernel_rfl) rfl rfl (by decide) (Pu_idxA rfl Try.runUnderlying74 Try.sizeOf73 rfl rfl (by omega)) (AH_take 24 rfl (by kernel_rfl) (by kernel_rfl) (by kernel_rfl) rfl rfl (by decide) (Pu_loadB (r := 201) rfl Try.isAgg73 rfl rfl (ws_at0 (k := x) (by omega) (by rw [KS_length]; omega))) (AH_take 26 rfl (by kernel_rfl) (by kernel_rfl) (by kernel_rfl) rfl rfl (by decide) (Pu_move rfl rfl) (AH_take 27 rfl (by kernel_rfl) (by kernel_rfl) (by kernel_rfl) rfl rfl (by decide) (Pu_idxA rfl Try.runUnderlying74 Try.sizeOf73 rfl rfl (by omega)) (AH_take 28 rfl (by kernel_rfl) (by kernel_rfl) (by kernel_rfl) rfl rfl (by decide) (Pu_loadB (r := 205) rfl Try.isAgg73 rfl rfl (ws_at0 (l := ww) (k := x) (by omega) (by omega))) (AH_ready [3] (by kernel_rfl) (by decide) ?_))))))))))))))))))))))
              refine AHs_cons rfl rfl rfl (by decide) (OpT_call 300 [0, 101, 201, 202, 203, 205, 206] [] rfl Try.call34 rfl rfl rfl (by decide) (by decide) (rot_spec _ 6 (by decide) _) (fun v151 Ps151 hR151 => ?_)) ?_
              ·
                obtain ⟨rfl, rfl⟩ := hR151
                refine ⟨⟨rfl, ⟨rfl, ⟨rfl, ⟨rfl, ⟨rfl, ⟨rfl, trivial⟩⟩⟩⟩⟩⟩, ?_⟩
                refine (AH_ready [5] (by kernel_rfl) (by decide) ?_)
                refine AHs_cons rfl rfl rfl (by decide) (OpT_call 400 [0, 101, 201, 202, 203, 205, 206] [] rfl Try.call34 rfl rfl rfl (by decide) (by decide) (rot_spec _ 11 (by decide) _) (fun v153 Ps153 hR153 => ?_)) ?_
                ·
                  obtain ⟨rfl, rfl⟩ := hR153
                  refine ⟨⟨rfl, ⟨rfl, ⟨rfl, ⟨rfl, ⟨rfl, ⟨rfl, trivial⟩⟩⟩⟩⟩⟩, ?_⟩
                  refine (AH_take 6 rfl (by kernel_rfl) (by kernel_rfl) (by kernel_rfl) rfl rfl (by decide) (Pu_bin rfl rfl rfl (run_xorW _ _ _ _ _)) (AH_ready [8] (by kernel_rfl) (by decide) ?_))
                  refine AHs_cons rfl rfl rfl (by decide) (OpT_call 500 [0, 101, 201, 202, 203, 205, 206] [] rfl Try.call34 rfl rfl rfl (by decide) (by decide) (rot_spec _ 25 (by decide) _) (fun v156 Ps156 hR156 => ?_)) ?_
                  ·
                    obtain ⟨rfl, rfl⟩ := hR156
                    refine ⟨⟨rfl, ⟨rfl, ⟨rfl, ⟨rfl, ⟨rfl, ⟨rfl, trivial⟩⟩⟩⟩⟩⟩, ?_⟩
                    refine (AH_take 9 rfl (by kernel_rfl) (by kernel_rfl) (by kernel_rfl) rfl rfl (by decide) (Pu_bin rfl rfl rfl (run_xorW _ _ _ _ _)) (AH_take 10 rfl (by kernel_rfl) (by kernel_rfl) (by kernel_rfl) rfl rfl (by decide) (Pu_bin rfl rfl rfl (run_addW _ _ _ _ _)) (AH_take 21 rfl (by kernel_rfl) (by kernel_rfl) (by kernel_rfl) rfl rfl (by decide) (Pu_bin rfl rfl rfl (run_addW _ _ _ _ _)) (AH_take 25 rfl (by kernel_rfl) (by kernel_rfl) (by kernel_rfl) rfl rfl (by decide) (Pu_bin rfl rfl rfl (run_addW _ _ _ _ _)) (AH_take 29 rfl (by kernel_rfl) (by kernel_rfl) (by kernel_rfl) rfl rfl (by decide) (Pu_bin rfl rfl rfl (run_addW _ _ _ _ _)) (AH_take 30 rfl (by kernel_rfl) (by kernel_rfl) (by kernel_rfl) rfl rfl (by decide) (Pu_assign rfl rfl) (AH_done (by kernel_rfl) (X_then ?_))))))))
                    refine W_seq ?_
                    refine W.pre (K' := [(2, _), (3, _), (4, _), (5, _), (8, _), (9, _), (15, _), (16, _), (17, _), (18, _), (143, _)]) (L' := [(0, _), (101, _), (201, _), (202, _), (203, _), (205, _), (206, _)]) ?_ ⟨rfl, ⟨rfl, ⟨rfl, ⟨rfl, ⟨rfl, ⟨rfl, ⟨rfl, ⟨rfl, ⟨rfl, ⟨rfl, ⟨rfl, trivial⟩⟩⟩⟩⟩⟩⟩⟩⟩⟩⟩ ⟨rfl, ⟨rfl, ⟨rfl, ⟨rfl, ⟨rfl, ⟨rfl, ⟨rfl, trivial⟩⟩⟩⟩⟩⟩⟩
                    refine W_draw (N := 30) (by kernel_rfl) rfl [(0, _), (101, _), (201, _), (202, _), (205, _), (206, _)] ⟨rfl, ⟨rfl, ⟨rfl, ⟨rfl, ⟨rfl, ⟨rfl, trivial⟩⟩⟩⟩⟩⟩ ?_
                    refine (AH_take 0 rfl (by kernel_rfl) (by kernel_rfl) (by kernel_rfl) rfl rfl (by decide) (Pu_idxA rfl Try.runUnderlying76 Try.sizeOf73 rfl rfl (by omega)) (AH_take 1 rfl (by kernel_rfl) (by kernel_rfl) (by kernel_rfl) rfl rfl (by decide) (Pu_loadB (r := 206) rfl Try.isAgg73 rfl rfl rfl) (AH_take 3 rfl (by kernel_rfl) (by kernel_rfl) (by kernel_rfl) rfl rfl (by decide) (Pu_idxA rfl Try.runUnderlying76 Try.sizeOf73 rfl rfl (by omega)) (AH_take 4 rfl (by kernel_rfl) (by kernel_rfl) (by kernel_rfl) rfl rfl (by decide) (Pu_loadB (r := 206) rfl Try.isAgg73 rfl rfl rfl) (AH_take 7 rfl (by kernel_rfl) (by kernel_rfl) (by kernel_rfl) rfl rfl (by decide) (Pu_idxA rfl Try.runUnderlying76 Try.sizeOf73 rfl rfl (by omega)) (AH_take 8 rfl (by kernel_rfl) (by kernel_rfl) (by kernel_rfl) rfl rfl (by decide) (Pu_loadB (r := 206) rfl Try.isAgg73 rfl rfl rfl) (AH_take 11 rfl (by kernel_rfl) (by kernel_rfl) (by kernel_rfl) rfl rfl (by decide) (Pu_idxA rfl Try.runUnderlying76 Try.sizeOf73 rfl rfl (by omega)) (AH_take 12 rfl (by kernel_rfl) (by kernel_rfl) (by kernel_rfl) rfl rfl (by decide) (Pu_loadB (r := 206) rfl Try.isAgg73 rfl rfl rfl) (AH_take 13 rfl (by kernel_rfl) (by kernel_rfl) (by kernel_rfl) rfl rfl (by decide) (Pu_idxA rfl Try.runUnderlying76 Try.sizeOf73 rfl rfl (by omega)) (AH_take 14 rfl (by kernel_rfl) (by kernel_rfl) (by kernel_rfl) rfl rfl (by decide) (Pu_loadB (r := 206) rfl Try.isAgg73 rfl rfl rfl) (AH_take 15 rfl (by kernel_rfl) (by kernel_rfl) (by kernel_rfl) rfl rfl (by decide) (Pu_bin rfl rfl rfl (run_andW _ _ _ _ _)) (AH_take 16 rfl (by kernel_rfl) (by kernel_rfl) (by kernel_rfl) rfl rfl (by decide) (Pu_idxA rfl Try.runUnderlying76 Try.sizeOf73 rfl rfl (by omega)) (AH_take 17 rfl (by kernel_rfl) (by kernel_rfl) (by kernel_rfl) rfl rfl (by decide) (Pu_loadB (r := 206) rfl Try.isAgg73 rfl rfl rfl) (AH_take 18 rfl (by kernel_rfl) (by kernel_rfl) (by kernel_rfl) rfl rfl (by decide) (Pu_idxA rfl Try.runUnderlying76 Try.sizeOf73 rfl rfl (by omega)) (AH_take 19 rfl (by kernel_rfl) (by kernel_rfl) (by kernel_rfl) rfl rfl (by decide) (Pu_loadB (r := 206) rfl Try.isAgg73 rfl rfl rfl) (AH_take 20 rfl (by kernel_rfl) (by kernel_rfl) (by kernel_rfl) rfl rfl (by decide) (Pu_bin rfl rfl rfl (run_andW _ _ _ _ _)) (AH_take 21 rfl (by kernel_rfl) (by kernel_rfl) (by kernel_rfl) rfl rfl (by decide) (Pu_bin rfl rfl rfl (run_xorW _ _ _ _ _)) (AH_take 22 rfl (by kernel_rfl) (by kernel_rfl) (by kernel_rfl) rfl rfl (by decide) (Pu_idxA rfl Try.runUnderlying76 Try.sizeOf73 rfl rfl (by omega)) (AH_take 23 rfl (by kernel_rfl) (by kernel_rfl) (by kernel_rfl) rfl rfl (by decide) (Pu_loadB (r := 206) rfl Try.isAgg73 rfl rfl rfl) (AH_take 24 rfl (by kernel_rfl) (by kernel_rfl) (by kernel_rfl) rfl rfl (by decide) (Pu_idxA rfl Try.runUnderlying76 Try.sizeOf73 rfl rfl (by omega)) (AH_take 25 rfl (by kernel_rfl) (by kernel_rfl) (by kernel_rfl) rfl rfl (by decide) (Pu_loadB (r := 206) rfl Try.isAgg73 rfl rfl rfl) (AH_take 26 rfl (by kernel_rfl) (by kernel_rfl) (by kernel_rfl) rfl rfl (by decide) (Pu_bin rfl rfl rfl (run_andW _ _ _ _ _)) (AH_take 27 rfl (by kernel_rfl) (by kernel_rfl) (by kernel_rfl) rfl rfl (by decide) (Pu_bin rfl rfl rfl (run_xorW _ _ _ _ _)) (AH_ready [2] (by kernel_rfl) (by decide) ?_))))))))))))))))))))))))
                    refine AHs_cons rfl rfl rfl (by decide) (OpT_call 600 [0, 101, 201, 202, 203, 205, 206] [] rfl Try.call34 rfl rfl rfl (by decide) (by decide) (rot_spec _ 2 (by decide) _) (fun v180 Ps180 hR180 => ?_)) ?_
                    ·
                      obtain ⟨rfl, rfl⟩ := hR180
                      refine ⟨⟨rfl, ⟨rfl, ⟨rfl, ⟨rfl, ⟨rfl, ⟨rfl, trivial⟩⟩⟩⟩⟩⟩, ?_⟩
                      refine (AH_ready [5] (by kernel_rfl) (by decide) ?_)
                      refine AHs_cons rfl rfl rfl (by decide) (OpT_call 700 [0, 101, 201, 202, 203, 205, 206] [] rfl Try.call34 rfl rfl rfl (by decide) (by decide) (rot_spec _ 13 (by decide) _) (fun v183 Ps183 hR183 => ?_)) ?_
                      ·
                        obtain ⟨rfl, rfl⟩ := hR183
                        refine ⟨⟨rfl, ⟨rfl, ⟨rfl, ⟨rfl, ⟨rfl, ⟨rfl, trivial⟩⟩⟩⟩⟩⟩, ?_⟩
                        refine (AH_take 6 rfl (by kernel_rfl) (by kernel_rfl) (by kernel_rfl) rfl rfl (by decide) (Pu_bin rfl rfl rfl (run_xorW _ _ _ _ _)) (AH_ready [9] (by kernel_rfl) (by decide) ?_))
                        refine AHs_cons rfl rfl rfl (by decide) (OpT_call 800 [0, 101, 201, 202, 203, 205, 206] [] rfl Try.call34 rfl rfl rfl (by decide) (by decide) (rot_spec _ 22 (by decide) _) (fun v187 Ps187 hR187 => ?_)) ?_
                        ·
                          obtain ⟨rfl, rfl⟩ := hR187
                          refine ⟨⟨rfl, ⟨rfl, ⟨rfl, ⟨rfl, ⟨rfl, ⟨rfl, trivial⟩⟩⟩⟩⟩⟩, ?_⟩
                          refine (AH_take 10 rfl (by kernel_rfl) (by kernel_rfl) (by kernel_rfl) rfl rfl (by decide) (Pu_bin rfl rfl rfl (run_xorW _ _ _ _ _)) (AH_take 28 rfl (by kernel_rfl) (by kernel_rfl) (by kernel_rfl) rfl rfl (by decide) (Pu_bin rfl rfl rfl (run_addW _ _ _ _ _)) (AH_take 29 rfl (by kernel_rfl) (by kernel_rfl) (by kernel_rfl) rfl rfl (by decide) (Pu_assign rfl rfl) (AH_done (by kernel_rfl) (X_then ?_)))))
                          refine W.pre (K' := [(2, _), (3, _), (4, _), (5, _), (8, _), (9, _), (15, _), (16, _), (17, _), (18, _), (19, _), (143, _)]) (L' := [(0, _), (101, _), (201, _), (202, _), (203, _), (205, _), (206, _)]) ?_ ⟨rfl, ⟨rfl, ⟨rfl, ⟨rfl, ⟨rfl, ⟨rfl, ⟨rfl, ⟨rfl, ⟨rfl, ⟨rfl, ⟨rfl, ⟨rfl, trivial⟩⟩⟩⟩⟩⟩⟩⟩⟩⟩⟩⟩ ⟨rfl, ⟨rfl, ⟨rfl, ⟨rfl, ⟨rfl, ⟨rfl, ⟨rfl, trivial⟩⟩⟩⟩⟩⟩⟩
                          refine W_regL (WL_pure rfl rfl (by decide) (Pu_move rfl rfl) (WL_pure rfl rfl (by decide) (Pu_move rfl rfl) (WL_pure rfl rfl (by decide) (Pu_bin rfl rfl rfl (run_addW _ _ _ _ _)) (WL_pure rfl rfl (by decide) (Pu_idxA rfl Try.runUnderlying76 Try.sizeOf73 rfl rfl (by omega)) (WL_pure rfl rfl (by decide) (Pu_loadB (r := 206) rfl Try.isAgg73 rfl rfl rfl) (WL_pure rfl rfl (by decide) (Pu_idxA rfl Try.runUnderlying76 Try.sizeOf73 rfl rfl (by omega)) (WL_pure rfl rfl (by decide) (Pu_loadB (r := 206) rfl Try.isAgg73 rfl rfl rfl) (WL_pure rfl rfl (by decide) (Pu_idxA rfl Try.runUnderlying76 Try.sizeOf73 rfl rfl (by omega)) (WL_pure rfl rfl (by decide) (Pu_loadB (r := 206) rfl Try.isAgg73 rfl rfl rfl) (WL_pure rfl rfl (by decide) (Pu_idxA rfl Try.runUnderlying76 Try.sizeOf73 rfl rfl (by omega)) (WL_pure rfl rfl (by decide) (Pu_loadB (r := 206) rfl Try.isAgg73 rfl rfl rfl) (WL_pure rfl rfl (by decide) (Pu_move rfl rfl) (WL_pure rfl rfl (by decide) (Pu_bin rfl rfl rfl (run_addW _ _ _ _ _)) (WL_pure rfl rfl (by decide) (Pu_idxA rfl Try.runUnderlying76 Try.sizeOf73 rfl rfl (by omega)) (WL_pure rfl rfl (by decide) (Pu_loadB (r := 206) rfl Try.isAgg73 rfl rfl rfl) (WL_pure rfl rfl (by decide) (Pu_idxA rfl Try.runUnderlying76 Try.sizeOf73 rfl rfl (by omega)) (WL_pure rfl rfl (by decide) (Pu_loadB (r := 206) rfl Try.isAgg73 rfl rfl rfl) (WL_pure rfl rfl (by decide) (Pu_idxA rfl Try.runUnderlying76 Try.sizeOf73 rfl rfl (by omega)) (WL_pure rfl rfl (by decide) (Pu_loadB (r := 206) rfl Try.isAgg73 rfl rfl rfl) (WL_pure rfl rfl (by decide) (Pu_built (cells := ws (rnd (KS.getD x 0) (ww.getD x 0) A).list) rfl rfl (built8 Try.underlying76 (by kernel_rfl) (by kernel_rfl) _ _ _ _ _ _ _ _)) (WL_cons0 rfl rfl (OpT_storeAll (r := 206) rfl Try.sizeOf76 rfl rfl rfl rfl rfl (ws_one _) ?_))))))))))))))))))))))
                          rw [← hA1]
                          refine (WL_nil (X_block (X_then ?_)))
                          refine W.pre (K' := [(2, _), (3, _), (4, _), (5, _), (8, _), (9, _), (15, _), (16, _), (17, _), (18, _), (19, _), (143, _)]) (L' := [(0, _), (101, _), (201, _), (202, _), (203, _), (205, _), (206, _)]) ?_ ⟨rfl, ⟨rfl, ⟨rfl, ⟨rfl, ⟨rfl, ⟨rfl, ⟨rfl, ⟨rfl, ⟨rfl, ⟨rfl, ⟨rfl, ⟨rfl, trivial⟩⟩⟩⟩⟩⟩⟩⟩⟩⟩⟩⟩ ⟨rfl, ⟨rfl, ⟨rfl, ⟨rfl, ⟨rfl, ⟨rfl, ⟨rfl, trivial⟩⟩⟩⟩⟩⟩⟩
                          refine W_regL (WL_pure rfl rfl (by decide) (Pu_move rfl rfl) (WL_pure rfl rfl (by decide) (Pu_bin rfl rfl rfl (run_add _ _ _ _ _ (by omega))) (WL_pure rfl rfl (by decide) (Pu_assign rfl rfl) (WL_nil ?_))))
                          exact X_round (x + 1) (by omega) (by omega) ⟨rfl, rfl, rfl, rfl, rfl, rfl, rfl, rfl, trivial⟩ ⟨rfl, rfl, rfl, rfl, rfl, rfl, rfl, trivial⟩
                        exact AHs_nil
                      exact AHs_nil
                    exact AHs_nil
                  exact AHs_nil
                exact AHs_nil
              exact AHs_nil
            ·
              obtain rfl : x = 64 := by have := of_decide_eq_false hc143; omega
              obtain ⟨A, hA⟩ : ∃ A, rnds ww s 64 = A := ⟨_, rfl⟩
              rw [hA]
              have hmix : (mixes (padB d) (S8.of HS) (p.1 + 1)) = addS s A := by show mixS (padB d) (64 * p.1) (mixes (padB d) (S8.of HS) p.1) = _; rw [hs]; unfold mixS; rw [hW, hA]
              refine W_exit (X_then_exit (X_then_exit (X_block_exit (X_then ?_))))
              refine W_seq ?_
              refine W.pre (K' := [(2, _), (3, _), (4, _), (5, _), (8, _), (9, _), (15, _), (16, _), (143, _)]) (L' := [(0, _), (101, _), (201, _), (202, _), (203, _), (205, _), (206, _)]) ?_ ⟨rfl, ⟨rfl, ⟨rfl, ⟨rfl, ⟨rfl, ⟨rfl, ⟨rfl, ⟨rfl, ⟨rfl, trivial⟩⟩⟩⟩⟩⟩⟩⟩⟩ ⟨rfl, ⟨rfl, ⟨rfl, ⟨rfl, ⟨rfl, ⟨rfl, ⟨rfl, trivial⟩⟩⟩⟩⟩⟩⟩
              refine W_regL (WL_pure rfl rfl (by decide) (Pu_assign rfl rfl) (WL_nil (X_then ?_)))
              refine W_block ?_
              refine W_loop (α := Nat) (fun x => [(2, .pointer (some ⟨g101, 0, none⟩)), (3, .pointer (some ⟨g201, 0, none⟩)), (4, .pointer (some ⟨g202, 0, none⟩)), (5, y.1), (8, .pointer (some ⟨g205, 0, none⟩)), (9, .int .i64 ((64 * p.1 : Nat) : Int)), (15, .pointer (some ⟨g206, 0, none⟩)), (20, .int .i64 (x : Int))]) (fun x => [(0, F), (101, blk g101 29 (bs zeroId)), (201, blk g201 74 (ws KS)), (202, blk g202 76 (ws (addK s.list A.list x))), (203, rowB 5 y.1 (padB d)), (205, blk g205 74 (ws ww)), (206, blk g206 76 (ws A.list))]) (fun x => x ≤ 8) (fun x => 8 - x) (0) (by omega) ⟨rfl, ⟨rfl, ⟨rfl, ⟨rfl, ⟨rfl, ⟨rfl, ⟨rfl, ⟨rfl, trivial⟩⟩⟩⟩⟩⟩⟩⟩ ⟨rfl, ⟨rfl, ⟨rfl, ⟨rfl, ⟨rfl, ⟨rfl, ⟨rfl, trivial⟩⟩⟩⟩⟩⟩⟩ (fun x hx => ?_)
              have hal := addK_length (s := s.list) (a := A.list) rfl rfl hx
              refine W_seq ?_
              refine W_seq ?_
              refine W.pre (K' := [(2, _), (3, _), (4, _), (5, _), (8, _), (9, _), (15, _), (20, _)]) (L' := [(0, _), (101, _), (201, _), (202, _), (203, _), (205, _), (206, _)]) ?_ ⟨rfl, ⟨rfl, ⟨rfl, ⟨rfl, ⟨rfl, ⟨rfl, ⟨rfl, ⟨rfl, trivial⟩⟩⟩⟩⟩⟩⟩⟩ ⟨rfl, ⟨rfl, ⟨rfl, ⟨rfl, ⟨rfl, ⟨rfl, ⟨rfl, trivial⟩⟩⟩⟩⟩⟩⟩
              refine W_regL (WL_pure rfl rfl (by decide) (Pu_move rfl rfl) (WL_pure rfl rfl (by decide) (Pu_bin rfl rfl rfl (run_lss _ _ _ _ _ _)) (WL_nil (X_then ?_))))
              refine W_cond rfl (fun hc228 => ?_) (fun hc228 => ?_)
              ·
                have hlt : x < 8 := by have := of_decide_eq_true hc228; omega
                refine W_skip (X_then ?_)
                refine W_seq ?_
                refine W_block ?_
                refine W.pre (K' := [(2, _), (3, _), (4, _), (5, _), (8, _), (9, _), (15, _), (20, _), (228, _)]) (L' := [(0, _), (101, _), (201, _), (202, _), (203, _), (205, _), (206, _)]) ?_ ⟨rfl, ⟨rfl, ⟨rfl, ⟨rfl, ⟨rfl, ⟨rfl, ⟨rfl, ⟨rfl, ⟨rfl, trivial⟩⟩⟩⟩⟩⟩⟩⟩⟩ ⟨rfl, ⟨rfl, ⟨rfl, ⟨rfl, ⟨rfl, ⟨rfl, ⟨rfl, trivial⟩⟩⟩⟩⟩⟩⟩
                refine W_draw (N := 9) (by kernel_rfl) rfl [(0, _), (101, _), (201, _), (205, _), (206, _)] ⟨rfl, ⟨rfl, ⟨rfl, ⟨rfl, ⟨rfl, trivial⟩⟩⟩⟩⟩ ?_
                refine (AH_take 0 rfl (by kernel_rfl) (by kernel_rfl) (by kernel_rfl) rfl rfl (by decide) (Pu_move rfl rfl) (AH_take 1 rfl (by kernel_rfl) (by kernel_rfl) (by kernel_rfl) rfl rfl (by decide) (Pu_idxA rfl Try.runUnderlying76 Try.sizeOf73 rfl rfl (by omega)) (AH_take 3 rfl (by kernel_rfl) (by kernel_rfl) (by kernel_rfl) rfl rfl (by decide) (Pu_move rfl rfl) (AH_take 4 rfl (by kernel_rfl) (by kernel_rfl) (by kernel_rfl) rfl rfl (by decide) (Pu_idxA rfl Try.runUnderlying76 Try.sizeOf73 rfl rfl (by omega)) (AH_take 5 rfl (by kernel_rfl) (by kernel_rfl) (by kernel_rfl) rfl rfl (by decide) (Pu_loadB (r := 206) rfl Try.isAgg73 rfl rfl (ws_at0 (l := A.list) (k := x) (by omega) (by rw [S8.list_length]; omega))) (AH_ready [2] (by kernel_rfl) (by decide) ?_))))))
                refine AHs_cons rfl rfl rfl (by decide) (OpT_run (Pu_loadB (r := 202) rfl Try.isAgg73 rfl rfl (ws_at0 (l := addK s.list A.list x) (k := x) (by omega) (by omega))) ⟨⟨rfl, ⟨rfl, ⟨rfl, ⟨rfl, ⟨rfl, trivial⟩⟩⟩⟩⟩, ?_⟩) ?_
                ·
                  refine (AH_take 6 rfl (by kernel_rfl) (by kernel_rfl) (by kernel_rfl) rfl rfl (by decide) (Pu_bin rfl rfl rfl (run_addW _ _ _ _ _)) (AH_take 7 rfl (by kernel_rfl) (by kernel_rfl) (by kernel_rfl) rfl rfl (by decide) (Pu_idxA rfl Try.runUnderlying76 Try.sizeOf73 rfl rfl (by omega)) (AH_ready [8] (by kernel_rfl) (by decide) ?_)))
                  refine AHs_cons0 rfl rfl rfl (OpT_storeB1 (r := 202) rfl Try.sizeOf73 rfl rfl rfl rfl (by rw [ws_length, hal]; omega) (ws_set _ _ _) ?_) ?_
                  ·
                    refine ⟨⟨rfl, ⟨rfl, ⟨rfl, ⟨rfl, ⟨rfl, trivial⟩⟩⟩⟩⟩, ?_⟩
                    refine (AH_done (by kernel_rfl) (X_block (X_then ?_)))
                    refine W.pre (K' := [(2, _), (3, _), (4, _), (5, _), (8, _), (9, _), (15, _), (20, _), (228, _)]) (L' := [(0, _), (101, _), (201, _), (202, _), (203, _), (205, _), (206, _)]) ?_ ⟨rfl, ⟨rfl, ⟨rfl, ⟨rfl, ⟨rfl, ⟨rfl, ⟨rfl, ⟨rfl, ⟨rfl, trivial⟩⟩⟩⟩⟩⟩⟩⟩⟩ ⟨rfl, ⟨rfl, ⟨rfl, ⟨rfl, ⟨rfl, ⟨rfl, ⟨rfl, trivial⟩⟩⟩⟩⟩⟩⟩
                    refine W_regL (WL_pure rfl rfl (by decide) (Pu_move rfl rfl) (WL_pure rfl rfl (by decide) (Pu_bin rfl rfl rfl (run_add _ _ _ _ _ (by omega))) (WL_pure rfl rfl (by decide) (Pu_assign rfl rfl) (WL_nil ?_))))
                    refine X_turn (P' := blk g202 76 (ws (addK s.list A.list (x + 1)))) 202 rfl (fun h hp => by rw [← addK_set (z := (x : Int)) rfl rfl (by omega) hlt]; exact hp) ?_
                    exact X_round (x + 1) (by omega) (by omega) ⟨rfl, rfl, rfl, rfl, rfl, rfl, rfl, rfl, trivial⟩ ⟨rfl, rfl, rfl, rfl, rfl, rfl, rfl, trivial⟩
                  exact AHs_nil
                exact AHs_nil
              ·
                obtain rfl : x = 8 := by have := of_decide_eq_false hc228; omega
                rw [addK_full, ← hmix, ← hW]
                refine W_exit (X_then_exit (X_then_exit (X_block_exit (X_block (X_then ?_)))))
                refine W.pre (K' := [(2, _), (3, _), (4, _), (5, _), (8, _), (9, _), (15, _), (20, _), (228, _)]) (L' := [(0, _), (101, _), (201, _), (202, _), (203, _), (205, _), (206, _)]) ?_ ⟨rfl, ⟨rfl, ⟨rfl, ⟨rfl, ⟨rfl, ⟨rfl, ⟨rfl, ⟨rfl, ⟨rfl, trivial⟩⟩⟩⟩⟩⟩⟩⟩⟩ ⟨rfl, ⟨rfl, ⟨rfl, ⟨rfl, ⟨rfl, ⟨rfl, ⟨rfl, trivial⟩⟩⟩⟩⟩⟩⟩
                refine W_regL (WL_pure rfl rfl (by decide) (Pu_move rfl rfl) (WL_pure rfl rfl (by decide) (Pu_bin rfl rfl rfl (run_add _ _ _ _ _ (by omega))) (WL_pure rfl rfl (by decide) (Pu_assign rfl rfl) (WL_nil ?_))))
                exact X_round (p.1 + 1, sch (padB d) (64 * p.1) 64) ⟨by dsimp only; omega, sch_length _ _ _⟩ (by show (padB d).length - 64 * (p.1 + 1) < (padB d).length - 64 * p.1; omega) ⟨rfl, rfl, rfl, rfl, rfl, lookV_eq rfl (int_eq (by dsimp only; omega)), trivial⟩ ⟨rfl, rfl, rfl, rfl, rfl, rfl, trivial⟩
      ·
        have hpe2 : p.1 = (padB d).length / 64 := by have := of_decide_eq_false hc58; omega
        obtain ⟨S, hS⟩ : ∃ S, (mixes (padB d) (S8.of HS) p.1) = S := ⟨_, rfl⟩
        rw [hS]
        have hsha : sha d = outB S := by unfold sha; rw [← hpe2, hS]
        refine W_exit (X_then_exit (X_then_exit (X_block_exit (X_then ?_))))
        refine W_seq ?_
        refine W.pre (K' := [(2, _), (3, _), (4, _), (5, _), (8, _), (9, _), (58, _)]) (L' := [(0, _), (101, _), (201, _), (202, _), (203, _), (205, _)]) ?_ ⟨rfl, ⟨rfl, ⟨rfl, ⟨rfl, ⟨rfl, ⟨rfl, ⟨rfl, trivial⟩⟩⟩⟩⟩⟩⟩ ⟨rfl, ⟨rfl, ⟨rfl, ⟨rfl, ⟨rfl, ⟨rfl, trivial⟩⟩⟩⟩⟩⟩
        refine W_regL (WL_cons rfl rfl (by decide) (OpT_alloc (r := 206) (cs := (bs zeroId)) rfl (zero_run (by kernel_rfl : (Try.prog.info? 29).bind (·.zero) = some (.agg (bs zeroId).toArray))) rfl (fun g206 => (WL_nil (X_then ?_)))))
        refine W_seq ?_
        refine W_seq ?_
        refine W.pre (K' := [(2, _), (3, _), (4, _), (5, _), (8, _), (9, _), (21, _), (58, _)]) (L' := [(0, _), (101, _), (201, _), (202, _), (203, _), (205, _), (206, _)]) ?_ ⟨rfl, ⟨rfl, ⟨rfl, ⟨rfl, ⟨rfl, ⟨rfl, ⟨rfl, ⟨rfl, trivial⟩⟩⟩⟩⟩⟩⟩⟩ ⟨rfl, ⟨rfl, ⟨rfl, ⟨rfl, ⟨rfl, ⟨rfl, ⟨rfl, trivial⟩⟩⟩⟩⟩⟩⟩
        refine W_regL (WL_pure rfl rfl (by decide) (Pu_assign rfl rfl) (WL_nil (X_then ?_)))
        refine W_block ?_
        refine W_loop (α := Nat) (fun x => [(2, .pointer (some ⟨g101, 0, none⟩)), (4, .pointer (some ⟨g202, 0, none⟩)), (21, .pointer (some ⟨g206, 0, none⟩)), (22, .int .i64 (x : Int))]) (fun x => [(0, F), (101, blk g101 29 (bs zeroId)), (202, blk g202 76 (ws S.list)), (206, blk g206 29 (bs (outZ S (4 * x))))]) (fun x => x ≤ 8) (fun x => 8 - x) (0) (by omega) ⟨rfl, ⟨rfl, ⟨rfl, ⟨rfl, trivial⟩⟩⟩⟩ ⟨rfl, ⟨rfl, ⟨rfl, ⟨rfl, trivial⟩⟩⟩⟩ (fun x hx => ?_)
        refine W_seq ?_
        refine W_seq ?_
        refine W.pre (K' := [(2, _), (4, _), (21, _), (22, _)]) (L' := [(0, _), (101, _), (202, _), (206, _)]) ?_ ⟨rfl, ⟨rfl, ⟨rfl, ⟨rfl, trivial⟩⟩⟩⟩ ⟨rfl, ⟨rfl, ⟨rfl, ⟨rfl, trivial⟩⟩⟩⟩
        refine W_regL (WL_pure rfl rfl (by decide) (Pu_move rfl rfl) (WL_pure rfl rfl (by decide) (Pu_bin rfl rfl rfl (run_lss _ _ _ _ _ _)) (WL_nil (X_then ?_))))
        refine W_cond rfl (fun hc240 => ?_) (fun hc240 => ?_)
        ·
          have hlt : x < 8 := by have := of_decide_eq_true hc240; omega
          have hz0 := outZ_length (s := S) (q := 4 * x) (by omega)
          have hz1 := outZ_length (s := S) (q := 4 * x + 1) (by omega)
          have hz2 := outZ_length (s := S) (q := 4 * x + 2) (by omega)
          have hz3 := outZ_length (s := S) (q := 4 * x + 3) (by omega)
          refine W_skip (X_then ?_)
          refine W_seq ?_
          refine W_block ?_
          refine W.pre (K' := [(2, _), (4, _), (21, _), (22, _), (240, _)]) (L' := [(0, _), (101, _), (202, _), (206, _)]) ?_ ⟨rfl, ⟨rfl, ⟨rfl, ⟨rfl, ⟨rfl, trivial⟩⟩⟩⟩⟩ ⟨rfl, ⟨rfl, ⟨rfl, ⟨rfl, trivial⟩⟩⟩⟩
          refine W_draw (N := 38) (by kernel_rfl) rfl [(0, _), (101, _), (202, _)] ⟨rfl, ⟨rfl, ⟨rfl, trivial⟩⟩⟩ ?_
          refine (AH_take 0 rfl (by kernel_rfl) (by kernel_rfl) (by kernel_rfl) rfl rfl (by decide) (Pu_move rfl rfl) (AH_take 1 rfl (by kernel_rfl) (by kernel_rfl) (by kernel_rfl) rfl rfl (by decide) (Pu_bin rfl rfl rfl (run_mul _ _ _ _ _ (by omega))) (AH_take 2 rfl (by kernel_rfl) (by kernel_rfl) (by kernel_rfl) rfl rfl (by decide) (Pu_move rfl rfl) (AH_take 3 rfl (by kernel_rfl) (by kernel_rfl) (by kernel_rfl) rfl rfl (by decide) (Pu_bin rfl rfl rfl (run_mul _ _ _ _ _ (by omega))) (AH_take 4 rfl (by kernel_rfl) (by kernel_rfl) (by kernel_rfl) rfl rfl (by decide) (Pu_bin rfl rfl rfl (run_add _ _ _ _ _ (by omega))) (AH_take 5 rfl (by kernel_rfl) (by kernel_rfl) (by kernel_rfl) rfl rfl (by decide) (Pu_move rfl rfl) (AH_take 6 rfl (by kernel_rfl) (by kernel_rfl) (by kernel_rfl) rfl rfl (by decide) (Pu_bin rfl rfl rfl (run_mul _ _ _ _ _ (by omega))) (AH_take 7 rfl (by kernel_rfl) (by kernel_rfl) (by kernel_rfl) rfl rfl (by decide) (Pu_bin rfl rfl rfl (run_add _ _ _ _ _ (by omega))) (AH_take 8 rfl (by kernel_rfl) (by kernel_rfl) (by kernel_rfl) rfl rfl (by decide) (Pu_move rfl rfl) (AH_take 9 rfl (by kernel_rfl) (by kernel_rfl) (by kernel_rfl) rfl rfl (by decide) (Pu_bin rfl rfl rfl (run_mul _ _ _ _ _ (by omega))) (AH_take 10 rfl (by kernel_rfl) (by kernel_rfl) (by kernel_rfl) rfl rfl (by decide) (Pu_bin rfl rfl rfl (run_add _ _ _ _ _ (by omega))) (AH_take 11 rfl (by kernel_rfl) (by kernel_rfl) (by kernel_rfl) rfl rfl (by decide) (Pu_move rfl rfl) (AH_take 12 rfl (by kernel_rfl) (by kernel_rfl) (by kernel_rfl) rfl rfl (by decide) (Pu_idxA rfl Try.runUnderlying76 Try.sizeOf73 rfl rfl (by omega)) (AH_take 13 rfl (by kernel_rfl) (by kernel_rfl) (by kernel_rfl) rfl rfl (by decide) (Pu_loadB (r := 202) rfl Try.isAgg73 rfl rfl (ws_at0 (l := S.list) (k := x) (by omega) (by rw [S8.list_length]; omega))) (AH_take 14 rfl (by kernel_rfl) (by kernel_rfl) (by kernel_rfl) rfl rfl (by decide) (Pu_bin rfl rfl rfl (run_shrW _ (24) (by decide) _ _ _)) (AH_take 15 rfl (by kernel_rfl) (by kernel_rfl) (by kernel_rfl) rfl rfl (by decide) (Pu_conv rfl rfl (conv_byteW _ Try.runUnderlying73 Try.runUnderlying5)) (AH_take 16 rfl (by kernel_rfl) (by kernel_rfl) (by kernel_rfl) rfl rfl (by decide) (Pu_move rfl rfl) (AH_take 17 rfl (by kernel_rfl) (by kernel_rfl) (by kernel_rfl) rfl rfl (by decide) (Pu_idxA rfl Try.runUnderlying76 Try.sizeOf73 rfl rfl (by omega)) (AH_take 18 rfl (by kernel_rfl) (by kernel_rfl) (by kernel_rfl) rfl rfl (by decide) (Pu_loadB (r := 202) rfl Try.isAgg73 rfl rfl (ws_at0 (l := S.list) (k := x) (by omega) (by rw [S8.list_length]; omega))) (AH_take 19 rfl (by kernel_rfl) (by kernel_rfl) (by kernel_rfl) rfl rfl (by decide) (Pu_bin rfl rfl rfl (run_shrW _ (16) (by decide) _ _ _)) (AH_take 20 rfl (by kernel_rfl) (by kernel_rfl) (by kernel_rfl) rfl rfl (by decide) (Pu_conv rfl rfl (conv_byteW _ Try.runUnderlying73 Try.runUnderlying5)) (AH_take 21 rfl (by kernel_rfl) (by kernel_rfl) (by kernel_rfl) rfl rfl (by decide) (Pu_move rfl rfl) (AH_take 22 rfl (by kernel_rfl) (by kernel_rfl) (by kernel_rfl) rfl rfl (by decide) (Pu_idxA rfl Try.runUnderlying76 Try.sizeOf73 rfl rfl (by omega)) (AH_take 23 rfl (by kernel_rfl) (by kernel_rfl) (by kernel_rfl) rfl rfl (by decide) (Pu_loadB (r := 202) rfl Try.isAgg73 rfl rfl (ws_at0 (l := S.list) (k := x) (by omega) (by rw [S8.list_length]; omega))) (AH_take 24 rfl (by kernel_rfl) (by kernel_rfl) (by kernel_rfl) rfl rfl (by decide) (Pu_bin rfl rfl rfl (run_shrW _ (8) (by decide) _ _ _)) (AH_take 25 rfl (by kernel_rfl) (by kernel_rfl) (by kernel_rfl) rfl rfl (by decide) (Pu_conv rfl rfl (conv_byteW _ Try.runUnderlying73 Try.runUnderlying5)) (AH_take 26 rfl (by kernel_rfl) (by kernel_rfl) (by kernel_rfl) rfl rfl (by decide) (Pu_move rfl rfl) (AH_take 27 rfl (by kernel_rfl) (by kernel_rfl) (by kernel_rfl) rfl rfl (by decide) (Pu_idxA rfl Try.runUnderlying76 Try.sizeOf73 rfl rfl (by omega)) (AH_take 28 rfl (by kernel_rfl) (by kernel_rfl) (by kernel_rfl) rfl rfl (by decide) (Pu_loadB (r := 202) rfl Try.isAgg73 rfl rfl (ws_at0 (l := S.list) (k := x) (by omega) (by rw [S8.list_length]; omega))) (AH_take 29 rfl (by kernel_rfl) (by kernel_rfl) (by kernel_rfl) rfl rfl (by decide) (Pu_conv rfl rfl (conv_byteW _ Try.runUnderlying73 Try.runUnderlying5)) (AH_take 30 rfl (by kernel_rfl) (by kernel_rfl) (by kernel_rfl) rfl rfl (by decide) (Pu_idxA rfl Try.runUnderlying29 Try.sizeOf5 rfl rfl (by omega)) (AH_ready [31] (by kernel_rfl) (by decide) ?_))))))))))))))))))))))))))))))))
          refine AHs_cons0 rfl rfl rfl (OpT_storeB1 (r := 206) rfl Try.sizeOf5 rfl rfl rfl rfl (by rw [bs_length, hz0]; omega) (outZ_set (k := 0) hlt (by decide) (by omega)) ?_) ?_
          ·
            refine ⟨⟨rfl, ⟨rfl, ⟨rfl, trivial⟩⟩⟩, ?_⟩
            refine (AH_take 32 rfl (by kernel_rfl) (by kernel_rfl) (by kernel_rfl) rfl rfl (by decide) (Pu_idxA rfl Try.runUnderlying29 Try.sizeOf5 rfl rfl (by omega)) (AH_ready [33] (by kernel_rfl) (by decide) ?_))
            refine AHs_cons0 rfl rfl rfl (OpT_storeB1 (r := 206) rfl Try.sizeOf5 rfl rfl rfl rfl (by rw [bs_length, hz1]; omega) (outZ_set (k := 1) hlt (by decide) (by omega)) ?_) ?_
            ·
              refine ⟨⟨rfl, ⟨rfl, ⟨rfl, trivial⟩⟩⟩, ?_⟩
              refine (AH_take 34 rfl (by kernel_rfl) (by kernel_rfl) (by kernel_rfl) rfl rfl (by decide) (Pu_idxA rfl Try.runUnderlying29 Try.sizeOf5 rfl rfl (by omega)) (AH_ready [35] (by kernel_rfl) (by decide) ?_))
              refine AHs_cons0 rfl rfl rfl (OpT_storeB1 (r := 206) rfl Try.sizeOf5 rfl rfl rfl rfl (by rw [bs_length, hz2]; omega) (outZ_set (k := 2) hlt (by decide) (by omega)) ?_) ?_
              ·
                refine ⟨⟨rfl, ⟨rfl, ⟨rfl, trivial⟩⟩⟩, ?_⟩
                refine (AH_take 36 rfl (by kernel_rfl) (by kernel_rfl) (by kernel_rfl) rfl rfl (by decide) (Pu_idxA rfl Try.runUnderlying29 Try.sizeOf5 rfl rfl (by omega)) (AH_ready [37] (by kernel_rfl) (by decide) ?_))
                refine AHs_cons0 rfl rfl rfl (OpT_storeB1 (r := 206) rfl Try.sizeOf5 rfl rfl rfl rfl (by rw [bs_length, hz3]; omega) (outZ_set3 hlt (by omega)) ?_) ?_
                ·
                  refine ⟨⟨rfl, ⟨rfl, ⟨rfl, trivial⟩⟩⟩, ?_⟩
                  refine (AH_done (by kernel_rfl) (X_block (X_then ?_)))
                  refine W.pre (K' := [(2, _), (4, _), (21, _), (22, _), (240, _)]) (L' := [(0, _), (101, _), (202, _), (206, _)]) ?_ ⟨rfl, ⟨rfl, ⟨rfl, ⟨rfl, ⟨rfl, trivial⟩⟩⟩⟩⟩ ⟨rfl, ⟨rfl, ⟨rfl, ⟨rfl, trivial⟩⟩⟩⟩
                  refine W_regL (WL_pure rfl rfl (by decide) (Pu_move rfl rfl) (WL_pure rfl rfl (by decide) (Pu_bin rfl rfl rfl (run_add _ _ _ _ _ (by omega))) (WL_pure rfl rfl (by decide) (Pu_assign rfl rfl) (WL_nil ?_))))
                  exact X_round (x + 1) (by omega) (by omega) ⟨rfl, rfl, rfl, rfl, trivial⟩ ⟨rfl, rfl, rfl, look_eq rfl (by rw [show 4 * (x + 1) = 4 * x + 3 + 1 by omega]), trivial⟩
                exact AHs_nil
              exact AHs_nil
            exact AHs_nil
          exact AHs_nil
        ·
          obtain rfl : x = 8 := by have := of_decide_eq_false hc240; omega
          rw [show 4 * 8 = 32 from rfl, outZ_full]
          refine W_exit (X_then_exit (X_then_exit (X_block_exit (X_then ?_))))
          refine W_seq ?_
          refine W.pre (K' := [(2, _), (4, _), (21, _), (22, _), (240, _)]) (L' := [(0, _), (101, _), (202, _), (206, _)]) ?_ ⟨rfl, ⟨rfl, ⟨rfl, ⟨rfl, ⟨rfl, trivial⟩⟩⟩⟩⟩ ⟨rfl, ⟨rfl, ⟨rfl, ⟨rfl, trivial⟩⟩⟩⟩
          refine W_regL (WL_pure rfl rfl (by decide) (Pu_loadBN (r := 206) rfl Try.isAgg29 Try.sizeOf29 rfl rfl rfl (load_all rfl)) (WL_cons0 rfl rfl (OpT_storeAll (r := 101) rfl Try.sizeOf29 rfl rfl rfl rfl rfl (bs_one _) ?_)))
          refine (WL_nil (X_then ?_))
          refine W_ret ?_
          exact X_ret [] (Ps := []) (resC1 (r := 101) Try.results14 rfl Try.isAgg29 Try.sizeOf29 rfl rfl) rfl (by decide) ⟨by rw [hsha]; rfl, rfl⟩
end Go.Proofs.Ytinamipkpdlphaa
/- Signatures: rules for their walk. -/
namespace Go.Proofs.Ytinamipkpdlphaa
open Go.RowKit
set_option linter.unusedVariables false
set_option linter.unusedSimpArgs false
theorem numB_two (n : Int) : numB n 2 = [byte (n.fdiv (2 ^ 8)), byte n] := by
  unfold numB
  show [byte (n.fdiv (2 ^ 8)), byte (n.fdiv (2 ^ 0))] = _
  rw [show ((2 : Int) ^ 0) = 1 from rfl, Int.fdiv_one]
theorem blk_all {g t m : Nat} {l : List UInt8} {h : Hlt} (hb : blk g t (bs l) h) (hm : l.length = m) : rdP 1 (.slice (some ⟨g, 0, none⟩) m m) m (bs l) h :=
  blk_rd (size := 1) hb (by rw [List.drop_zero, List.take_of_length_le (by rw [bs_length]; omega)]) (by rw [bs_length]; omega) (Nat.le_refl _)
section
variable {P : Program} {E : Env} {n : Nat} {K : Slots} {L : Res} {Q : Exit → Act → World → Prop} {ops : Array Oper} {C : Exit → Act → World → Prop}
theorem AH_turn {P' : HP} {S : Res} {fuel : Nat} {listed : Array Bool} (r : Nat) {Pr : HP} (hr : look L r = some Pr) (hp : ∀ h, Pr h → P' h) (k : AH P E n ops S fuel listed K ((r, P') :: L) Q) : AH P E n ops S fuel listed K L Q := fun a w hA hS hh => k a w hA (hS.cons hr hp) hh
theorem WL_turn {P' : HP} {l : List Oper} (r : Nat) {Pr : HP} (hr : look L r = some Pr) (hp : ∀ h, Pr h → P' h) (k : WL P E n ops l K ((r, P') :: L) Q) : WL P E n ops l K L Q := fun a w hA hS => k a w hA (hS.cons hr hp)
end
theorem rowB_mk {e m : Nat} {v : Value} {xs : List Value} {l : List UInt8} {h : Hlt} (hp : rowP e 1 v m xs h) (hm : m = l.length) (hx : xs = bs l) : rowB e v l h := by subst hm; subst hx; exact hp
theorem hdL_length {nm : List UInt8} {q : Int} (hn : nm.length = 16) : (hdL nm q).length = 20 := by unfold hdL; rw [List.length_append, hn, numB_length]
theorem rows_step (A : List UInt8) (Y : Nat → List UInt8) (n : Nat) : bs (A ++ rowsC Y n) ++ bs (Y n) = bs (A ++ rowsC Y (n + 1)) := by rw [rowsC, bs_append, bs_append, bs_append, List.append_assoc]
theorem rows_len {A : List UInt8} {Y : Nat → List UInt8} {n m : Nat} (h : (Y n).length = m) : (A ++ rowsC Y n).length + m = (A ++ rowsC Y (n + 1)).length := by rw [rowsC, List.length_append, List.length_append, List.length_append, h]; omega
theorem at0_off (l : List UInt8) (a j : Nat) : at0 (l.drop a) j = at0 l (a + j) := by simp [at0, List.getElem?_drop]
/-- Small numbers in a row. -/
def nsC (l : List Nat) : List Value := l.map fun a : Nat => Value.int .i64 (a : Int)
def nsV (l : List Nat) : Value := .agg (nsC l).toArray
theorem nsC_length (l : List Nat) : (nsC l).length = l.length := by simp [nsC]
theorem nsC_get {l : List Nat} {k : Nat} (h : k < l.length) : (nsC l)[k]? = some (.int .i64 ((l.getD k 0 : Nat) : Int)) := by
  simp [nsC, List.getElem?_eq_getElem h]
theorem nsC_one (l : List Nat) : ∀ x ∈ nsC l, x.oneCell' = true := by
  intro x hx
  obtain ⟨a, _, rfl⟩ := List.mem_map.1 hx
  rfl
/-- The first k of them are known. -/
def digZ (b : List UInt8) (k : Nat) : List Nat := (List.range k).map (dig b) ++ List.replicate (133 - k) 0
def digL (b : List UInt8) : List Nat := (List.range 133).map (dig b)
theorem digZ_length (b : List UInt8) {k : Nat} (h : k ≤ 133) : (digZ b k).length = 133 := by simp [digZ]; omega
theorem digZ_full (b : List UInt8) : digZ b 133 = digL b := by simp [digZ, digL]
theorem digL_length (b : List UInt8) : (digL b).length = 133 := by simp [digL]
theorem digL_get (b : List UInt8) {k : Nat} (h : k < 133) : (digL b).getD k 0 = dig b k := by simp [digL, List.getElem?_range h]
theorem digA_get (nm : List UInt8) (q : Int) (c msg : List UInt8) {k : Nat} (h : k < 133) : (nsC (digL (digB2 nm q c msg)))[0 + (k : Int).toNat]? = some (.int .i64 ((digA nm q c msg k : Nat) : Int)) := by
  rw [Nat.zero_add, Int.toNat_natCast, nsC_get (by rw [digL_length]; exact h), digL_get _ h]
  rfl
theorem digZ_set (b : List UInt8) {k : Nat} (h : k < 133) : (nsC (digZ b k)).set k (.int .i64 ((dig b k : Nat) : Int)) = nsC (digZ b (k + 1)) := by
  unfold nsC
  have e : List.replicate (133 - k) 0 = 0 :: List.replicate (133 - (k + 1)) 0 := by rw [show 133 - k = (133 - (k + 1)) + 1 by omega]; rfl
  unfold digZ
  rw [e, List.range_succ, List.map_append, List.map_append, List.map_append, List.map_append, List.append_assoc]
  have hl : ((List.map (fun a : Nat => Value.int .i64 (a : Int)) (List.map (dig b) (List.range k)))).length = k := by simp
  rw [List.set_append_right _ _ (by omega), hl, Nat.sub_self]
  rfl
theorem digZ_get0 (b : List UInt8) : nsC (digZ b 0) = List.replicate 133 (.int .i64 0) := by
  unfold nsC digZ
  rw [show List.range 0 = [] from rfl, List.map_nil, List.nil_append, List.map_replicate]
  rfl
section
variable {P : Program} {E : Env} {n : Nat} {K : Slots} {L : Res} {o : Oper}
set_option maxRecDepth 100000 in
theorem u8_and3 : ∀ x : Fin 256, bits .and .u8 ((x.val : Nat) : Int) 3 = ((x.val % 4 : Nat) : Int) := by decide
theorem run_and3 (a : Nat) (ha : a < 256) (t : TypeId) (y z : Operand) (w : World) : ((do eqGuard .and t y z (.int .u8 (a : Int)) (.int .u8 3); binOp .and t (.int .u8 (a : Int)) (.int .u8 3) : Sem Value)).run P w = .ok (.int .u8 ((a % 4 : Nat) : Int)) w :=
  run_and _ _ (u8_and3 ⟨a, ha⟩) t y z w
theorem run_andI3 (a : Nat) (h1 : a < 4611686018427387904) (t : TypeId) (x y : Operand) (w : World) : ((do eqGuard .and t x y (.int .i64 (a : Int)) (.int .i64 3); binOp .and t (.int .i64 (a : Int)) (.int .i64 3) : Sem Value)).run P w = .ok (.int .i64 ((a % 4 : Nat) : Int)) w := by
  have p62 : (2 : Int) ^ 62 = 4611686018427387904 := by decide
  have q1 : ∀ n : Int, 0 ≤ n → n < 2 ^ 62 → IntKind.i64.wrap n = n := fun n h0 h1 => IntWalk.i64_in _ (by rw [p62] at h1; omega)
  refine run_and _ _ ((bits_mask .i64 62 (by decide) q1 2 (by decide) (a : Int) (by omega) (by rw [p62]; omega)).trans ?_) t x y w
  omega
theorem run_shrB (x : UInt8) (m : Nat) (hm : m ≤ 8) (t : TypeId) (y z : Operand) {kd : IntKind} (w : World) : ((do eqGuard .shr t y z (bv x) (.int kd (m : Int)); binOp .shr t (bv x) (.int kd (m : Int)) : Sem Value)).run P w = .ok (.int .u8 ((x.toNat / 2 ^ m : Nat) : Int)) w := by
  refine run_shrR (P := P) (k := .u8) _ m hm ?_ t y z w
  rw [Int.fdiv_eq_ediv_of_nonneg _ (by exact_mod_cast Nat.zero_le _)]
  simp
theorem conv_nat8 (a : Nat) (ha : a < 256) {s d : TypeId} (hs : ∀ w, (underlying s).run P w = .ok (.int .u8) w) (hd : ∀ w, (underlying d).run P w = .ok (.int .i64) w) (w : World) : (convert s d (.int .u8 (a : Int))).run P w = .ok (.int .i64 (a : Int)) w := by
  have := conv_u8 (P := P) (UInt8.ofNat a) hs hd (by simp) w
  have h2 : (UInt8.ofNat a).toNat = a := by rw [UInt8.toNat_ofNat']; omega
  unfold bv at this
  rw [h2] at this
  exact this
theorem shr_lt {x : UInt8} {m : Nat} : x.toNat / 2 ^ m < 256 := Nat.lt_of_le_of_lt (Nat.div_le_self _ _) x.toNat_lt
end
end Go.Proofs.Ytinamipkpdlphaa
/- The document's signatures for once. -/
namespace Go.Proofs.Ytinamipkpdlphaa
open Go.RowKit
set_option linter.unusedVariables false
set_option linter.unusedSimpArgs false
set_option maxRecDepth 8000

theorem four5_spec (e : TypeId) (he : e = 5) (v : Value) (l : List UInt8) (n : Int) (hl : l.length ≤ 100000000) (F : HP) : CallsS Try.prog 58 #[v, .int .i64 n] F [rowB e v l] (fun r Ps => Ps = [rowB e r (l ++ numB n 4)]) := by
  subst he
  unfold rowB
  refine callsS_enter Try.func58 rfl Try.ntmps58 (by simp) (fun E => ?_)
  refine W_seq ?_
  refine W.pre (K' := [(0, _), (1, _)]) (L' := [(0, _), (1, _)]) ?_ ⟨rfl, ⟨rfl, trivial⟩⟩ ⟨rfl, ⟨rfl, trivial⟩⟩
  refine W_regL (WL_pure rfl rfl (by decide) (Pu_assign rfl rfl) (WL_nil (X_then ?_)))
  refine W_seq ?_
  refine W.pre (K' := [(0, _), (1, _), (4, _)]) (L' := [(0, _), (1, _)]) ?_ ⟨rfl, ⟨rfl, ⟨rfl, trivial⟩⟩⟩ ⟨rfl, ⟨rfl, trivial⟩⟩
  refine W_regL (WL_pure rfl rfl (by decide) (Pu_move rfl rfl) (WL_pure rfl rfl (by decide) (Pu_move rfl rfl) (WL_pure rfl rfl (by decide) (Pu_bin rfl rfl rfl (run_shr _ 24 _ _ _ (by omega))) (WL_pure rfl rfl (by decide) (Pu_conv rfl rfl (conv_byte _ _ Try.runUnderlying3 Try.runUnderlying5)) (WL_pure rfl rfl (by decide) (Pu_move rfl rfl) (WL_pure rfl rfl (by decide) (Pu_bin rfl rfl rfl (run_shr _ 16 _ _ _ (by omega))) (WL_pure rfl rfl (by decide) (Pu_conv rfl rfl (conv_byte _ _ Try.runUnderlying3 Try.runUnderlying5)) (WL_pure rfl rfl (by decide) (Pu_move rfl rfl) (WL_pure rfl rfl (by decide) (Pu_bin rfl rfl rfl (run_shr _ 8 _ _ _ (by omega))) (WL_pure rfl rfl (by decide) (Pu_conv rfl rfl (conv_byte _ _ Try.runUnderlying3 Try.runUnderlying5)) (WL_pure rfl rfl (by decide) (Pu_move rfl rfl) (WL_pure rfl rfl (by decide) (Pu_conv rfl rfl (conv_byte _ _ Try.runUnderlying3 Try.runUnderlying5)) (WL_cons rfl rfl (by decide) (OpT_buildOnes (r := 101) (bs (numB n 4)) rfl rfl Try.runUnderlying30 Try.sizeOf5 Try.zeroValue5 rfl rfl (by decide) (by rw [numB_four]; rfl) (bs_cells _) (fun v17 => (WL_cons rfl rfl (by decide) (OpT_append (r := 1) (r2 := 101) rfl Try.underlying30 TI.hi5 TI.hz5 TI.hs5 TI.hby5 TI.hzs5 (by decide) rfl rfl rfl rfl (fun _ h => rowP_rd h) (bs_one _) (by unfold maxLen; omega) (by omega) (fun v18 => ?_))))))))))))))))))
  refine (WL_pure rfl rfl (by decide) (Pu_assign rfl rfl) (WL_nil (X_then ?_)))
  refine W_ret ?_
  exact X_ret [1] (Ps := [_]) (res1 Try.results58 rfl) rfl (by decide) (congrArg (· :: []) (rowB_of _ (by simp [numB_length]) (by rw [bs_append])))
theorem two5_spec (e : TypeId) (he : e = 5) (v : Value) (l : List UInt8) (n : Int) (hl : l.length ≤ 100000000) (F : HP) : CallsS Try.prog 55 #[v, .int .i64 n] F [rowB e v l] (fun r Ps => Ps = [rowB e r (l ++ numB n 2)]) := by
  subst he
  unfold rowB
  refine callsS_enter Try.func55 rfl Try.ntmps55 (by simp) (fun E => ?_)
  refine W_seq ?_
  refine W.pre (K' := [(0, _), (1, _)]) (L' := [(0, _), (1, _)]) ?_ ⟨rfl, ⟨rfl, trivial⟩⟩ ⟨rfl, ⟨rfl, trivial⟩⟩
  refine W_regL (WL_pure rfl rfl (by decide) (Pu_assign rfl rfl) (WL_nil (X_then ?_)))
  refine W_seq ?_
  refine W.pre (K' := [(0, _), (1, _), (4, _)]) (L' := [(0, _), (1, _)]) ?_ ⟨rfl, ⟨rfl, ⟨rfl, trivial⟩⟩⟩ ⟨rfl, ⟨rfl, trivial⟩⟩
  refine W_regL (WL_pure rfl rfl (by decide) (Pu_move rfl rfl) (WL_pure rfl rfl (by decide) (Pu_move rfl rfl) (WL_pure rfl rfl (by decide) (Pu_bin rfl rfl rfl (run_shr _ 8 _ _ _ (by omega))) (WL_pure rfl rfl (by decide) (Pu_conv rfl rfl (conv_byte _ _ Try.runUnderlying3 Try.runUnderlying5)) (WL_pure rfl rfl (by decide) (Pu_move rfl rfl) (WL_pure rfl rfl (by decide) (Pu_conv rfl rfl (conv_byte _ _ Try.runUnderlying3 Try.runUnderlying5)) (WL_cons rfl rfl (by decide) (OpT_buildOnes (r := 101) (bs (numB n 2)) rfl rfl Try.runUnderlying30 Try.sizeOf5 Try.zeroValue5 rfl rfl (by decide) (by rw [numB_two]; rfl) (bs_cells _) (fun v11 => (WL_cons rfl rfl (by decide) (OpT_append (r := 1) (r2 := 101) rfl Try.underlying30 TI.hi5 TI.hz5 TI.hs5 TI.hby5 TI.hzs5 (by decide) rfl rfl rfl rfl (fun _ h => rowP_rd h) (bs_one _) (by unfold maxLen; omega) (by omega) (fun v12 => ?_))))))))))))
  refine (WL_pure rfl rfl (by decide) (Pu_assign rfl rfl) (WL_nil (X_then ?_)))
  refine W_ret ?_
  exact X_ret [1] (Ps := [_]) (res1 Try.results55 rfl) rfl (by decide) (congrArg (· :: []) (rowB_of _ (by simp [numB_length]) (by rw [bs_append])))
theorem head5_spec (nm : List UInt8) (hn : nm.length = 16) (q : Int) (F : HP) : CallsS Try.prog 56 #[idV nm, .int .i64 q] F [] (fun r Ps => Ps = [rowB 5 r (hdL nm q)]) := by
  refine callsS_enter Try.func56 rfl Try.ntmps56 (by simp) (fun E => ?_)
  refine W_seq ?_
  refine W.pre (K' := [(0, _), (1, _)]) (L' := [(0, _)]) ?_ ⟨rfl, ⟨rfl, trivial⟩⟩ ⟨rfl, trivial⟩
  refine W_regL (WL_cons rfl rfl (by decide) (OpT_box (r := 101) rfl rfl rfl (fun g101 => (WL_pure rfl rfl (by decide) (Pu_assign rfl rfl) (WL_nil (X_then ?_))))))
  refine W_seq ?_
  refine W.pre (K' := [(0, _), (1, _), (2, _), (4, _)]) (L' := [(0, _), (101, _)]) ?_ ⟨rfl, ⟨rfl, ⟨rfl, ⟨rfl, trivial⟩⟩⟩⟩ ⟨rfl, ⟨rfl, trivial⟩⟩
  refine W_regL (WL_cons rfl rfl (by decide) (OpT_buildOnes (r := 102) (bs []) rfl rfl Try.runUnderlying30 Try.sizeOf5 Try.zeroValue5 rfl rfl (by decide) rfl (bs_cells _) (fun v5 => (WL_pure rfl rfl (by decide) (Pu_sliceArr rfl Try.runUnderlying52 Try.sizeOf5 rfl) (WL_cons rfl rfl (by decide) (OpT_append (r := 102) (r2 := 101) rfl Try.underlying30 TI.hi5 TI.hz5 TI.hs5 TI.hby5 TI.hzs5 (by decide) rfl rfl rfl rfl (fun _ h => blk_all h hn) (bs_one _) (by unfold maxLen; omega) (by omega) (fun v7 => ?_)))))))
  refine WL_turn (P' := rowB 5 v7 (nm)) 102 rfl (fun h hp => rowB_mk hp (by simp [hn]) (by simp [bs])) ?_
  refine (WL_pure rfl rfl (by decide) (Pu_move rfl rfl) (WL_cons rfl rfl (by decide) (OpT_call 200 [0, 101] [102] rfl Try.call58 rfl rfl rfl (by decide) (by decide) (four5_spec _ rfl _ nm q (by omega) _) (fun v9 Ps9 hR9 => ?_))))
  subst hR9
  refine (WL_pure rfl rfl (by decide) (Pu_assign rfl rfl) (WL_nil (X_then ?_)))
  refine W_ret ?_
  exact X_ret [200] (Ps := [_]) (res1 Try.results56 rfl) rfl (by decide) rfl
end Go.Proofs.Ytinamipkpdlphaa
/- The document's signatures for once: chains. -/
namespace Go.Proofs.Ytinamipkpdlphaa
open Go.RowKit
set_option linter.unusedVariables false
set_option linter.unusedSimpArgs false
set_option maxRecDepth 8000

theorem secret5_spec (nm : List UInt8) (hn : nm.length = 16) (q i : Int) (seed : List UInt8) (hs : seed.length = 32) (F : HP) : CallsS Try.prog 60 #[idV nm, .int .i64 q, .int .i64 i, idV seed] F [] (fun r Ps => r = idV (hashC nm q i 255 seed) ∧ Ps = []) := by
  refine callsS_enter Try.func60 rfl Try.ntmps60 (by simp) (fun E => ?_)
  refine W_seq ?_
  refine W.pre (K' := [(0, _), (1, _), (2, _), (3, _)]) (L' := [(0, _)]) ?_ ⟨rfl, ⟨rfl, ⟨rfl, ⟨rfl, trivial⟩⟩⟩⟩ ⟨rfl, trivial⟩
  refine W_regL (WL_cons rfl rfl (by decide) (OpT_box (r := 101) rfl rfl rfl (fun g101 => (WL_cons rfl rfl (by decide) (OpT_box (r := 102) rfl rfl rfl (fun g102 => (WL_cons rfl rfl (by decide) (OpT_alloc (r := 103) (cs := (bs zeroId)) rfl (zero_run (by kernel_rfl : (Try.prog.info? 29).bind (·.zero) = some (.agg (bs zeroId).toArray))) rfl (fun g103 => (WL_nil (X_then ?_)))))))))))
  refine W_seq ?_
  refine W.pre (K' := [(0, _), (1, _), (2, _), (3, _), (4, _), (7, _), (8, _)]) (L' := [(0, _), (101, _), (102, _), (103, _)]) ?_ ⟨rfl, ⟨rfl, ⟨rfl, ⟨rfl, ⟨rfl, ⟨rfl, ⟨rfl, trivial⟩⟩⟩⟩⟩⟩⟩ ⟨rfl, ⟨rfl, ⟨rfl, ⟨rfl, trivial⟩⟩⟩⟩
  refine W_draw (N := 11) (by kernel_rfl) rfl [(0, _), (101, _), (102, _)] ⟨rfl, ⟨rfl, ⟨rfl, trivial⟩⟩⟩ ?_
  refine (AH_take 0 rfl (by kernel_rfl) (by kernel_rfl) (by kernel_rfl) rfl rfl (by decide) (Pu_loadBN (r := 101) rfl Try.isAgg52 Try.sizeOf52 rfl rfl ((bs_length _).trans hn) (load_all ((bs_length _).trans hn))) (AH_take 1 rfl (by kernel_rfl) (by kernel_rfl) (by kernel_rfl) rfl rfl (by decide) (Pu_move rfl rfl) (AH_take 3 rfl (by kernel_rfl) (by kernel_rfl) (by kernel_rfl) rfl rfl (by decide) (Pu_move rfl rfl) (AH_take 7 rfl (by kernel_rfl) (by kernel_rfl) (by kernel_rfl) rfl rfl (by decide) (Pu_sliceArr rfl Try.runUnderlying29 Try.sizeOf5 rfl) (AH_ready [2, 5] (by kernel_rfl) (by decide) ?_)))))
  refine AHs_cons rfl rfl rfl (by decide) (OpT_call 200 [0, 101, 102, 103] [] rfl Try.call56 rfl rfl rfl (by decide) (by decide) (head5_spec nm hn q _) (fun v11 Ps11 hR11 => ?_)) ?_
  ·
    subst hR11
    refine ⟨⟨rfl, ⟨rfl, ⟨rfl, trivial⟩⟩⟩, ?_⟩
    refine (AH_ready [4, 5] (by kernel_rfl) (by decide) ?_)
    refine AHs_cons rfl rfl rfl (by decide) (OpT_call 300 [0, 101, 102, 103] [200] rfl Try.call55 rfl rfl rfl (by decide) (by decide) (two5_spec _ rfl _ (hdL nm q) i (by rw [hdL_length hn]; omega) _) (fun v13 Ps13 hR13 => ?_)) ?_
    ·
      subst hR13
      refine ⟨⟨rfl, ⟨rfl, ⟨rfl, trivial⟩⟩⟩, ?_⟩
      refine (AH_ready [5] (by kernel_rfl) (by decide) ?_)
      refine AHs_cons rfl rfl rfl (by decide) (OpT_buildOnes (r := 301) (bs [255]) rfl rfl Try.runUnderlying30 Try.sizeOf5 Try.zeroValue5 rfl rfl (by decide) rfl (bs_cells _) (fun v14 => ⟨⟨rfl, ⟨rfl, ⟨rfl, trivial⟩⟩⟩, ?_⟩)) ?_
      ·
        refine (AH_ready [6] (by kernel_rfl) (by decide) ?_)
        refine AHs_cons rfl rfl rfl (by decide) (OpT_append (r := 300) (r2 := 301) rfl Try.underlying30 TI.hi5 TI.hz5 TI.hs5 TI.hby5 TI.hzs5 (by decide) rfl rfl rfl rfl (fun _ h => rowP_rd h) (bs_one _) (by unfold maxLen; simp [hdL_length hn, numB_length, *] <;> omega) (by simp [hdL_length hn, numB_length, *] <;> omega) (fun v15 => ?_)) ?_
        ·
          refine ⟨⟨rfl, ⟨rfl, ⟨rfl, trivial⟩⟩⟩, ?_⟩
          refine AH_turn (P' := rowB 5 v15 (hdL nm q ++ numB i 2 ++ [255])) 300 rfl (fun h hp => rowB_mk hp (by simp [hdL_length hn, numB_length, *] <;> omega) (by simp only [bs_append])) ?_
          refine (AH_ready [8] (by kernel_rfl) (by decide) ?_)
          refine AHs_cons rfl rfl rfl (by decide) (OpT_append (r := 300) (r2 := 102) rfl Try.underlying30 TI.hi5 TI.hz5 TI.hs5 TI.hby5 TI.hzs5 (by decide) rfl rfl rfl rfl (fun _ h => blk_all h hs) (bs_one _) (by unfold maxLen; simp [hdL_length hn, numB_length, *] <;> omega) (by simp [hdL_length hn, numB_length, *] <;> omega) (fun v17 => ?_)) ?_
          ·
            refine ⟨⟨rfl, ⟨rfl, ⟨rfl, trivial⟩⟩⟩, ?_⟩
            refine AH_turn (P' := rowB 5 v17 (hdL nm q ++ numB i 2 ++ [255] ++ seed)) 300 rfl (fun h hp => rowB_mk hp (by simp [hdL_length hn, numB_length, *] <;> omega) (by simp only [bs_append])) ?_
            refine (AH_ready [9] (by kernel_rfl) (by decide) ?_)
            refine AHs_cons rfl rfl rfl (by decide) (OpT_call 400 [0, 101, 102, 103, 300, 301] [] rfl Try.call14 rfl rfl rfl (by decide) (by decide) (refSum_spec v17 (hdL nm q ++ numB i 2 ++ [255] ++ seed) (by simp [hdL_length hn, numB_length, *]) _ (rd_star 4 rfl rowB_rd)) (fun v18 Ps18 hR18 => ?_)) ?_
            ·
              obtain ⟨rfl, rfl⟩ := hR18
              refine ⟨⟨rfl, ⟨rfl, ⟨rfl, trivial⟩⟩⟩, ?_⟩
              refine (AH_ready [10] (by kernel_rfl) (by decide) ?_)
              refine AHs_cons0 rfl rfl rfl (OpT_storeAll (r := 103) rfl Try.sizeOf29 rfl rfl rfl rfl ((bs_length _).trans (sha_length _)) (bs_one _) ?_) ?_
              ·
                refine ⟨⟨rfl, ⟨rfl, ⟨rfl, trivial⟩⟩⟩, ?_⟩
                refine (AH_done (by kernel_rfl) (X_then ?_))
                refine W_ret ?_
                exact X_ret [] (Ps := []) (resC1 (r := 103) Try.results60 rfl Try.isAgg29 Try.sizeOf29 rfl ((bs_length _).trans (sha_length _))) rfl (by decide) ⟨rfl, rfl⟩
              exact AHs_nil
            exact AHs_nil
          exact AHs_nil
        exact AHs_nil
      exact AHs_nil
    refine AHs_cons rfl rfl rfl (by decide) (OpT_buildOnes (r := 201) (bs [255]) rfl rfl Try.runUnderlying30 Try.sizeOf5 Try.zeroValue5 rfl rfl (by decide) rfl (bs_cells _) (fun v14 => ⟨⟨rfl, ⟨rfl, ⟨rfl, trivial⟩⟩⟩, ?_⟩)) ?_
    ·
      refine (AH_ready [4] (by kernel_rfl) (by decide) ?_)
      refine AHs_cons rfl rfl rfl (by decide) (OpT_call 300 [0, 101, 102, 103, 201] [200] rfl Try.call55 rfl rfl rfl (by decide) (by decide) (two5_spec _ rfl _ (hdL nm q) i (by rw [hdL_length hn]; omega) _) (fun v13 Ps13 hR13 => ?_)) ?_
      ·
        subst hR13
        refine ⟨⟨rfl, ⟨rfl, ⟨rfl, trivial⟩⟩⟩, ?_⟩
        refine (AH_ready [6] (by kernel_rfl) (by decide) ?_)
        refine AHs_cons rfl rfl rfl (by decide) (OpT_append (r := 300) (r2 := 201) rfl Try.underlying30 TI.hi5 TI.hz5 TI.hs5 TI.hby5 TI.hzs5 (by decide) rfl rfl rfl rfl (fun _ h => rowP_rd h) (bs_one _) (by unfold maxLen; simp [hdL_length hn, numB_length, *] <;> omega) (by simp [hdL_length hn, numB_length, *] <;> omega) (fun v15 => ?_)) ?_
        ·
          refine ⟨⟨rfl, ⟨rfl, ⟨rfl, trivial⟩⟩⟩, ?_⟩
          refine AH_turn (P' := rowB 5 v15 (hdL nm q ++ numB i 2 ++ [255])) 300 rfl (fun h hp => rowB_mk hp (by simp [hdL_length hn, numB_length, *] <;> omega) (by simp only [bs_append])) ?_
          refine (AH_ready [8] (by kernel_rfl) (by decide) ?_)
          refine AHs_cons rfl rfl rfl (by decide) (OpT_append (r := 300) (r2 := 102) rfl Try.underlying30 TI.hi5 TI.hz5 TI.hs5 TI.hby5 TI.hzs5 (by decide) rfl rfl rfl rfl (fun _ h => blk_all h hs) (bs_one _) (by unfold maxLen; simp [hdL_length hn, numB_length, *] <;> omega) (by simp [hdL_length hn, numB_length, *] <;> omega) (fun v17 => ?_)) ?_
          ·
            refine ⟨⟨rfl, ⟨rfl, ⟨rfl, trivial⟩⟩⟩, ?_⟩
            refine AH_turn (P' := rowB 5 v17 (hdL nm q ++ numB i 2 ++ [255] ++ seed)) 300 rfl (fun h hp => rowB_mk hp (by simp [hdL_length hn, numB_length, *] <;> omega) (by simp only [bs_append])) ?_
            refine (AH_ready [9] (by kernel_rfl) (by decide) ?_)
            refine AHs_cons rfl rfl rfl (by decide) (OpT_call 400 [0, 101, 102, 103, 201, 300] [] rfl Try.call14 rfl rfl rfl (by decide) (by decide) (refSum_spec v17 (hdL nm q ++ numB i 2 ++ [255] ++ seed) (by simp [hdL_length hn, numB_length, *]) _ (rd_star 5 rfl rowB_rd)) (fun v18 Ps18 hR18 => ?_)) ?_
            ·
              obtain ⟨rfl, rfl⟩ := hR18
              refine ⟨⟨rfl, ⟨rfl, ⟨rfl, trivial⟩⟩⟩, ?_⟩
              refine (AH_ready [10] (by kernel_rfl) (by decide) ?_)
              refine AHs_cons0 rfl rfl rfl (OpT_storeAll (r := 103) rfl Try.sizeOf29 rfl rfl rfl rfl ((bs_length _).trans (sha_length _)) (bs_one _) ?_) ?_
              ·
                refine ⟨⟨rfl, ⟨rfl, ⟨rfl, trivial⟩⟩⟩, ?_⟩
                refine (AH_done (by kernel_rfl) (X_then ?_))
                refine W_ret ?_
                exact X_ret [] (Ps := []) (resC1 (r := 103) Try.results60 rfl Try.isAgg29 Try.sizeOf29 rfl ((bs_length _).trans (sha_length _))) rfl (by decide) ⟨rfl, rfl⟩
              exact AHs_nil
            exact AHs_nil
          exact AHs_nil
        exact AHs_nil
      exact AHs_nil
    exact AHs_nil
  refine AHs_cons rfl rfl rfl (by decide) (OpT_buildOnes (r := 104) (bs [255]) rfl rfl Try.runUnderlying30 Try.sizeOf5 Try.zeroValue5 rfl rfl (by decide) rfl (bs_cells _) (fun v14 => ⟨⟨rfl, ⟨rfl, ⟨rfl, trivial⟩⟩⟩, ?_⟩)) ?_
  ·
    refine (AH_ready [2] (by kernel_rfl) (by decide) ?_)
    refine AHs_cons rfl rfl rfl (by decide) (OpT_call 200 [0, 101, 102, 103, 104] [] rfl Try.call56 rfl rfl rfl (by decide) (by decide) (head5_spec nm hn q _) (fun v11 Ps11 hR11 => ?_)) ?_
    ·
      subst hR11
      refine ⟨⟨rfl, ⟨rfl, ⟨rfl, trivial⟩⟩⟩, ?_⟩
      refine (AH_ready [4] (by kernel_rfl) (by decide) ?_)
      refine AHs_cons rfl rfl rfl (by decide) (OpT_call 300 [0, 101, 102, 103, 104] [200] rfl Try.call55 rfl rfl rfl (by decide) (by decide) (two5_spec _ rfl _ (hdL nm q) i (by rw [hdL_length hn]; omega) _) (fun v13 Ps13 hR13 => ?_)) ?_
      ·
        subst hR13
        refine ⟨⟨rfl, ⟨rfl, ⟨rfl, trivial⟩⟩⟩, ?_⟩
        refine (AH_ready [6] (by kernel_rfl) (by decide) ?_)
        refine AHs_cons rfl rfl rfl (by decide) (OpT_append (r := 300) (r2 := 104) rfl Try.underlying30 TI.hi5 TI.hz5 TI.hs5 TI.hby5 TI.hzs5 (by decide) rfl rfl rfl rfl (fun _ h => rowP_rd h) (bs_one _) (by unfold maxLen; simp [hdL_length hn, numB_length, *] <;> omega) (by simp [hdL_length hn, numB_length, *] <;> omega) (fun v15 => ?_)) ?_
        ·
          refine ⟨⟨rfl, ⟨rfl, ⟨rfl, trivial⟩⟩⟩, ?_⟩
          refine AH_turn (P' := rowB 5 v15 (hdL nm q ++ numB i 2 ++ [255])) 300 rfl (fun h hp => rowB_mk hp (by simp [hdL_length hn, numB_length, *] <;> omega) (by simp only [bs_append])) ?_
          refine (AH_ready [8] (by kernel_rfl) (by decide) ?_)
          refine AHs_cons rfl rfl rfl (by decide) (OpT_append (r := 300) (r2 := 102) rfl Try.underlying30 TI.hi5 TI.hz5 TI.hs5 TI.hby5 TI.hzs5 (by decide) rfl rfl rfl rfl (fun _ h => blk_all h hs) (bs_one _) (by unfold maxLen; simp [hdL_length hn, numB_length, *] <;> omega) (by simp [hdL_length hn, numB_length, *] <;> omega) (fun v17 => ?_)) ?_
          ·
            refine ⟨⟨rfl, ⟨rfl, ⟨rfl, trivial⟩⟩⟩, ?_⟩
            refine AH_turn (P' := rowB 5 v17 (hdL nm q ++ numB i 2 ++ [255] ++ seed)) 300 rfl (fun h hp => rowB_mk hp (by simp [hdL_length hn, numB_length, *] <;> omega) (by simp only [bs_append])) ?_
            refine (AH_ready [9] (by kernel_rfl) (by decide) ?_)
            refine AHs_cons rfl rfl rfl (by decide) (OpT_call 400 [0, 101, 102, 103, 104, 300] [] rfl Try.call14 rfl rfl rfl (by decide) (by decide) (refSum_spec v17 (hdL nm q ++ numB i 2 ++ [255] ++ seed) (by simp [hdL_length hn, numB_length, *]) _ (rd_star 5 rfl rowB_rd)) (fun v18 Ps18 hR18 => ?_)) ?_
            ·
              obtain ⟨rfl, rfl⟩ := hR18
              refine ⟨⟨rfl, ⟨rfl, ⟨rfl, trivial⟩⟩⟩, ?_⟩
              refine (AH_ready [10] (by kernel_rfl) (by decide) ?_)
              refine AHs_cons0 rfl rfl rfl (OpT_storeAll (r := 103) rfl Try.sizeOf29 rfl rfl rfl rfl ((bs_length _).trans (sha_length _)) (bs_one _) ?_) ?_
              ·
                refine ⟨⟨rfl, ⟨rfl, ⟨rfl, trivial⟩⟩⟩, ?_⟩
                refine (AH_done (by kernel_rfl) (X_then ?_))
                refine W_ret ?_
                exact X_ret [] (Ps := []) (resC1 (r := 103) Try.results60 rfl Try.isAgg29 Try.sizeOf29 rfl ((bs_length _).trans (sha_length _))) rfl (by decide) ⟨rfl, rfl⟩
              exact AHs_nil
            exact AHs_nil
          exact AHs_nil
        exact AHs_nil
      exact AHs_nil
    exact AHs_nil
  exact AHs_nil
theorem walk5_spec (nm : List UInt8) (hn : nm.length = 16) (q : Int) (i a b : Nat) (hab : a ≤ b) (hb : b ≤ 3) (t : List UInt8) (ht : t.length = 32) (F : HP) : CallsS Try.prog 59 #[idV nm, .int .i64 q, .int .i64 (i : Int), .int .i64 (a : Int), .int .i64 (b : Int), idV t] F [] (fun r Ps => r = idV (walkC nm q i a (b - a) t) ∧ Ps = []) := by
  refine callsS_enter Try.func59 rfl Try.ntmps59 (by simp) (fun E => ?_)
  refine W_seq ?_
  refine W.pre (K' := [(0, _), (1, _), (2, _), (3, _), (4, _), (5, _)]) (L' := [(0, _)]) ?_ ⟨rfl, ⟨rfl, ⟨rfl, ⟨rfl, ⟨rfl, ⟨rfl, trivial⟩⟩⟩⟩⟩⟩ ⟨rfl, trivial⟩
  refine W_regL (WL_cons rfl rfl (by decide) (OpT_box (r := 101) rfl rfl rfl (fun g101 => (WL_cons rfl rfl (by decide) (OpT_box (r := 102) rfl rfl rfl (fun g102 => (WL_cons rfl rfl (by decide) (OpT_alloc (r := 103) (cs := (bs zeroId)) rfl (zero_run (by kernel_rfl : (Try.prog.info? 29).bind (·.zero) = some (.agg (bs zeroId).toArray))) rfl (fun g103 => (WL_nil (X_then ?_)))))))))))
  refine W_seq ?_
  refine W_seq ?_
  refine W.pre (K' := [(0, _), (1, _), (2, _), (3, _), (4, _), (5, _), (6, _), (11, _), (12, _)]) (L' := [(0, _), (101, _), (102, _), (103, _)]) ?_ ⟨rfl, ⟨rfl, ⟨rfl, ⟨rfl, ⟨rfl, ⟨rfl, ⟨rfl, ⟨rfl, ⟨rfl, trivial⟩⟩⟩⟩⟩⟩⟩⟩⟩ ⟨rfl, ⟨rfl, ⟨rfl, ⟨rfl, trivial⟩⟩⟩⟩
  refine W_regL (WL_pure rfl rfl (by decide) (Pu_move rfl rfl) (WL_pure rfl rfl (by decide) (Pu_assign rfl rfl) (WL_nil (X_then ?_))))
  refine W_block ?_
  refine W_loop (α := Nat) (fun x => [(1, .int .i64 q), (2, .int .i64 (i : Int)), (4, .int .i64 (b : Int)), (6, .pointer (some ⟨g101, 0, none⟩)), (11, .pointer (some ⟨g102, 0, none⟩)), (12, .pointer (some ⟨g103, 0, none⟩)), (13, .int .i64 ((a + x : Nat) : Int))]) (fun x => [(0, F), (101, blk g101 52 (bs nm)), (102, blk g102 29 (bs (walkC nm q i a x t))), (103, blk g103 29 (bs zeroId))]) (fun x => a + x ≤ b) (fun x => b - (a + x)) (0) (by omega) ⟨rfl, ⟨rfl, ⟨rfl, ⟨rfl, ⟨rfl, ⟨rfl, ⟨rfl, trivial⟩⟩⟩⟩⟩⟩⟩ ⟨rfl, ⟨rfl, ⟨rfl, ⟨rfl, trivial⟩⟩⟩⟩ (fun x hx => ?_)
  have hw := walkC_length (nm := nm) (q := q) (i := i) (a := a) ht x
  refine W_seq ?_
  refine W_seq ?_
  refine W.pre (K' := [(1, _), (2, _), (4, _), (6, _), (11, _), (12, _), (13, _)]) (L' := [(0, _), (101, _), (102, _), (103, _)]) ?_ ⟨rfl, ⟨rfl, ⟨rfl, ⟨rfl, ⟨rfl, ⟨rfl, ⟨rfl, trivial⟩⟩⟩⟩⟩⟩⟩ ⟨rfl, ⟨rfl, ⟨rfl, ⟨rfl, trivial⟩⟩⟩⟩
  refine W_regL (WL_pure rfl rfl (by decide) (Pu_move rfl rfl) (WL_pure rfl rfl (by decide) (Pu_move rfl rfl) (WL_pure rfl rfl (by decide) (Pu_bin rfl rfl rfl (run_lss _ _ _ _ _ _)) (WL_nil (X_then ?_)))))
  refine W_cond rfl (fun hc17 => ?_) (fun hc17 => ?_)
  ·
    have hlt : a + x < b := by have := of_decide_eq_true hc17; omega
    refine W_skip (X_then ?_)
    refine W_seq ?_
    refine W_block ?_
    refine W.pre (K' := [(1, _), (2, _), (4, _), (6, _), (11, _), (12, _), (13, _), (17, _)]) (L' := [(0, _), (101, _), (102, _), (103, _)]) ?_ ⟨rfl, ⟨rfl, ⟨rfl, ⟨rfl, ⟨rfl, ⟨rfl, ⟨rfl, ⟨rfl, trivial⟩⟩⟩⟩⟩⟩⟩⟩ ⟨rfl, ⟨rfl, ⟨rfl, ⟨rfl, trivial⟩⟩⟩⟩
    refine W_draw (N := 13) (by kernel_rfl) rfl [(0, _), (101, _), (103, _)] ⟨rfl, ⟨rfl, ⟨rfl, trivial⟩⟩⟩ ?_
    refine (AH_take 0 rfl (by kernel_rfl) (by kernel_rfl) (by kernel_rfl) rfl rfl (by decide) (Pu_loadBN (r := 101) rfl Try.isAgg52 Try.sizeOf52 rfl rfl ((bs_length _).trans hn) (load_all ((bs_length _).trans hn))) (AH_take 1 rfl (by kernel_rfl) (by kernel_rfl) (by kernel_rfl) rfl rfl (by decide) (Pu_move rfl rfl) (AH_take 3 rfl (by kernel_rfl) (by kernel_rfl) (by kernel_rfl) rfl rfl (by decide) (Pu_move rfl rfl) (AH_take 5 rfl (by kernel_rfl) (by kernel_rfl) (by kernel_rfl) rfl rfl (by decide) (Pu_move rfl rfl) (AH_take 6 rfl (by kernel_rfl) (by kernel_rfl) (by kernel_rfl) rfl rfl (by decide) (Pu_conv rfl rfl (conv_byte _ _ Try.runUnderlying3 Try.runUnderlying5)) (AH_take 9 rfl (by kernel_rfl) (by kernel_rfl) (by kernel_rfl) rfl rfl (by decide) (Pu_sliceArr rfl Try.runUnderlying29 Try.sizeOf5 rfl) (AH_ready [2, 7] (by kernel_rfl) (by decide) ?_)))))))
    refine AHs_cons rfl rfl rfl (by decide) (OpT_call 200 [0, 101, 102, 103] [] rfl Try.call56 rfl rfl rfl (by decide) (by decide) (head5_spec nm hn q _) (fun v22 Ps22 hR22 => ?_)) ?_
    ·
      subst hR22
      refine ⟨⟨rfl, ⟨rfl, ⟨rfl, trivial⟩⟩⟩, ?_⟩
      refine (AH_ready [4, 7] (by kernel_rfl) (by decide) ?_)
      refine AHs_cons rfl rfl rfl (by decide) (OpT_call 300 [0, 101, 102, 103] [200] rfl Try.call55 rfl rfl rfl (by decide) (by decide) (two5_spec _ rfl _ (hdL nm q) i (by rw [hdL_length hn]; omega) _) (fun v24 Ps24 hR24 => ?_)) ?_
      ·
        subst hR24
        refine ⟨⟨rfl, ⟨rfl, ⟨rfl, trivial⟩⟩⟩, ?_⟩
        refine (AH_ready [7] (by kernel_rfl) (by decide) ?_)
        refine AHs_cons rfl rfl rfl (by decide) (OpT_buildOnes (r := 301) (bs [byte ((a + x : Nat) : Int)]) rfl rfl Try.runUnderlying30 Try.sizeOf5 Try.zeroValue5 rfl rfl (by decide) rfl (bs_cells _) (fun v27 => ⟨⟨rfl, ⟨rfl, ⟨rfl, trivial⟩⟩⟩, ?_⟩)) ?_
        ·
          refine (AH_ready [8] (by kernel_rfl) (by decide) ?_)
          refine AHs_cons rfl rfl rfl (by decide) (OpT_append (r := 300) (r2 := 301) rfl Try.underlying30 TI.hi5 TI.hz5 TI.hs5 TI.hby5 TI.hzs5 (by decide) rfl rfl rfl rfl (fun _ h => rowP_rd h) (bs_one _) (by unfold maxLen; simp [hdL_length hn, numB_length, *] <;> omega) (by simp [hdL_length hn, numB_length, *] <;> omega) (fun v28 => ?_)) ?_
          ·
            refine ⟨⟨rfl, ⟨rfl, ⟨rfl, trivial⟩⟩⟩, ?_⟩
            refine AH_turn (P' := rowB 5 v28 (hdL nm q ++ numB i 2 ++ [byte ((a + x : Nat) : Int)])) 300 rfl (fun h hp => rowB_mk hp (by simp [hdL_length hn, numB_length, *] <;> omega) (by simp only [bs_append])) ?_
            refine (AH_ready [10] (by kernel_rfl) (by decide) ?_)
            refine AHs_cons rfl rfl rfl (by decide) (OpT_append (r := 300) (r2 := 102) rfl Try.underlying30 TI.hi5 TI.hz5 TI.hs5 TI.hby5 TI.hzs5 (by decide) rfl rfl rfl rfl (fun _ h => blk_all h hw) (bs_one _) (by unfold maxLen; simp [hdL_length hn, numB_length, *] <;> omega) (by simp [hdL_length hn, numB_length, *] <;> omega) (fun v30 => ?_)) ?_
            ·
              refine ⟨⟨rfl, ⟨rfl, ⟨rfl, trivial⟩⟩⟩, ?_⟩
              refine AH_turn (P' := rowB 5 v30 (hdL nm q ++ numB i 2 ++ [byte ((a + x : Nat) : Int)] ++ walkC nm q i a x t)) 300 rfl (fun h hp => rowB_mk hp (by simp [hdL_length hn, numB_length, *] <;> omega) (by simp only [bs_append])) ?_
              refine (AH_ready [11] (by kernel_rfl) (by decide) ?_)
              refine AHs_cons rfl rfl rfl (by decide) (OpT_call 400 [0, 101, 102, 103, 300, 301] [] rfl Try.call14 rfl rfl rfl (by decide) (by decide) (refSum_spec v30 (hdL nm q ++ numB i 2 ++ [byte ((a + x : Nat) : Int)] ++ walkC nm q i a x t) (by simp [hdL_length hn, numB_length, *]) _ (rd_star 4 rfl rowB_rd)) (fun v31 Ps31 hR31 => ?_)) ?_
              ·
                obtain ⟨rfl, rfl⟩ := hR31
                refine ⟨⟨rfl, ⟨rfl, ⟨rfl, trivial⟩⟩⟩, ?_⟩
                refine (AH_ready [12] (by kernel_rfl) (by decide) ?_)
                refine AHs_cons0 rfl rfl rfl (OpT_storeAll (r := 102) rfl Try.sizeOf29 rfl rfl rfl ((bs_length _).trans hw) ((bs_length _).trans (sha_length _)) (bs_one _) ?_) ?_
                ·
                  refine ⟨⟨rfl, ⟨rfl, ⟨rfl, trivial⟩⟩⟩, ?_⟩
                  refine (AH_done (by kernel_rfl) (X_block (X_then ?_)))
                  refine W.pre (K' := [(1, _), (2, _), (4, _), (6, _), (11, _), (12, _), (13, _), (17, _)]) (L' := [(0, _), (101, _), (102, _), (103, _), (300, _), (301, _)]) ?_ ⟨rfl, ⟨rfl, ⟨rfl, ⟨rfl, ⟨rfl, ⟨rfl, ⟨rfl, ⟨rfl, trivial⟩⟩⟩⟩⟩⟩⟩⟩ ⟨rfl, ⟨rfl, ⟨rfl, ⟨rfl, ⟨rfl, ⟨rfl, trivial⟩⟩⟩⟩⟩⟩
                  refine W_regL (WL_pure rfl rfl (by decide) (Pu_move rfl rfl) (WL_pure rfl rfl (by decide) (Pu_bin rfl rfl rfl (run_add _ _ _ _ _ (by omega))) (WL_pure rfl rfl (by decide) (Pu_assign rfl rfl) (WL_nil ?_))))
                  exact X_round (x + 1) (by omega) (by omega) ⟨rfl, rfl, rfl, rfl, rfl, rfl, lookV_eq rfl (int_eq (by omega)), trivial⟩ ⟨rfl, rfl, rfl, rfl, trivial⟩
                exact AHs_nil
              exact AHs_nil
            exact AHs_nil
          exact AHs_nil
        exact AHs_nil
      refine AHs_cons rfl rfl rfl (by decide) (OpT_buildOnes (r := 201) (bs [byte ((a + x : Nat) : Int)]) rfl rfl Try.runUnderlying30 Try.sizeOf5 Try.zeroValue5 rfl rfl (by decide) rfl (bs_cells _) (fun v27 => ⟨⟨rfl, ⟨rfl, ⟨rfl, trivial⟩⟩⟩, ?_⟩)) ?_
      ·
        refine (AH_ready [4] (by kernel_rfl) (by decide) ?_)
        refine AHs_cons rfl rfl rfl (by decide) (OpT_call 300 [0, 101, 102, 103, 201] [200] rfl Try.call55 rfl rfl rfl (by decide) (by decide) (two5_spec _ rfl _ (hdL nm q) i (by rw [hdL_length hn]; omega) _) (fun v24 Ps24 hR24 => ?_)) ?_
        ·
          subst hR24
          refine ⟨⟨rfl, ⟨rfl, ⟨rfl, trivial⟩⟩⟩, ?_⟩
          refine (AH_ready [8] (by kernel_rfl) (by decide) ?_)
          refine AHs_cons rfl rfl rfl (by decide) (OpT_append (r := 300) (r2 := 201) rfl Try.underlying30 TI.hi5 TI.hz5 TI.hs5 TI.hby5 TI.hzs5 (by decide) rfl rfl rfl rfl (fun _ h => rowP_rd h) (bs_one _) (by unfold maxLen; simp [hdL_length hn, numB_length, *] <;> omega) (by simp [hdL_length hn, numB_length, *] <;> omega) (fun v28 => ?_)) ?_
          ·
            refine ⟨⟨rfl, ⟨rfl, ⟨rfl, trivial⟩⟩⟩, ?_⟩
            refine AH_turn (P' := rowB 5 v28 (hdL nm q ++ numB i 2 ++ [byte ((a + x : Nat) : Int)])) 300 rfl (fun h hp => rowB_mk hp (by simp [hdL_length hn, numB_length, *] <;> omega) (by simp only [bs_append])) ?_
            refine (AH_ready [10] (by kernel_rfl) (by decide) ?_)
            refine AHs_cons rfl rfl rfl (by decide) (OpT_append (r := 300) (r2 := 102) rfl Try.underlying30 TI.hi5 TI.hz5 TI.hs5 TI.hby5 TI.hzs5 (by decide) rfl rfl rfl rfl (fun _ h => blk_all h hw) (bs_one _) (by unfold maxLen; simp [hdL_length hn, numB_length, *] <;> omega) (by simp [hdL_length hn, numB_length, *] <;> omega) (fun v30 => ?_)) ?_
            ·
              refine ⟨⟨rfl, ⟨rfl, ⟨rfl, trivial⟩⟩⟩, ?_⟩
              refine AH_turn (P' := rowB 5 v30 (hdL nm q ++ numB i 2 ++ [byte ((a + x : Nat) : Int)] ++ walkC nm q i a x t)) 300 rfl (fun h hp => rowB_mk hp (by simp [hdL_length hn, numB_length, *] <;> omega) (by simp only [bs_append])) ?_
              refine (AH_ready [11] (by kernel_rfl) (by decide) ?_)
              refine AHs_cons rfl rfl rfl (by decide) (OpT_call 400 [0, 101, 102, 103, 201, 300] [] rfl Try.call14 rfl rfl rfl (by decide) (by decide) (refSum_spec v30 (hdL nm q ++ numB i 2 ++ [byte ((a + x : Nat) : Int)] ++ walkC nm q i a x t) (by simp [hdL_length hn, numB_length, *]) _ (rd_star 5 rfl rowB_rd)) (fun v31 Ps31 hR31 => ?_)) ?_
              ·
                obtain ⟨rfl, rfl⟩ := hR31
                refine ⟨⟨rfl, ⟨rfl, ⟨rfl, trivial⟩⟩⟩, ?_⟩
                refine (AH_ready [12] (by kernel_rfl) (by decide) ?_)
                refine AHs_cons0 rfl rfl rfl (OpT_storeAll (r := 102) rfl Try.sizeOf29 rfl rfl rfl ((bs_length _).trans hw) ((bs_length _).trans (sha_length _)) (bs_one _) ?_) ?_
                ·
                  refine ⟨⟨rfl, ⟨rfl, ⟨rfl, trivial⟩⟩⟩, ?_⟩
                  refine (AH_done (by kernel_rfl) (X_block (X_then ?_)))
                  refine W.pre (K' := [(1, _), (2, _), (4, _), (6, _), (11, _), (12, _), (13, _), (17, _)]) (L' := [(0, _), (101, _), (102, _), (103, _), (201, _), (300, _)]) ?_ ⟨rfl, ⟨rfl, ⟨rfl, ⟨rfl, ⟨rfl, ⟨rfl, ⟨rfl, ⟨rfl, trivial⟩⟩⟩⟩⟩⟩⟩⟩ ⟨rfl, ⟨rfl, ⟨rfl, ⟨rfl, ⟨rfl, ⟨rfl, trivial⟩⟩⟩⟩⟩⟩
                  refine W_regL (WL_pure rfl rfl (by decide) (Pu_move rfl rfl) (WL_pure rfl rfl (by decide) (Pu_bin rfl rfl rfl (run_add _ _ _ _ _ (by omega))) (WL_pure rfl rfl (by decide) (Pu_assign rfl rfl) (WL_nil ?_))))
                  exact X_round (x + 1) (by omega) (by omega) ⟨rfl, rfl, rfl, rfl, rfl, rfl, lookV_eq rfl (int_eq (by omega)), trivial⟩ ⟨rfl, rfl, rfl, rfl, trivial⟩
                exact AHs_nil
              exact AHs_nil
            exact AHs_nil
          exact AHs_nil
        exact AHs_nil
      exact AHs_nil
    refine AHs_cons rfl rfl rfl (by decide) (OpT_buildOnes (r := 104) (bs [byte ((a + x : Nat) : Int)]) rfl rfl Try.runUnderlying30 Try.sizeOf5 Try.zeroValue5 rfl rfl (by decide) rfl (bs_cells _) (fun v27 => ⟨⟨rfl, ⟨rfl, ⟨rfl, trivial⟩⟩⟩, ?_⟩)) ?_
    ·
      refine (AH_ready [2] (by kernel_rfl) (by decide) ?_)
      refine AHs_cons rfl rfl rfl (by decide) (OpT_call 200 [0, 101, 102, 103, 104] [] rfl Try.call56 rfl rfl rfl (by decide) (by decide) (head5_spec nm hn q _) (fun v22 Ps22 hR22 => ?_)) ?_
      ·
        subst hR22
        refine ⟨⟨rfl, ⟨rfl, ⟨rfl, trivial⟩⟩⟩, ?_⟩
        refine (AH_ready [4] (by kernel_rfl) (by decide) ?_)
        refine AHs_cons rfl rfl rfl (by decide) (OpT_call 300 [0, 101, 102, 103, 104] [200] rfl Try.call55 rfl rfl rfl (by decide) (by decide) (two5_spec _ rfl _ (hdL nm q) i (by rw [hdL_length hn]; omega) _) (fun v24 Ps24 hR24 => ?_)) ?_
        ·
          subst hR24
          refine ⟨⟨rfl, ⟨rfl, ⟨rfl, trivial⟩⟩⟩, ?_⟩
          refine (AH_ready [8] (by kernel_rfl) (by decide) ?_)
          refine AHs_cons rfl rfl rfl (by decide) (OpT_append (r := 300) (r2 := 104) rfl Try.underlying30 TI.hi5 TI.hz5 TI.hs5 TI.hby5 TI.hzs5 (by decide) rfl rfl rfl rfl (fun _ h => rowP_rd h) (bs_one _) (by unfold maxLen; simp [hdL_length hn, numB_length, *] <;> omega) (by simp [hdL_length hn, numB_length, *] <;> omega) (fun v28 => ?_)) ?_
          ·
            refine ⟨⟨rfl, ⟨rfl, ⟨rfl, trivial⟩⟩⟩, ?_⟩
            refine AH_turn (P' := rowB 5 v28 (hdL nm q ++ numB i 2 ++ [byte ((a + x : Nat) : Int)])) 300 rfl (fun h hp => rowB_mk hp (by simp [hdL_length hn, numB_length, *] <;> omega) (by simp only [bs_append])) ?_
            refine (AH_ready [10] (by kernel_rfl) (by decide) ?_)
            refine AHs_cons rfl rfl rfl (by decide) (OpT_append (r := 300) (r2 := 102) rfl Try.underlying30 TI.hi5 TI.hz5 TI.hs5 TI.hby5 TI.hzs5 (by decide) rfl rfl rfl rfl (fun _ h => blk_all h hw) (bs_one _) (by unfold maxLen; simp [hdL_length hn, numB_length, *] <;> omega) (by simp [hdL_length hn, numB_length, *] <;> omega) (fun v30 => ?_)) ?_
            ·
              refine ⟨⟨rfl, ⟨rfl, ⟨rfl, trivial⟩⟩⟩, ?_⟩
              refine AH_turn (P' := rowB 5 v30 (hdL nm q ++ numB i 2 ++ [byte ((a + x : Nat) : Int)] ++ walkC nm q i a x t)) 300 rfl (fun h hp => rowB_mk hp (by simp [hdL_length hn, numB_length, *] <;> omega) (by simp only [bs_append])) ?_
              refine (AH_ready [11] (by kernel_rfl) (by decide) ?_)
              refine AHs_cons rfl rfl rfl (by decide) (OpT_call 400 [0, 101, 102, 103, 104, 300] [] rfl Try.call14 rfl rfl rfl (by decide) (by decide) (refSum_spec v30 (hdL nm q ++ numB i 2 ++ [byte ((a + x : Nat) : Int)] ++ walkC nm q i a x t) (by simp [hdL_length hn, numB_length, *]) _ (rd_star 5 rfl rowB_rd)) (fun v31 Ps31 hR31 => ?_)) ?_
              ·
                obtain ⟨rfl, rfl⟩ := hR31
                refine ⟨⟨rfl, ⟨rfl, ⟨rfl, trivial⟩⟩⟩, ?_⟩
                refine (AH_ready [12] (by kernel_rfl) (by decide) ?_)
                refine AHs_cons0 rfl rfl rfl (OpT_storeAll (r := 102) rfl Try.sizeOf29 rfl rfl rfl ((bs_length _).trans hw) ((bs_length _).trans (sha_length _)) (bs_one _) ?_) ?_
                ·
                  refine ⟨⟨rfl, ⟨rfl, ⟨rfl, trivial⟩⟩⟩, ?_⟩
                  refine (AH_done (by kernel_rfl) (X_block (X_then ?_)))
                  refine W.pre (K' := [(1, _), (2, _), (4, _), (6, _), (11, _), (12, _), (13, _), (17, _)]) (L' := [(0, _), (101, _), (102, _), (103, _), (104, _), (300, _)]) ?_ ⟨rfl, ⟨rfl, ⟨rfl, ⟨rfl, ⟨rfl, ⟨rfl, ⟨rfl, ⟨rfl, trivial⟩⟩⟩⟩⟩⟩⟩⟩ ⟨rfl, ⟨rfl, ⟨rfl, ⟨rfl, ⟨rfl, ⟨rfl, trivial⟩⟩⟩⟩⟩⟩
                  refine W_regL (WL_pure rfl rfl (by decide) (Pu_move rfl rfl) (WL_pure rfl rfl (by decide) (Pu_bin rfl rfl rfl (run_add _ _ _ _ _ (by omega))) (WL_pure rfl rfl (by decide) (Pu_assign rfl rfl) (WL_nil ?_))))
                  exact X_round (x + 1) (by omega) (by omega) ⟨rfl, rfl, rfl, rfl, rfl, rfl, lookV_eq rfl (int_eq (by omega)), trivial⟩ ⟨rfl, rfl, rfl, rfl, trivial⟩
                exact AHs_nil
              exact AHs_nil
            exact AHs_nil
          exact AHs_nil
        exact AHs_nil
      exact AHs_nil
    exact AHs_nil
  ·
    obtain rfl : b = a + x := by have := of_decide_eq_false hc17; omega
    have hbx : a + x - a = x := by omega
    rw [hbx]
    refine W_exit (X_then_exit (X_then_exit (X_block_exit (X_then ?_))))
    refine W_seq ?_
    refine W.pre (K' := [(1, _), (2, _), (4, _), (6, _), (11, _), (12, _), (13, _), (17, _)]) (L' := [(0, _), (101, _), (102, _), (103, _)]) ?_ ⟨rfl, ⟨rfl, ⟨rfl, ⟨rfl, ⟨rfl, ⟨rfl, ⟨rfl, ⟨rfl, trivial⟩⟩⟩⟩⟩⟩⟩⟩ ⟨rfl, ⟨rfl, ⟨rfl, ⟨rfl, trivial⟩⟩⟩⟩
    refine W_regL (WL_pure rfl rfl (by decide) (Pu_loadBN (r := 102) rfl Try.isAgg29 Try.sizeOf29 rfl rfl ((bs_length _).trans hw) (load_all ((bs_length _).trans hw))) (WL_cons0 rfl rfl (OpT_storeAll (r := 103) rfl Try.sizeOf29 rfl rfl rfl rfl ((bs_length _).trans hw) (bs_one _) ?_)))
    refine (WL_nil (X_then ?_))
    refine W_ret ?_
    exact X_ret [] (Ps := []) (resC1 (r := 103) Try.results59 rfl Try.isAgg29 Try.sizeOf29 rfl ((bs_length _).trans hw)) rfl (by decide) ⟨rfl, rfl⟩
theorem digit5_spec (v : Value) (l : List UInt8) (i : Nat) (hi : i < 4 * l.length) (hl : l.length ≤ 100000000) (F : HP) (hF : ∀ h, F h → rdB v l h) : CallsS Try.prog 71 #[v, .int .i64 (i : Int)] F [] (fun r Ps => r = .int .i64 (dig l i : Int) ∧ Ps = []) := by
  refine callsS_enter Try.func71 rfl Try.ntmps71 (by simp) (fun E => ?_)
  refine W_seq ?_
  refine W.pre (K' := [(0, _), (1, _)]) (L' := [(0, _)]) ?_ ⟨rfl, ⟨rfl, trivial⟩⟩ ⟨rfl, trivial⟩
  refine W_regL (WL_pure rfl rfl (by decide) (Pu_assign rfl rfl) (WL_nil (X_then ?_)))
  refine W_seq ?_
  refine W.pre (K' := [(0, _), (1, _), (4, _)]) (L' := [(0, _)]) ?_ ⟨rfl, ⟨rfl, ⟨rfl, trivial⟩⟩⟩ ⟨rfl, trivial⟩
  refine W_regL (WL_pure rfl rfl (by decide) (Pu_move rfl rfl) (WL_pure rfl rfl (by decide) (Pu_move rfl rfl) (WL_pure rfl rfl (by decide) (Pu_bin rfl rfl rfl (run_quo _ _ _ _ _ (by omega))) ?_)))
  rw [show (i : Int) / 4 = ((i / 4 : Nat) : Int) by omega]
  refine (WL_pure rfl rfl (by decide) (Pu_idxS1 (r := 0) rfl Try.runUnderlying30 Try.sizeOf5 rfl rfl rfl hF (by omega)) (WL_pure rfl rfl (by decide) (Pu_loadS (r := 0) rfl Try.isAgg5 rfl rfl hF (bs_at1 (k := i / 4) (by omega))) (WL_pure rfl rfl (by decide) (Pu_move rfl rfl) (WL_pure rfl rfl (by decide) (Pu_bin rfl rfl rfl (run_rem _ _ _ _ _ (by omega))) ?_))))
  rw [show (i : Int) % 4 = ((i % 4 : Nat) : Int) by omega]
  refine (WL_pure rfl rfl (by decide) (Pu_conv rfl rfl (conv_u64 (i % 4) Try.runUnderlying3 Try.runUnderlying71 (by omega))) (WL_pure rfl rfl (by decide) (Pu_bin rfl rfl rfl (run_mulU 2 (i % 4) _ _ _ (by omega))) (WL_pure rfl rfl (by decide) (Pu_bin rfl rfl rfl (run_subU 6 (2 * (i % 4)) _ _ _ (by omega))) (WL_pure rfl rfl (by decide) (Pu_bin rfl rfl rfl (run_shrB _ (6 - 2 * (i % 4)) (by omega) _ _ _)) (WL_pure rfl rfl (by decide) (Pu_conv rfl rfl (conv_nat8 _ shr_lt Try.runUnderlying5 Try.runUnderlying3)) (WL_pure rfl rfl (by decide) (Pu_bin rfl rfl rfl (run_andI3 _ (Nat.lt_trans shr_lt (by decide)) _ _ _)) (WL_pure rfl rfl (by decide) (Pu_assign rfl rfl) (WL_nil (X_then ?_)))))))))
  refine W_ret ?_
  exact X_ret [] (Ps := []) (res1 Try.results71 rfl) rfl (by decide) ⟨rfl, rfl⟩
end Go.Proofs.Ytinamipkpdlphaa
