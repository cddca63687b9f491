/- Texts of this proof, one behind the other: ShaB, Rec, Ent, TiE, Ti, ShaP, Cut, IdL, ShaQ, ShaC, ShaS, ShaD, LayN, Names0, LibU, TiN, NamesA, Names1, NamesE0, Names2, Blob0, BlobA, BlobB, BlobC, Blob1, BlobE, BlobF, BlobG, BlobH, BlobI, Blob2, Blob3, Blob4, Dir0, Sl15, NamesC. -/
import Derived.Test.YthkdkmaacjpneaaGreatDoorK1
import Derived.Test.YthkdkmaacjpneaaGreatDoorProg
import Derived.Shelf.Lays
import Derived.Shelf.Bodies
import Derived.Lib.LaidU8
import Derived.Shelf.Unicode.DecodeAny
import Derived.Stop.BytesEq
import Derived.Laws.StructEq
import Derived.Deep.AppendSrc
import Derived.Lib.AppendZerosOnto
import Derived.Deep.Upon
/- The hash: a piece mixed in. -/
namespace Go.Proofs.YthkdkmaacjpneaaGreatDoor
open Go.RowKit
set_option linter.unusedVariables false
set_option linter.unusedSimpArgs false
set_option maxRecDepth 8000
theorem bs_atZ0 {l : List UInt8} {k : Nat} {z : Int} (hz : z.toNat = k) (h : k < l.length) : (bs l)[z.toNat]? = some (bv (at0 l k)) := by rw [hz]; exact bs_at1 h
theorem ws_atI {l : List UInt32} {k : Nat} {z : Int} (hz : z.toNat = k) (h : k < l.length) : (ws l)[z.toNat]? = some (wv (l.getD k 0)) := by rw [hz]; exact ws_at h
set_option maxHeartbeats 2000000 in
theorem mix_spec (s : S8) (v : Value) (b : List UInt8) (hbl : b.length = 64) (F : HP) (hF : ∀ h, F h → rdB v b h) : CallsS Tryz.prog 145 #[.agg (ws s.list).toArray, v] F [] (fun r Ps => r = .agg (ws (mixS b 0 s).list).toArray ∧ Ps = []) := by
  refine callsS_enter Tryz.func145 rfl Tryz.ntmps145 (by simp) (fun E => ?_)
  refine W_seq ?_
  refine W.pre (K' := [(0, _), (1, _)]) (L' := [(0, _)]) ?_ ⟨rfl, ⟨rfl, trivial⟩⟩ ⟨rfl, trivial⟩
  refine W_regL (WL_cons rfl rfl (by decide) (OpT_box (r := 101) rfl rfl rfl (fun g101 => (WL_cons rfl rfl (by decide) (OpT_alloc (r := 102) (cs := (ws [0, 0, 0, 0, 0, 0, 0, 0])) rfl (zero_run (by kernel_rfl : (Tryz.prog.info? 108).bind (·.zero) = some (.agg (ws [0, 0, 0, 0, 0, 0, 0, 0]).toArray))) rfl (fun g102 => (WL_nil (X_then ?_))))))))
  refine W_seq ?_
  refine W.pre (K' := [(0, _), (1, _), (2, _), (4, _)]) (L' := [(0, _), (101, _), (102, _)]) ?_ ⟨rfl, ⟨rfl, ⟨rfl, ⟨rfl, trivial⟩⟩⟩⟩ ⟨rfl, ⟨rfl, ⟨rfl, trivial⟩⟩⟩
  refine W_regL (WL_cons rfl rfl (by decide) (OpT_alloc (r := 103) (cs := (ws (List.replicate 64 0))) rfl (zero_run (by kernel_rfl : (Tryz.prog.info? 106).bind (·.zero) = some (.agg (ws (List.replicate 64 0)).toArray))) rfl (fun g103 => (WL_nil (X_then ?_)))))
  refine W_seq ?_
  refine W_seq ?_
  refine W.pre (K' := [(0, _), (1, _), (2, _), (4, _), (5, _)]) (L' := [(0, _), (101, _), (102, _), (103, _)]) ?_ ⟨rfl, ⟨rfl, ⟨rfl, ⟨rfl, ⟨rfl, trivial⟩⟩⟩⟩⟩ ⟨rfl, ⟨rfl, ⟨rfl, ⟨rfl, trivial⟩⟩⟩⟩
  refine W_regL (WL_pure rfl rfl (by decide) (Pu_sliceArrHi (b := 16) rfl Tryz.runUnderlying106 Tryz.sizeOf105 rfl rfl (by decide) (by decide)) (WL_pure rfl rfl (by decide) (Pu_len (r := 103) rfl Tryz.runUnderlying230 rfl rfl (fun h hp => blk_rd (size := 1) (m := 16) hp rfl (by rw [List.length_take, List.length_drop, ws_length, List.length_replicate]; decide) (by decide))) (WL_pure rfl rfl (by decide) (Pu_move rfl rfl) (WL_nil (X_then ?_)))))
  refine W_block ?_
  refine W_turn (P' := blk g103 106 (ws (schZ b 0 0))) 103 rfl (fun h hp => hp) ?_
  refine W_loop (α := Nat) (fun x => [(1, v), (2, .pointer (some ⟨g101, 0, none⟩)), (4, .pointer (some ⟨g102, 0, none⟩)), (5, .pointer (some ⟨g103, 0, none⟩)), (22, .int .i64 16), (23, .int .i64 (x : Int))]) (fun x => [(0, F), (101, blk g101 108 (ws s.list)), (102, blk g102 108 (ws [0, 0, 0, 0, 0, 0, 0, 0])), (103, blk g103 106 (ws (schZ b 0 x)))]) (fun x => x ≤ 16) (fun x => 16 - x) (0) (by omega) ⟨rfl, ⟨rfl, ⟨rfl, ⟨rfl, ⟨rfl, ⟨rfl, trivial⟩⟩⟩⟩⟩⟩ ⟨rfl, ⟨rfl, ⟨rfl, ⟨rfl, trivial⟩⟩⟩⟩ (fun x hx => ?_)
  refine W_seq ?_
  refine W.pre (K' := [(1, _), (2, _), (4, _), (5, _), (22, _), (23, _)]) (L' := [(0, _), (101, _), (102, _), (103, _)]) ?_ ⟨rfl, ⟨rfl, ⟨rfl, ⟨rfl, ⟨rfl, ⟨rfl, trivial⟩⟩⟩⟩⟩⟩ ⟨rfl, ⟨rfl, ⟨rfl, ⟨rfl, trivial⟩⟩⟩⟩
  refine W_regL (WL_pure rfl rfl (by decide) (Pu_bin rfl rfl rfl (run_lss _ _ _ _ _ _)) (WL_nil (X_then ?_)))
  refine W_seq ?_
  refine W_cond rfl (fun hc24 => ?_) (fun hc24 => ?_)
  ·
    have hlt : x < 16 := by have := of_decide_eq_true hc24; omega
    refine W_skip (X_then ?_)
    refine W_seq ?_
    refine W_block ?_
    refine W_seq ?_
    refine W.pre (K' := [(1, _), (2, _), (4, _), (5, _), (22, _), (23, _), (24, _)]) (L' := [(0, _), (101, _), (102, _), (103, _)]) ?_ ⟨rfl, ⟨rfl, ⟨rfl, ⟨rfl, ⟨rfl, ⟨rfl, ⟨rfl, trivial⟩⟩⟩⟩⟩⟩⟩ ⟨rfl, ⟨rfl, ⟨rfl, ⟨rfl, trivial⟩⟩⟩⟩
    refine W_regL (WL_pure rfl rfl (by decide) (Pu_move rfl rfl) (WL_pure rfl rfl (by decide) (Pu_assign rfl rfl) (WL_nil (X_then ?_))))
    refine W.pre (K' := [(1, _), (2, _), (4, _), (5, _), (6, _), (22, _), (23, _), (24, _)]) (L' := [(0, _), (101, _), (102, _), (103, _)]) ?_ ⟨rfl, ⟨rfl, ⟨rfl, ⟨rfl, ⟨rfl, ⟨rfl, ⟨rfl, ⟨rfl, trivial⟩⟩⟩⟩⟩⟩⟩⟩ ⟨rfl, ⟨rfl, ⟨rfl, ⟨rfl, trivial⟩⟩⟩⟩
    refine W_draw (N := 36) (by kernel_rfl) rfl [(0, _), (101, _), (102, _)] ⟨rfl, ⟨rfl, ⟨rfl, trivial⟩⟩⟩ ?_
    refine (AH_take 0 rfl (by kernel_rfl) (by kernel_rfl) (by kernel_rfl) rfl rfl (by decide) (Pu_move rfl rfl) (AH_take 1 rfl (by kernel_rfl) (by kernel_rfl) (by kernel_rfl) rfl rfl (by decide) (Pu_move rfl rfl) (AH_take 2 rfl (by kernel_rfl) (by kernel_rfl) (by kernel_rfl) rfl rfl (by decide) (Pu_move rfl rfl) (AH_take 3 rfl (by kernel_rfl) (by kernel_rfl) (by kernel_rfl) rfl rfl (by decide) (Pu_bin rfl rfl rfl (run_mul _ _ _ _ _ (by omega))) (AH_take 4 rfl (by kernel_rfl) (by kernel_rfl) (by kernel_rfl) rfl rfl (by decide) (Pu_idxS1 (r := 0) rfl Tryz.runUnderlying36 Tryz.sizeOf5 rfl rfl rfl hF (by omega)) (AH_take 5 rfl (by kernel_rfl) (by kernel_rfl) (by kernel_rfl) rfl rfl (by decide) (Pu_loadS (r := 0) rfl Tryz.isAgg5 rfl rfl hF (bs_atZ0 (k := 4 * x) (by omega) (by omega))) (AH_take 6 rfl (by kernel_rfl) (by kernel_rfl) (by kernel_rfl) rfl rfl (by decide) (Pu_conv rfl rfl (conv_u8W _ Tryz.runUnderlying5 Tryz.runUnderlying105)) (AH_take 7 rfl (by kernel_rfl) (by kernel_rfl) (by kernel_rfl) rfl rfl (by decide) (Pu_bin rfl rfl rfl (run_shlW _ (24) (by decide) _ _ _)) (AH_take 8 rfl (by kernel_rfl) (by kernel_rfl) (by kernel_rfl) rfl rfl (by decide) (Pu_move rfl rfl) (AH_take 9 rfl (by kernel_rfl) (by kernel_rfl) (by kernel_rfl) rfl rfl (by decide) (Pu_move rfl rfl) (AH_take 10 rfl (by kernel_rfl) (by kernel_rfl) (by kernel_rfl) rfl rfl (by decide) (Pu_bin rfl rfl rfl (run_mul _ _ _ _ _ (by omega))) (AH_take 11 rfl (by kernel_rfl) (by kernel_rfl) (by kernel_rfl) rfl rfl (by decide) (Pu_bin rfl rfl rfl (run_add _ _ _ _ _ (by omega))) (AH_take 12 rfl (by kernel_rfl) (by kernel_rfl) (by kernel_rfl) rfl rfl (by decide) (Pu_idxS1 (r := 0) rfl Tryz.runUnderlying36 Tryz.sizeOf5 rfl rfl rfl hF (by omega)) (AH_take 13 rfl (by kernel_rfl) (by kernel_rfl) (by kernel_rfl) rfl rfl (by decide) (Pu_loadS (r := 0) rfl Tryz.isAgg5 rfl rfl hF (bs_atZ0 (k := 4 * x + 1) (by omega) (by omega))) (AH_take 14 rfl (by kernel_rfl) (by kernel_rfl) (by kernel_rfl) rfl rfl (by decide) (Pu_conv rfl rfl (conv_u8W _ Tryz.runUnderlying5 Tryz.runUnderlying105)) (AH_take 15 rfl (by kernel_rfl) (by kernel_rfl) (by kernel_rfl) rfl rfl (by decide) (Pu_bin rfl rfl rfl (run_shlW _ (16) (by decide) _ _ _)) (AH_take 16 rfl (by kernel_rfl) (by kernel_rfl) (by kernel_rfl) rfl rfl (by decide) (Pu_bin rfl rfl rfl (run_orW _ _ _ _ _)) (AH_take 17 rfl (by kernel_rfl) (by kernel_rfl) (by kernel_rfl) rfl rfl (by decide) (Pu_move rfl rfl) (AH_take 18 rfl (by kernel_rfl) (by kernel_rfl) (by kernel_rfl) rfl rfl (by decide) (Pu_move rfl rfl) (AH_take 19 rfl (by kernel_rfl) (by kernel_rfl) (by kernel_rfl) rfl rfl (by decide) (Pu_bin rfl rfl rfl (run_mul _ _ _ _ _ (by omega))) (AH_take 20 rfl (by kernel_rfl) (by kernel_rfl) (by kernel_rfl) rfl rfl (by decide) (Pu_bin rfl rfl rfl (run_add _ _ _ _ _ (by omega))) (AH_take 21 rfl (by kernel_rfl) (by kernel_rfl) (by kernel_rfl) rfl rfl (by decide) (Pu_idxS1 (r := 0) rfl Tryz.runUnderlying36 Tryz.sizeOf5 rfl rfl rfl hF (by omega)) (AH_take 22 rfl (by kernel_rfl) (by kernel_rfl) (by kernel_rfl) rfl rfl (by decide) (Pu_loadS (r := 0) rfl Tryz.isAgg5 rfl rfl hF (bs_atZ0 (k := 4 * x + 2) (by omega) (by omega))) (AH_take 23 rfl (by kernel_rfl) (by kernel_rfl) (by kernel_rfl) rfl rfl (by decide) (Pu_conv rfl rfl (conv_u8W _ Tryz.runUnderlying5 Tryz.runUnderlying105)) (AH_take 24 rfl (by kernel_rfl) (by kernel_rfl) (by kernel_rfl) rfl rfl (by decide) (Pu_bin rfl rfl rfl (run_shlW _ (8) (by decide) _ _ _)) (AH_take 25 rfl (by kernel_rfl) (by kernel_rfl) (by kernel_rfl) rfl rfl (by decide) (Pu_bin rfl rfl rfl (run_orW _ _ _ _ _)) (AH_take 26 rfl (by kernel_rfl) (by kernel_rfl) (by kernel_rfl) rfl rfl (by decide) (Pu_move rfl rfl) (AH_take 27 rfl (by kernel_rfl) (by kernel_rfl) (by kernel_rfl) rfl rfl (by decide) (Pu_move rfl rfl) (AH_take 28 rfl (by kernel_rfl) (by kernel_rfl) (by kernel_rfl) rfl rfl (by decide) (Pu_bin rfl rfl rfl (run_mul _ _ _ _ _ (by omega))) (AH_take 29 rfl (by kernel_rfl) (by kernel_rfl) (by kernel_rfl) rfl rfl (by decide) (Pu_bin rfl rfl rfl (run_add _ _ _ _ _ (by omega))) (AH_take 30 rfl (by kernel_rfl) (by kernel_rfl) (by kernel_rfl) rfl rfl (by decide) (Pu_idxS1 (r := 0) rfl Tryz.runUnderlying36 Tryz.sizeOf5 rfl rfl rfl hF (by omega)) (AH_take 31 rfl (by kernel_rfl) (by kernel_rfl) (by kernel_rfl) rfl rfl (by decide) (Pu_loadS (r := 0) rfl Tryz.isAgg5 rfl rfl hF (bs_atZ0 (k := 4 * x + 3) (by omega) (by omega))) (AH_take 32 rfl (by kernel_rfl) (by kernel_rfl) (by kernel_rfl) rfl rfl (by decide) (Pu_conv rfl rfl (conv_u8W _ Tryz.runUnderlying5 Tryz.runUnderlying105)) (AH_take 33 rfl (by kernel_rfl) (by kernel_rfl) (by kernel_rfl) rfl rfl (by decide) (Pu_bin rfl rfl rfl (run_orW _ _ _ _ _)) (AH_take 34 rfl (by kernel_rfl) (by kernel_rfl) (by kernel_rfl) rfl rfl (by decide) (Pu_idxA rfl Tryz.runUnderlying106 Tryz.sizeOf105 rfl rfl (by omega)) (AH_ready [35] (by kernel_rfl) (by decide) ?_))))))))))))))))))))))))))))))))))))
    refine AHs_cons0 rfl rfl rfl (OpT_storeB1 (r := 103) rfl Tryz.sizeOf105 rfl rfl rfl rfl (by rw [ws_length, schZ_length (by omega)]; omega) (ws_set _ _ _) ?_) ?_
    ·
      refine ⟨⟨rfl, ⟨rfl, ⟨rfl, trivial⟩⟩⟩, ?_⟩
      refine (AH_done (by kernel_rfl) (X_block (X_then ?_)))
      refine W.pre (K' := [(1, _), (2, _), (4, _), (5, _), (6, _), (22, _), (23, _), (24, _)]) (L' := [(0, _), (101, _), (102, _), (103, _)]) ?_ ⟨rfl, ⟨rfl, ⟨rfl, ⟨rfl, ⟨rfl, ⟨rfl, ⟨rfl, ⟨rfl, trivial⟩⟩⟩⟩⟩⟩⟩⟩ ⟨rfl, ⟨rfl, ⟨rfl, ⟨rfl, trivial⟩⟩⟩⟩
      refine W_regL (WL_pure rfl rfl (by decide) (Pu_bin rfl rfl rfl (run_add _ _ _ _ _ (by omega))) (WL_pure rfl rfl (by decide) (Pu_move rfl rfl) (WL_nil ?_)))
      refine X_turn (P' := blk g103 106 (ws (schZ b 0 (x + 1)))) 103 rfl (fun h hp => by rw [← schZ_set (t := x) (z := (x : Int)) (w := word b (4 * x)) (by omega) (by omega) (by rw [if_pos hlt, Nat.zero_add])]; exact hp) ?_
      exact X_round (x + 1) (by omega) (by omega) ⟨rfl, rfl, rfl, rfl, rfl, rfl, trivial⟩ ⟨rfl, rfl, rfl, rfl, trivial⟩
    exact AHs_nil
  ·
    obtain rfl : x = 16 := by have := of_decide_eq_false hc24; omega
    refine W_exit (X_then_exit (X_then_exit (X_block_exit (X_then ?_))))
    refine W_seq ?_
    refine W_seq ?_
    refine W.pre (K' := [(1, _), (2, _), (4, _), (5, _), (22, _), (23, _), (24, _)]) (L' := [(0, _), (101, _), (102, _), (103, _)]) ?_ ⟨rfl, ⟨rfl, ⟨rfl, ⟨rfl, ⟨rfl, ⟨rfl, ⟨rfl, trivial⟩⟩⟩⟩⟩⟩⟩ ⟨rfl, ⟨rfl, ⟨rfl, ⟨rfl, trivial⟩⟩⟩⟩
    refine W_regL (WL_pure rfl rfl (by decide) (Pu_assign rfl rfl) (WL_nil (X_then ?_)))
    refine W_block ?_
    refine W_loop (α := Nat) (fun x => [(1, v), (2, .pointer (some ⟨g101, 0, none⟩)), (4, .pointer (some ⟨g102, 0, none⟩)), (5, .pointer (some ⟨g103, 0, none⟩)), (7, .int .i64 (x : Int))]) (fun x => [(0, F), (101, blk g101 108 (ws s.list)), (102, blk g102 108 (ws [0, 0, 0, 0, 0, 0, 0, 0])), (103, blk g103 106 (ws (schZ b 0 x)))]) (fun x => 16 ≤ x ∧ x ≤ 64) (fun x => 64 - x) (16) (by omega) ⟨rfl, ⟨rfl, ⟨rfl, ⟨rfl, ⟨rfl, trivial⟩⟩⟩⟩⟩ ⟨rfl, ⟨rfl, ⟨rfl, ⟨rfl, trivial⟩⟩⟩⟩ (fun x hx => ?_)
    obtain ⟨h16, h64⟩ := hx
    have hzl := schZ_length (b := b) (p := 0) h64
    refine W_seq ?_
    refine W_seq ?_
    refine W.pre (K' := [(1, _), (2, _), (4, _), (5, _), (7, _)]) (L' := [(0, _), (101, _), (102, _), (103, _)]) ?_ ⟨rfl, ⟨rfl, ⟨rfl, ⟨rfl, ⟨rfl, trivial⟩⟩⟩⟩⟩ ⟨rfl, ⟨rfl, ⟨rfl, ⟨rfl, trivial⟩⟩⟩⟩
    refine W_regL (WL_pure rfl rfl (by decide) (Pu_move rfl rfl) (WL_pure rfl rfl (by decide) (Pu_bin rfl rfl rfl (run_lss _ _ _ _ _ _)) (WL_nil (X_then ?_))))
    refine W_cond rfl (fun hc63 => ?_) (fun hc63 => ?_)
    ·
      have hlt : x < 64 := by have := of_decide_eq_true hc63; omega
      refine W_skip (X_then ?_)
      refine W_seq ?_
      refine W_block ?_
      refine W.pre (K' := [(1, _), (2, _), (4, _), (5, _), (7, _), (63, _)]) (L' := [(0, _), (101, _), (102, _), (103, _)]) ?_ ⟨rfl, ⟨rfl, ⟨rfl, ⟨rfl, ⟨rfl, ⟨rfl, trivial⟩⟩⟩⟩⟩⟩ ⟨rfl, ⟨rfl, ⟨rfl, ⟨rfl, trivial⟩⟩⟩⟩
      refine W_drawI (N := 24) (by kernel_rfl) rfl [(0, _), (101, _), (102, _), (103, frontW g103 106 (schZ b 0 x) x)] ⟨⟨_, rfl, fun h hp => hp⟩, ⟨⟨_, rfl, fun h hp => hp⟩, ⟨⟨_, rfl, fun h hp => hp⟩, ⟨⟨_, rfl, by first | exact front_a (by omega) | exact front_b (by omega) (by omega)⟩, trivial⟩⟩⟩⟩ ?_
      refine (AH_take 0 rfl (by kernel_rfl) (by kernel_rfl) (by kernel_rfl) rfl rfl (by decide) (Pu_move rfl rfl) (AH_take 1 rfl (by kernel_rfl) (by kernel_rfl) (by kernel_rfl) rfl rfl (by decide) (Pu_move rfl rfl) (AH_take 2 rfl (by kernel_rfl) (by kernel_rfl) (by kernel_rfl) rfl rfl (by decide) (Pu_bin rfl rfl rfl (run_sub _ _ _ _ _ (by omega))) (AH_take 3 rfl (by kernel_rfl) (by kernel_rfl) (by kernel_rfl) rfl rfl (by decide) (Pu_idxA rfl Tryz.runUnderlying106 Tryz.sizeOf105 rfl rfl (by omega)) (AH_take 4 rfl (by kernel_rfl) (by kernel_rfl) (by kernel_rfl) rfl rfl (by decide) (Pu_load1 (r := 103) rfl Tryz.isAgg105 rfl rfl (fun h hp => front_get hp (k := x - 2) (by omega) (by omega))) (AH_take 6 rfl (by kernel_rfl) (by kernel_rfl) (by kernel_rfl) rfl rfl (by decide) (Pu_move rfl rfl) (AH_take 7 rfl (by kernel_rfl) (by kernel_rfl) (by kernel_rfl) rfl rfl (by decide) (Pu_bin rfl rfl rfl (run_sub _ _ _ _ _ (by omega))) (AH_take 8 rfl (by kernel_rfl) (by kernel_rfl) (by kernel_rfl) rfl rfl (by decide) (Pu_idxA rfl Tryz.runUnderlying106 Tryz.sizeOf105 rfl rfl (by omega)) (AH_take 9 rfl (by kernel_rfl) (by kernel_rfl) (by kernel_rfl) rfl rfl (by decide) (Pu_load1 (r := 103) rfl Tryz.isAgg105 rfl rfl (fun h hp => front_get hp (k := x - 7) (by omega) (by omega))) (AH_take 11 rfl (by kernel_rfl) (by kernel_rfl) (by kernel_rfl) rfl rfl (by decide) (Pu_move rfl rfl) (AH_take 12 rfl (by kernel_rfl) (by kernel_rfl) (by kernel_rfl) rfl rfl (by decide) (Pu_bin rfl rfl rfl (run_sub _ _ _ _ _ (by omega))) (AH_take 13 rfl (by kernel_rfl) (by kernel_rfl) (by kernel_rfl) rfl rfl (by decide) (Pu_idxA rfl Tryz.runUnderlying106 Tryz.sizeOf105 rfl rfl (by omega)) (AH_take 14 rfl (by kernel_rfl) (by kernel_rfl) (by kernel_rfl) rfl rfl (by decide) (Pu_load1 (r := 103) rfl Tryz.isAgg105 rfl rfl (fun h hp => front_get hp (k := x - 15) (by omega) (by omega))) (AH_take 17 rfl (by kernel_rfl) (by kernel_rfl) (by kernel_rfl) rfl rfl (by decide) (Pu_move rfl rfl) (AH_take 18 rfl (by kernel_rfl) (by kernel_rfl) (by kernel_rfl) rfl rfl (by decide) (Pu_bin rfl rfl rfl (run_sub _ _ _ _ _ (by omega))) (AH_take 19 rfl (by kernel_rfl) (by kernel_rfl) (by kernel_rfl) rfl rfl (by decide) (Pu_idxA rfl Tryz.runUnderlying106 Tryz.sizeOf105 rfl rfl (by omega)) (AH_take 20 rfl (by kernel_rfl) (by kernel_rfl) (by kernel_rfl) rfl rfl (by decide) (Pu_load1 (r := 103) rfl Tryz.isAgg105 rfl rfl (fun h hp => front_get hp (k := x - 16) (by omega) (by omega))) (AH_ready [5] (by kernel_rfl) (by decide) ?_))))))))))))))))))
      refine AHs_consI rfl rfl rfl (by decide) (OpT_call 200 [0, 101, 102, 103] [] rfl Tryz.call161 rfl rfl rfl (by decide) (by decide) (small1_spec _ _) (fun v71 Ps71 hR71 => ?_)) ?_
      ·
        obtain ⟨rfl, rfl⟩ := hR71
        refine ⟨⟨⟨_, rfl, fun h hp => hp⟩, ⟨⟨_, rfl, fun h hp => hp⟩, ⟨⟨_, rfl, fun h hp => hp⟩, ⟨⟨_, rfl, by first | exact front_a (by omega) | exact front_b (by omega) (by omega)⟩, trivial⟩⟩⟩⟩, ?_⟩
        refine (AH_take 10 rfl (by kernel_rfl) (by kernel_rfl) (by kernel_rfl) rfl rfl (by decide) (Pu_bin rfl rfl rfl (run_addW _ _ _ _ _)) (AH_ready [15] (by kernel_rfl) (by decide) ?_))
        refine AHs_consI rfl rfl rfl (by decide) (OpT_call 300 [0, 101, 102, 103] [] rfl Tryz.call162 rfl rfl rfl (by decide) (by decide) (small0_spec _ _) (fun v81 Ps81 hR81 => ?_)) ?_
        ·
          obtain ⟨rfl, rfl⟩ := hR81
          refine ⟨⟨⟨_, rfl, fun h hp => hp⟩, ⟨⟨_, rfl, fun h hp => hp⟩, ⟨⟨_, rfl, fun h hp => hp⟩, ⟨⟨_, rfl, by first | exact front_a (by omega) | exact front_b (by omega) (by omega)⟩, trivial⟩⟩⟩⟩, ?_⟩
          refine (AH_take 16 rfl (by kernel_rfl) (by kernel_rfl) (by kernel_rfl) rfl rfl (by decide) (Pu_bin rfl rfl rfl (run_addW _ _ _ _ _)) (AH_take 21 rfl (by kernel_rfl) (by kernel_rfl) (by kernel_rfl) rfl rfl (by decide) (Pu_bin rfl rfl rfl (run_addW _ _ _ _ _)) (AH_take 22 rfl (by kernel_rfl) (by kernel_rfl) (by kernel_rfl) rfl rfl (by decide) (Pu_idxA rfl Tryz.runUnderlying106 Tryz.sizeOf105 rfl rfl (by omega)) (AH_ready [23] (by kernel_rfl) (by decide) ?_))))
          refine AHs_cons0I rfl rfl rfl (OpT_storeB1 (r := 103) rfl Tryz.sizeOf105 rfl rfl rfl rfl (by rw [ws_length, hzl]; omega) (ws_set _ _ _) ?_) ?_
          ·
            refine ⟨⟨⟨_, rfl, fun h hp => hp⟩, ⟨⟨_, rfl, fun h hp => hp⟩, ⟨⟨_, rfl, fun h hp => hp⟩, ⟨⟨_, rfl, by first | exact front_a (by omega) | exact front_b (by omega) (by omega)⟩, trivial⟩⟩⟩⟩, ?_⟩
            refine (AH_done (by kernel_rfl) (X_block (X_then ?_)))
            refine W.pre (K' := [(1, _), (2, _), (4, _), (5, _), (7, _), (63, _)]) (L' := [(0, _), (101, _), (102, _), (103, _)]) ?_ ⟨rfl, ⟨rfl, ⟨rfl, ⟨rfl, ⟨rfl, ⟨rfl, trivial⟩⟩⟩⟩⟩⟩ ⟨rfl, ⟨rfl, ⟨rfl, ⟨rfl, trivial⟩⟩⟩⟩
            refine W_regL (WL_pure rfl rfl (by decide) (Pu_move rfl rfl) (WL_pure rfl rfl (by decide) (Pu_bin rfl rfl rfl (run_add _ _ _ _ _ (by omega))) (WL_pure rfl rfl (by decide) (Pu_assign rfl rfl) (WL_nil ?_))))
            refine X_turn (P' := blk g103 106 (ws (schZ b 0 (x + 1)))) 103 rfl (fun h hp => by rw [← schZ_set (t := x) (z := (x : Int)) (by omega) (by omega) (schZ_next h16)]; exact hp) ?_
            exact X_round (x + 1) (by omega) (by omega) ⟨rfl, rfl, rfl, rfl, rfl, trivial⟩ ⟨rfl, rfl, rfl, rfl, trivial⟩
          exact AHs_nil
        exact AHs_nil
      exact AHs_nil
    ·
      obtain rfl : x = 64 := by have := of_decide_eq_false hc63; omega
      rw [schZ_full]
      refine W_exit (X_then_exit (X_then_exit (X_block_exit (X_then ?_))))
      refine W_seq ?_
      refine W.pre (K' := [(1, _), (2, _), (4, _), (5, _), (7, _), (63, _)]) (L' := [(0, _), (101, _), (102, _), (103, _)]) ?_ ⟨rfl, ⟨rfl, ⟨rfl, ⟨rfl, ⟨rfl, ⟨rfl, trivial⟩⟩⟩⟩⟩⟩ ⟨rfl, ⟨rfl, ⟨rfl, ⟨rfl, trivial⟩⟩⟩⟩
      refine W_regL (WL_cons rfl rfl (by decide) (OpT_call 200 [0, 101, 102, 103] [] rfl Tryz.call163 rfl rfl rfl (by decide) (by decide) (consts_spec _) (fun v89 Ps89 hR89 => ?_)))
      obtain ⟨rfl, rfl⟩ := hR89
      refine (WL_cons rfl rfl (by decide) (OpT_alloc (r := 201) (cs := (ws (List.replicate 64 0))) rfl (zero_run (by kernel_rfl : (Tryz.prog.info? 106).bind (·.zero) = some (.agg (ws (List.replicate 64 0)).toArray))) rfl (fun g201 => (WL_cons0 rfl rfl (OpT_storeAll (r := 201) rfl Tryz.sizeOf106 rfl rfl rfl rfl rfl (ws_one _) ?_)))))
      refine (WL_nil (X_then ?_))
      refine W_seq ?_
      refine W.pre (K' := [(1, _), (2, _), (4, _), (5, _), (7, _), (8, _), (63, _)]) (L' := [(0, _), (101, _), (102, _), (103, _), (201, _)]) ?_ ⟨rfl, ⟨rfl, ⟨rfl, ⟨rfl, ⟨rfl, ⟨rfl, ⟨rfl, trivial⟩⟩⟩⟩⟩⟩⟩ ⟨rfl, ⟨rfl, ⟨rfl, ⟨rfl, ⟨rfl, trivial⟩⟩⟩⟩⟩
      refine W_draw (N := 24) (by kernel_rfl) rfl [(0, _), (101, _), (102, _), (103, _), (201, _)] ⟨rfl, ⟨rfl, ⟨rfl, ⟨rfl, ⟨rfl, trivial⟩⟩⟩⟩⟩ ?_
      refine (AH_take 0 rfl (by kernel_rfl) (by kernel_rfl) (by kernel_rfl) rfl rfl (by decide) (Pu_idxA rfl Tryz.runUnderlying108 Tryz.sizeOf105 rfl rfl (by omega)) (AH_take 1 rfl (by kernel_rfl) (by kernel_rfl) (by kernel_rfl) rfl rfl (by decide) (Pu_loadB (r := 101) rfl Tryz.isAgg105 rfl rfl rfl) (AH_take 2 rfl (by kernel_rfl) (by kernel_rfl) (by kernel_rfl) rfl rfl (by decide) (Pu_idxA rfl Tryz.runUnderlying108 Tryz.sizeOf105 rfl rfl (by omega)) (AH_take 3 rfl (by kernel_rfl) (by kernel_rfl) (by kernel_rfl) rfl rfl (by decide) (Pu_loadB (r := 101) rfl Tryz.isAgg105 rfl rfl rfl) (AH_take 4 rfl (by kernel_rfl) (by kernel_rfl) (by kernel_rfl) rfl rfl (by decide) (Pu_idxA rfl Tryz.runUnderlying108 Tryz.sizeOf105 rfl rfl (by omega)) (AH_take 5 rfl (by kernel_rfl) (by kernel_rfl) (by kernel_rfl) rfl rfl (by decide) (Pu_loadB (r := 101) rfl Tryz.isAgg105 rfl rfl rfl) (AH_take 6 rfl (by kernel_rfl) (by kernel_rfl) (by kernel_rfl) rfl rfl (by decide) (Pu_idxA rfl Tryz.runUnderlying108 Tryz.sizeOf105 rfl rfl (by omega)) (AH_take 7 rfl (by kernel_rfl) (by kernel_rfl) (by kernel_rfl) rfl rfl (by decide) (Pu_loadB (r := 101) rfl Tryz.isAgg105 rfl rfl rfl) (AH_take 8 rfl (by kernel_rfl) (by kernel_rfl) (by kernel_rfl) rfl rfl (by decide) (Pu_idxA rfl Tryz.runUnderlying108 Tryz.sizeOf105 rfl rfl (by omega)) (AH_take 9 rfl (by kernel_rfl) (by kernel_rfl) (by kernel_rfl) rfl rfl (by decide) (Pu_loadB (r := 101) rfl Tryz.isAgg105 rfl rfl rfl) (AH_take 10 rfl (by kernel_rfl) (by kernel_rfl) (by kernel_rfl) rfl rfl (by decide) (Pu_idxA rfl Tryz.runUnderlying108 Tryz.sizeOf105 rfl rfl (by omega)) (AH_take 11 rfl (by kernel_rfl) (by kernel_rfl) (by kernel_rfl) rfl rfl (by decide) (Pu_loadB (r := 101) rfl Tryz.isAgg105 rfl rfl rfl) (AH_take 12 rfl (by kernel_rfl) (by kernel_rfl) (by kernel_rfl) rfl rfl (by decide) (Pu_idxA rfl Tryz.runUnderlying108 Tryz.sizeOf105 rfl rfl (by omega)) (AH_take 13 rfl (by kernel_rfl) (by kernel_rfl) (by kernel_rfl) rfl rfl (by decide) (Pu_loadB (r := 101) rfl Tryz.isAgg105 rfl rfl rfl) (AH_take 14 rfl (by kernel_rfl) (by kernel_rfl) (by kernel_rfl) rfl rfl (by decide) (Pu_idxA rfl Tryz.runUnderlying108 Tryz.sizeOf105 rfl rfl (by omega)) (AH_take 15 rfl (by kernel_rfl) (by kernel_rfl) (by kernel_rfl) rfl rfl (by decide) (Pu_loadB (r := 101) rfl Tryz.isAgg105 rfl rfl rfl) (AH_take 16 rfl (by kernel_rfl) (by kernel_rfl) (by kernel_rfl) rfl rfl (by decide) (Pu_assign rfl rfl) (AH_take 17 rfl (by kernel_rfl) (by kernel_rfl) (by kernel_rfl) rfl rfl (by decide) (Pu_assign rfl rfl) (AH_take 18 rfl (by kernel_rfl) (by kernel_rfl) (by kernel_rfl) rfl rfl (by decide) (Pu_assign rfl rfl) (AH_take 19 rfl (by kernel_rfl) (by kernel_rfl) (by kernel_rfl) rfl rfl (by decide) (Pu_assign rfl rfl) (AH_take 20 rfl (by kernel_rfl) (by kernel_rfl) (by kernel_rfl) rfl rfl (by decide) (Pu_assign rfl rfl) (AH_take 21 rfl (by kernel_rfl) (by kernel_rfl) (by kernel_rfl) rfl rfl (by decide) (Pu_assign rfl rfl) (AH_take 22 rfl (by kernel_rfl) (by kernel_rfl) (by kernel_rfl) rfl rfl (by decide) (Pu_assign rfl rfl) (AH_take 23 rfl (by kernel_rfl) (by kernel_rfl) (by kernel_rfl) rfl rfl (by decide) (Pu_assign rfl rfl) (AH_done (by kernel_rfl) (X_then ?_))))))))))))))))))))))))))
      refine W_seq ?_
      refine W_seq ?_
      refine W.pre (K' := [(1, _), (2, _), (4, _), (5, _), (7, _), (8, _), (9, _), (10, _), (11, _), (12, _), (13, _), (14, _), (15, _), (16, _), (63, _)]) (L' := [(0, _), (101, _), (102, _), (103, _), (201, _)]) ?_ ⟨rfl, ⟨rfl, ⟨rfl, ⟨rfl, ⟨rfl, ⟨rfl, ⟨rfl, ⟨rfl, ⟨rfl, ⟨rfl, ⟨rfl, ⟨rfl, ⟨rfl, ⟨rfl, ⟨rfl, trivial⟩⟩⟩⟩⟩⟩⟩⟩⟩⟩⟩⟩⟩⟩⟩ ⟨rfl, ⟨rfl, ⟨rfl, ⟨rfl, ⟨rfl, trivial⟩⟩⟩⟩⟩
      refine W_regL (WL_pure rfl rfl (by decide) (Pu_loadBN (r := 103) rfl Tryz.isAgg106 Tryz.sizeOf106 rfl rfl ((ws_length _).trans (sch_length b 0 64)) (load_all ((ws_length _).trans (sch_length b 0 64)))) (WL_pure rfl rfl (by decide) (Pu_move rfl rfl) (WL_nil (X_then ?_))))
      refine W_block ?_
      refine W_loop (α := Nat) (fun x => [(2, .pointer (some ⟨g101, 0, none⟩)), (4, .pointer (some ⟨g102, 0, none⟩)), (8, .pointer (some ⟨g201, 0, none⟩)), (9, wv (rnds (sch b 0 64) s x).a), (10, wv (rnds (sch b 0 64) s x).b), (11, wv (rnds (sch b 0 64) s x).c), (12, wv (rnds (sch b 0 64) s x).d), (13, wv (rnds (sch b 0 64) s x).e), (14, wv (rnds (sch b 0 64) s x).f), (15, wv (rnds (sch b 0 64) s x).g), (16, wv (rnds (sch b 0 64) s x).h), (106, .agg (ws (sch b 0 64)).toArray), (107, .int .i64 (x : Int))]) (fun x => [(0, F), (101, blk g101 108 (ws s.list)), (102, blk g102 108 (ws [0, 0, 0, 0, 0, 0, 0, 0])), (201, blk g201 106 (ws KS))]) (fun x => x ≤ 64) (fun x => 64 - x) (0) (by omega) ⟨rfl, ⟨rfl, ⟨rfl, ⟨rfl, ⟨rfl, ⟨rfl, ⟨rfl, ⟨rfl, ⟨rfl, ⟨rfl, ⟨rfl, ⟨rfl, ⟨rfl, trivial⟩⟩⟩⟩⟩⟩⟩⟩⟩⟩⟩⟩⟩ ⟨rfl, ⟨rfl, ⟨rfl, ⟨rfl, trivial⟩⟩⟩⟩ (fun x hx => ?_)
      have hsl := sch_length b 0 64
      refine W_seq ?_
      refine W.pre (K' := [(2, _), (4, _), (8, _), (9, _), (10, _), (11, _), (12, _), (13, _), (14, _), (15, _), (16, _), (106, _), (107, _)]) (L' := [(0, _), (101, _), (102, _), (201, _)]) ?_ ⟨rfl, ⟨rfl, ⟨rfl, ⟨rfl, ⟨rfl, ⟨rfl, ⟨rfl, ⟨rfl, ⟨rfl, ⟨rfl, ⟨rfl, ⟨rfl, ⟨rfl, trivial⟩⟩⟩⟩⟩⟩⟩⟩⟩⟩⟩⟩⟩ ⟨rfl, ⟨rfl, ⟨rfl, ⟨rfl, trivial⟩⟩⟩⟩
      refine W_regL (WL_pure rfl rfl (by decide) (Pu_bin rfl rfl rfl (run_lss _ _ _ _ _ _)) (WL_nil (X_then ?_)))
      refine W_seq ?_
      refine W_cond rfl (fun hc108 => ?_) (fun hc108 => ?_)
      ·
        have hlt : x < 64 := by have := of_decide_eq_true hc108; omega
        refine W_skip (X_then ?_)
        refine W_seq ?_
        refine W_block ?_
        refine W_seq ?_
        refine W.pre (K' := [(2, _), (4, _), (8, _), (9, _), (10, _), (11, _), (12, _), (13, _), (14, _), (15, _), (16, _), (106, _), (107, _), (108, _)]) (L' := [(0, _), (101, _), (102, _), (201, _)]) ?_ ⟨rfl, ⟨rfl, ⟨rfl, ⟨rfl, ⟨rfl, ⟨rfl, ⟨rfl, ⟨rfl, ⟨rfl, ⟨rfl, ⟨rfl, ⟨rfl, ⟨rfl, ⟨rfl, trivial⟩⟩⟩⟩⟩⟩⟩⟩⟩⟩⟩⟩⟩⟩ ⟨rfl, ⟨rfl, ⟨rfl, ⟨rfl, trivial⟩⟩⟩⟩
        refine W_regL (WL_pure rfl rfl (by decide) (Pu_move rfl rfl) (WL_pure rfl rfl (by decide) (Pu_index rfl Tryz.runUnderlying106 Tryz.sizeOf105 Tryz.isAgg105 rfl rfl (by omega) (ws_atI (k := x) (by omega) (by omega))) (WL_pure rfl rfl (by decide) (Pu_assign rfl rfl) (WL_pure rfl rfl (by decide) (Pu_assign rfl rfl) (WL_nil (X_then ?_))))))
        refine W_seq ?_
        refine W.pre (K' := [(2, _), (4, _), (8, _), (9, _), (10, _), (11, _), (12, _), (13, _), (14, _), (15, _), (16, _), (17, _), (18, _), (106, _), (107, _), (108, _)]) (L' := [(0, _), (101, _), (102, _), (201, _)]) ?_ ⟨rfl, ⟨rfl, ⟨rfl, ⟨rfl, ⟨rfl, ⟨rfl, ⟨rfl, ⟨rfl, ⟨rfl, ⟨rfl, ⟨rfl, ⟨rfl, ⟨rfl, ⟨rfl, ⟨rfl, ⟨rfl, trivial⟩⟩⟩⟩⟩⟩⟩⟩⟩⟩⟩⟩⟩⟩⟩⟩ ⟨rfl, ⟨rfl, ⟨rfl, ⟨rfl, trivial⟩⟩⟩⟩
        refine W_draw (N := 20) (by kernel_rfl) rfl [(0, _), (101, _), (102, _), (201, _)] ⟨rfl, ⟨rfl, ⟨rfl, ⟨rfl, trivial⟩⟩⟩⟩ ?_
        refine (AH_take 0 rfl (by kernel_rfl) (by kernel_rfl) (by kernel_rfl) rfl rfl (by decide) (Pu_move rfl rfl) (AH_take 1 rfl (by kernel_rfl) (by kernel_rfl) (by kernel_rfl) rfl rfl (by decide) (Pu_move rfl rfl) (AH_take 4 rfl (by kernel_rfl) (by kernel_rfl) (by kernel_rfl) rfl rfl (by decide) (Pu_move rfl rfl) (AH_take 5 rfl (by kernel_rfl) (by kernel_rfl) (by kernel_rfl) rfl rfl (by decide) (Pu_move rfl rfl) (AH_take 6 rfl (by kernel_rfl) (by kernel_rfl) (by kernel_rfl) rfl rfl (by decide) (Pu_bin rfl rfl rfl (run_andW _ _ _ _ _)) (AH_take 7 rfl (by kernel_rfl) (by kernel_rfl) (by kernel_rfl) rfl rfl (by decide) (Pu_move rfl rfl) (AH_take 8 rfl (by kernel_rfl) (by kernel_rfl) (by kernel_rfl) rfl rfl (by decide) (Pu_un rfl rfl (run_notW _)) (AH_take 9 rfl (by kernel_rfl) (by kernel_rfl) (by kernel_rfl) rfl rfl (by decide) (Pu_move rfl rfl) (AH_take 10 rfl (by kernel_rfl) (by kernel_rfl) (by kernel_rfl) rfl rfl (by decide) (Pu_bin rfl rfl rfl (run_andW _ _ _ _ _)) (AH_take 11 rfl (by kernel_rfl) (by kernel_rfl) (by kernel_rfl) rfl rfl (by decide) (Pu_bin rfl rfl rfl (run_xorW _ _ _ _ _)) (AH_take 13 rfl (by kernel_rfl) (by kernel_rfl) (by kernel_rfl) rfl rfl (by decide) (Pu_move rfl rfl) (AH_take 14 rfl (by kernel_rfl) (by kernel_rfl) (by kernel_rfl) rfl rfl (by decide) (Pu_idxA rfl Tryz.runUnderlying106 Tryz.sizeOf105 rfl rfl (by omega)) (AH_take 15 rfl (by kernel_rfl) (by kernel_rfl) (by kernel_rfl) rfl rfl (by decide) (Pu_loadB (r := 201) rfl Tryz.isAgg105 rfl rfl (ws_at0 (k := x) (by omega) (by rw [KS_length]; omega))) (AH_take 17 rfl (by kernel_rfl) (by kernel_rfl) (by kernel_rfl) rfl rfl (by decide) (Pu_move rfl rfl) (AH_ready [2] (by kernel_rfl) (by decide) ?_)))))))))))))))
        refine AHs_cons rfl rfl rfl (by decide) (OpT_call 300 [0, 101, 102, 201] [] rfl Tryz.call164 rfl rfl rfl (by decide) (by decide) (great1_spec _ _) (fun v113 Ps113 hR113 => ?_)) ?_
        ·
          obtain ⟨rfl, rfl⟩ := hR113
          refine ⟨⟨rfl, ⟨rfl, ⟨rfl, ⟨rfl, trivial⟩⟩⟩⟩, ?_⟩
          refine (AH_take 3 rfl (by kernel_rfl) (by kernel_rfl) (by kernel_rfl) rfl rfl (by decide) (Pu_bin rfl rfl rfl (run_addW _ _ _ _ _)) (AH_take 12 rfl (by kernel_rfl) (by kernel_rfl) (by kernel_rfl) rfl rfl (by decide) (Pu_bin rfl rfl rfl (run_addW _ _ _ _ _)) (AH_take 16 rfl (by kernel_rfl) (by kernel_rfl) (by kernel_rfl) rfl rfl (by decide) (Pu_bin rfl rfl rfl (run_addW _ _ _ _ _)) (AH_take 18 rfl (by kernel_rfl) (by kernel_rfl) (by kernel_rfl) rfl rfl (by decide) (Pu_bin rfl rfl rfl (run_addW _ _ _ _ _)) (AH_take 19 rfl (by kernel_rfl) (by kernel_rfl) (by kernel_rfl) rfl rfl (by decide) (Pu_assign rfl rfl) (AH_done (by kernel_rfl) (X_then ?_)))))))
          refine W_seq ?_
          refine W.pre (K' := [(2, _), (4, _), (8, _), (9, _), (10, _), (11, _), (12, _), (13, _), (14, _), (15, _), (16, _), (17, _), (18, _), (19, _), (106, _), (107, _), (108, _)]) (L' := [(0, _), (101, _), (102, _), (201, _)]) ?_ ⟨rfl, ⟨rfl, ⟨rfl, ⟨rfl, ⟨rfl, ⟨rfl, ⟨rfl, ⟨rfl, ⟨rfl, ⟨rfl, ⟨rfl, ⟨rfl, ⟨rfl, ⟨rfl, ⟨rfl, ⟨rfl, ⟨rfl, trivial⟩⟩⟩⟩⟩⟩⟩⟩⟩⟩⟩⟩⟩⟩⟩⟩⟩ ⟨rfl, ⟨rfl, ⟨rfl, ⟨rfl, trivial⟩⟩⟩⟩
          refine W_regL (WL_pure rfl rfl (by decide) (Pu_move rfl rfl) (WL_cons rfl rfl (by decide) (OpT_call 400 [0, 101, 102, 201] [] rfl Tryz.call165 rfl rfl rfl (by decide) (by decide) (great0_spec _ _) (fun v131 Ps131 hR131 => ?_))))
          obtain ⟨rfl, rfl⟩ := hR131
          refine (WL_pure rfl rfl (by decide) (Pu_move rfl rfl) (WL_pure rfl rfl (by decide) (Pu_move rfl rfl) (WL_pure rfl rfl (by decide) (Pu_bin rfl rfl rfl (run_andW _ _ _ _ _)) (WL_pure rfl rfl (by decide) (Pu_move rfl rfl) (WL_pure rfl rfl (by decide) (Pu_move rfl rfl) (WL_pure rfl rfl (by decide) (Pu_bin rfl rfl rfl (run_andW _ _ _ _ _)) (WL_pure rfl rfl (by decide) (Pu_bin rfl rfl rfl (run_xorW _ _ _ _ _)) (WL_pure rfl rfl (by decide) (Pu_move rfl rfl) (WL_pure rfl rfl (by decide) (Pu_move rfl rfl) (WL_pure rfl rfl (by decide) (Pu_bin rfl rfl rfl (run_andW _ _ _ _ _)) (WL_pure rfl rfl (by decide) (Pu_bin rfl rfl rfl (run_xorW _ _ _ _ _)) (WL_pure rfl rfl (by decide) (Pu_bin rfl rfl rfl (run_addW _ _ _ _ _)) (WL_pure rfl rfl (by decide) (Pu_assign rfl rfl) (WL_nil (X_then ?_)))))))))))))))
          refine W_seq ?_
          refine W.pre (K' := [(2, _), (4, _), (8, _), (9, _), (10, _), (11, _), (12, _), (13, _), (14, _), (15, _), (16, _), (17, _), (18, _), (19, _), (20, _), (106, _), (107, _), (108, _)]) (L' := [(0, _), (101, _), (102, _), (201, _)]) ?_ ⟨rfl, ⟨rfl, ⟨rfl, ⟨rfl, ⟨rfl, ⟨rfl, ⟨rfl, ⟨rfl, ⟨rfl, ⟨rfl, ⟨rfl, ⟨rfl, ⟨rfl, ⟨rfl, ⟨rfl, ⟨rfl, ⟨rfl, ⟨rfl, trivial⟩⟩⟩⟩⟩⟩⟩⟩⟩⟩⟩⟩⟩⟩⟩⟩⟩⟩ ⟨rfl, ⟨rfl, ⟨rfl, ⟨rfl, trivial⟩⟩⟩⟩
          refine W_regL (WL_pure rfl rfl (by decide) (Pu_move rfl rfl) (WL_pure rfl rfl (by decide) (Pu_move rfl rfl) (WL_pure rfl rfl (by decide) (Pu_move rfl rfl) (WL_pure rfl rfl (by decide) (Pu_move rfl rfl) (WL_pure rfl rfl (by decide) (Pu_move rfl rfl) (WL_pure rfl rfl (by decide) (Pu_bin rfl rfl rfl (run_addW _ _ _ _ _)) (WL_pure rfl rfl (by decide) (Pu_assign rfl rfl) (WL_pure rfl rfl (by decide) (Pu_assign rfl rfl) (WL_pure rfl rfl (by decide) (Pu_assign rfl rfl) (WL_pure rfl rfl (by decide) (Pu_assign rfl rfl) (WL_nil (X_then ?_))))))))))))
          refine W.pre (K' := [(2, _), (4, _), (8, _), (9, _), (10, _), (11, _), (12, _), (13, _), (14, _), (15, _), (16, _), (17, _), (18, _), (19, _), (20, _), (106, _), (107, _), (108, _)]) (L' := [(0, _), (101, _), (102, _), (201, _)]) ?_ ⟨rfl, ⟨rfl, ⟨rfl, ⟨rfl, ⟨rfl, ⟨rfl, ⟨rfl, ⟨rfl, ⟨rfl, ⟨rfl, ⟨rfl, ⟨rfl, ⟨rfl, ⟨rfl, ⟨rfl, ⟨rfl, ⟨rfl, ⟨rfl, trivial⟩⟩⟩⟩⟩⟩⟩⟩⟩⟩⟩⟩⟩⟩⟩⟩⟩⟩ ⟨rfl, ⟨rfl, ⟨rfl, ⟨rfl, trivial⟩⟩⟩⟩
          refine W_regL (WL_pure rfl rfl (by decide) (Pu_move rfl rfl) (WL_pure rfl rfl (by decide) (Pu_move rfl rfl) (WL_pure rfl rfl (by decide) (Pu_move rfl rfl) (WL_pure rfl rfl (by decide) (Pu_move rfl rfl) (WL_pure rfl rfl (by decide) (Pu_move rfl rfl) (WL_pure rfl rfl (by decide) (Pu_bin rfl rfl rfl (run_addW _ _ _ _ _)) (WL_pure rfl rfl (by decide) (Pu_assign rfl rfl) (WL_pure rfl rfl (by decide) (Pu_assign rfl rfl) (WL_pure rfl rfl (by decide) (Pu_assign rfl rfl) (WL_pure rfl rfl (by decide) (Pu_assign rfl rfl) (WL_nil (X_block (X_then ?_)))))))))))))
          refine W.pre (K' := [(2, _), (4, _), (8, _), (9, _), (10, _), (11, _), (12, _), (13, _), (14, _), (15, _), (16, _), (17, _), (18, _), (19, _), (20, _), (106, _), (107, _), (108, _)]) (L' := [(0, _), (101, _), (102, _), (201, _)]) ?_ ⟨rfl, ⟨rfl, ⟨rfl, ⟨rfl, ⟨rfl, ⟨rfl, ⟨rfl, ⟨rfl, ⟨rfl, ⟨rfl, ⟨rfl, ⟨rfl, ⟨rfl, ⟨rfl, ⟨rfl, ⟨rfl, ⟨rfl, ⟨rfl, trivial⟩⟩⟩⟩⟩⟩⟩⟩⟩⟩⟩⟩⟩⟩⟩⟩⟩⟩ ⟨rfl, ⟨rfl, ⟨rfl, ⟨rfl, trivial⟩⟩⟩⟩
          refine W_regL (WL_pure rfl rfl (by decide) (Pu_bin rfl rfl rfl (run_add _ _ _ _ _ (by omega))) (WL_pure rfl rfl (by decide) (Pu_move rfl rfl) (WL_nil ?_)))
          exact X_round (x + 1) (by omega) (by omega) ⟨rfl, rfl, rfl, rfl, rfl, rfl, rfl, rfl, rfl, rfl, rfl, rfl, rfl, trivial⟩ ⟨rfl, rfl, rfl, rfl, trivial⟩
        exact AHs_nil
      ·
        obtain rfl : x = 64 := by have := of_decide_eq_false hc108; omega
        obtain ⟨r, hr⟩ : ∃ r, rnds (sch b 0 64) s 64 = r := ⟨_, rfl⟩
        rw [hr]
        refine W_exit (X_then_exit (X_then_exit (X_block_exit (X_then ?_))))
        refine W_seq ?_
        refine W.pre (K' := [(2, _), (4, _), (8, _), (9, _), (10, _), (11, _), (12, _), (13, _), (14, _), (15, _), (16, _), (106, _), (107, _), (108, _)]) (L' := [(0, _), (101, _), (102, _), (201, _)]) ?_ ⟨rfl, ⟨rfl, ⟨rfl, ⟨rfl, ⟨rfl, ⟨rfl, ⟨rfl, ⟨rfl, ⟨rfl, ⟨rfl, ⟨rfl, ⟨rfl, ⟨rfl, ⟨rfl, trivial⟩⟩⟩⟩⟩⟩⟩⟩⟩⟩⟩⟩⟩⟩ ⟨rfl, ⟨rfl, ⟨rfl, ⟨rfl, trivial⟩⟩⟩⟩
        refine W_regL (WL_pure rfl rfl (by decide) (Pu_idxA rfl Tryz.runUnderlying108 Tryz.sizeOf105 rfl rfl (by omega)) (WL_pure rfl rfl (by decide) (Pu_loadB (r := 101) rfl Tryz.isAgg105 rfl rfl rfl) (WL_pure rfl rfl (by decide) (Pu_move rfl rfl) (WL_pure rfl rfl (by decide) (Pu_bin rfl rfl rfl (run_addW _ _ _ _ _)) (WL_pure rfl rfl (by decide) (Pu_idxA rfl Tryz.runUnderlying108 Tryz.sizeOf105 rfl rfl (by omega)) (WL_pure rfl rfl (by decide) (Pu_loadB (r := 101) rfl Tryz.isAgg105 rfl rfl rfl) (WL_pure rfl rfl (by decide) (Pu_move rfl rfl) (WL_pure rfl rfl (by decide) (Pu_bin rfl rfl rfl (run_addW _ _ _ _ _)) (WL_pure rfl rfl (by decide) (Pu_idxA rfl Tryz.runUnderlying108 Tryz.sizeOf105 rfl rfl (by omega)) (WL_pure rfl rfl (by decide) (Pu_loadB (r := 101) rfl Tryz.isAgg105 rfl rfl rfl) (WL_pure rfl rfl (by decide) (Pu_move rfl rfl) (WL_pure rfl rfl (by decide) (Pu_bin rfl rfl rfl (run_addW _ _ _ _ _)) (WL_pure rfl rfl (by decide) (Pu_idxA rfl Tryz.runUnderlying108 Tryz.sizeOf105 rfl rfl (by omega)) (WL_pure rfl rfl (by decide) (Pu_loadB (r := 101) rfl Tryz.isAgg105 rfl rfl rfl) (WL_pure rfl rfl (by decide) (Pu_move rfl rfl) (WL_pure rfl rfl (by decide) (Pu_bin rfl rfl rfl (run_addW _ _ _ _ _)) (WL_pure rfl rfl (by decide) (Pu_idxA rfl Tryz.runUnderlying108 Tryz.sizeOf105 rfl rfl (by omega)) (WL_pure rfl rfl (by decide) (Pu_loadB (r := 101) rfl Tryz.isAgg105 rfl rfl rfl) (WL_pure rfl rfl (by decide) (Pu_move rfl rfl) (WL_pure rfl rfl (by decide) (Pu_bin rfl rfl rfl (run_addW _ _ _ _ _)) (WL_pure rfl rfl (by decide) (Pu_idxA rfl Tryz.runUnderlying108 Tryz.sizeOf105 rfl rfl (by omega)) (WL_pure rfl rfl (by decide) (Pu_loadB (r := 101) rfl Tryz.isAgg105 rfl rfl rfl) (WL_pure rfl rfl (by decide) (Pu_move rfl rfl) (WL_pure rfl rfl (by decide) (Pu_bin rfl rfl rfl (run_addW _ _ _ _ _)) (WL_pure rfl rfl (by decide) (Pu_idxA rfl Tryz.runUnderlying108 Tryz.sizeOf105 rfl rfl (by omega)) (WL_pure rfl rfl (by decide) (Pu_loadB (r := 101) rfl Tryz.isAgg105 rfl rfl rfl) (WL_pure rfl rfl (by decide) (Pu_move rfl rfl) (WL_pure rfl rfl (by decide) (Pu_bin rfl rfl rfl (run_addW _ _ _ _ _)) (WL_pure rfl rfl (by decide) (Pu_idxA rfl Tryz.runUnderlying108 Tryz.sizeOf105 rfl rfl (by omega)) (WL_pure rfl rfl (by decide) (Pu_loadB (r := 101) rfl Tryz.isAgg105 rfl rfl rfl) (WL_pure rfl rfl (by decide) (Pu_move rfl rfl) (WL_pure rfl rfl (by decide) (Pu_bin rfl rfl rfl (run_addW _ _ _ _ _)) (WL_pure rfl rfl (by decide) (Pu_built (cells := ws (addS s r).list) rfl rfl (built8 Tryz.underlying108 (by kernel_rfl) (by kernel_rfl) _ _ _ _ _ _ _ _)) (WL_cons0 rfl rfl (OpT_storeAll (r := 102) rfl Tryz.sizeOf108 rfl rfl rfl rfl rfl (ws_one _) ?_)))))))))))))))))))))))))))))))))))
        refine (WL_nil (X_then ?_))
        refine W_ret ?_
        exact X_ret [] (Ps := []) (resC1 (r := 102) Tryz.results145 rfl Tryz.isAgg108 Tryz.sizeOf108 rfl rfl) rfl (by decide) ⟨by unfold mixS; rw [hr], rfl⟩
end Go.Proofs.YthkdkmaacjpneaaGreatDoor
/- Rows of structs: each so many cells. -/
namespace Go.Proofs.YthkdkmaacjpneaaGreatDoor
open Go.RowKit
set_option linter.unusedVariables false
set_option linter.unusedSimpArgs false
def recC {α : Type} (f : α → List Value) (es : List α) : List Value := (es.map f).flatten
section
variable {α : Type} {f : α → List Value} {S : Nat} {es : List α} {d : α}
theorem recC_append (a b : List α) : recC f (a ++ b) = recC f a ++ recC f b := by simp [recC]
theorem recC_one (x : α) : recC f [x] = f x := by simp [recC]
theorem recC_length (h : ∀ e ∈ es, (f e).length = S) : (recC f es).length = es.length * S := by
  induction es with
  | nil => simp [recC]
  | cons e es ih =>
    have h1 := ih fun x hx => h x (by simp [hx])
    have h2 := h e (by simp)
    simp only [recC, List.map_cons, List.flatten_cons, List.length_append, List.length_cons] at h1 ⊢
    rw [h1, h2, Nat.add_mul]
    omega
theorem getD_split {k : Nat} (hk : k < es.length) : es = es.take k ++ ([es.getD k d] ++ es.drop (k + 1)) := by
  rw [show es.getD k d = es[k] by simp [hk], List.singleton_append, ← List.drop_eq_getElem_cons hk, List.take_append_drop]
theorem getD_mem' {k : Nat} (hk : k < es.length) : es.getD k d ∈ es := by rw [show es.getD k d = es[k] by simp [hk]]; exact List.getElem_mem hk
theorem recC_at (h : ∀ e ∈ es, (f e).length = S) {k j : Nat} (hk : k < es.length) (hj : j < S) : (recC f es)[k * S + j]? = (f (es.getD k d))[j]? := by
  have hx := h _ (getD_mem' (d := d) hk)
  have hl : (recC f (es.take k)).length = k * S := by
    rw [recC_length fun e he => h e (List.mem_of_mem_take he), List.length_take, Nat.min_eq_left (by omega)]
  conv => lhs; rw [getD_split (d := d) hk]
  rw [recC_append, recC_append, recC_one, List.getElem?_append_right (by omega), hl, Nat.add_sub_cancel_left, List.getElem?_append_left (by omega)]
theorem recC_get (h : ∀ e ∈ es, (f e).length = S) {k : Nat} (hk : k < es.length) : ((recC f es).drop (k * S)).take S = f (es.getD k d) := by
  have hx := h _ (getD_mem' (d := d) hk)
  apply List.ext_getElem?
  intro j
  rw [List.getElem?_take]
  split
  · rename_i hj; rw [List.getElem?_drop, recC_at (d := d) h hk hj]
  · rename_i hj; rw [List.getElem?_eq_none (by omega)]
end
/-- A row of structs. -/
def rowR {α : Type} (f : α → List Value) (S : Nat) (e : TypeId) (v : Value) (es : List α) : HP := rowP e S v es.length (recC f es)
abbrev rdR {α : Type} (f : α → List Value) (S : Nat) (v : Value) (es : List α) : HP := rdP S v es.length (recC f es)
theorem rowR_rd {α : Type} {f : α → List Value} {S : Nat} {e : TypeId} {v : Value} {es : List α} : ∀ h, rowR f S e v es h → rdR f S v es h := fun h hr => rowP_rd hr
theorem rowR_of {α : Type} {f : α → List Value} {S : Nat} {e : TypeId} {v : Value} {n : Nat} {xs : List Value} (es : List α) (hn : n = es.length) (hx : xs = recC f es) : rowP e S v n xs = rowR f S e v es := by subst hn; subst hx; rfl
section
variable {P : Program} {E : Env} {n : Nat} {K : Slots} {L : Res} {o : Oper} {C : Value → Res → Prop}
end
end Go.Proofs.YthkdkmaacjpneaaGreatDoor
/- Entries of directories in memory. -/
namespace Go.Proofs.YthkdkmaacjpneaaGreatDoor
open Go.RowKit
set_option linter.unusedVariables false
abbrev Ent := List UInt8 × List UInt8
def entC (nm id : List UInt8) : List Value := sV nm :: bs id
def entF (e : Ent) : List Value := entC e.1 e.2
def Ents (es : List Ent) : Prop := ∀ e ∈ es, e.2.length = 32
def ent0 : Ent := ([], [])
theorem entC_length {nm id : List UInt8} (h : id.length = 32) : (entC nm id).length = 33 := by simp [entC, bs_length, h]
theorem Ents.len {es : List Ent} (h : Ents es) : ∀ e ∈ es, (entF e).length = 33 := fun e he => entC_length (h e he)
theorem Ents.get {es : List Ent} (h : Ents es) {k : Nat} (hk : k < es.length) : (es.getD k ent0).2.length = 32 := h _ (getD_mem' hk)
theorem entC_one (nm id : List UInt8) : ∀ u ∈ entC nm id, u.oneCell' = true := by
  intro u hu
  rcases List.mem_cons.1 hu with rfl | hu
  · rfl
  · exact bs_one id u hu
abbrev rdE (v : Value) (es : List Ent) : HP := rdR entF 33 v es
abbrev rowE (e : TypeId) (v : Value) (es : List Ent) : HP := rowR entF 33 e v es
theorem ent_name {es : List Ent} (h : Ents es) {k : Nat} (hk : k < es.length) : (recC entF es)[k * 33 + 0]? = some (sV (es.getD k ent0).1) := by
  rw [recC_at (d := ent0) h.len hk (by omega)]; rfl
theorem ent_all {es : List Ent} (h : Ents es) {k : Nat} (hk : k < es.length) : ((recC entF es).drop (k * 33)).take 33 = entC (es.getD k ent0).1 (es.getD k ent0).2 := recC_get (d := ent0) h.len hk
end Go.Proofs.YthkdkmaacjpneaaGreatDoor
/- What the program says of its types of elements. -/
namespace Go.Proofs.YthkdkmaacjpneaaGreatDoor.TI
set_option linter.unusedVariables false
theorem hi5 : Tryz.prog.info? 5 = some Tryz.t5 := by kernel_rfl
theorem hz5 : Tryz.t5.zero = some (.int .u8 0) := by kernel_rfl
theorem hs5 : Tryz.t5.size = 1 := by kernel_rfl
theorem hby5 : Tryz.t5.bytes = 1 := by kernel_rfl
theorem hzs5 : (.int .u8 0 : Value).cells.size = 1 := by kernel_rfl
theorem hsm5 : (Tryz.prog.info? 5).map (·.size) = some 1 := by kernel_rfl
theorem hz3 : Tryz.t3.zero = some (.int .i64 0) := by kernel_rfl
theorem hi29 : Tryz.prog.info? 29 = some Tryz.t29 := by kernel_rfl
theorem hz29 : Tryz.t29.zero = some (.agg (bs zeroId).toArray) := by kernel_rfl
theorem hs29 : Tryz.t29.size = 32 := by kernel_rfl
theorem hby29 : Tryz.t29.bytes = 32 := by kernel_rfl
theorem hzs29 : (.agg (bs zeroId).toArray : Value).cells.size = 32 := by kernel_rfl
theorem hi122 : Tryz.prog.info? 122 = some Tryz.t122 := by kernel_rfl
theorem hz122 : Tryz.t122.zero = some (.agg (entC [] zeroId).toArray) := by kernel_rfl
theorem hs122 : Tryz.t122.size = 33 := by kernel_rfl
theorem hby122 : Tryz.t122.bytes = 48 := by kernel_rfl
theorem hzs122 : (.agg (entC [] zeroId).toArray : Value).cells.size = 33 := by kernel_rfl
end Go.Proofs.YthkdkmaacjpneaaGreatDoor.TI
/- What the program says of its types of elements. -/
namespace Go.Proofs.YthkdkmaacjpneaaGreatDoor.TI
end Go.Proofs.YthkdkmaacjpneaaGreatDoor.TI
/- The hash: plain words of the padding and of what is put out. -/
namespace Go.Proofs.YthkdkmaacjpneaaGreatDoor
open Go.RowKit
set_option linter.unusedVariables false
set_option linter.unusedSimpArgs false
def zs8 (k : Nat) : List UInt8 := List.replicate k 0
theorem zs8_length (k : Nat) : (zs8 k).length = k := List.length_replicate
theorem bs_app (a b : List UInt8) : bs (a ++ b) = bs a ++ bs b := by simp [bs]
/-- Bytes put at the front of zeros. -/
theorem over_zeros {p a : List UInt8} {k off : Nat} {rest : List Value} (ho : off = p.length) (hk : a.length ≤ k) : over (bs (p ++ zs8 k) ++ rest) off (bs a) = bs (p ++ a ++ zs8 (k - a.length)) ++ rest := by
  subst ho
  unfold over
  rw [bs_app, List.append_assoc, List.take_left' (bs_length p), bs_length]
  rw [← List.drop_drop, List.drop_left' (bs_length p)]
  have h1 : zs8 k = zs8 a.length ++ zs8 (k - a.length) := by unfold zs8; rw [List.replicate_append_replicate]; congr 1; omega
  rw [h1, bs_app, List.append_assoc, List.drop_left' ((bs_length _).trans (zs8_length _)), bs_app, bs_app]
  simp [List.append_assoc]
theorem set_zero {p : List UInt8} {k off : Nat} {rest : List Value} {x : UInt8} (ho : off = p.length) (hk : 1 ≤ k) : (bs (p ++ zs8 k) ++ rest).set off (bv x) = bs (p ++ [x] ++ zs8 (k - 1)) ++ rest := by
  have h := over_zeros (p := p) (a := [x]) (k := k) (off := off) (rest := rest) ho hk
  rw [show k - 1 = k - [x].length from rfl, ← h]
  exact (over_one _ _ _ (by simp [bs_length, zs8_length]; omega)).symm
def lenAt (n j : Nat) : UInt8 := byte (((n * 8 / 2 ^ (8 * (7 - j)) : Nat)) : Int)
/-- The length's bytes, the last i of them written. -/
def tailB (n zc i : Nat) : List UInt8 := zs8 (zc - i) ++ (lenB n).drop (8 - i)
theorem lenB_length (n : Nat) : (lenB n).length = 8 := by simp [lenB]
theorem lenB_at {n j : Nat} (hj : j < 8) : (lenB n)[j]? = some (lenAt n j) := by
  unfold lenB lenAt
  rw [List.getElem?_map, List.getElem?_range hj]
  show some _ = some _
  congr 1
  apply UInt8.toNat_inj.1
  have := byte_toNat ((n * 8 / 2 ^ (8 * (7 - j)) : Nat) : Int)
  rw [UInt8.toNat_ofNat', Nat.mul_comm 8 n]
  omega
theorem tailB_length {n zc i : Nat} (hi : i ≤ 8) (hz : 8 ≤ zc) : (tailB n zc i).length = zc := by
  unfold tailB
  rw [List.length_append, zs8_length, List.length_drop, lenB_length]
  omega
theorem tailB_zero (n zc : Nat) : tailB n zc 0 = zs8 zc := by
  unfold tailB
  rw [show 8 - 0 = 8 from rfl, List.drop_of_length_le (by rw [lenB_length]; exact Nat.le_refl _), List.append_nil]
  rfl
theorem tailB_set {n zc i : Nat} {p : List UInt8} {off : Nat} {rest : List Value} (hi : i < 8) (hz : 8 ≤ zc) (ho : off = p.length + (zc - 1 - i)) : (bs (p ++ tailB n zc i) ++ rest).set off (bv (lenAt n (7 - i))) = bs (p ++ tailB n zc (i + 1)) ++ rest := by
  have h1 : zs8 (zc - i) = zs8 (zc - (i + 1)) ++ [0] := by
    unfold zs8
    rw [show zc - i = (zc - (i + 1)) + 1 by omega, List.replicate_succ']
  have h2 : (lenB n).drop (8 - (i + 1)) = lenAt n (7 - i) :: (lenB n).drop (8 - i) := by
    rw [show 8 - (i + 1) = 7 - i by omega, show 8 - i = 7 - i + 1 by omega]
    have hlt : 7 - i < (lenB n).length := by rw [lenB_length]; omega
    rw [List.drop_eq_getElem_cons hlt]
    congr 1
    have := lenB_at (n := n) (j := 7 - i) (by omega)
    rw [List.getElem?_eq_getElem hlt] at this
    injection this
  unfold tailB
  rw [h1, h2]
  have e1 : bs (p ++ (zs8 (zc - (i + 1)) ++ [0] ++ (lenB n).drop (8 - i))) ++ rest = (bs (p ++ zs8 (zc - (i + 1)))) ++ (bv 0 :: (bs ((lenB n).drop (8 - i)) ++ rest)) := by simp [bs]
  have e2 : bs (p ++ (zs8 (zc - (i + 1)) ++ lenAt n (7 - i) :: (lenB n).drop (8 - i))) ++ rest = (bs (p ++ zs8 (zc - (i + 1)))) ++ (bv (lenAt n (7 - i)) :: (bs ((lenB n).drop (8 - i)) ++ rest)) := by simp [bs]
  rw [e1, e2, List.set_append_right _ _ (by simp [bs_length, zs8_length]; omega)]
  have e3 : off - (bs (p ++ zs8 (zc - (i + 1)))).length = 0 := by rw [bs_length, List.length_append, zs8_length]; omega
  rw [e3]
  rfl
/-- The whole is the padding. -/
theorem pad_eq {d : List UInt8} {n N : Nat} (hn : d.length = n) (hN : N = (n + 8) / 64 * 64 + 64) : d ++ [128] ++ tailB n (N - n - 1) 8 = padB d ∧ (padB d).length = N := by
  have hl := padB_length d
  refine ⟨?_, by rw [hl, hn, hN]⟩
  unfold padB tailB
  rw [hn, show 8 - 8 = 0 from rfl, List.drop_zero]
  have : N - n - 1 - 8 = padZ n := by unfold padZ; omega
  rw [this]
  unfold zs8
  simp
theorem outB_at {s : S8} {i k : Nat} (hi : i < 8) (hk : k < 4) : (outB s).getD (4 * i + k) 0 = ((s.list.getD i 0) >>> UInt32.ofNat (24 - 8 * k)).toUInt8 := by
  have h0 : ∀ x : UInt32, x >>> UInt32.ofNat 0 = x := fun x => by simp
  have hi' : i = 0 ∨ i = 1 ∨ i = 2 ∨ i = 3 ∨ i = 4 ∨ i = 5 ∨ i = 6 ∨ i = 7 := by omega
  have hk' : k = 0 ∨ k = 1 ∨ k = 2 ∨ k = 3 := by omega
  rcases hi' with rfl | rfl | rfl | rfl | rfl | rfl | rfl | rfl <;> rcases hk' with rfl | rfl | rfl | rfl <;> first | rfl | (show _ = (_ >>> UInt32.ofNat 0).toUInt8; rw [h0]; rfl)
def outZ (s : S8) (q : Nat) : List UInt8 := (outB s).take q ++ zs8 (32 - q)
theorem outZ_length {s : S8} {q : Nat} (h : q ≤ 32) : (outZ s q).length = 32 := by unfold outZ; rw [List.length_append, List.length_take, outB_length, zs8_length]; omega
theorem outZ_full (s : S8) : outZ s 32 = outB s := by
  unfold outZ
  rw [List.take_of_length_le (by rw [outB_length]; exact Nat.le_refl _)]
  exact List.append_nil _
theorem outZ_set {s : S8} {i k off : Nat} (hi : i < 8) (hk : k < 4) (ho : off = 4 * i + k) : (bs (outZ s (4 * i + k))).set off (bv ((s.list.getD i 0) >>> UInt32.ofNat (24 - 8 * k)).toUInt8) = bs (outZ s (4 * i + k + 1)) := by
  subst ho
  rw [← outB_at hi hk]
  have hq : 4 * i + k < (outB s).length := by rw [outB_length]; omega
  have e : outZ s (4 * i + k) = (outB s).take (4 * i + k) ++ (0 :: zs8 (32 - (4 * i + k + 1))) := by
    unfold outZ zs8
    rw [show 32 - (4 * i + k) = (32 - (4 * i + k + 1)) + 1 by omega, List.replicate_succ]
  have e2 : outZ s (4 * i + k + 1) = (outB s).take (4 * i + k) ++ ((outB s).getD (4 * i + k) 0 :: zs8 (32 - (4 * i + k + 1))) := by
    unfold outZ
    rw [List.take_succ_eq_append_getElem hq, List.append_assoc]
    congr 1
    rw [List.getD_eq_getElem?_getD, List.getElem?_eq_getElem hq]
    rfl
  rw [e, e2, bs_app, bs_app, List.set_append_right _ _ (by rw [bs_length, List.length_take]; omega)]
  congr 1
  rw [bs_length, List.length_take, show 4 * i + k - min (4 * i + k) (outB s).length = 0 by omega]
  rfl
/-- A piece of what is padded. -/
theorem piece {d : List UInt8} {p : Nat} {s : S8} (h : p + 64 ≤ d.length) : mixS ((d.drop p).take 64) 0 s = mixS d p s ∧ ((d.drop p).take 64).length = 64 := by
  refine ⟨mixS_at fun j hj => ?_, by rw [List.length_take, List.length_drop]; omega⟩
  unfold at0
  rw [List.getD_eq_getElem?_getD, List.getD_eq_getElem?_getD, Nat.zero_add, List.getElem?_take, if_pos hj, List.getElem?_drop]
end Go.Proofs.YthkdkmaacjpneaaGreatDoor
/- Symbolic states: ways that meet again, gone on from once. -/
namespace Go.Proofs.YthkdkmaacjpneaaGreatDoor
open Go.RowKit
set_option linter.unusedVariables false
section
variable {P : Program} {E : Env} {n : Nat} {K : Slots} {L : Res} {Q : Exit → Act → World → Prop}
/-- What stands between two pieces of code. -/
theorem W_cut {x y : Code} {α : Type} (Kf : α → Slots) (Lf : α → Res) (φ : α → Prop) (h1 : W P E n x K L (Exit.then (fun a w => ∃ z, φ z ∧ Agr n (Kf z) a ∧ Sat E (Lf z) w) Q)) (h2 : ∀ z, φ z → W P E n y (Kf z) (Lf z) Q) : W P E n (.seq x y) K L Q := fun a w hA hS =>
  wp_seq (Code.wp_mono (fun e a' w' hq => by
    cases e with
    | normal => obtain ⟨z, z1, z2, z3⟩ := hq; exact h2 z z1 a' w' z2 z3
    | _ => exact hq) (h1 a w hA hS))
theorem X_cut {α : Type} {Kf : α → Slots} {Lf : α → Res} {φ : α → Prop} (z : α) (hz : φ z) (hK : AllIn K (Kf z)) (hL : AllIn L (Lf z)) : X E n (Exit.then (fun a w => ∃ z, φ z ∧ Agr n (Kf z) a ∧ Sat E (Lf z) w) Q) .normal K L := fun a w hA hS => ⟨z, hz, hA.sub hK.look, hS.sub hL.look⟩
end
end Go.Proofs.YthkdkmaacjpneaaGreatDoor
/- Lists of ids: plain words. -/
namespace Go.Proofs.YthkdkmaacjpneaaGreatDoor
set_option linter.unusedVariables false
set_option linter.unusedSimpArgs false
theorem idsC_take {l : List (List UInt8)} (h : Ids l) (i : Nat) : (idsC l).take (i * 32) = idsC (l.take i) := by
  rcases Nat.lt_or_ge l.length i with hi | hi
  · rw [List.take_of_length_le (by rw [idsC_length h]; omega), List.take_of_length_le (by omega)]
  · have hl : (idsC (l.take i)).length = i * 32 := by rw [idsC_length (h.take i), List.length_take, Nat.min_eq_left hi]
    have e : idsC l = idsC (l.take i) ++ idsC (l.drop i) := by rw [← idsC_append, List.take_append_drop]
    rw [e, ← hl, List.take_left]
theorem idsC_drop {l : List (List UInt8)} (h : Ids l) (i : Nat) : (idsC l).drop (i * 32) = idsC (l.drop i) := by
  rcases Nat.lt_or_ge l.length i with hi | hi
  · rw [List.drop_of_length_le (by rw [idsC_length h]; omega), List.drop_of_length_le (by omega)]; rfl
  · have hl : (idsC (l.take i)).length = i * 32 := by rw [idsC_length (h.take i), List.length_take, Nat.min_eq_left hi]
    have e : idsC l = idsC (l.take i) ++ idsC (l.drop i) := by rw [← idsC_append, List.take_append_drop]
    rw [e, ← hl, List.drop_left]
theorem Ids.drop {l : List (List UInt8)} (h : Ids l) (i : Nat) : Ids (l.drop i) := fun x hx => h x (List.mem_of_mem_drop hx)
theorem int_eq {k : IntKind} {a b : Int} (h : a = b) : Value.int k a = Value.int k b := by rw [h]
theorem Ids.set {l : List (List UInt8)} (h : Ids l) {i : Nat} {x : List UInt8} (hx : x.length = 32) : Ids (l.set i x) := fun y hy => by
  rcases List.mem_or_eq_of_mem_set hy with h' | rfl
  · exact h y h'
  · exact hx
theorem zeroId_length : zeroId.length = 32 := rfl
/-- Where a key stands. -/
def idxI (k : List UInt8) (l : List (List UInt8)) : Int := match l.findIdx? (fun y => k == y) with
  | some i => i
  | none => -1
/-- The first i and the last i changed. -/
def revTo (l : List (List UInt8)) (i : Nat) : List (List UInt8) := (List.range l.length).map fun k => if k < i ∨ l.length ≤ k + i then l.getD (l.length - 1 - k) [] else l.getD k []
section
variable {P : Program} {E : Env} {n : Nat} {K : Slots} {L : Res} {o : Oper}
theorem Pu_lenK {t e : TypeId} {x : Operand} {A : Option Addr} {m c : Nat} (ho : o.op = .call { callee := .builtin .len, args := #[x], argTypes := #[t] }) (hu : ∀ w, (underlying t).run P w = .ok (.slice e) w) (hx : evK K x = some (.slice A m c)) : Pure P E n o K L (.int .i64 (m : Int)) := fun a w hA hS => by
  simp [execOp, ho, resolve, invoke, builtin, hA.eval hx, Builtin.len_, hu, goInt]
end
end Go.Proofs.YthkdkmaacjpneaaGreatDoor
/- The hash: rules for its walk. -/
namespace Go.Proofs.YthkdkmaacjpneaaGreatDoor
open Go.RowKit
set_option linter.unusedVariables false
set_option linter.unusedSimpArgs false
section
variable {P : Program} {E : Env} {n : Nat} {K : Slots} {L : Res} {o : Oper} {Q : Exit → Act → World → Prop} {ex : Exit}
theorem X_openRow (r : Nat) {e : TypeId} {size : Nat} {v : Value} {m : Nat} {xs : List Value} (hr : look L r = some (rowP e size v m xs)) (hm : 0 < m)
    (k : ∀ g cap cs, v = .slice (some ⟨g, 0, none⟩) m cap → m ≤ cap → cap ≤ maxLen → cs.length = cap * size → cs.take (m * size) = xs → X E n Q ex K ((r, blk g e cs) :: L)) : X E n Q ex K L := fun a w hA hS => by
  obtain ⟨q, hS2⟩ := hS.ex hr (fun h hp => rowP_open hp hm)
  obtain ⟨h1, h2, h3, h4, h5⟩ : v = .slice (some ⟨q.1, 0, none⟩) m q.2.1 ∧ m ≤ q.2.1 ∧ q.2.1 ≤ maxLen ∧ q.2.2.length = q.2.1 * size ∧ q.2.2.take (m * size) = xs := hS2.get (look_same _ _ _) fun h hp => ⟨hp.1, hp.2.1, hp.2.2.1, hp.2.2.2.1, hp.2.2.2.2.1⟩
  have hS3 := hS2.cons (P' := blk q.1 e q.2.2) (look_same _ _ _) fun h hp => hp.2.2.2.2.2
  refine k q.1 q.2.1 q.2.2 h1 h2 h3 h4 h5 a w hA (hS3.sub fun r' P' h => ?_)
  by_cases hrr : r = r'
  · subst hrr; rw [look_same] at h ⊢; exact h
  · rw [look_other hrr] at h; rw [look_other hrr, look_other hrr]; exact h
end
theorem copy_front {p a : List UInt8} {k off m : Nat} {rest : List Value} (ho : off = p.length) (hk : a.length ≤ k) (hm : a.length ≤ m) : over (bs (p ++ zs8 k) ++ rest) off ((bs a).take (min a.length m)) = bs (p ++ a ++ zs8 (k - a.length)) ++ rest := by
  rw [Nat.min_eq_left hm, List.take_of_length_le (by rw [bs_length]; exact Nat.le_refl _)]
  exact over_zeros ho hk
theorem lenAt_rev {n i : Nat} (hi : i ≤ 7) : lenAt n (7 - i) = byte (((n * 8 / 2 ^ (8 * i) : Nat)) : Int) := by
  unfold lenAt
  rw [show 7 - (7 - i) = i by omega]
theorem tailB_step {n zc i : Nat} {p : List UInt8} {off : Nat} {rest : List Value} (hi : i < 8) (hz : 8 ≤ zc) (ho : off = p.length + (zc - 1 - i)) : (bs (p ++ tailB n zc i) ++ rest).set off (bv (byte (((n * 8 / 2 ^ (8 * i) : Nat)) : Int))) = bs (p ++ tailB n zc (i + 1)) ++ rest := by
  rw [← lenAt_rev (n := n) (i := i) (by omega)]
  exact tailB_set hi hz ho
theorem piece_rd {g p c : Nat} {T : TypeId} {d : List UInt8} {rest : List Value} {h : Hlt} (hb : blk g T (bs d ++ rest) h) (hp : p + 64 ≤ d.length) (hc : 64 ≤ c) : rdB (.slice (some ⟨g, p * 1, none⟩) (p + 64 - p) c) ((d.drop p).take 64) h := by
  have hl := (piece (s := S8.of HS) hp).2
  have hx : ((bs d ++ rest).drop (p * 1)).take (64 * 1) = bs ((d.drop p).take 64) := by
    rw [Nat.mul_one, Nat.mul_one, List.drop_append_of_le_length (by rw [bs_length]; omega), List.take_append_of_le_length (by rw [List.length_drop, bs_length]; omega)]
    unfold bs
    rw [List.map_take, List.map_drop]
  have := blk_rd (size := 1) (m := 64) (c := c) hb hx (by rw [bs_length, hl]) hc
  rw [show p + 64 - p = 64 by omega]
  exact rdP_cast this rfl hl.symm
end Go.Proofs.YthkdkmaacjpneaaGreatDoor
/- The hash of bytes. -/
namespace Go.Proofs.YthkdkmaacjpneaaGreatDoor
open Go.RowKit
set_option linter.unusedVariables false
set_option linter.unusedSimpArgs false
set_option maxRecDepth 8000
set_option maxHeartbeats 2000000 in
theorem pair_spec (va vb : Value) (a b : List UInt8) (hla : a.length ≤ 1000000000) (hlb : b.length ≤ 1000000000) (F : HP) (hFa : ∀ h, F h → rdB va a h) (hFb : ∀ h, F h → rdB vb b h) : CallsS Tryz.prog 109 #[va, vb] F [] (fun r Ps => r = idV (sha (a ++ b)) ∧ Ps = []) := by
  refine callsS_enter Tryz.func109 rfl Tryz.ntmps109 (by simp) (fun E => ?_)
  refine W_seq ?_
  refine W.pre (K' := [(0, _), (1, _)]) (L' := [(0, _)]) ?_ ⟨rfl, ⟨rfl, trivial⟩⟩ ⟨rfl, trivial⟩
  refine W_regL (WL_cons rfl rfl (by decide) (OpT_alloc (r := 101) (cs := (bs zeroId)) rfl (zero_run (by kernel_rfl : (Tryz.prog.info? 29).bind (·.zero) = some (.agg (bs zeroId).toArray))) rfl (fun g101 => (WL_nil (X_then ?_)))))
  refine W_seq ?_
  refine W.pre (K' := [(0, _), (1, _), (4, _)]) (L' := [(0, _), (101, _)]) ?_ ⟨rfl, ⟨rfl, ⟨rfl, trivial⟩⟩⟩ ⟨rfl, ⟨rfl, trivial⟩⟩
  refine W_regL (WL_pure rfl rfl (by decide) (Pu_move rfl rfl) (WL_pure rfl rfl (by decide) (Pu_len (r := 0) rfl Tryz.runUnderlying36 rfl rfl hFa) (WL_pure rfl rfl (by decide) (Pu_move rfl rfl) (WL_pure rfl rfl (by decide) (Pu_len (r := 0) rfl Tryz.runUnderlying36 rfl rfl hFb) (WL_pure rfl rfl (by decide) (Pu_bin rfl rfl rfl (run_add _ _ _ _ _ (by omega))) ?_)))))
  obtain ⟨n, hn⟩ : ∃ n, a.length + b.length = n := ⟨_, rfl⟩
  rw [show (a.length : Int) + (b.length : Int) = (n : Int) by omega]
  refine (WL_pure rfl rfl (by decide) (Pu_assign rfl rfl) (WL_nil (X_then ?_)))
  refine W_seq ?_
  refine W.pre (K' := [(0, _), (1, _), (4, _), (5, _)]) (L' := [(0, _), (101, _)]) ?_ ⟨rfl, ⟨rfl, ⟨rfl, ⟨rfl, trivial⟩⟩⟩⟩ ⟨rfl, ⟨rfl, trivial⟩⟩
  refine W_regL (WL_cons rfl rfl (by decide) (OpT_alloc (r := 102) (cs := (bs (zs8 128))) rfl (zero_run (by kernel_rfl : (Tryz.prog.info? 216).bind (·.zero) = some (.agg (bs (zs8 128)).toArray))) rfl (fun g102 => (WL_nil (X_then ?_)))))
  refine W_seq ?_
  refine W.pre (K' := [(0, _), (1, _), (4, _), (5, _), (6, _)]) (L' := [(0, _), (101, _), (102, _)]) ?_ ⟨rfl, ⟨rfl, ⟨rfl, ⟨rfl, ⟨rfl, trivial⟩⟩⟩⟩⟩ ⟨rfl, ⟨rfl, ⟨rfl, trivial⟩⟩⟩
  refine W_regL (WL_pure rfl rfl (by decide) (Pu_sliceArr rfl Tryz.runUnderlying216 Tryz.sizeOf5 rfl) (WL_pure rfl rfl (by decide) (Pu_assign rfl rfl) (WL_nil (X_then ?_))))
  obtain ⟨N, hN⟩ : ∃ N, N = (n + 8) / 64 * 64 + 64 := ⟨_, rfl⟩
  refine W_cut (α := Nat × TypeId × List Value) (fun z => [(0, va), (1, vb), (4, .pointer (some ⟨g101, 0, none⟩)), (5, .int .i64 (n : Int)), (7, .slice (some ⟨z.1, 0, none⟩) N (N + z.2.2.length))]) (fun z => [(0, F), (101, blk g101 29 (bs zeroId)), (150, blk z.1 z.2.1 (bs (zs8 N) ++ z.2.2))]) (fun z => True) ?_ (fun z hz => ?_)
  ·
    refine W_seq ?_
    refine W.pre (K' := [(0, _), (1, _), (4, _), (5, _), (6, _), (7, _)]) (L' := [(0, _), (101, _), (102, _)]) ?_ ⟨rfl, ⟨rfl, ⟨rfl, ⟨rfl, ⟨rfl, ⟨rfl, trivial⟩⟩⟩⟩⟩⟩ ⟨rfl, ⟨rfl, ⟨rfl, trivial⟩⟩⟩
    refine W_regL (WL_pure rfl rfl (by decide) (Pu_move rfl rfl) (WL_pure rfl rfl (by decide) (Pu_bin rfl rfl rfl (run_add _ _ _ _ _ (by omega))) (WL_pure rfl rfl (by decide) (Pu_bin rfl rfl rfl (run_quo _ _ _ _ _ (by omega))) (WL_pure rfl rfl (by decide) (Pu_bin rfl rfl rfl (run_mul _ _ _ _ _ (by omega))) (WL_pure rfl rfl (by decide) (Pu_bin rfl rfl rfl (run_add _ _ _ _ _ (by omega))) ?_)))))
    rw [show ((n : Int) + 8) / 64 * 64 + 64 = (N : Int) by omega]
    refine (WL_pure rfl rfl (by decide) (Pu_assign rfl rfl) (WL_nil (X_then ?_)))
    refine W_seq ?_
    refine W.pre (K' := [(0, _), (1, _), (4, _), (5, _), (6, _), (7, _), (8, _)]) (L' := [(0, _), (101, _), (102, _)]) ?_ ⟨rfl, ⟨rfl, ⟨rfl, ⟨rfl, ⟨rfl, ⟨rfl, ⟨rfl, trivial⟩⟩⟩⟩⟩⟩⟩ ⟨rfl, ⟨rfl, ⟨rfl, trivial⟩⟩⟩
    refine W_regL (WL_pure rfl rfl (by decide) (Pu_move rfl rfl) (WL_pure rfl rfl (by decide) (Pu_move rfl rfl) (WL_pure rfl rfl (by decide) (Pu_lenK rfl Tryz.runUnderlying36 rfl) (WL_pure rfl rfl (by decide) (Pu_bin rfl rfl rfl (run_leq _ _ _ _ _ _)) (WL_nil (X_then ?_))))))
    refine W_cond rfl (fun hc30 => ?_) (fun hc30 => ?_)
    ·
      have hle : N ≤ 128 := by have := of_decide_eq_true hc30; omega
      refine W.pre (K' := [(0, _), (1, _), (4, _), (5, _), (6, _), (7, _), (8, _), (30, _)]) (L' := [(0, _), (101, _), (102, _)]) ?_ ⟨rfl, ⟨rfl, ⟨rfl, ⟨rfl, ⟨rfl, ⟨rfl, ⟨rfl, ⟨rfl, trivial⟩⟩⟩⟩⟩⟩⟩⟩ ⟨rfl, ⟨rfl, ⟨rfl, trivial⟩⟩⟩
      refine W_regL (WL_pure rfl rfl (by decide) (Pu_move rfl rfl) (WL_pure rfl rfl (by decide) (Pu_move rfl rfl) (WL_pure rfl rfl (by decide) (Pu_sliceK (a := 0) (b := N) rfl Tryz.runUnderlying36 Tryz.sizeOf5 rfl (.inl ⟨rfl, rfl⟩) (.inr ⟨_, _, _, rfl, rfl, rfl⟩) (Nat.zero_le _) (by omega) (by omega)) (WL_pure rfl rfl (by decide) (Pu_assign rfl rfl) (WL_nil ?_)))))
      refine X_turn (P' := blk g102 216 (bs (zs8 N) ++ bs (zs8 (128 - N)))) 102 rfl (fun h hp => by rw [← bs_app, show zs8 N ++ zs8 (128 - N) = zs8 128 by unfold zs8; rw [List.replicate_append_replicate, show N + (128 - N) = 128 by omega]]; exact hp) ?_
      refine X_ren 102 150 rfl ?_
      exact X_cut (g102, 216, bs (zs8 (128 - N))) trivial ⟨rfl, rfl, rfl, rfl, lookV_eq rfl (by rw [bs_length, zs8_length, show N + (128 - N) = 128 by omega]; rfl), trivial⟩ ⟨rfl, rfl, rfl, trivial⟩
    ·
      refine W.pre (K' := [(0, _), (1, _), (4, _), (5, _), (6, _), (7, _), (8, _), (30, _)]) (L' := [(0, _), (101, _), (102, _)]) ?_ ⟨rfl, ⟨rfl, ⟨rfl, ⟨rfl, ⟨rfl, ⟨rfl, ⟨rfl, ⟨rfl, trivial⟩⟩⟩⟩⟩⟩⟩⟩ ⟨rfl, ⟨rfl, ⟨rfl, trivial⟩⟩⟩
      refine W_regL (WL_pure rfl rfl (by decide) (Pu_move rfl rfl) (WL_cons rfl rfl (by decide) (OpT_make (r := 103) (m := N) rfl Tryz.underlying36 TI.hi5 TI.hz5 TI.hs5 rfl rfl (by rw [TI.hby5]; omega) (by unfold maxLen; omega) ((made_one _ _).trans (made_bytes N)) (fun v35 => ?_))))
      skip
      refine (WL_pure rfl rfl (by decide) (Pu_assign rfl rfl) (WL_nil ?_))
      refine X_openRow 103 rfl (by omega) (fun g cap cs hv hmc _ hcl hct => ?_)
      rw [Nat.mul_one] at hcl hct
      refine X_turn (P' := blk g 5 (bs (zs8 N) ++ cs.drop N)) 103 rfl (fun h hp => by rw [show bs (zs8 N) ++ cs.drop N = cs by rw [show bs (zs8 N) = cs.take N from hct.symm, List.take_append_drop]]; exact hp) ?_
      refine X_ren 103 150 rfl ?_
      exact X_cut (g, 5, cs.drop N) trivial ⟨rfl, rfl, rfl, rfl, lookV_eq rfl (by rw [hv, List.length_drop, hcl, show N + (cap - N) = cap by omega]), trivial⟩ ⟨rfl, rfl, rfl, trivial⟩
  ·
    obtain ⟨g, T, rest⟩ := z
    have hnN : n + 9 ≤ N := by omega
    obtain ⟨cap, hcap⟩ : ∃ c, N + rest.length = c := ⟨_, rfl⟩
    refine W.pre (K' := [(0, va), (1, vb), (4, .pointer (some ⟨g101, 0, none⟩)), (5, .int .i64 (n : Int)), (7, .slice (some ⟨g, 0, none⟩) N cap)]) (L' := [(0, F), (101, blk g101 29 (bs zeroId)), (150, blk g T (bs (zs8 N) ++ rest))]) ?_ ⟨rfl, rfl, rfl, rfl, lookV_eq rfl (by rw [← hcap]), trivial⟩ ⟨rfl, rfl, rfl, trivial⟩
    refine W_seq ?_
    refine W.pre (K' := [(0, _), (1, _), (4, _), (5, _), (7, _)]) (L' := [(0, _), (101, _), (150, _)]) ?_ ⟨rfl, ⟨rfl, ⟨rfl, ⟨rfl, ⟨rfl, trivial⟩⟩⟩⟩⟩ ⟨rfl, ⟨rfl, ⟨rfl, trivial⟩⟩⟩
    refine W_regL (WL_pure rfl rfl (by decide) (Pu_move rfl rfl) (WL_pure rfl rfl (by decide) (Pu_move rfl rfl) (WL_pure rfl rfl (by decide) (Pu_move rfl rfl) (WL_cons rfl rfl (by decide) (OpT_copyB (r := 150) (r2 := 0) (cs' := bs ([] ++ a ++ zs8 (N - a.length)) ++ rest) rfl Tryz.underlying36 TI.hsm5 rfl rfl rfl rfl hFa (bs_one _) (by simp [bs_length, zs8_length]; omega) (copy_front (p := []) rfl (by omega) (by omega)) ?_)))))
    rw [Nat.min_eq_left (show a.length ≤ N by omega)]
    refine (WL_pure rfl rfl (by decide) (Pu_sliceK (a := a.length) (b := N) rfl Tryz.runUnderlying36 Tryz.sizeOf5 rfl (.inr ⟨_, _, _, rfl, rfl, rfl⟩) (.inl ⟨rfl, rfl⟩) (by omega) (by omega) (by omega)) (WL_pure rfl rfl (by decide) (Pu_move rfl rfl) (WL_cons rfl rfl (by decide) (OpT_copyB (r := 150) (r2 := 0) (cs' := bs (([] ++ a) ++ b ++ zs8 (N - a.length - b.length)) ++ rest) rfl Tryz.underlying36 TI.hsm5 rfl rfl rfl rfl hFb (bs_one _) (by simp [bs_length, zs8_length]; omega) (copy_front (p := [] ++ a) (by simp) (by omega) (by omega)) ?_))))
    refine (WL_nil (X_then ?_))
    refine W_seq ?_
    refine W.pre (K' := [(0, _), (1, _), (4, _), (5, _), (7, _)]) (L' := [(0, _), (101, _), (150, _)]) ?_ ⟨rfl, ⟨rfl, ⟨rfl, ⟨rfl, ⟨rfl, trivial⟩⟩⟩⟩⟩ ⟨rfl, ⟨rfl, ⟨rfl, trivial⟩⟩⟩
    obtain ⟨d, hd⟩ : ∃ d, a ++ b = d := ⟨_, rfl⟩
    have hdn : d.length = n := by rw [← hd, List.length_append]; exact hn
    refine W_turn (P' := blk g T (bs (d ++ zs8 (N - n)) ++ rest)) 150 rfl (fun h hp => by rw [← hd, show N - n = N - a.length - b.length by omega]; exact hp) ?_
    obtain ⟨hpad, hpl⟩ := pad_eq hdn hN
    refine W_regL (WL_pure rfl rfl (by decide) (Pu_move rfl rfl) (WL_pure rfl rfl (by decide) (Pu_move rfl rfl) (WL_pure rfl rfl (by decide) (Pu_idxK (r := 150) rfl Tryz.runUnderlying36 Tryz.sizeOf5 rfl rfl rfl (by simp [bs_length, zs8_length]; omega) (by omega) (by omega)) (WL_cons0 rfl rfl (OpT_storeB1 (r := 150) rfl Tryz.sizeOf5 rfl rfl rfl rfl (by simp [bs_length, zs8_length]; omega) (set_zero (x := 128) (by rw [hdn]; omega) (by omega)) ?_)))))
    refine (WL_nil (X_then ?_))
    refine W_seq ?_
    refine W_seq ?_
    refine W.pre (K' := [(0, _), (1, _), (4, _), (5, _), (7, _)]) (L' := [(0, _), (101, _), (150, _)]) ?_ ⟨rfl, ⟨rfl, ⟨rfl, ⟨rfl, ⟨rfl, trivial⟩⟩⟩⟩⟩ ⟨rfl, ⟨rfl, ⟨rfl, trivial⟩⟩⟩
    refine W_regL (WL_pure rfl rfl (by decide) (Pu_move rfl rfl) (WL_nil (X_then ?_)))
    refine W_block ?_
    refine W_turn (P' := blk g T (bs (d ++ [128] ++ tailB n (N - n - 1) 0) ++ rest)) 150 rfl (fun h hp => by rw [tailB_zero]; exact hp) ?_
    refine W_loop (α := Nat) (fun x => [(4, .pointer (some ⟨g101, 0, none⟩)), (5, .int .i64 (n : Int)), (7, .slice (some ⟨g, 0, none⟩) N cap), (46, .int .i64 (x : Int))]) (fun x => [(0, F), (101, blk g101 29 (bs zeroId)), (150, blk g T (bs (d ++ [128] ++ tailB n (N - n - 1) x) ++ rest))]) (fun x => x ≤ 8) (fun x => 8 - x) (0) (by omega) ⟨rfl, ⟨rfl, ⟨rfl, ⟨rfl, trivial⟩⟩⟩⟩ ⟨rfl, ⟨rfl, ⟨rfl, trivial⟩⟩⟩ (fun x hx => ?_)
    have htl := tailB_length (n := n) (zc := N - n - 1) hx (by omega)
    refine W_seq ?_
    refine W.pre (K' := [(4, _), (5, _), (7, _), (46, _)]) (L' := [(0, _), (101, _), (150, _)]) ?_ ⟨rfl, ⟨rfl, ⟨rfl, ⟨rfl, trivial⟩⟩⟩⟩ ⟨rfl, ⟨rfl, ⟨rfl, trivial⟩⟩⟩
    refine W_regL (WL_pure rfl rfl (by decide) (Pu_bin rfl rfl rfl (run_lss _ _ _ _ _ _)) (WL_nil (X_then ?_)))
    refine W_seq ?_
    refine W_cond rfl (fun hc47 => ?_) (fun hc47 => ?_)
    ·
      have hlt : x < 8 := by have := of_decide_eq_true hc47; omega
      refine W_skip (X_then ?_)
      refine W_seq ?_
      refine W_block ?_
      refine W_seq ?_
      refine W.pre (K' := [(4, _), (5, _), (7, _), (46, _), (47, _)]) (L' := [(0, _), (101, _), (150, _)]) ?_ ⟨rfl, ⟨rfl, ⟨rfl, ⟨rfl, ⟨rfl, trivial⟩⟩⟩⟩⟩ ⟨rfl, ⟨rfl, ⟨rfl, trivial⟩⟩⟩
      refine W_regL (WL_pure rfl rfl (by decide) (Pu_move rfl rfl) (WL_pure rfl rfl (by decide) (Pu_assign rfl rfl) (WL_nil (X_then ?_))))
      refine W.pre (K' := [(4, _), (5, _), (7, _), (9, _), (46, _), (47, _)]) (L' := [(0, _), (101, _), (150, _)]) ?_ ⟨rfl, ⟨rfl, ⟨rfl, ⟨rfl, ⟨rfl, ⟨rfl, trivial⟩⟩⟩⟩⟩⟩ ⟨rfl, ⟨rfl, ⟨rfl, trivial⟩⟩⟩
      refine W_regL (WL_pure rfl rfl (by decide) (Pu_move rfl rfl) (WL_pure rfl rfl (by decide) (Pu_move rfl rfl) (WL_pure rfl rfl (by decide) (Pu_lenK rfl Tryz.runUnderlying36 rfl) (WL_pure rfl rfl (by decide) (Pu_bin rfl rfl rfl (run_sub _ _ _ _ _ (by omega))) (WL_pure rfl rfl (by decide) (Pu_move rfl rfl) (WL_pure rfl rfl (by decide) (Pu_bin rfl rfl rfl (run_sub _ _ _ _ _ (by omega))) (WL_pure rfl rfl (by decide) (Pu_move rfl rfl) (WL_pure rfl rfl (by decide) (Pu_conv rfl rfl (conv_u64 n Tryz.runUnderlying3 Tryz.runUnderlying109 (by omega))) (WL_pure rfl rfl (by decide) (Pu_bin rfl rfl rfl (run_mulU n 8 _ _ _ (by omega))) (WL_pure rfl rfl (by decide) (Pu_move rfl rfl) (WL_pure rfl rfl (by decide) (Pu_bin rfl rfl rfl (run_mul _ _ _ _ _ (by omega))) ?_)))))))))))
      rw [show (8 * (x : Int)) = ((8 * x : Nat) : Int) by omega]
      refine (WL_pure rfl rfl (by decide) (Pu_bin rfl rfl rfl (run_shrU (n * 8) (8 * x) _ _ _ (by omega))) (WL_pure rfl rfl (by decide) (Pu_conv rfl rfl (conv_byte _ _ Tryz.runUnderlying109 Tryz.runUnderlying5)) (WL_pure rfl rfl (by decide) (Pu_idxK (r := 150) rfl Tryz.runUnderlying36 Tryz.sizeOf5 rfl rfl rfl (by rw [List.length_append, bs_length, List.length_append, List.length_append, htl, hdn]; simp; omega) (by omega) (by omega)) (WL_cons0 rfl rfl (OpT_storeB1 (r := 150) rfl Tryz.sizeOf5 rfl rfl rfl rfl (by rw [List.length_append, bs_length, List.length_append, List.length_append, htl, hdn]; simp; omega) (tailB_step hlt (by omega) (by rw [List.length_append, hdn]; simp; omega)) ?_)))))
      refine (WL_nil (X_block (X_then ?_)))
      refine W.pre (K' := [(4, _), (5, _), (7, _), (9, _), (46, _), (47, _)]) (L' := [(0, _), (101, _), (150, _)]) ?_ ⟨rfl, ⟨rfl, ⟨rfl, ⟨rfl, ⟨rfl, ⟨rfl, trivial⟩⟩⟩⟩⟩⟩ ⟨rfl, ⟨rfl, ⟨rfl, trivial⟩⟩⟩
      refine W_regL (WL_pure rfl rfl (by decide) (Pu_bin rfl rfl rfl (run_add _ _ _ _ _ (by omega))) (WL_pure rfl rfl (by decide) (Pu_move rfl rfl) (WL_nil ?_)))
      exact X_round (x + 1) (by omega) (by omega) ⟨rfl, rfl, rfl, rfl, trivial⟩ ⟨rfl, rfl, rfl, trivial⟩
    ·
      obtain rfl : x = 8 := by have := of_decide_eq_false hc47; omega
      rw [hpad]
      refine W_exit (X_then_exit (X_then_exit (X_block_exit (X_then ?_))))
      refine W_seq ?_
      refine W.pre (K' := [(4, _), (5, _), (7, _), (46, _), (47, _)]) (L' := [(0, _), (101, _), (150, _)]) ?_ ⟨rfl, ⟨rfl, ⟨rfl, ⟨rfl, ⟨rfl, trivial⟩⟩⟩⟩⟩ ⟨rfl, ⟨rfl, ⟨rfl, trivial⟩⟩⟩
      refine W_regL (WL_cons rfl rfl (by decide) (OpT_call 200 [0, 101, 150] [] rfl Tryz.call144 rfl rfl rfl (by decide) (by decide) (begin_spec _) (fun v64 Ps64 hR64 => ?_)))
      obtain ⟨rfl, rfl⟩ := hR64
      refine (WL_cons rfl rfl (by decide) (OpT_alloc (r := 201) (cs := (ws [0, 0, 0, 0, 0, 0, 0, 0])) rfl (zero_run (by kernel_rfl : (Tryz.prog.info? 108).bind (·.zero) = some (.agg (ws [0, 0, 0, 0, 0, 0, 0, 0]).toArray))) rfl (fun g201 => (WL_cons0 rfl rfl (OpT_storeAll (r := 201) rfl Tryz.sizeOf108 rfl rfl rfl rfl rfl (ws_one _) ?_)))))
      refine (WL_nil (X_then ?_))
      refine W_seq ?_
      refine W_seq ?_
      refine W.pre (K' := [(4, _), (5, _), (7, _), (10, _), (46, _), (47, _)]) (L' := [(0, _), (101, _), (150, _), (201, _)]) ?_ ⟨rfl, ⟨rfl, ⟨rfl, ⟨rfl, ⟨rfl, ⟨rfl, trivial⟩⟩⟩⟩⟩⟩ ⟨rfl, ⟨rfl, ⟨rfl, ⟨rfl, trivial⟩⟩⟩⟩
      refine W_regL (WL_pure rfl rfl (by decide) (Pu_assign rfl rfl) (WL_nil (X_then ?_)))
      refine W_block ?_
      refine W_loop (α := Nat) (fun x => [(4, .pointer (some ⟨g101, 0, none⟩)), (7, .slice (some ⟨g, 0, none⟩) N cap), (10, .pointer (some ⟨g201, 0, none⟩)), (11, .int .i64 ((64 * x : Nat) : Int))]) (fun x => [(0, F), (101, blk g101 29 (bs zeroId)), (150, blk g T (bs (padB d) ++ rest)), (201, blk g201 108 (ws (mixes (padB d) (S8.of HS) x).list))]) (fun x => 64 * x ≤ N) (fun x => N - 64 * x) (0) (by omega) ⟨rfl, ⟨rfl, ⟨rfl, ⟨rfl, trivial⟩⟩⟩⟩ ⟨rfl, ⟨rfl, ⟨rfl, ⟨rfl, trivial⟩⟩⟩⟩ (fun x hx => ?_)
      refine W_seq ?_
      refine W_seq ?_
      refine W.pre (K' := [(4, _), (7, _), (10, _), (11, _)]) (L' := [(0, _), (101, _), (150, _), (201, _)]) ?_ ⟨rfl, ⟨rfl, ⟨rfl, ⟨rfl, trivial⟩⟩⟩⟩ ⟨rfl, ⟨rfl, ⟨rfl, ⟨rfl, trivial⟩⟩⟩⟩
      refine W_regL (WL_pure rfl rfl (by decide) (Pu_move rfl rfl) (WL_pure rfl rfl (by decide) (Pu_move rfl rfl) (WL_pure rfl rfl (by decide) (Pu_lenK rfl Tryz.runUnderlying36 rfl) (WL_pure rfl rfl (by decide) (Pu_bin rfl rfl rfl (run_lss _ _ _ _ _ _)) (WL_nil (X_then ?_))))))
      refine W_cond rfl (fun hc68 => ?_) (fun hc68 => ?_)
      ·
        have hlt : 64 * x + 64 ≤ N := by have := of_decide_eq_true hc68; omega
        obtain ⟨hp1, hp2⟩ := piece (d := padB d) (p := 64 * x) (s := mixes (padB d) (S8.of HS) x) (by omega)
        refine W_skip (X_then ?_)
        refine W_seq ?_
        refine W_block ?_
        refine W.pre (K' := [(4, _), (7, _), (10, _), (11, _), (68, _)]) (L' := [(0, _), (101, _), (150, _), (201, _)]) ?_ ⟨rfl, ⟨rfl, ⟨rfl, ⟨rfl, ⟨rfl, trivial⟩⟩⟩⟩⟩ ⟨rfl, ⟨rfl, ⟨rfl, ⟨rfl, trivial⟩⟩⟩⟩
        refine W_draw (N := 8) (by kernel_rfl) rfl [(0, _), (101, _), (150, _)] ⟨rfl, ⟨rfl, ⟨rfl, trivial⟩⟩⟩ ?_
        refine (AH_take 1 rfl (by kernel_rfl) (by kernel_rfl) (by kernel_rfl) rfl rfl (by decide) (Pu_move rfl rfl) (AH_take 2 rfl (by kernel_rfl) (by kernel_rfl) (by kernel_rfl) rfl rfl (by decide) (Pu_move rfl rfl) (AH_take 3 rfl (by kernel_rfl) (by kernel_rfl) (by kernel_rfl) rfl rfl (by decide) (Pu_move rfl rfl) (AH_take 4 rfl (by kernel_rfl) (by kernel_rfl) (by kernel_rfl) rfl rfl (by decide) (Pu_bin rfl rfl rfl (run_add _ _ _ _ _ (by omega))) (AH_take 5 rfl (by kernel_rfl) (by kernel_rfl) (by kernel_rfl) rfl rfl (by decide) (Pu_sliceK (a := 64 * x) (b := 64 * x + 64) rfl Tryz.runUnderlying36 Tryz.sizeOf5 rfl (.inr ⟨_, _, _, rfl, rfl, rfl⟩) (.inr ⟨_, _, _, rfl, rfl, (by omega)⟩) (by omega) (by omega) (by omega)) (AH_ready [0] (by kernel_rfl) (by decide) ?_))))))
        refine AHs_cons rfl rfl rfl (by decide) (OpT_run (Pu_loadBN (r := 201) rfl Tryz.isAgg108 Tryz.sizeOf108 rfl rfl rfl (load_all rfl)) ⟨⟨rfl, ⟨rfl, ⟨rfl, trivial⟩⟩⟩, ?_⟩) ?_
        ·
          refine (AH_ready [6] (by kernel_rfl) (by decide) ?_)
          refine AHs_cons rfl rfl rfl (by decide) (OpT_call 300 [0, 101, 150, 201] [] rfl Tryz.call145 rfl rfl rfl (by decide) (by decide) (mix_spec (mixes (padB d) (S8.of HS) x) _ (((padB d).drop (64 * x)).take 64) hp2 _ (rd_star 2 rfl (fun h hp => piece_rd hp (by omega) (by omega)))) (fun v77 Ps77 hR77 => ?_)) ?_
          ·
            obtain ⟨rfl, rfl⟩ := hR77
            refine ⟨⟨rfl, ⟨rfl, ⟨rfl, trivial⟩⟩⟩, ?_⟩
            rw [hp1]
            refine (AH_ready [7] (by kernel_rfl) (by decide) ?_)
            refine AHs_cons0 rfl rfl rfl (OpT_storeAll (r := 201) rfl Tryz.sizeOf108 rfl rfl rfl rfl rfl (ws_one _) ?_) ?_
            ·
              refine ⟨⟨rfl, ⟨rfl, ⟨rfl, trivial⟩⟩⟩, ?_⟩
              refine (AH_done (by kernel_rfl) (X_block (X_then ?_)))
              refine W.pre (K' := [(4, _), (7, _), (10, _), (11, _), (68, _)]) (L' := [(0, _), (101, _), (150, _), (201, _)]) ?_ ⟨rfl, ⟨rfl, ⟨rfl, ⟨rfl, ⟨rfl, trivial⟩⟩⟩⟩⟩ ⟨rfl, ⟨rfl, ⟨rfl, ⟨rfl, trivial⟩⟩⟩⟩
              refine W_regL (WL_pure rfl rfl (by decide) (Pu_move rfl rfl) (WL_pure rfl rfl (by decide) (Pu_bin rfl rfl rfl (run_add _ _ _ _ _ (by omega))) (WL_pure rfl rfl (by decide) (Pu_assign rfl rfl) (WL_nil ?_))))
              exact X_round (x + 1) (by omega) (by omega) ⟨rfl, rfl, rfl, lookV_eq rfl (int_eq (by omega)), trivial⟩ ⟨rfl, rfl, rfl, rfl, trivial⟩
            exact AHs_nil
          exact AHs_nil
        exact AHs_nil
      ·
        have hxe : x = (padB d).length / 64 := by have := of_decide_eq_false hc68; omega
        obtain ⟨S, hS⟩ : ∃ S, mixes (padB d) (S8.of HS) x = S := ⟨_, rfl⟩
        rw [hS]
        have hsha : sha d = outB S := by unfold sha; rw [← hxe, hS]
        refine W_exit (X_then_exit (X_then_exit (X_block_exit (X_then ?_))))
        refine W_seq ?_
        refine W.pre (K' := [(4, _), (7, _), (10, _), (11, _), (68, _)]) (L' := [(0, _), (101, _), (150, _), (201, _)]) ?_ ⟨rfl, ⟨rfl, ⟨rfl, ⟨rfl, ⟨rfl, trivial⟩⟩⟩⟩⟩ ⟨rfl, ⟨rfl, ⟨rfl, ⟨rfl, trivial⟩⟩⟩⟩
        refine W_regL (WL_cons rfl rfl (by decide) (OpT_alloc (r := 202) (cs := (bs zeroId)) rfl (zero_run (by kernel_rfl : (Tryz.prog.info? 29).bind (·.zero) = some (.agg (bs zeroId).toArray))) rfl (fun g202 => (WL_nil (X_then ?_)))))
        refine W_seq ?_
        refine W_seq ?_
        refine W.pre (K' := [(4, _), (7, _), (10, _), (11, _), (12, _), (68, _)]) (L' := [(0, _), (101, _), (150, _), (201, _), (202, _)]) ?_ ⟨rfl, ⟨rfl, ⟨rfl, ⟨rfl, ⟨rfl, ⟨rfl, trivial⟩⟩⟩⟩⟩⟩ ⟨rfl, ⟨rfl, ⟨rfl, ⟨rfl, ⟨rfl, trivial⟩⟩⟩⟩⟩
        refine W_regL (WL_pure rfl rfl (by decide) (Pu_loadBN (r := 201) rfl Tryz.isAgg108 Tryz.sizeOf108 rfl rfl rfl (load_all rfl)) (WL_pure rfl rfl (by decide) (Pu_move rfl rfl) (WL_nil (X_then ?_))))
        refine W_block ?_
        refine W_loop (α := Nat) (fun x => [(4, .pointer (some ⟨g101, 0, none⟩)), (12, .pointer (some ⟨g202, 0, none⟩)), (78, .agg (ws S.list).toArray), (79, .int .i64 (x : Int))]) (fun x => [(0, F), (101, blk g101 29 (bs zeroId)), (202, blk g202 29 (bs (outZ S (4 * x))))]) (fun x => x ≤ 8) (fun x => 8 - x) (0) (by omega) ⟨rfl, ⟨rfl, ⟨rfl, ⟨rfl, trivial⟩⟩⟩⟩ ⟨rfl, ⟨rfl, ⟨rfl, trivial⟩⟩⟩ (fun x hx => ?_)
        refine W_seq ?_
        refine W.pre (K' := [(4, _), (12, _), (78, _), (79, _)]) (L' := [(0, _), (101, _), (202, _)]) ?_ ⟨rfl, ⟨rfl, ⟨rfl, ⟨rfl, trivial⟩⟩⟩⟩ ⟨rfl, ⟨rfl, ⟨rfl, trivial⟩⟩⟩
        refine W_regL (WL_pure rfl rfl (by decide) (Pu_bin rfl rfl rfl (run_lss _ _ _ _ _ _)) (WL_nil (X_then ?_)))
        refine W_seq ?_
        refine W_cond rfl (fun hc80 => ?_) (fun hc80 => ?_)
        ·
          have hlx : x < 8 := by have := of_decide_eq_true hc80; omega
          refine W_skip (X_then ?_)
          refine W_seq ?_
          refine W_block ?_
          refine W_seq ?_
          refine W.pre (K' := [(4, _), (12, _), (78, _), (79, _), (80, _)]) (L' := [(0, _), (101, _), (202, _)]) ?_ ⟨rfl, ⟨rfl, ⟨rfl, ⟨rfl, ⟨rfl, trivial⟩⟩⟩⟩⟩ ⟨rfl, ⟨rfl, ⟨rfl, trivial⟩⟩⟩
          refine W_regL (WL_pure rfl rfl (by decide) (Pu_move rfl rfl) (WL_pure rfl rfl (by decide) (Pu_index rfl Tryz.runUnderlying108 Tryz.sizeOf105 Tryz.isAgg105 rfl rfl (by omega) (ws_atI (k := x) (by omega) (by rw [S8.list_length]; omega))) (WL_pure rfl rfl (by decide) (Pu_assign rfl rfl) (WL_pure rfl rfl (by decide) (Pu_assign rfl rfl) (WL_nil (X_then ?_))))))
          refine W_seq ?_
          refine W.pre (K' := [(4, _), (12, _), (13, _), (14, _), (78, _), (79, _), (80, _)]) (L' := [(0, _), (101, _), (202, _)]) ?_ ⟨rfl, ⟨rfl, ⟨rfl, ⟨rfl, ⟨rfl, ⟨rfl, ⟨rfl, trivial⟩⟩⟩⟩⟩⟩⟩ ⟨rfl, ⟨rfl, ⟨rfl, trivial⟩⟩⟩
          refine W_regL (WL_pure rfl rfl (by decide) (Pu_move rfl rfl) (WL_nil (X_then ?_)))
          refine W_block ?_
          refine W_loop (α := Nat) (fun y => [(4, .pointer (some ⟨g101, 0, none⟩)), (12, .pointer (some ⟨g202, 0, none⟩)), (13, .int .i64 (x : Int)), (14, wv (S.list.getD x 0)), (78, .agg (ws S.list).toArray), (79, .int .i64 (x : Int)), (83, .int .i64 (y : Int))]) (fun y => [(0, F), (101, blk g101 29 (bs zeroId)), (202, blk g202 29 (bs (outZ S (4 * x + y))))]) (fun y => y ≤ 4) (fun y => 4 - y) (0) (by omega) ⟨rfl, ⟨rfl, ⟨rfl, ⟨rfl, ⟨rfl, ⟨rfl, ⟨rfl, trivial⟩⟩⟩⟩⟩⟩⟩ ⟨rfl, ⟨rfl, ⟨rfl, trivial⟩⟩⟩ (fun y hy => ?_)
          have hzl := outZ_length (s := S) (q := 4 * x + y) (by omega)
          refine W_seq ?_
          refine W.pre (K' := [(4, _), (12, _), (13, _), (14, _), (78, _), (79, _), (83, _)]) (L' := [(0, _), (101, _), (202, _)]) ?_ ⟨rfl, ⟨rfl, ⟨rfl, ⟨rfl, ⟨rfl, ⟨rfl, ⟨rfl, trivial⟩⟩⟩⟩⟩⟩⟩ ⟨rfl, ⟨rfl, ⟨rfl, trivial⟩⟩⟩
          refine W_regL (WL_pure rfl rfl (by decide) (Pu_bin rfl rfl rfl (run_lss _ _ _ _ _ _)) (WL_nil (X_then ?_)))
          refine W_seq ?_
          refine W_cond rfl (fun hc84 => ?_) (fun hc84 => ?_)
          ·
            have hly : y < 4 := by have := of_decide_eq_true hc84; omega
            refine W_skip (X_then ?_)
            refine W_seq ?_
            refine W_block ?_
            refine W_seq ?_
            refine W.pre (K' := [(4, _), (12, _), (13, _), (14, _), (78, _), (79, _), (83, _), (84, _)]) (L' := [(0, _), (101, _), (202, _)]) ?_ ⟨rfl, ⟨rfl, ⟨rfl, ⟨rfl, ⟨rfl, ⟨rfl, ⟨rfl, ⟨rfl, trivial⟩⟩⟩⟩⟩⟩⟩⟩ ⟨rfl, ⟨rfl, ⟨rfl, trivial⟩⟩⟩
            refine W_regL (WL_pure rfl rfl (by decide) (Pu_move rfl rfl) (WL_pure rfl rfl (by decide) (Pu_assign rfl rfl) (WL_nil (X_then ?_))))
            refine W.pre (K' := [(4, _), (12, _), (13, _), (14, _), (15, _), (78, _), (79, _), (83, _), (84, _)]) (L' := [(0, _), (101, _), (202, _)]) ?_ ⟨rfl, ⟨rfl, ⟨rfl, ⟨rfl, ⟨rfl, ⟨rfl, ⟨rfl, ⟨rfl, ⟨rfl, trivial⟩⟩⟩⟩⟩⟩⟩⟩⟩ ⟨rfl, ⟨rfl, ⟨rfl, trivial⟩⟩⟩
            refine W_regL (WL_pure rfl rfl (by decide) (Pu_move rfl rfl) (WL_pure rfl rfl (by decide) (Pu_bin rfl rfl rfl (run_mul _ _ _ _ _ (by omega))) (WL_pure rfl rfl (by decide) (Pu_move rfl rfl) (WL_pure rfl rfl (by decide) (Pu_bin rfl rfl rfl (run_add _ _ _ _ _ (by omega))) (WL_pure rfl rfl (by decide) (Pu_move rfl rfl) (WL_pure rfl rfl (by decide) (Pu_move rfl rfl) (WL_pure rfl rfl (by decide) (Pu_bin rfl rfl rfl (run_mul _ _ _ _ _ (by omega))) (WL_pure rfl rfl (by decide) (Pu_bin rfl rfl rfl (run_sub _ _ _ _ _ (by omega))) ?_))))))))
            rw [show 24 - 8 * (y : Int) = ((24 - 8 * y : Nat) : Int) by omega]
            refine (WL_pure rfl rfl (by decide) (Pu_bin rfl rfl rfl (run_shrW _ (24 - 8 * y) (by omega) _ _ _)) (WL_pure rfl rfl (by decide) (Pu_conv rfl rfl (conv_byteW _ Tryz.runUnderlying105 Tryz.runUnderlying5)) (WL_pure rfl rfl (by decide) (Pu_idxA rfl Tryz.runUnderlying29 Tryz.sizeOf5 rfl rfl (by omega)) (WL_cons0 rfl rfl (OpT_storeB1 (r := 202) rfl Tryz.sizeOf5 rfl rfl rfl rfl (by rw [bs_length, hzl]; omega) (outZ_set hlx hly (by omega)) ?_)))))
            refine (WL_nil (X_block (X_then ?_)))
            refine W.pre (K' := [(4, _), (12, _), (13, _), (14, _), (15, _), (78, _), (79, _), (83, _), (84, _)]) (L' := [(0, _), (101, _), (202, _)]) ?_ ⟨rfl, ⟨rfl, ⟨rfl, ⟨rfl, ⟨rfl, ⟨rfl, ⟨rfl, ⟨rfl, ⟨rfl, trivial⟩⟩⟩⟩⟩⟩⟩⟩⟩ ⟨rfl, ⟨rfl, ⟨rfl, trivial⟩⟩⟩
            refine W_regL (WL_pure rfl rfl (by decide) (Pu_bin rfl rfl rfl (run_add _ _ _ _ _ (by omega))) (WL_pure rfl rfl (by decide) (Pu_move rfl rfl) (WL_nil ?_)))
            exact X_round (y + 1) (by omega) (by omega) ⟨rfl, rfl, rfl, rfl, rfl, rfl, rfl, trivial⟩ ⟨rfl, rfl, rfl, trivial⟩
          ·
            obtain rfl : y = 4 := by have := of_decide_eq_false hc84; omega
            refine W_exit (X_then_exit (X_then_exit (X_block_exit (X_block (X_then ?_)))))
            refine W.pre (K' := [(4, _), (12, _), (13, _), (14, _), (78, _), (79, _), (83, _), (84, _)]) (L' := [(0, _), (101, _), (202, _)]) ?_ ⟨rfl, ⟨rfl, ⟨rfl, ⟨rfl, ⟨rfl, ⟨rfl, ⟨rfl, ⟨rfl, trivial⟩⟩⟩⟩⟩⟩⟩⟩ ⟨rfl, ⟨rfl, ⟨rfl, trivial⟩⟩⟩
            refine W_regL (WL_pure rfl rfl (by decide) (Pu_bin rfl rfl rfl (run_add _ _ _ _ _ (by omega))) (WL_pure rfl rfl (by decide) (Pu_move rfl rfl) (WL_nil ?_)))
            exact X_round (x + 1) (by omega) (by omega) ⟨rfl, rfl, rfl, rfl, trivial⟩ ⟨rfl, rfl, look_eq rfl (by rw [show 4 * (x + 1) = 4 * x + 4 by omega]), trivial⟩
        ·
          obtain rfl : x = 8 := by have := of_decide_eq_false hc80; omega
          rw [show 4 * 8 = 32 from rfl, outZ_full]
          refine W_exit (X_then_exit (X_then_exit (X_block_exit (X_then ?_))))
          refine W_seq ?_
          refine W.pre (K' := [(4, _), (12, _), (78, _), (79, _), (80, _)]) (L' := [(0, _), (101, _), (202, _)]) ?_ ⟨rfl, ⟨rfl, ⟨rfl, ⟨rfl, ⟨rfl, trivial⟩⟩⟩⟩⟩ ⟨rfl, ⟨rfl, ⟨rfl, trivial⟩⟩⟩
          refine W_regL (WL_pure rfl rfl (by decide) (Pu_loadBN (r := 202) rfl Tryz.isAgg29 Tryz.sizeOf29 rfl rfl rfl (load_all rfl)) (WL_cons0 rfl rfl (OpT_storeAll (r := 101) rfl Tryz.sizeOf29 rfl rfl rfl rfl rfl (bs_one _) ?_)))
          refine (WL_nil (X_then ?_))
          refine W_ret ?_
          exact X_ret [] (Ps := []) (resC1 (r := 101) Tryz.results109 rfl Tryz.isAgg29 Tryz.sizeOf29 rfl rfl) rfl (by decide) ⟨by rw [hd, hsha]; rfl, rfl⟩
theorem sum_spec (va : Value) (a : List UInt8) (hla : a.length ≤ 1000000000) (F : HP) (hFa : ∀ h, F h → rdB va a h) : CallsS Tryz.prog 72 #[va] F [] (fun r Ps => r = idV (sha a) ∧ Ps = []) := by
  refine callsS_enter Tryz.func72 rfl Tryz.ntmps72 (by simp) (fun E => ?_)
  refine W_seq ?_
  refine W.pre (K' := [(0, _)]) (L' := [(0, _)]) ?_ ⟨rfl, trivial⟩ ⟨rfl, trivial⟩
  refine W_regL (WL_cons rfl rfl (by decide) (OpT_alloc (r := 101) (cs := (bs zeroId)) rfl (zero_run (by kernel_rfl : (Tryz.prog.info? 29).bind (·.zero) = some (.agg (bs zeroId).toArray))) rfl (fun g101 => (WL_nil (X_then ?_)))))
  refine W_seq ?_
  refine W.pre (K' := [(0, _), (2, _)]) (L' := [(0, _), (101, _)]) ?_ ⟨rfl, ⟨rfl, trivial⟩⟩ ⟨rfl, ⟨rfl, trivial⟩⟩
  refine W_regL (WL_pure rfl rfl (by decide) (Pu_move rfl rfl) (WL_cons rfl rfl (by decide) (OpT_call 200 [0, 101] [] rfl Tryz.call109 rfl rfl rfl (by decide) (by decide) (pair_spec va (.slice none 0 0) a [] hla (by simp) _ (rd_star 0 rfl hFa) (fun h _ => rd_const 0 1 h)) (fun v4 Ps4 hR4 => ?_))))
  obtain ⟨rfl, rfl⟩ := hR4
  rw [List.append_nil]
  refine (WL_cons0 rfl rfl (OpT_storeAll (r := 101) rfl Tryz.sizeOf29 rfl rfl rfl rfl ((bs_length _).trans (sha_length a)) (bs_one _) ?_))
  refine (WL_nil (X_then ?_))
  refine W_ret ?_
  exact X_ret [] (Ps := []) (resC1 (r := 101) Tryz.results72 rfl Tryz.isAgg29 Tryz.sizeOf29 rfl ((bs_length _).trans (sha_length a))) rfl (by decide) ⟨rfl, rfl⟩
end Go.Proofs.YthkdkmaacjpneaaGreatDoor
/- The hash, the document's way: plain words. -/
namespace Go.Proofs.YthkdkmaacjpneaaGreatDoor
open Go.RowKit
set_option linter.unusedVariables false
set_option linter.unusedSimpArgs false
/-- The words of a piece, over what stood there. -/
def schW (w : List UInt32) (b : List UInt8) (p t : Nat) : List UInt32 := sch b p t ++ w.drop t
section
variable {w : List UInt32} {b : List UInt8} {p t : Nat}
end
/-- The first i added. -/
def addK (s a : List UInt32) (i : Nat) : List UInt32 := (List.zipWith (· + ·) s a).take i ++ s.drop i
end Go.Proofs.YthkdkmaacjpneaaGreatDoor
/- The hash of bytes, the document's way. -/
namespace Go.Proofs.YthkdkmaacjpneaaGreatDoor
open Go.RowKit
set_option linter.unusedVariables false
set_option linter.unusedSimpArgs false
set_option maxRecDepth 8000
end Go.Proofs.YthkdkmaacjpneaaGreatDoor
/- The shelf's contracts laid at this program: which of its functions, types and variables are meant. -/
namespace Go.Proofs.YthkdkmaacjpneaaGreatDoor
open Go.RowKit Go.Shelf
set_option linter.unusedVariables false
/-- The numbers. -/
def ren : Ren := {
  f := fun n => match n with
    | 99 => 60
    | 100 => 61
    | 138 => 123
    | 143 => 124
    | 146 => 62
    | 195 => 153
    | 197 => 125
    | 206 => 87
    | 207 => 88
    | 217 => 166
    | 218 => 154
    | 219 => 155
    | 221 => 89
    | 224 => 168
    | 225 => 167
    | 260 => 156
    | 266 => 172
    | 267 => 169
    | 268 => 122
    | 314 => 173
    | n => n,
  t := fun n => match n with
    | 0 => 0
    | 3 => 3
    | 4 => 4
    | 5 => 5
    | 9 => 9
    | 21 => 21
    | 31 => 63
    | 46 => 110
    | 51 => 105
    | 105 => 152
    | 119 => 232
    | 138 => 234
    | 139 => 235
    | 146 => 238
    | n => n,
  g := fun n => match n with
    | 1 => 0
    | 3 => 1
    | 4 => 2
    | n => n }
theorem lays197 : Lays.n197 Tryz.prog ren where
  mixed := by kernel_rfl
  f197 := by kernel_rfl
  f260 := by kernel_rfl
  t0 := Tryz.underlying0
  a0 := Tryz.isAgg0
  z0 := Tryz.sizeOf0
  v0 := Tryz.zeroValue0
  t3 := Tryz.underlying3
  a3 := Tryz.isAgg3
  z3 := Tryz.sizeOf3
  v3 := Tryz.zeroValue3
  t4 := Tryz.underlying4
  a4 := Tryz.isAgg4
  z4 := Tryz.sizeOf4
  v4 := Tryz.zeroValue4
  t5 := Tryz.underlying5
  a5 := Tryz.isAgg5
  z5 := Tryz.sizeOf5
  v5 := Tryz.zeroValue5
  t9 := Tryz.underlying9
  a9 := Tryz.isAgg9
  z9 := Tryz.sizeOf9
  v9 := Tryz.zeroValue9
  t21 := Tryz.underlying21
  a21 := Tryz.isAgg21
  z21 := Tryz.sizeOf21
  v21 := Tryz.zeroValue21
  t46 := Tryz.underlying110
  a46 := Tryz.isAgg110
  z46 := Tryz.sizeOf110
  v46 := Tryz.zeroValue110
  t105 := Tryz.underlying152
  a105 := Tryz.isAgg152
  z105 := Tryz.sizeOf152
  v105 := Tryz.zeroValue152
  t119 := Tryz.underlying232
  a119 := Tryz.isAgg232
  z119 := Tryz.sizeOf232
  t138 := Tryz.underlying234
  a138 := Tryz.isAgg234
  z138 := Tryz.sizeOf234
  v138 := Tryz.zeroValue234
  t139 := Tryz.underlying235
  a139 := Tryz.isAgg235
  z139 := Tryz.sizeOf235
  v139 := Tryz.zeroValue235
  g3 := by kernel_rfl
  g4 := by kernel_rfl
theorem lays260 : Lays.n260 Tryz.prog ren where
  mixed := by kernel_rfl
  f260 := by kernel_rfl
  t0 := Tryz.underlying0
  a0 := Tryz.isAgg0
  z0 := Tryz.sizeOf0
  v0 := Tryz.zeroValue0
  t3 := Tryz.underlying3
  a3 := Tryz.isAgg3
  z3 := Tryz.sizeOf3
  v3 := Tryz.zeroValue3
  t4 := Tryz.underlying4
  a4 := Tryz.isAgg4
  z4 := Tryz.sizeOf4
  v4 := Tryz.zeroValue4
  t5 := Tryz.underlying5
  a5 := Tryz.isAgg5
  z5 := Tryz.sizeOf5
  v5 := Tryz.zeroValue5
  t9 := Tryz.underlying9
  a9 := Tryz.isAgg9
  z9 := Tryz.sizeOf9
  v9 := Tryz.zeroValue9
  t21 := Tryz.underlying21
  a21 := Tryz.isAgg21
  z21 := Tryz.sizeOf21
  v21 := Tryz.zeroValue21
  t46 := Tryz.underlying110
  a46 := Tryz.isAgg110
  z46 := Tryz.sizeOf110
  v46 := Tryz.zeroValue110
  t119 := Tryz.underlying232
  a119 := Tryz.isAgg232
  z119 := Tryz.sizeOf232
  t138 := Tryz.underlying234
  a138 := Tryz.isAgg234
  z138 := Tryz.sizeOf234
  v138 := Tryz.zeroValue234
  t139 := Tryz.underlying235
  a139 := Tryz.isAgg235
  z139 := Tryz.sizeOf235
  v139 := Tryz.zeroValue235
  g3 := by kernel_rfl
  g4 := by kernel_rfl
theorem lays146 : Lays.n146 Tryz.prog ren where
  mixed := by kernel_rfl
  f138 := by kernel_rfl
  f143 := by kernel_rfl
  f146 := by kernel_rfl
  f195 := by kernel_rfl
  f197 := by kernel_rfl
  f217 := by kernel_rfl
  f218 := by kernel_rfl
  f219 := by kernel_rfl
  f221 := by kernel_rfl
  f224 := by kernel_rfl
  f225 := by kernel_rfl
  f260 := by kernel_rfl
  f266 := by kernel_rfl
  f267 := by kernel_rfl
  f268 := by kernel_rfl
  f314 := by kernel_rfl
  t0 := Tryz.underlying0
  a0 := Tryz.isAgg0
  z0 := Tryz.sizeOf0
  v0 := Tryz.zeroValue0
  t3 := Tryz.underlying3
  a3 := Tryz.isAgg3
  z3 := Tryz.sizeOf3
  v3 := Tryz.zeroValue3
  t4 := Tryz.underlying4
  a4 := Tryz.isAgg4
  z4 := Tryz.sizeOf4
  v4 := Tryz.zeroValue4
  t5 := Tryz.underlying5
  a5 := Tryz.isAgg5
  z5 := Tryz.sizeOf5
  v5 := Tryz.zeroValue5
  t9 := Tryz.underlying9
  a9 := Tryz.isAgg9
  z9 := Tryz.sizeOf9
  v9 := Tryz.zeroValue9
  t21 := Tryz.underlying21
  a21 := Tryz.isAgg21
  z21 := Tryz.sizeOf21
  v21 := Tryz.zeroValue21
  t31 := Tryz.underlying63
  a31 := Tryz.isAgg63
  z31 := Tryz.sizeOf63
  v31 := Tryz.zeroValue63
  t46 := Tryz.underlying110
  a46 := Tryz.isAgg110
  z46 := Tryz.sizeOf110
  v46 := Tryz.zeroValue110
  t51 := Tryz.underlying105
  a51 := Tryz.isAgg105
  z51 := Tryz.sizeOf105
  v51 := Tryz.zeroValue105
  t105 := Tryz.underlying152
  a105 := Tryz.isAgg152
  z105 := Tryz.sizeOf152
  v105 := Tryz.zeroValue152
  t119 := Tryz.underlying232
  a119 := Tryz.isAgg232
  z119 := Tryz.sizeOf232
  t138 := Tryz.underlying234
  a138 := Tryz.isAgg234
  z138 := Tryz.sizeOf234
  v138 := Tryz.zeroValue234
  t139 := Tryz.underlying235
  a139 := Tryz.isAgg235
  z139 := Tryz.sizeOf235
  v139 := Tryz.zeroValue235
  t146 := Tryz.underlying238
  a146 := Tryz.isAgg238
  z146 := Tryz.sizeOf238
  v146 := Tryz.zeroValue238
  g1 := by kernel_rfl
  g3 := by kernel_rfl
  g4 := by kernel_rfl
theorem lays99 : Lays.n99 Tryz.prog ren where
  mixed := by kernel_rfl
  f99 := by kernel_rfl
  f206 := by kernel_rfl
  t3 := Tryz.underlying3
  a3 := Tryz.isAgg3
  z3 := Tryz.sizeOf3
  v3 := Tryz.zeroValue3
  t4 := Tryz.underlying4
  a4 := Tryz.isAgg4
  z4 := Tryz.sizeOf4
  v4 := Tryz.zeroValue4
  t9 := Tryz.underlying9
  a9 := Tryz.isAgg9
  z9 := Tryz.sizeOf9
  v9 := Tryz.zeroValue9
theorem lays100 : Lays.n100 Tryz.prog ren where
  mixed := by kernel_rfl
  f100 := by kernel_rfl
  f207 := by kernel_rfl
  t3 := Tryz.underlying3
  a3 := Tryz.isAgg3
  z3 := Tryz.sizeOf3
  v3 := Tryz.zeroValue3
  t4 := Tryz.underlying4
  a4 := Tryz.isAgg4
  z4 := Tryz.sizeOf4
  v4 := Tryz.zeroValue4
  t9 := Tryz.underlying9
  a9 := Tryz.isAgg9
  z9 := Tryz.sizeOf9
  v9 := Tryz.zeroValue9
theorem laysU : U8Extra Tryz.prog ren where
  n3 := by kernel_rfl
  n4 := by kernel_rfl
  y3 := by kernel_rfl
  y4 := by kernel_rfl
  c5 := by kernel_rfl
  c119 := by kernel_rfl
  c138 := by kernel_rfl
theorem cell_keep {W w : World} (h : ∀ (g : Nat) (o : Obj), W.heap[g]? = some o → w.heap[g]? = some o) {a : Addr} {v : Value} (hc : W.cell? a = some v) : w.cell? a = some v := by
  unfold World.cell? at hc ⊢
  cases hb : W.heap[a.block]? with
  | none => simp [hb] at hc
  | some o => rw [h _ _ hb]; rw [hb] at hc; exact hc
/-- What else is read of the library's variables. -/
def extraV (w : World) : Prop := ∃ m, w.cell? ⟨ren.g 1, 0, none⟩ = some (.int .i64 m)
theorem extra_keep {W w : World} (h : ∀ (g : Nat) (o : Obj), W.heap[g]? = some o → w.heap[g]? = some o) (hx : extraV W) : extraV w := by
  obtain ⟨m, hm⟩ := hx
  exact ⟨m, cell_keep h hm⟩
end Go.Proofs.YthkdkmaacjpneaaGreatDoor
/- Names: what chapter 3 says of a text, in plain words. -/
namespace Go.Proofs.YthkdkmaacjpneaaGreatDoor
open Go.Lib
set_option linter.unusedVariables false
set_option linter.unusedSimpArgs false
/-- May a rune not stand in a name? -/
def wrongR (r : Nat) : Bool := r < 32 || r == 127 || r == 47
/-- Does a text begin with bytes that are no rune? -/
def noRune (l : List UInt8) : Bool := (decodeL l).1 == 65533 && decide ((decodeL l).2 ≤ 1)
def finC (n : Nat) (bad : Bool) : Nat := if bad then 10 else if 12 < n then 5 else 0
def chkF : Nat → List UInt8 → Nat → Bool → Nat
  | 0, _, n, bad => finC n bad
  | f + 1, l, n, bad => if l = [] then finC n bad else if noRune l then 11 else chkF f (l.drop (decodeL l).2) (n + 1) (bad || wrongR (decodeL l).1)
theorem chkF_nil (f n : Nat) (bad : Bool) : chkF f [] n bad = finC n bad := by cases f <;> simp [chkF]
theorem chkF_fuel : ∀ (f g : Nat) (l : List UInt8) (n : Nat) (bad : Bool), l.length ≤ f → l.length ≤ g → chkF f l n bad = chkF g l n bad
  | 0, g, l, n, bad, h, _ => by
    have : l = [] := List.eq_nil_of_length_eq_zero (by omega)
    subst this; rw [chkF_nil, chkF_nil]
  | f + 1, 0, l, n, bad, _, h => by
    have : l = [] := List.eq_nil_of_length_eq_zero (by omega)
    subst this; rw [chkF_nil, chkF_nil]
  | f + 1, g + 1, l, n, bad, h1, h2 => by
    simp only [chkF]
    split
    · rfl
    · split
      · rfl
      · have := decodeL_width l
        exact chkF_fuel f g _ _ _ (by simp; omega) (by simp; omega)
/-- What is wrong with the rest of a name, n runes behind, bad if one of them may not be. -/
def chk (l : List UInt8) (n : Nat) (bad : Bool) : Nat := chkF l.length l n bad
theorem chk_nil (n : Nat) (bad : Bool) : chk [] n bad = finC n bad := chkF_nil _ _ _
theorem chk_none {l : List UInt8} (hl : l ≠ []) (h : noRune l = true) (n : Nat) (bad : Bool) : chk l n bad = 11 := by
  unfold chk
  cases l with
  | nil => exact absurd rfl hl
  | cons x l => rw [List.length_cons, chkF, if_neg hl, if_pos h]
theorem chk_some {l : List UInt8} (hl : l ≠ []) (h : noRune l = false) (n : Nat) (bad : Bool) : chk l n bad = chk (l.drop (decodeL l).2) (n + 1) (bad || wrongR (decodeL l).1) := by
  have hw := decodeL_width l
  unfold chk
  cases l with
  | nil => exact absurd rfl hl
  | cons x l =>
    rw [List.length_cons, chkF, if_neg hl, if_neg (by simp [h])]
    exact chkF_fuel _ _ _ _ _ (by simp at hw ⊢; omega) (Nat.le_refl _)
def bad0 (l : List UInt8) : Bool := l == [] || l == [46] || l == [46, 46]
/-- What is wrong with a name. -/
def checkN (l : List UInt8) : Nat := chk l 0 (bad0 l)
/-- The rune and the width that the document reads. -/
def oneR (l : List UInt8) : Nat × Nat := if noRune l then (0, 0) else decodeL l
/-- The first byte's own bits, and how many bytes it asks for. -/
def lead (b : Nat) : Nat × Nat := if 192 ≤ b ∧ b < 224 then (2, b % 32) else if 224 ≤ b ∧ b < 240 then (3, b % 16) else if 240 ≤ b ∧ b < 248 then (4, b % 8) else (0, 0)
/-- The following bytes' bits. -/
def restF (l : List UInt8) (n : Nat) : Nat → Nat → Nat → Option Nat
  | 0, _, v => some v
  | f + 1, k, v => if n ≤ k then some v else if (l.getD k 0).toNat / 64 = 2 then restF l n f (k + 1) (v * 64 + (l.getD k 0).toNat % 64) else none
def finO (n v : Nat) : Nat × Nat := if 1114111 < v ∨ (55296 ≤ v ∧ v ≤ 57343) ∨ (n = 2 ∧ v < 128) ∨ (n = 3 ∧ v < 2048) ∨ (n = 4 ∧ v < 65536) then (0, 0) else (v, n)
def oneM (l : List UInt8) : Nat × Nat :=
  if (l.getD 0 0).toNat < 128 then ((l.getD 0 0).toNat, 1)
  else if (lead (l.getD 0 0).toNat).1 = 0 ∨ l.length < (lead (l.getD 0 0).toNat).1 then (0, 0)
  else match restF l (lead (l.getD 0 0).toNat).1 4 1 (lead (l.getD 0 0).toNat).2 with
    | none => (0, 0)
    | some v => finO (lead (l.getD 0 0).toNat).1 v
/-- A text cut at each stroke. -/
def splitL : List UInt8 → List (List UInt8)
  | [] => [[]]
  | c :: l => if c = 47 then [] :: splitL l else match splitL l with
    | p :: ps => (c :: p) :: ps
    | [] => [[c]]
theorem splitL_len (l : List UInt8) : (splitL l).length ≤ l.length + 1 := by
  induction l with
  | nil => simp [splitL]
  | cons c l ih =>
    unfold splitL
    split
    · simp; omega
    · split
      · rename_i p ps h; rw [h] at ih; simp at ih ⊢; omega
      · simp
/-- Texts put together, a stroke between. -/
def joinL : List (List UInt8) → List UInt8
  | [] => []
  | [x] => x
  | x :: y :: r => x ++ 47 :: joinL (y :: r)
end Go.Proofs.YthkdkmaacjpneaaGreatDoor
/- Go's decoder of runes, as it is called here; the tables that it reads. -/
namespace Go.Proofs.YthkdkmaacjpneaaGreatDoor
open Go.RowKit Go.Lib
set_option linter.unusedVariables false
set_option linter.unusedSimpArgs false
/-- The library's tables and variables that are read. -/
def tabsP : HP := fun h => ∀ w, In h w → Lib.Utf8Tabs (ren.g 3) (ren.g 4) w ∧ extraV w
theorem tabs_le {h h' : Hlt} (hl : ∀ g o, h' g = some o → h g = some o) (ht : tabsP h') : tabsP h := fun w hi => ht w fun g o hg => hi g o (hl g o hg)
theorem tabs_star {Js : List HP} {P : HP} (k : Nat) (hk : Js[k]? = some P) (hp : ∀ h, P h → tabsP h) : ∀ h, starL Js h → tabsP h := fun h ⟨hs, h1, _, h3⟩ =>
  tabs_le (h3 k) (hp _ (h1 k P hk))
theorem orig_tabs {W : World} (h1 : Lib.Utf8Tabs (ren.g 3) (ren.g 4) W) (h2 : extraV W) : ∀ h, orig W h → tabsP h := fun h ho w hi => by
  have hk : ∀ (g : Nat) (o : Obj), W.heap[g]? = some o → w.heap[g]? = some o := fun g o hg => hi g o (ho g o hg)
  exact ⟨⟨fun c hc => cell_keep hk (h1.1 c hc), fun i hi => ⟨cell_keep hk (h1.2 i hi).1, cell_keep hk (h1.2 i hi).2⟩⟩, extra_keep hk h2⟩
/-- A contract that leaves the world, but for new memory. -/
theorem callsS_below {P : Program} {f : FuncId} {args : Array Value} {F : HP} {r : Value} (h : ∀ w, (∃ h, F h ∧ In h w) → Calls P f args w fun e w' => e = .returned r ∧ Below w.heap.size w w') : CallsS P f args F [] (fun v Ps => v = r ∧ Ps = []) := fun E w hS => by
  have hr : look (En 0 [F]) 0 = some F := rfl
  refine (h w (hS.read hr)).mono fun e w' ⟨he, hb⟩ => ⟨r, [], he, ⟨rfl, rfl⟩, hS.same ⟨hb.os, hb.tape, hb.output, hb.size, fun k hk _ => hb.block k hk⟩⟩
theorem callsS_same {P : Program} {f : FuncId} {args : Array Value} {F : HP} {r : Value} (h : ∀ w, Calls P f args w fun e w' => e = .returned r ∧ w' = w) : CallsS P f args F [] (fun v Ps => v = r ∧ Ps = []) :=
  callsS_below fun w _ => (h w).mono fun e w' ⟨he, hw⟩ => ⟨he, hw ▸ Below.refl _ _⟩
theorem strB_dataL (l : List UInt8) : (strB l).data.toList = l := by simp [strB]
theorem decode_spec (l : List UInt8) (hl : l ≠ []) (F : HP) (hF : ∀ h, F h → tabsP h) : CallsS Tryz.prog 125 #[sV l] F [] (fun v Ps => v = .tuple #[.int .i32 ((decodeL l).1 : Int), .int .i64 ((decodeL l).2 : Int)] ∧ Ps = []) :=
  callsS_below fun w ⟨h, hp, hi⟩ => by
    have := Any.utf8_DecodeRuneInString lays197 (strB l) w (hF h hp w hi).1
    have hn : ¬ (strB l).size = 0 := by rw [strB_size]; intro hc; exact hl (List.eq_nil_of_length_eq_zero hc)
    have hd : decodeGo (strB l) = decodeL l := by unfold decodeGo decodeL; rw [if_neg hn]; rfl
    rw [hd] at this
    exact this
end Go.Proofs.YthkdkmaacjpneaaGreatDoor
/- What the program says of its types of elements. -/
namespace Go.Proofs.YthkdkmaacjpneaaGreatDoor.TI
end Go.Proofs.YthkdkmaacjpneaaGreatDoor.TI
/- names: a name is checked. -/
namespace Go.Proofs.YthkdkmaacjpneaaGreatDoor
open Go.RowKit Go.Lib
set_option linter.unusedVariables false
set_option maxRecDepth 8000
set_option linter.unusedSimpArgs false

theorem bool_val {a b : Bool} (h : a = b) : Value.bool a = Value.bool b := by rw [h]
theorem int_val {k : IntKind} {a b : Int} (h : a = b) : Value.int k a = Value.int k b := by rw [h]
theorem wrongR_eq (r : Nat) : ((decide ((r : Int) < 32) || decide ((r : Int) = 127)) || decide ((r : Int) = 47)) = wrongR r := by
  have h1 : decide ((r : Int) < 32) = decide (r < 32) := decide_eq_decide.2 (by omega)
  have h2 : decide ((r : Int) = 127) = (r == 127) := Bool.eq_iff_iff.2 (by simp; omega)
  have h3 : decide ((r : Int) = 47) = (r == 47) := Bool.eq_iff_iff.2 (by simp; omega)
  rw [h1, h2, h3]; rfl
theorem noRune_eq (l : List UInt8) : (decide (((decodeL l).1 : Int) = 65533) && decide (((decodeL l).2 : Int) ≤ 1)) = noRune l := by
  have h1 : decide (((decodeL l).1 : Int) = 65533) = ((decodeL l).1 == 65533) := Bool.eq_iff_iff.2 (by simp; omega)
  have h2 : decide (((decodeL l).2 : Int) ≤ 1) = decide ((decodeL l).2 ≤ 1) := decide_eq_decide.2 (by omega)
  rw [h1, h2]; rfl
theorem wrong_nspec (r : Nat) (F : HP) : CallsS Tryz.prog 126 #[.int .i32 (r : Int)] F [] (fun v Ps => v = .bool (wrongR r) ∧ Ps = []) := by
  refine callsS_enter Tryz.func126 rfl Tryz.ntmps126 (by simp) (fun E => ?_)
  refine W_seq ?_
  refine W.pre (K' := [(0, _)]) (L' := [(0, _)]) ?_ ⟨rfl, trivial⟩ ⟨rfl, trivial⟩
  refine W_regL (WL_pure rfl rfl (by decide) (Pu_assign rfl rfl) (WL_nil (X_then ?_)))
  refine W_seq ?_
  refine W.pre (K' := [(0, _), (2, _)]) (L' := [(0, _)]) ?_ ⟨rfl, ⟨rfl, trivial⟩⟩ ⟨rfl, trivial⟩
  refine W_regL (WL_pure rfl rfl (by decide) (Pu_move rfl rfl) (WL_pure rfl rfl (by decide) (Pu_bin rfl rfl rfl (run_lss _ _ _ _ _ _)) (WL_pure rfl rfl (by decide) (Pu_move rfl rfl) (WL_guardP rfl rfl rfl rfl (by decide) (fun hb => (Pu_move rfl rfl)) (WL_guardP rfl rfl rfl rfl (by decide) (fun hb => (Pu_bin rfl (ev_gv rfl hb) rfl (run_eql _ _ _ _ _ _))) (WL_pure rfl rfl (by decide) (Pu_or rfl rfl rfl) (WL_pure rfl rfl (by decide) (Pu_move rfl rfl) (WL_guardP rfl rfl rfl rfl (by decide) (fun hb => (Pu_move rfl rfl)) (WL_guardP rfl rfl rfl rfl (by decide) (fun hb => (Pu_bin rfl (ev_gv rfl hb) rfl (run_eql _ _ _ _ _ _))) (WL_pure rfl rfl (by decide) (Pu_or rfl rfl rfl) (WL_pure rfl rfl (by decide) (Pu_assign rfl rfl) (WL_nil (X_then ?_)))))))))))))
  refine W_ret ?_
  exact X_ret [] (Ps := []) (res1 Tryz.results126 rfl) rfl (by decide) ⟨bool_val (wrongR_eq r), rfl⟩
theorem check_spec (l : List UInt8) (hl : l.length ≤ 140737488355328) (F : HP) (hF : ∀ h, F h → tabsP h) : CallsS Tryz.prog 90 #[sV l] F [] (fun v Ps => v = .int .i64 (checkN l : Int) ∧ Ps = []) := by
  refine callsS_enter Tryz.func90 rfl Tryz.ntmps90 (by simp) (fun E => ?_)
  refine W_seq ?_
  refine W.pre (K' := [(0, _)]) (L' := [(0, _)]) ?_ ⟨rfl, trivial⟩ ⟨rfl, trivial⟩
  refine W_regL (WL_pure rfl rfl (by decide) (Pu_assign rfl rfl) (WL_nil (X_then ?_)))
  refine W_seq ?_
  refine W.pre (K' := [(0, _), (2, _)]) (L' := [(0, _)]) ?_ ⟨rfl, ⟨rfl, trivial⟩⟩ ⟨rfl, trivial⟩
  refine W_regL (WL_pure rfl rfl (by decide) (Pu_move rfl rfl) (WL_pure rfl rfl (by decide) (Pu_bin rfl rfl rfl (run_strEq _ _ _ _ _)) (WL_pure rfl rfl (by decide) (Pu_move rfl rfl) (WL_guardP rfl rfl rfl rfl (by decide) (fun hb => (Pu_move rfl rfl)) (WL_guardP rfl rfl rfl rfl (by decide) (fun hb => (Pu_bin rfl (ev_gv rfl hb) rfl (run_strEq _ _ _ _ _))) (WL_pure rfl rfl (by decide) (Pu_or rfl rfl rfl) (WL_pure rfl rfl (by decide) (Pu_move rfl rfl) (WL_guardP rfl rfl rfl rfl (by decide) (fun hb => (Pu_move rfl rfl)) (WL_guardP rfl rfl rfl rfl (by decide) (fun hb => (Pu_bin rfl (ev_gv rfl hb) rfl (run_strEq _ _ _ _ _))) (WL_pure rfl rfl (by decide) (Pu_or rfl rfl rfl) (WL_pure rfl rfl (by decide) (Pu_assign rfl rfl) (WL_pure rfl rfl (by decide) (Pu_assign rfl rfl) (WL_nil (X_then ?_))))))))))))))
  refine W_seq ?_
  refine W_seq ?_
  refine W.pre (K' := [(0, _), (2, _), (3, _), (4, _)]) (L' := [(0, _)]) ?_ ⟨rfl, ⟨rfl, ⟨rfl, ⟨rfl, trivial⟩⟩⟩⟩ ⟨rfl, trivial⟩
  refine W_regL (WL_pure rfl rfl (by decide) (Pu_move rfl rfl) (WL_cons rfl rfl (by decide) (OpT_range (r := 101) rfl Tryz.underlying9 rfl (fun g101 => (WL_nil (X_then ?_))))))
  refine W_block ?_
  refine W_loop (α := Nat × Nat × Bool) (fun x => [(0, sV l), (3, .int .i64 (x.2.1 : Int)), (4, .bool x.2.2), (20, .pointer (some ⟨g101, 0, none⟩))]) (fun x => [(0, F), (101, iterP g101 (strB l) x.1)]) (fun x => chk (l.drop x.1) x.2.1 x.2.2 = checkN l ∧ x.2.1 ≤ x.1 ∧ x.1 ≤ l.length) (fun x => l.length - x.1) ((0, 0, bad0 l)) ⟨rfl, Nat.le_refl _, Nat.zero_le _⟩ ⟨rfl, ⟨rfl, ⟨rfl, ⟨rfl, trivial⟩⟩⟩⟩ ⟨rfl, ⟨rfl, trivial⟩⟩ (fun x hx => ?_)
  obtain ⟨hchk, hnp, hpl⟩ := hx
  refine W_seq ?_
  refine W.pre (K' := [(0, _), (3, _), (4, _), (20, _)]) (L' := [(0, _), (101, _)]) ?_ ⟨rfl, ⟨rfl, ⟨rfl, ⟨rfl, trivial⟩⟩⟩⟩ ⟨rfl, ⟨rfl, trivial⟩⟩
  rcases Nat.lt_or_ge (x.1) (l.length) with hnx3 | hnx3
  ·
    have hne : l.drop x.1 ≠ [] := by intro hc; have := congrArg List.length hc; simp at this; omega
    have hw := decodeL_width (l.drop x.1)
    have hle := decodeL_le (l.drop x.1) hne
    rw [List.length_drop] at hle
    refine W_regL (WL_cons rfl rfl (by decide) (OpT_nextL (r := 101) rfl rfl rfl hnx3 ?_))
    refine (WL_pure rfl rfl (by decide) (Pu_extract rfl rfl rfl) (WL_nil (X_then ?_)))
    refine W_seq ?_
    refine W_true rfl (rfl) ?_
    refine W_skip (X_then ?_)
    refine W_block ?_
    refine W_seq ?_
    refine W.pre (K' := [(0, _), (3, _), (4, _), (20, _), (21, _), (22, _)]) (L' := [(0, _), (101, _)]) ?_ ⟨rfl, ⟨rfl, ⟨rfl, ⟨rfl, ⟨rfl, ⟨rfl, trivial⟩⟩⟩⟩⟩⟩ ⟨rfl, ⟨rfl, trivial⟩⟩
    refine W_regL (WL_pure rfl rfl (by decide) (Pu_extract rfl rfl rfl) (WL_pure rfl rfl (by decide) (Pu_extract rfl rfl rfl) (WL_pure rfl rfl (by decide) (Pu_assign rfl rfl) (WL_pure rfl rfl (by decide) (Pu_assign rfl rfl) (WL_nil (X_then ?_))))))
    refine W_seq ?_
    refine W_seq ?_
    refine W.pre (K' := [(0, _), (3, _), (4, _), (5, _), (6, _), (20, _), (21, _), (22, _)]) (L' := [(0, _), (101, _)]) ?_ ⟨rfl, ⟨rfl, ⟨rfl, ⟨rfl, ⟨rfl, ⟨rfl, ⟨rfl, ⟨rfl, trivial⟩⟩⟩⟩⟩⟩⟩⟩ ⟨rfl, ⟨rfl, trivial⟩⟩
    refine W_regL (WL_pure rfl rfl (by decide) (Pu_move rfl rfl) (WL_pure rfl rfl (by decide) (Pu_move rfl rfl) (WL_pure rfl rfl (by decide) (Pu_sliceStrE (a := x.1) rfl Tryz.underlying9 rfl (.inr ⟨_, _, _, rfl, rfl, rfl⟩) (.inl ⟨rfl, rfl⟩) (by omega) (Nat.le_refl _) (take_rest _ _)) (WL_cons rfl rfl (by decide) (OpT_call 200 [0, 101] [] rfl Tryz.call125 rfl rfl rfl (by decide) (by decide) (decode_spec (l.drop x.1) hne _ (tabs_star 0 rfl hF)) (fun v29 Ps29 hR29 => ?_))))))
    obtain ⟨rfl, rfl⟩ := hR29
    refine (WL_pure rfl rfl (by decide) (Pu_move rfl rfl) (WL_pure rfl rfl (by decide) (Pu_extract rfl rfl rfl) (WL_pure rfl rfl (by decide) (Pu_extract rfl rfl rfl) (WL_pure rfl rfl (by decide) (Pu_assign rfl rfl) (WL_pure rfl rfl (by decide) (Pu_assign rfl rfl) (WL_nil (X_then ?_)))))))
    refine W_seq ?_
    refine W.pre (K' := [(0, _), (3, _), (4, _), (5, _), (6, _), (8, _), (20, _), (21, _), (22, _)]) (L' := [(0, _), (101, _)]) ?_ ⟨rfl, ⟨rfl, ⟨rfl, ⟨rfl, ⟨rfl, ⟨rfl, ⟨rfl, ⟨rfl, ⟨rfl, trivial⟩⟩⟩⟩⟩⟩⟩⟩⟩ ⟨rfl, ⟨rfl, trivial⟩⟩
    refine W_regL (WL_pure rfl rfl (by decide) (Pu_move rfl rfl) (WL_pure rfl rfl (by decide) (Pu_bin rfl rfl rfl (run_eql _ _ _ _ _ _)) (WL_pure rfl rfl (by decide) (Pu_move rfl rfl) (WL_guardP rfl rfl rfl rfl (by decide) (fun hb => (Pu_move rfl rfl)) (WL_guardP rfl rfl rfl rfl (by decide) (fun hb => (Pu_bin rfl (ev_gv rfl hb) rfl (run_leq _ _ _ _ _ _))) (WL_pure rfl rfl (by decide) (Pu_and rfl rfl rfl) (WL_nil (X_then ?_))))))))
    refine W_cond rfl (fun hc37 => ?_) (fun hc37 => ?_)
    ·
      rw [noRune_eq] at hc37
      refine W_seq ?_
      refine W.pre (K' := [(0, _), (3, _), (4, _), (5, _), (6, _), (8, _), (20, _), (21, _), (22, _), (37, _)]) (L' := [(0, _), (101, _)]) ?_ ⟨rfl, ⟨rfl, ⟨rfl, ⟨rfl, ⟨rfl, ⟨rfl, ⟨rfl, ⟨rfl, ⟨rfl, ⟨rfl, trivial⟩⟩⟩⟩⟩⟩⟩⟩⟩⟩ ⟨rfl, ⟨rfl, trivial⟩⟩
      refine W_regL (WL_pure rfl rfl (by decide) (Pu_assign rfl rfl) (WL_nil (X_then ?_)))
      refine W_ret (X_then_ret (X_block_ret (X_then_ret (X_block_ret (X_then_ret ?_)))))
      exact X_ret [] (Ps := []) (res1 Tryz.results90 rfl) rfl (by decide) ⟨by rw [← hchk, chk_none hne hc37]; rfl, rfl⟩
    ·
      rw [noRune_eq] at hc37
      have hno := hc37
      refine W_skip (X_then ?_)
      refine W_seq ?_
      refine W.pre (K' := [(0, _), (3, _), (4, _), (5, _), (6, _), (8, _), (20, _), (21, _), (22, _), (37, _)]) (L' := [(0, _), (101, _)]) ?_ ⟨rfl, ⟨rfl, ⟨rfl, ⟨rfl, ⟨rfl, ⟨rfl, ⟨rfl, ⟨rfl, ⟨rfl, ⟨rfl, trivial⟩⟩⟩⟩⟩⟩⟩⟩⟩⟩ ⟨rfl, ⟨rfl, trivial⟩⟩
      refine W_regL (WL_pure rfl rfl (by decide) (Pu_move rfl rfl) (WL_pure rfl rfl (by decide) (Pu_bin rfl rfl rfl (run_add _ _ _ _ _ (by omega))) (WL_pure rfl rfl (by decide) (Pu_assign rfl rfl) (WL_nil (X_then ?_)))))
      refine W.pre (K' := [(0, _), (3, _), (4, _), (5, _), (6, _), (8, _), (20, _), (21, _), (22, _), (37, _)]) (L' := [(0, _), (101, _)]) ?_ ⟨rfl, ⟨rfl, ⟨rfl, ⟨rfl, ⟨rfl, ⟨rfl, ⟨rfl, ⟨rfl, ⟨rfl, ⟨rfl, trivial⟩⟩⟩⟩⟩⟩⟩⟩⟩⟩ ⟨rfl, ⟨rfl, trivial⟩⟩
      rcases Bool.eq_false_or_eq_true (x.2.2) with hsp9 | hsp9
      ·
        refine W_regL (WL_pure rfl rfl (by decide) (Pu_move rfl rfl) (WL_pure rfl rfl (by decide) (Pu_move rfl rfl) (WL_gF rfl rfl rfl (by rw [hsp9]; rfl) rfl (by decide) (WL_gF rfl rfl rfl (by rw [hsp9]; rfl) rfl (by decide) (WL_pure rfl rfl (by decide) (Pu_pickT rfl rfl hsp9 rfl) (WL_pure rfl rfl (by decide) (Pu_assign rfl rfl) (WL_nil (X_block ?_))))))))
        exact X_round (x.1 + (decodeL (l.drop x.1)).2, x.2.1 + 1, (x.2.2 || wrongR (decodeL (l.drop x.1)).1)) ⟨by rw [← hchk, chk_some hne hno, List.drop_drop], by show x.2.1 + 1 ≤ x.1 + _; omega, by show x.1 + _ ≤ l.length; omega⟩ (by show l.length - (x.1 + _) < l.length - x.1; omega) ⟨rfl, rfl, congrArg some (show Value.bool true = Value.bool (x.2.2 || wrongR (decodeL (l.drop x.1)).1) by rw [hsp9]; rfl), rfl, trivial⟩ ⟨rfl, rfl, trivial⟩
      ·
        refine W_regL (WL_pure rfl rfl (by decide) (Pu_move rfl rfl) (WL_pure rfl rfl (by decide) (Pu_move rfl rfl) (WL_gPT rfl rfl rfl (by rw [hsp9]; rfl) rfl (by decide) (Pu_move rfl rfl) (WL_gT rfl rfl rfl (by rw [hsp9]; rfl) rfl (by decide) (OpT_call 300 [0, 101] [] rfl Tryz.call126 rfl rfl rfl (by decide) (by decide) (wrong_nspec (decodeL (l.drop x.1)).1 _) (fun v43 Ps43 hR43 => ?_))))))
        obtain ⟨rfl, rfl⟩ := hR43
        refine (WL_pure rfl rfl (by decide) (Pu_pickF rfl rfl hsp9 rfl) (WL_pure rfl rfl (by decide) (Pu_assign rfl rfl) (WL_nil (X_block ?_))))
        exact X_round (x.1 + (decodeL (l.drop x.1)).2, x.2.1 + 1, (x.2.2 || wrongR (decodeL (l.drop x.1)).1)) ⟨by rw [← hchk, chk_some hne hno, List.drop_drop], by show x.2.1 + 1 ≤ x.1 + _; omega, by show x.1 + _ ≤ l.length; omega⟩ (by show l.length - (x.1 + _) < l.length - x.1; omega) ⟨rfl, rfl, congrArg some (show Value.bool (wrongR (decodeL (l.drop x.1)).1) = Value.bool (x.2.2 || wrongR (decodeL (l.drop x.1)).1) by rw [hsp9]; rfl), rfl, trivial⟩ ⟨rfl, rfl, trivial⟩
  ·
    have hend : l.drop x.1 = [] := List.drop_of_length_le hnx3
    rw [hend, chk_nil] at hchk
    refine W_regL (WL_cons rfl rfl (by decide) (OpT_nextLE (r := 101) rfl rfl rfl hnx3 ?_))
    refine (WL_pure rfl rfl (by decide) (Pu_extract rfl rfl rfl) (WL_nil (X_then ?_)))
    refine W_seq ?_
    refine W_false rfl (rfl) ?_
    refine W_exit (X_then_exit (X_then_exit (X_block_exit (X_then ?_))))
    refine W_seq ?_
    refine W_block ?_
    refine W_seq ?_
    refine W.pre (K' := [(0, _), (3, _), (4, _), (20, _), (21, _), (22, _)]) (L' := [(0, _), (101, _)]) ?_ ⟨rfl, ⟨rfl, ⟨rfl, ⟨rfl, ⟨rfl, ⟨rfl, trivial⟩⟩⟩⟩⟩⟩ ⟨rfl, ⟨rfl, trivial⟩⟩
    refine W_regL (WL_pure rfl rfl (by decide) (Pu_move rfl rfl) (WL_pure rfl rfl (by decide) (Pu_assign rfl rfl) (WL_nil (X_then ?_))))
    refine W_cond rfl (fun hc45 => ?_) (fun hc45 => ?_)
    ·
      have hb := hc45
      refine W_seq ?_
      refine W.pre (K' := [(0, _), (3, _), (4, _), (20, _), (21, _), (22, _), (45, _)]) (L' := [(0, _), (101, _)]) ?_ ⟨rfl, ⟨rfl, ⟨rfl, ⟨rfl, ⟨rfl, ⟨rfl, ⟨rfl, trivial⟩⟩⟩⟩⟩⟩⟩ ⟨rfl, ⟨rfl, trivial⟩⟩
      refine W_regL (WL_pure rfl rfl (by decide) (Pu_assign rfl rfl) (WL_nil (X_then ?_)))
      refine W_ret (X_block_ret (X_then_ret ?_))
      exact X_ret [] (Ps := []) (res1 Tryz.results90 rfl) rfl (by decide) ⟨by rw [← hchk, finC, hb]; rfl, rfl⟩
    ·
      have hb := hc45
      refine W_seq ?_
      refine W.pre (K' := [(0, _), (3, _), (4, _), (20, _), (21, _), (22, _), (45, _)]) (L' := [(0, _), (101, _)]) ?_ ⟨rfl, ⟨rfl, ⟨rfl, ⟨rfl, ⟨rfl, ⟨rfl, ⟨rfl, trivial⟩⟩⟩⟩⟩⟩⟩ ⟨rfl, ⟨rfl, trivial⟩⟩
      refine W_regL (WL_pure rfl rfl (by decide) (Pu_move rfl rfl) (WL_pure rfl rfl (by decide) (Pu_bin rfl rfl rfl (run_gtr _ _ _ _ _ _)) (WL_pure rfl rfl (by decide) (Pu_assign rfl rfl) (WL_nil (X_then ?_)))))
      refine W_cond rfl (fun hc47 => ?_) (fun hc47 => ?_)
      ·
        have hb2 := of_decide_eq_true hc47
        refine W_seq ?_
        refine W.pre (K' := [(0, _), (3, _), (4, _), (20, _), (21, _), (22, _), (45, _), (47, _)]) (L' := [(0, _), (101, _)]) ?_ ⟨rfl, ⟨rfl, ⟨rfl, ⟨rfl, ⟨rfl, ⟨rfl, ⟨rfl, ⟨rfl, trivial⟩⟩⟩⟩⟩⟩⟩⟩ ⟨rfl, ⟨rfl, trivial⟩⟩
        refine W_regL (WL_pure rfl rfl (by decide) (Pu_assign rfl rfl) (WL_nil (X_then ?_)))
        refine W_ret (X_block_ret (X_then_ret ?_))
        exact X_ret [] (Ps := []) (res1 Tryz.results90 rfl) rfl (by decide) ⟨by rw [← hchk, finC, hb, if_neg (by decide), if_pos (by omega)]; rfl, rfl⟩
      ·
        have hb2 := of_decide_eq_false hc47
        refine W_skip (X_block (X_then ?_))
        refine W_seq ?_
        refine W.pre (K' := [(0, _), (3, _), (4, _), (20, _), (21, _), (22, _), (45, _), (47, _)]) (L' := [(0, _), (101, _)]) ?_ ⟨rfl, ⟨rfl, ⟨rfl, ⟨rfl, ⟨rfl, ⟨rfl, ⟨rfl, ⟨rfl, trivial⟩⟩⟩⟩⟩⟩⟩⟩ ⟨rfl, ⟨rfl, trivial⟩⟩
        refine W_regL (WL_pure rfl rfl (by decide) (Pu_assign rfl rfl) (WL_nil (X_then ?_)))
        refine W_ret ?_
        exact X_ret [] (Ps := []) (res1 Tryz.results90 rfl) rfl (by decide) ⟨by rw [← hchk, finC, hb, if_neg (by decide), if_neg (by omega)]; rfl, rfl⟩
end Go.Proofs.YthkdkmaacjpneaaGreatDoor
/- Names: paths, in plain words. -/
namespace Go.Proofs.YthkdkmaacjpneaaGreatDoor
open Go.RowKit Go.Lib
set_option linter.unusedVariables false
set_option linter.unusedSimpArgs false
def firstBad : List (List UInt8) → Nat
  | [] => 0
  | x :: r => if checkN x ≠ 0 then checkN x else firstBad r
/-- What is wrong with names. -/
def allN (ls : List (List UInt8)) : Nat := if 5 < ls.length then 4 else firstBad ls
theorem firstBad_at {ls : List (List UInt8)} {k : Nat} (h : k < ls.length) : firstBad (ls.drop k) = if checkN (ls.getD k []) ≠ 0 then checkN (ls.getD k []) else firstBad (ls.drop (k + 1)) := by
  rw [List.drop_eq_getElem_cons h, firstBad]
  simp [List.getElem?_eq_getElem h]
theorem firstBad_bad {ls : List (List UInt8)} {k : Nat} (h : k < ls.length) (hc : ¬ (checkN (ls.getD k []) : Int) = 0) : firstBad (ls.drop k) = checkN (ls.getD k []) := by
  rw [firstBad_at h, if_pos (by omega)]
theorem firstBad_good {ls : List (List UInt8)} {k : Nat} (h : k < ls.length) (hc : (checkN (ls.getD k []) : Int) = 0) : firstBad (ls.drop k) = firstBad (ls.drop (k + 1)) := by
  rw [firstBad_at h, if_neg (by omega)]
theorem firstBad_end {ls : List (List UInt8)} {k : Nat} (h : ls.length ≤ k) : firstBad (ls.drop k) = 0 := by rw [List.drop_of_length_le h]; rfl
/-- Is a text no path, by its strokes at the ends? -/
def noPath (l : List UInt8) : Bool := !(([47] : List UInt8).isPrefixOf l) || ([47] : List UInt8).isSuffixOf l
/-- A path's names, and what is wrong with it. -/
def splitN (l : List UInt8) : List (List UInt8) × Nat :=
  if l = [47] then ([], 0) else if noPath l then ([], 10) else if allN (splitL (l.drop 1)) ≠ 0 then ([], allN (splitL (l.drop 1))) else (splitL (l.drop 1), 0)
/-- The path of names, and what is wrong with them. -/
def joinN (ls : List (List UInt8)) : List UInt8 × Nat := if allN ls ≠ 0 then ([], allN ls) else (47 :: joinL ls, 0)
theorem splitL_mem {l x : List UInt8} (h : x ∈ splitL l) : x.length ≤ l.length := by
  induction l generalizing x with
  | nil => simp [splitL] at h; subst h; simp
  | cons c l ih =>
    unfold splitL at h
    split at h
    · rcases List.mem_cons.1 h with h | h
      · subst h; simp
      · have := ih h; simp; omega
    · split at h
      · rename_i p ps hp
        rcases List.mem_cons.1 h with h | h
        · subst h
          have := ih (x := p) (by rw [hp]; simp)
          simp; omega
        · have := ih (x := x) (by rw [hp]; simp [h])
          simp; omega
      · simp at h; subst h; simp
/-- The pieces, with what stands of the first one ahead. -/
def splitG : List UInt8 → List UInt8 → List (List UInt8)
  | cur, [] => [cur]
  | cur, c :: r => if c = 47 then cur :: splitG [] r else splitG (cur ++ [c]) r
theorem noPath_nil : noPath [] = true := rfl
/-- Names, each with a stroke ahead. -/
def jn (ls : List (List UInt8)) : List UInt8 := (ls.map (47 :: ·)).flatten
theorem getD_mem {ls : List (List UInt8)} {k : Nat} (h : k < ls.length) : ls.getD k [] ∈ ls := by simp [List.getElem?_eq_getElem h]
end Go.Proofs.YthkdkmaacjpneaaGreatDoor
/- latticelaw3: names made of numbers. -/
namespace Go.Proofs.YthkdkmaacjpneaaGreatDoor
open Go.RowKit Go.Lib
set_option linter.unusedVariables false
set_option maxRecDepth 8000
set_option linter.unusedSimpArgs false

/-- The pieces that names are made of. -/
def some13 : List (List UInt8) := [[97], [98], [122], [65], [48], [46], [45], [32], [126], [195, 169], [226, 130, 172], [240, 159, 152, 128], [194, 128]]
def pieceN (z : Int) : List UInt8 := some13.getD (z % 13).toNat []
def fixN (o : List UInt8) : List UInt8 := if bad0 o then o ++ [120] else o
/-- A name made of numbers. -/
def nameN (zs : List Int) : List UInt8 := fixN (((zs.take 12).map pieceN).flatten)
def nameA (zs : List Int) (k : Nat) : List UInt8 := ((zs.take k).map pieceN).flatten
end Go.Proofs.YthkdkmaacjpneaaGreatDoor
/- Names: those made of numbers are names; paths there and back; in plain words. -/
namespace Go.Proofs.YthkdkmaacjpneaaGreatDoor
open Go.RowKit Go.Lib
set_option linter.unusedVariables false
set_option linter.unusedSimpArgs false
end Go.Proofs.YthkdkmaacjpneaaGreatDoor
/- Blocks: plain words. -/
namespace Go.Proofs.YthkdkmaacjpneaaGreatDoor
set_option linter.unusedVariables false
set_option linter.unusedSimpArgs false
/-- How many bytes so many levels lead to. -/
def all8 : Nat → Int
  | 0 => 64
  | n + 1 => all8 n * 8
theorem all8_succ (n : Nat) : all8 n * 8 = all8 (n + 1) := rfl
theorem all8_pos (n : Nat) : 0 < all8 n := by
  induction n with
  | zero => decide
  | succ n ih => simp only [all8]; omega
theorem all8_mono (n : Nat) : ∀ k, all8 n ≤ all8 (n + k)
  | 0 => Int.le_refl _
  | k + 1 => by have := all8_mono n k; have h0 := all8_pos (n + k); show _ ≤ all8 (n + k) * 8; omega
theorem all8_le {n : Nat} (h : n ≤ 7) : all8 n ≤ 134217728 := by
  have := all8_mono n (7 - n)
  rw [show n + (7 - n) = 7 by omega] at this
  exact this
/-- The number of levels of a size. -/
def lev (size : Int) : Nat :=
  if size ≤ 64 then 0 else if size ≤ 512 then 1 else if size ≤ 4096 then 2 else if size ≤ 32768 then 3 else if size ≤ 262144 then 4 else if size ≤ 2097152 then 5 else if size ≤ 16777216 then 6 else 7
theorem lev_of {size : Int} {n : Nat} (h7 : n ≤ 7) (hlo : n = 0 ∨ all8 (n - 1) < size) (hhi : (decide (all8 n < size) && decide ((n : Int) < 7)) = false) : lev size = n := by
  have h : size ≤ all8 n ∨ n = 7 := by simp at hhi; omega
  clear hhi
  have : n = 0 ∨ n = 1 ∨ n = 2 ∨ n = 3 ∨ n = 4 ∨ n = 5 ∨ n = 6 ∨ n = 7 := by omega
  unfold lev
  rcases this with rfl | rfl | rfl | rfl | rfl | rfl | rfl | rfl <;> simp [all8] at hlo h <;> (repeat' split) <;> omega
/-- A number as sz bytes, the highest first. -/
def numB (n : Int) (sz : Nat) : List UInt8 := (List.range sz).map fun j => byte (n.fdiv (2 ^ (8 * (sz - 1 - j))))
/-- The last k of them. -/
def numTo (n : Int) (sz k : Nat) : List UInt8 := (List.range sz).map fun j => if sz - k ≤ j then byte (n.fdiv (2 ^ (8 * (sz - 1 - j)))) else 0
theorem numB_length (n : Int) (sz : Nat) : (numB n sz).length = sz := by simp [numB]
theorem numTo_length (n : Int) (sz k : Nat) : (numTo n sz k).length = sz := by simp [numTo]
theorem numTo_zero (n : Int) (sz : Nat) : bs (numTo n sz 0) = List.replicate sz (.int .u8 0) := by
  apply List.ext_getElem?
  intro j
  simp only [bs, numTo, List.map_map]
  rw [List.getElem?_map]
  by_cases hj : j < sz
  · rw [List.getElem?_range hj, List.getElem?_replicate]
    simp only [Option.map_some, hj, if_true, Nat.sub_zero]
    show some (bv (if sz ≤ j then _ else 0)) = _
    rw [if_neg (by omega)]
    rfl
  · rw [List.getElem?_eq_none (by simpa using hj), List.getElem?_eq_none (by simpa using hj)]
    rfl
theorem numTo_all (n : Int) (sz k : Nat) (hk : k ≤ sz) (h : ¬ (k : Int) < (sz : Int)) : numTo n sz k = numB n sz := by
  unfold numTo numB
  apply List.map_congr_left
  intro j _
  rw [if_pos (by omega)]
theorem numTo_set (n : Int) (sz k : Nat) (h : k < sz) : (bs (numTo n sz k)).set ((sz : Int) - 1 - (k : Int)).toNat (bv (byte (n.fdiv (2 ^ (8 * k))))) = bs (numTo n sz (k + 1)) := by
  have e : ((sz : Int) - 1 - (k : Int)).toNat = sz - 1 - k := by omega
  rw [e]
  apply List.ext_getElem?
  intro j
  rw [List.getElem?_set, bs_get, bs_get]
  unfold numTo
  rw [List.getElem?_map, List.getElem?_map]
  by_cases hj : j < sz
  · rw [List.getElem?_range hj]
    by_cases h1 : sz - 1 - k = j
    · subst h1
      simp only [Option.map_some, if_true]
      rw [if_pos (by rw [bs_length, List.length_map, List.length_range]; omega), if_pos (by omega), show sz - 1 - (sz - 1 - k) = k by omega]
    · rw [if_neg h1]
      simp only [Option.map_some]
      by_cases h2 : sz - k ≤ j
      · rw [if_pos h2, if_pos (by omega)]
      · rw [if_neg h2, if_neg (by omega)]
  · rw [List.getElem?_eq_none (by simpa using hj)]
    simp
    omega
theorem of_and_l {p q : Prop} [Decidable p] [Decidable q] (h : (decide p && decide q) = true) : p := by simp at h; exact h.1
theorem of_and_r {p q : Prop} [Decidable p] [Decidable q] (h : (decide p && decide q) = true) : q := by simp at h; exact h.2
/-- An inode's cells. -/
def nodeC (k s l : Int) (top : List UInt8) : List Value := [.int .i64 k, .int .i64 s, .int .i64 l] ++ bs top
def nodeV (k s l : Int) (top : List UInt8) : Value := .agg (nodeC k s l top).toArray
/-- What is wrong with an inode. -/
def wrongB (s l : Int) (top : List UInt8) : Bool := decide (s < 0) || decide (1048576 < s) || !decide (l = (lev s : Int)) || decide (s = 0) && !(top == zeroId)
def wrongN (k s l : Int) (top : List UInt8) : Int := if k ≠ 1 ∧ k ≠ 2 then 3 else if wrongB s l top then 1 else 0
theorem wrongN_kind {k s l : Int} {top : List UInt8} (h : (!decide (k = 1) && !decide (k = 2)) = true) : 3 = wrongN k s l top := by
  simp at h; unfold wrongN; rw [if_pos h]
theorem wrongN_bad {k s l : Int} {top : List UInt8} (h : (!decide (k = 1) && !decide (k = 2)) = false) (h2 : wrongB s l top = true) : 1 = wrongN k s l top := by
  unfold wrongN
  rw [if_neg (by simp at h; omega), if_pos h2]
theorem wrongN_ok {k s l : Int} {top : List UInt8} (h : (!decide (k = 1) && !decide (k = 2)) = false) (h2 : wrongB s l top = false) : 0 = wrongN k s l top := by
  unfold wrongN
  rw [if_neg (by simp at h; omega), if_neg (by simp [h2])]
/-- An inode, written. -/
def inodeB (k s l : Int) (top : List UInt8) : List UInt8 := [105, byte k] ++ numB s 4 ++ [byte l] ++ top
theorem take_top {k s l : Int} {top : List UInt8} (ht : top.length = 32) : ((nodeC k s l top).drop 3).take 32 = bs top := by
  show (bs top).take 32 = _
  rw [List.take_of_length_le (by rw [bs_length, ht]; omega)]
theorem one_node (k s l : Int) (top : List UInt8) : ∀ x ∈ nodeC k s l top, x.oneCell' = true := by
  intro x hx
  simp only [nodeC, List.mem_append] at hx
  rcases hx with hx | hx
  · simp at hx; rcases hx with rfl | rfl | rfl <;> rfl
  · exact bs_one _ x hx
theorem node_over {k s l : Int} {z top : List UInt8} (hz : z.length = 32) (ht : top.length = 32) : over (nodeC k s l z) 3 (bs top) = nodeC k s l top := by
  have := over_mid [Value.int .i64 k, .int .i64 s, .int .i64 l] (bs z) (bs top) [] (by rw [bs_length, bs_length, hz, ht])
  simpa [nodeC] using this
/-- The number that bytes say. -/
def val (l : List UInt8) : Nat → Nat
  | 0 => 0
  | k + 1 => val l k * 2 ^ 8 + (at0 l k).toNat
theorem val_lt (l : List UInt8) : ∀ k, val l k < 2 ^ (8 * k)
  | 0 => by simp [val]
  | k + 1 => by
    have := val_lt l k
    have h := (at0 l k).toNat_lt
    have e : 2 ^ (8 * (k + 1)) = 2 ^ (8 * k) * 256 := by rw [Nat.mul_add, Nat.pow_add]
    rw [val, e]
    omega
theorem val_small (l : List UInt8) {k : Nat} (h : k ≤ 7) : val l k < 72057594037927936 := by
  have := val_lt l k
  have h2 : 2 ^ (8 * k) ≤ 2 ^ (8 * 7) := Nat.pow_le_pow_right (by omega) (by omega)
  omega
theorem val_take (l : List UInt8) (n : Nat) : ∀ k, k ≤ n → val (l.take n) k = val l k
  | 0, _ => rfl
  | k + 1, h => by
    rw [val, val, val_take l n k (by omega)]
    congr 2
    simp [at0, List.getElem?_take, show k < n by omega]
/-- An inode, read: what is read, the error. -/
def parsed (b : List UInt8) : Int × Int × Int × List UInt8 := ((at0 b 1).toNat, val (b.drop 2) 4, (at0 b 6).toNat, (b.drop 7).take 32)
def parseI (b : List UInt8) : (Int × Int × Int × List UInt8) × Int :=
  if b.length < 39 then ((0, 0, 0, zeroId), 8)
  else if at0 b 0 ≠ 105 ∨ wrongN (parsed b).1 (parsed b).2.1 (parsed b).2.2.1 (parsed b).2.2.2 ≠ 0 then ((0, 0, 0, zeroId), 11)
  else if 39 < b.length then ((0, 0, 0, zeroId), 9)
  else (parsed b, 0)
theorem node_copy {k s l : Int} {z top : List UInt8} (hz : z.length = 32) (ht : top.length = 32) : over (nodeC k s l z) 3 ((bs top).take (min top.length 32)) = nodeC k s l top := by
  rw [List.take_of_length_le (by rw [bs_length]; omega)]
  exact node_over hz ht
theorem parsed_top {b : List UInt8} (h : 39 ≤ b.length) : ((b.drop 7).take 32).length = 32 := by simp; omega
theorem val_lt6 (l : List UInt8) {k : Nat} (h : k ≤ 6) : val l k < 281474976710656 := by
  have := val_lt l k
  have h2 : 2 ^ (8 * k) ≤ 2 ^ (8 * 6) := Nat.pow_le_pow_right (by omega) (by omega)
  omega
theorem parseI_cut {b : List UInt8} (h : (b.length : Int) < 39) : parseI b = ((0, 0, 0, zeroId), 8) := by unfold parseI; rw [if_pos (by omega)]
theorem parseI_bad {b : List UInt8} (h : 39 ≤ b.length) (h2 : (!decide (((at0 b 0).toNat : Int) = 105) || !decide (wrongN (parsed b).1 (parsed b).2.1 (parsed b).2.2.1 (parsed b).2.2.2 = 0)) = true) : parseI b = ((0, 0, 0, zeroId), 11) := by
  unfold parseI
  rw [if_neg (by omega), if_pos]
  simp at h2
  rcases h2 with h2 | h2
  · left; intro e; rw [e] at h2; exact h2 rfl
  · exact .inr h2
theorem parseI_good {b : List UInt8} (h2 : (!decide (((at0 b 0).toNat : Int) = 105) || !decide (wrongN (parsed b).1 (parsed b).2.1 (parsed b).2.2.1 (parsed b).2.2.2 = 0)) = false) : ¬ (at0 b 0 ≠ 105 ∨ wrongN (parsed b).1 (parsed b).2.1 (parsed b).2.2.1 (parsed b).2.2.2 ≠ 0) := by
  simp at h2
  intro h
  rcases h with h | h
  · exact h (UInt8.toNat_inj.1 (by have := h2.1; simp; omega))
  · exact h h2.2
theorem parseI_more {b : List UInt8} (h : 39 ≤ b.length) (h2 : (!decide (((at0 b 0).toNat : Int) = 105) || !decide (wrongN (parsed b).1 (parsed b).2.1 (parsed b).2.2.1 (parsed b).2.2.2 = 0)) = false) (h3 : decide ((39 : Int) < (b.length : Int)) = true) : parseI b = ((0, 0, 0, zeroId), 9) := by
  have := of_decide_eq_true h3
  unfold parseI
  rw [if_neg (by omega), if_neg (parseI_good h2), if_pos (by omega)]
theorem parseI_ok {b : List UInt8} (h : 39 ≤ b.length) (h2 : (!decide (((at0 b 0).toNat : Int) = 105) || !decide (wrongN (parsed b).1 (parsed b).2.1 (parsed b).2.2.1 (parsed b).2.2.2 = 0)) = false) (h3 : decide ((39 : Int) < (b.length : Int)) = false) : parseI b = (parsed b, 0) := by
  have := of_decide_eq_false h3
  unfold parseI
  rw [if_neg (by omega), if_neg (parseI_good h2), if_neg (by omega)]
/-- What Inode answers. -/
def inodeR (k s l : Int) (top : List UInt8) : List UInt8 := if wrongN k s l top = 0 then inodeB k s l top else []
end Go.Proofs.YthkdkmaacjpneaaGreatDoor
/- Blocks: levels, within. -/
namespace Go.Proofs.YthkdkmaacjpneaaGreatDoor
open Go.RowKit
set_option linter.unusedVariables false

theorem levels_spec (size : Int) (F : HP) : CallsS Tryz.prog 152 #[.int .i64 size] F [] (fun v Ps => v = .int .i64 (lev size : Int) ∧ Ps = []) := by
  refine callsS_enter Tryz.func152 rfl Tryz.ntmps152 (by simp) (fun E => ?_)
  refine W_seq ?_
  refine W.pre (K' := [(0, _)]) (L' := [(0, _)]) ?_ ⟨rfl, trivial⟩ ⟨rfl, trivial⟩
  refine W_regL (WL_pure rfl rfl (by decide) (Pu_assign rfl rfl) (WL_nil (X_then ?_)))
  refine W_seq ?_
  refine W.pre (K' := [(0, _), (2, _)]) (L' := [(0, _)]) ?_ ⟨rfl, ⟨rfl, trivial⟩⟩ ⟨rfl, trivial⟩
  refine W_regL (WL_pure rfl rfl (by decide) (Pu_assign rfl rfl) (WL_nil (X_then ?_)))
  refine W_seq ?_
  refine W_seq ?_
  refine W.pre (K' := [(0, _), (2, _), (3, _)]) (L' := [(0, _)]) ?_ ⟨rfl, ⟨rfl, ⟨rfl, trivial⟩⟩⟩ ⟨rfl, trivial⟩
  refine W_regL (WL_pure rfl rfl (by decide) (Pu_assign rfl rfl) (WL_nil (X_then ?_)))
  refine W_block ?_
  refine W_loop (α := Nat) (fun n => [(0, .int .i64 size), (3, .int .i64 (n : Int)), (4, .int .i64 (all8 n))]) (fun n => [(0, F)]) (fun n => n ≤ 7 ∧ (n = 0 ∨ all8 (n - 1) < size)) (fun n => 7 - n) (0) ⟨by omega, .inl rfl⟩ ⟨rfl, ⟨rfl, ⟨rfl, trivial⟩⟩⟩ ⟨rfl, trivial⟩ (fun x hx => ?_)
  obtain ⟨h7, hlo⟩ := hx
  have hb := all8_le h7
  have h0 := all8_pos x
  refine W_seq ?_
  refine W_seq ?_
  refine W.pre (K' := [(0, _), (3, _), (4, _)]) (L' := [(0, _)]) ?_ ⟨rfl, ⟨rfl, ⟨rfl, trivial⟩⟩⟩ ⟨rfl, trivial⟩
  refine W_regL (WL_pure rfl rfl (by decide) (Pu_move rfl rfl) (WL_pure rfl rfl (by decide) (Pu_move rfl rfl) (WL_pure rfl rfl (by decide) (Pu_bin rfl rfl rfl (run_lss _ _ _ _ _ _)) (WL_pure rfl rfl (by decide) (Pu_move rfl rfl) (WL_guardP rfl rfl rfl rfl (by decide) (fun hb => (Pu_move rfl rfl)) (WL_guardP rfl rfl rfl rfl (by decide) (fun hb => (Pu_bin rfl (ev_gv rfl hb) rfl (run_lss _ _ _ _ _ _))) (WL_pure rfl rfl (by decide) (Pu_and rfl rfl rfl) (WL_nil (X_then ?_)))))))))
  refine W_cond rfl (fun hc11 => ?_) (fun hc11 => ?_)
  ·
    refine W_skip (X_then ?_)
    refine W_seq ?_
    refine W_block ?_
    refine W.pre (K' := [(0, _), (3, _), (4, _), (11, _)]) (L' := [(0, _)]) ?_ ⟨rfl, ⟨rfl, ⟨rfl, ⟨rfl, trivial⟩⟩⟩⟩ ⟨rfl, trivial⟩
    refine W_regL (WL_pure rfl rfl (by decide) (Pu_move rfl rfl) (WL_pure rfl rfl (by decide) (Pu_bin rfl rfl rfl (run_add _ _ _ _ _ (by omega))) (WL_pure rfl rfl (by decide) (Pu_assign rfl rfl) (WL_nil (X_block (X_then ?_))))))
    refine W.pre (K' := [(0, _), (3, _), (4, _), (11, _)]) (L' := [(0, _)]) ?_ ⟨rfl, ⟨rfl, ⟨rfl, ⟨rfl, trivial⟩⟩⟩⟩ ⟨rfl, trivial⟩
    refine W_regL (WL_pure rfl rfl (by decide) (Pu_move rfl rfl) (WL_pure rfl rfl (by decide) (Pu_bin rfl rfl rfl (run_mul _ _ _ _ _ (by omega))) (WL_pure rfl rfl (by decide) (Pu_assign rfl rfl) (WL_nil ?_))))
    rw [all8_succ]
    exact X_round (x + 1) ⟨by have h8 := of_and_r hc11; omega, .inr (by simpa using of_and_l hc11)⟩ (by have h8 := of_and_r hc11; omega) ⟨rfl, rfl, rfl, trivial⟩ ⟨rfl, trivial⟩
  ·
    refine W_exit (X_then_exit (X_then_exit (X_block_exit (X_then ?_))))
    refine W_seq ?_
    refine W.pre (K' := [(0, _), (3, _), (4, _), (11, _)]) (L' := [(0, _)]) ?_ ⟨rfl, ⟨rfl, ⟨rfl, ⟨rfl, trivial⟩⟩⟩⟩ ⟨rfl, trivial⟩
    refine W_regL (WL_pure rfl rfl (by decide) (Pu_move rfl rfl) (WL_pure rfl rfl (by decide) (Pu_assign rfl rfl) (WL_nil (X_then ?_))))
    refine W_ret ?_
    exact X_ret [] (Ps := []) (res1 Tryz.results152 rfl) rfl (by decide) ⟨by rw [lev_of h7 hlo hc11], rfl⟩
end Go.Proofs.YthkdkmaacjpneaaGreatDoor
/- Blocks: numbers in bytes. -/
namespace Go.Proofs.YthkdkmaacjpneaaGreatDoor
open Go.RowKit
set_option linter.unusedVariables false
set_option maxRecDepth 8000

theorem number_spec (n : Int) (sz : Nat) (hsz : sz ≤ 8) (F : HP) : CallsS Tryz.prog 129 #[.int .i64 n, .int .i64 (sz : Int)] F [] (fun v Ps => Ps = [rowP 5 1 v sz (bs (numB n sz))]) := by
  refine callsS_enter Tryz.func129 rfl Tryz.ntmps129 (by simp) (fun E => ?_)
  refine W_seq ?_
  refine W.pre (K' := [(0, _), (1, _)]) (L' := [(0, _)]) ?_ ⟨rfl, ⟨rfl, trivial⟩⟩ ⟨rfl, trivial⟩
  refine W_regL (WL_pure rfl rfl (by decide) (Pu_assign rfl rfl) (WL_nil (X_then ?_)))
  refine W_seq ?_
  refine W.pre (K' := [(0, _), (1, _), (4, _)]) (L' := [(0, _)]) ?_ ⟨rfl, ⟨rfl, ⟨rfl, trivial⟩⟩⟩ ⟨rfl, trivial⟩
  refine W_regL (WL_pure rfl rfl (by decide) (Pu_move rfl rfl) (WL_cons rfl rfl (by decide) (OpT_make (r := 101) (m := sz) rfl Tryz.underlying36 TI.hi5 TI.hz5 TI.hs5 rfl rfl (by rw [TI.hby5]; omega) (by unfold maxLen; omega) (made_one _ _) (fun v8 => ?_))))
  refine (WL_pure rfl rfl (by decide) (Pu_assign rfl rfl) (WL_nil (X_then ?_)))
  refine W_seq ?_
  refine W_seq ?_
  refine W.pre (K' := [(0, _), (1, _), (4, _), (5, _)]) (L' := [(0, _), (101, _)]) ?_ ⟨rfl, ⟨rfl, ⟨rfl, ⟨rfl, trivial⟩⟩⟩⟩ ⟨rfl, ⟨rfl, trivial⟩⟩
  refine W_regL (WL_pure rfl rfl (by decide) (Pu_move rfl rfl) (WL_pure rfl rfl (by decide) (Pu_len (r := 101) rfl Tryz.runUnderlying36 rfl rfl (fun _ h => rowP_rd h)) (WL_pure rfl rfl (by decide) (Pu_move rfl rfl) (WL_nil (X_then ?_)))))
  refine W_block ?_
  refine W_loop (α := Nat) (fun k => [(0, .int .i64 n), (1, .int .i64 (sz : Int)), (5, v8), (10, .int .i64 (sz : Int)), (11, .int .i64 (k : Int))]) (fun k => [(0, F), (101, rowP 5 1 v8 sz (bs (numTo n sz k)))]) (fun k => k ≤ sz) (fun k => sz - k) (0) (by omega) ⟨rfl, ⟨rfl, ⟨rfl, ⟨rfl, ⟨rfl, trivial⟩⟩⟩⟩⟩ ⟨rfl, by rw [numTo_zero]; rfl, trivial⟩ (fun x hx => ?_)
  have hlen := numTo_length n sz x
  refine W_seq ?_
  refine W.pre (K' := [(0, _), (1, _), (5, _), (10, _), (11, _)]) (L' := [(0, _), (101, _)]) ?_ ⟨rfl, ⟨rfl, ⟨rfl, ⟨rfl, ⟨rfl, trivial⟩⟩⟩⟩⟩ ⟨rfl, ⟨rfl, trivial⟩⟩
  refine W_regL (WL_pure rfl rfl (by decide) (Pu_bin rfl rfl rfl (run_lss _ _ _ _ _ _)) (WL_nil (X_then ?_)))
  refine W_seq ?_
  refine W_cond rfl (fun hc12 => ?_) (fun hc12 => ?_)
  ·
    have hlt := of_decide_eq_true hc12
    refine W_skip (X_then ?_)
    refine W_seq ?_
    refine W_block ?_
    refine W_seq ?_
    refine W.pre (K' := [(0, _), (1, _), (5, _), (10, _), (11, _), (12, _)]) (L' := [(0, _), (101, _)]) ?_ ⟨rfl, ⟨rfl, ⟨rfl, ⟨rfl, ⟨rfl, ⟨rfl, trivial⟩⟩⟩⟩⟩⟩ ⟨rfl, ⟨rfl, trivial⟩⟩
    refine W_regL (WL_pure rfl rfl (by decide) (Pu_move rfl rfl) (WL_pure rfl rfl (by decide) (Pu_assign rfl rfl) (WL_nil (X_then ?_))))
    refine W.pre (K' := [(0, _), (1, _), (5, _), (6, _), (10, _), (11, _), (12, _)]) (L' := [(0, _), (101, _)]) ?_ ⟨rfl, ⟨rfl, ⟨rfl, ⟨rfl, ⟨rfl, ⟨rfl, ⟨rfl, trivial⟩⟩⟩⟩⟩⟩⟩ ⟨rfl, ⟨rfl, trivial⟩⟩
    refine W_regL (WL_pure rfl rfl (by decide) (Pu_move rfl rfl) (WL_pure rfl rfl (by decide) (Pu_move rfl rfl) (WL_pure rfl rfl (by decide) (Pu_bin rfl rfl rfl (run_sub _ _ _ _ _ (by omega))) (WL_pure rfl rfl (by decide) (Pu_move rfl rfl) (WL_pure rfl rfl (by decide) (Pu_bin rfl rfl rfl (run_sub _ _ _ _ _ (by omega))) (WL_pure rfl rfl (by decide) (Pu_move rfl rfl) (WL_pure rfl rfl (by decide) (Pu_move rfl rfl) (WL_pure rfl rfl (by decide) (Pu_bin rfl rfl rfl (run_mul _ _ _ _ _ (by omega))) (WL_pure rfl rfl (by decide) (Pu_bin rfl rfl rfl (run_shr _ (8 * x) _ _ _ (by omega))) (WL_pure rfl rfl (by decide) (Pu_conv rfl rfl (conv_byte _ _ Tryz.runUnderlying3 Tryz.runUnderlying5)) (WL_pure rfl rfl (by decide) (Pu_idxS1 (r := 101) rfl Tryz.runUnderlying36 Tryz.sizeOf5 rfl rfl rfl (fun _ h => rowP_rd h) (by omega)) (WL_cons0 rfl rfl (OpT_storeS1 (r := 101) rfl Tryz.sizeOf5 rfl rfl rfl rfl (by rw [bs_length]; omega) (numTo_set n sz x (by omega)) ?_)))))))))))))
    refine (WL_nil (X_block (X_then ?_)))
    refine W.pre (K' := [(0, _), (1, _), (5, _), (6, _), (10, _), (11, _), (12, _)]) (L' := [(0, _), (101, _)]) ?_ ⟨rfl, ⟨rfl, ⟨rfl, ⟨rfl, ⟨rfl, ⟨rfl, ⟨rfl, trivial⟩⟩⟩⟩⟩⟩⟩ ⟨rfl, ⟨rfl, trivial⟩⟩
    refine W_regL (WL_pure rfl rfl (by decide) (Pu_bin rfl rfl rfl (run_add _ _ _ _ _ (by omega))) (WL_pure rfl rfl (by decide) (Pu_move rfl rfl) (WL_nil ?_)))
    exact X_round (x + 1) (by have := of_decide_eq_true hc12; omega) (by have := of_decide_eq_true hc12; omega) ⟨rfl, rfl, rfl, rfl, rfl, trivial⟩ ⟨rfl, rfl, trivial⟩
  ·
    refine W_exit (X_then_exit (X_then_exit (X_block_exit (X_then ?_))))
    refine W_seq ?_
    refine W.pre (K' := [(0, _), (1, _), (5, _), (10, _), (11, _), (12, _)]) (L' := [(0, _), (101, _)]) ?_ ⟨rfl, ⟨rfl, ⟨rfl, ⟨rfl, ⟨rfl, ⟨rfl, trivial⟩⟩⟩⟩⟩⟩ ⟨rfl, ⟨rfl, trivial⟩⟩
    refine W_regL (WL_pure rfl rfl (by decide) (Pu_move rfl rfl) (WL_pure rfl rfl (by decide) (Pu_assign rfl rfl) (WL_nil (X_then ?_))))
    refine W_ret ?_
    exact X_ret [101] (Ps := [_]) (res1 Tryz.results129 rfl) rfl (by decide) (by rw [numTo_all n sz x hx (by have := of_decide_eq_false hc12; omega)])
end Go.Proofs.YthkdkmaacjpneaaGreatDoor
/- Blocks: what is wrong with an inode; inodes written. -/
namespace Go.Proofs.YthkdkmaacjpneaaGreatDoor
open Go.RowKit
set_option linter.unusedVariables false
set_option maxRecDepth 8000

/-- Ids compared. -/
theorem run_idEq (xs ys : List UInt8) (hx : xs.length = 32) (hy : ys.length = 32) (x y : Operand) (w : World) : ((do eqGuard .eql 29 x y (.agg (bs xs).toArray) (.agg (bs ys).toArray); binOp .eql 29 (.agg (bs xs).toArray) (.agg (bs ys).toArray) : Sem Value)).run Tryz.prog w = .ok (.bool (xs == ys)) w := by
  have h := run_equalIn_bytes w 9998 29 5 32 Tryz.underlying29 Tryz.underlying5 (fun w => by kernel_rfl) xs ys hx hy
  have hg : Tryz.prog.eqGuardType Tryz.prog.depth 29 = false := Tryz.eqGuardType29
  rw [show List.map Extern.Stop.cell xs = bs xs from rfl, show List.map Extern.Stop.cell ys = bs ys from rfl] at h
  simp only [Nat.reduceAdd] at h
  simp [eqGuard, binOp, Op.equal, Op.maxDepth, h, hg, program, Sem.run]
theorem run_idNe (xs ys : List UInt8) (hx : xs.length = 32) (hy : ys.length = 32) (x y : Operand) (w : World) : ((do eqGuard .neq 29 x y (.agg (bs xs).toArray) (.agg (bs ys).toArray); binOp .neq 29 (.agg (bs xs).toArray) (.agg (bs ys).toArray) : Sem Value)).run Tryz.prog w = .ok (.bool (!(xs == ys))) w := by
  have h := run_equalIn_bytes w 9998 29 5 32 Tryz.underlying29 Tryz.underlying5 (fun w => by kernel_rfl) xs ys hx hy
  have hg : Tryz.prog.eqGuardType Tryz.prog.depth 29 = false := Tryz.eqGuardType29
  rw [show List.map Extern.Stop.cell xs = bs xs from rfl, show List.map Extern.Stop.cell ys = bs ys from rfl] at h
  simp only [Nat.reduceAdd] at h
  simp [eqGuard, binOp, Op.equal, Op.maxDepth, h, hg, program, Sem.run]
theorem nodeC_length {k s l : Int} {top : List UInt8} (ht : top.length = 32) : (nodeC k s l top).length = 35 := by simp [nodeC, bs_length, ht]
section
variable {E : Env} {n : Nat} {K : Slots} {L : Res} {o : Oper}
theorem Pu_idZero (ho : o.op = .build 29 #[]) : Pure Tryz.prog E n o K L (.agg (bs zeroId).toArray) := fun a w hA hS => by
  have h := run_build (P := Tryz.prog) w 29 #[] (bs zeroId).toArray (by kernel_rfl)
  simp [execOp, ho, h]
end

theorem wrong_spec (k s l : Int) (top : List UInt8) (ht : top.length = 32) (F : HP) : CallsS Tryz.prog 121 #[nodeV k s l top] F [] (fun v Ps => v = .int .i64 (wrongN k s l top) ∧ Ps = []) := by
  refine callsS_enter Tryz.func121 rfl Tryz.ntmps121 (by simp) (fun E => ?_)
  refine W_seq ?_
  refine W.pre (K' := [(0, _)]) (L' := [(0, _)]) ?_ ⟨rfl, trivial⟩ ⟨rfl, trivial⟩
  refine W_regL (WL_cons rfl rfl (by decide) (OpT_box (r := 101) rfl rfl rfl (fun g101 => (WL_pure rfl rfl (by decide) (Pu_assign rfl rfl) (WL_nil (X_then ?_))))))
  refine W_seq ?_
  refine W_block ?_
  refine W_seq ?_
  refine W.pre (K' := [(0, _), (1, _), (2, _)]) (L' := [(0, _), (101, _)]) ?_ ⟨rfl, ⟨rfl, ⟨rfl, trivial⟩⟩⟩ ⟨rfl, ⟨rfl, trivial⟩⟩
  refine W_regL (WL_pure rfl rfl (by decide) (Pu_fieldAddrB (off := 0) rfl rfl (by kernel_rfl)) (WL_pure rfl rfl (by decide) (Pu_loadB (r := 101) rfl Tryz.isAgg3 rfl rfl rfl) (WL_pure rfl rfl (by decide) (Pu_bin rfl rfl rfl (run_neq _ _ _ _ _ _)) (WL_pure rfl rfl (by decide) (Pu_move rfl rfl) (WL_guardP rfl rfl rfl rfl (by decide) (fun hb => (Pu_fieldAddrB (off := 0) rfl rfl (by kernel_rfl))) (WL_guardP rfl rfl rfl rfl (by decide) (fun hb => (Pu_loadB (r := 101) rfl Tryz.isAgg3 (ev_gv rfl hb) rfl rfl)) (WL_guardP rfl rfl rfl rfl (by decide) (fun hb => (Pu_bin rfl (ev_gv rfl hb) rfl (run_neq _ _ _ _ _ _))) (WL_pure rfl rfl (by decide) (Pu_and rfl rfl rfl) (WL_pure rfl rfl (by decide) (Pu_assign rfl rfl) (WL_nil (X_then ?_)))))))))))
  refine W_cond rfl (fun hc3 => ?_) (fun hc3 => ?_)
  ·
    refine W_seq ?_
    refine W.pre (K' := [(0, _), (1, _), (2, _), (3, _)]) (L' := [(0, _), (101, _)]) ?_ ⟨rfl, ⟨rfl, ⟨rfl, ⟨rfl, trivial⟩⟩⟩⟩ ⟨rfl, ⟨rfl, trivial⟩⟩
    refine W_regL (WL_pure rfl rfl (by decide) (Pu_assign rfl rfl) (WL_nil (X_then ?_)))
    refine W_ret (X_block_ret (X_then_ret ?_))
    exact X_ret [] (Ps := []) (res1 Tryz.results121 rfl) rfl (by decide) ⟨int_val (wrongN_kind hc3), rfl⟩
  ·
    refine W_seq ?_
    refine W.pre (K' := [(0, _), (1, _), (2, _), (3, _)]) (L' := [(0, _), (101, _)]) ?_ ⟨rfl, ⟨rfl, ⟨rfl, ⟨rfl, trivial⟩⟩⟩⟩ ⟨rfl, ⟨rfl, trivial⟩⟩
    refine W_draw (N := 28) (by kernel_rfl) rfl [(0, _), (101, _)] ⟨rfl, ⟨rfl, trivial⟩⟩ ?_
    refine (AH_take 0 rfl (by kernel_rfl) (by kernel_rfl) (by kernel_rfl) rfl rfl (by decide) (Pu_fieldAddrB (off := 1) rfl rfl (by kernel_rfl)) (AH_take 1 rfl (by kernel_rfl) (by kernel_rfl) (by kernel_rfl) rfl rfl (by decide) (Pu_loadB (r := 101) rfl Tryz.isAgg3 rfl rfl rfl) (AH_take 2 rfl (by kernel_rfl) (by kernel_rfl) (by kernel_rfl) rfl rfl (by decide) (Pu_bin rfl rfl rfl (run_lss _ _ _ _ _ _)) (AH_take 3 rfl (by kernel_rfl) (by kernel_rfl) (by kernel_rfl) rfl rfl (by decide) (Pu_move rfl rfl) (AH_takeG 4 rfl (by kernel_rfl) (by kernel_rfl) (by kernel_rfl) rfl rfl rfl rfl (by decide) (fun hb => (Pu_fieldAddrB (off := 1) rfl rfl (by kernel_rfl))) (AH_takeG 5 rfl (by kernel_rfl) (by kernel_rfl) (by kernel_rfl) rfl rfl rfl rfl (by decide) (fun hb => (Pu_loadB (r := 101) rfl Tryz.isAgg3 (ev_gv rfl hb) rfl rfl)) (AH_takeG 6 rfl (by kernel_rfl) (by kernel_rfl) (by kernel_rfl) rfl rfl rfl rfl (by decide) (fun hb => (Pu_bin rfl (ev_gv rfl hb) rfl (run_gtr _ _ _ _ _ _))) (AH_take 7 rfl (by kernel_rfl) (by kernel_rfl) (by kernel_rfl) rfl rfl (by decide) (Pu_or rfl rfl rfl) (AH_take 8 rfl (by kernel_rfl) (by kernel_rfl) (by kernel_rfl) rfl rfl (by decide) (Pu_move rfl rfl) (AH_takeG 9 rfl (by kernel_rfl) (by kernel_rfl) (by kernel_rfl) rfl rfl rfl rfl (by decide) (fun hb => (Pu_fieldAddrB (off := 2) rfl rfl (by kernel_rfl))) (AH_takeG 10 rfl (by kernel_rfl) (by kernel_rfl) (by kernel_rfl) rfl rfl rfl rfl (by decide) (fun hb => (Pu_loadB (r := 101) rfl Tryz.isAgg3 (ev_gv rfl hb) rfl rfl)) (AH_takeG 11 rfl (by kernel_rfl) (by kernel_rfl) (by kernel_rfl) rfl rfl rfl rfl (by decide) (fun hb => (Pu_fieldAddrB (off := 1) rfl rfl (by kernel_rfl))) (AH_takeG 12 rfl (by kernel_rfl) (by kernel_rfl) (by kernel_rfl) rfl rfl rfl rfl (by decide) (fun hb => (Pu_loadB (r := 101) rfl Tryz.isAgg3 (ev_gv rfl hb) rfl rfl)) (AH_ready [13] (by kernel_rfl) (by decide) ?_))))))))))))))
    refine AHs_consG (V := .int .i64 (lev s : Int)) rfl rfl rfl rfl rfl (by decide) (fun hb => (OpT_call 200 [0, 101] [] rfl Tryz.call152 (evL_cons (ev_gv rfl hb) evL_nil) rfl rfl (by decide) (by decide) (levels_spec s _) (fun v26 Ps26 hR26 => ⟨hR26.1, fun w hw => by rw [hR26.2] at hw; exact hw.sub (AllIn.look ⟨rfl, rfl, trivial⟩)⟩))) ⟨rfl, ⟨rfl, trivial⟩⟩ ?_ ?_
    ·
      refine (AH_takeG 14 rfl (by kernel_rfl) (by kernel_rfl) (by kernel_rfl) rfl rfl rfl rfl (by decide) (fun hb => (Pu_bin rfl (ev_gv rfl hb) (ev_gv rfl hb) (run_neq _ _ _ _ _ _))) (AH_take 15 rfl (by kernel_rfl) (by kernel_rfl) (by kernel_rfl) rfl rfl (by decide) (Pu_or rfl rfl rfl) (AH_take 16 rfl (by kernel_rfl) (by kernel_rfl) (by kernel_rfl) rfl rfl (by decide) (Pu_move rfl rfl) (AH_takeG 17 rfl (by kernel_rfl) (by kernel_rfl) (by kernel_rfl) rfl rfl rfl rfl (by decide) (fun hb => (Pu_fieldAddrB (off := 1) rfl rfl (by kernel_rfl))) (AH_takeG 18 rfl (by kernel_rfl) (by kernel_rfl) (by kernel_rfl) rfl rfl rfl rfl (by decide) (fun hb => (Pu_loadB (r := 101) rfl Tryz.isAgg3 (ev_gv rfl hb) rfl rfl)) (AH_takeG 19 rfl (by kernel_rfl) (by kernel_rfl) (by kernel_rfl) rfl rfl rfl rfl (by decide) (fun hb => (Pu_bin rfl (ev_gv rfl hb) rfl (run_eql _ _ _ _ _ _))) (AH_takeG 20 rfl (by kernel_rfl) (by kernel_rfl) (by kernel_rfl) rfl rfl rfl rfl (by decide) (fun hb => (Pu_move rfl (ev_gv rfl hb))) (AH_takeG2 21 rfl (by kernel_rfl) (by kernel_rfl) (by kernel_rfl) rfl rfl rfl rfl (by decide) (fun hb => (Pu_fieldAddrB (off := 3) rfl rfl (by kernel_rfl))) (AH_takeG2 22 rfl (by kernel_rfl) (by kernel_rfl) (by kernel_rfl) rfl rfl rfl rfl (by decide) (fun hb => (Pu_loadBN (r := 101) rfl Tryz.isAgg29 Tryz.sizeOf29 (ev_gv rfl hb) rfl (by rw [bs_length, ht]) (by show (bs top).take 32 = _; rw [List.take_of_length_le (by rw [bs_length, ht]; omega)]))) (AH_takeG2 23 rfl (by kernel_rfl) (by kernel_rfl) (by kernel_rfl) rfl rfl rfl rfl (by decide) (fun hb => (Pu_idZero rfl)) (AH_takeG2 24 rfl (by kernel_rfl) (by kernel_rfl) (by kernel_rfl) rfl rfl rfl rfl (by decide) (fun hb => (Pu_bin rfl (ev_gv rfl hb) (ev_gv rfl hb) (run_idNe _ _ ht zeroId_length _ _))) (AH_takeG 25 rfl (by kernel_rfl) (by kernel_rfl) (by kernel_rfl) rfl rfl rfl rfl (by decide) (fun hb => (Pu_and2 hb rfl (ev_gv rfl hb) rfl)) (AH_take 26 rfl (by kernel_rfl) (by kernel_rfl) (by kernel_rfl) rfl rfl (by decide) (Pu_or rfl rfl rfl) (AH_take 27 rfl (by kernel_rfl) (by kernel_rfl) (by kernel_rfl) rfl rfl (by decide) (Pu_assign rfl rfl) (AH_done (by kernel_rfl) (X_then ?_))))))))))))))))
      refine W_cond rfl (fun hc12 => ?_) (fun hc12 => ?_)
      ·
        refine W_seq ?_
        refine W.pre (K' := [(0, _), (1, _), (2, _), (3, _), (12, _)]) (L' := [(0, _), (101, _)]) ?_ ⟨rfl, ⟨rfl, ⟨rfl, ⟨rfl, ⟨rfl, trivial⟩⟩⟩⟩⟩ ⟨rfl, ⟨rfl, trivial⟩⟩
        refine W_regL (WL_pure rfl rfl (by decide) (Pu_assign rfl rfl) (WL_nil (X_then ?_)))
        refine W_ret (X_block_ret (X_then_ret ?_))
        exact X_ret [] (Ps := []) (res1 Tryz.results121 rfl) rfl (by decide) ⟨int_val (wrongN_bad hc3 hc12), rfl⟩
      ·
        refine W_skip (X_block (X_then ?_))
        refine W_seq ?_
        refine W.pre (K' := [(0, _), (1, _), (2, _), (3, _), (12, _)]) (L' := [(0, _), (101, _)]) ?_ ⟨rfl, ⟨rfl, ⟨rfl, ⟨rfl, ⟨rfl, trivial⟩⟩⟩⟩⟩ ⟨rfl, ⟨rfl, trivial⟩⟩
        refine W_regL (WL_pure rfl rfl (by decide) (Pu_assign rfl rfl) (WL_nil (X_then ?_)))
        refine W_ret ?_
        exact X_ret [] (Ps := []) (res1 Tryz.results121 rfl) rfl (by decide) ⟨int_val (wrongN_ok hc3 hc12), rfl⟩
    exact AHs_nil
theorem inode_spec (k s l : Int) (top : List UInt8) (ht : top.length = 32) (F : HP) : CallsS Tryz.prog 95 #[nodeV k s l top] F [] (fun v Ps => ∃ v', v = .tuple #[v', .int .i64 (wrongN k s l top)] ∧ Ps = [rowB 5 v' (inodeR k s l top)]) := by
  refine callsS_enter Tryz.func95 rfl Tryz.ntmps95 (by simp) (fun E => ?_)
  refine W_seq ?_
  refine W.pre (K' := [(0, _)]) (L' := [(0, _)]) ?_ ⟨rfl, trivial⟩ ⟨rfl, trivial⟩
  refine W_regL (WL_cons rfl rfl (by decide) (OpT_box (r := 101) rfl rfl rfl (fun g101 => (WL_pure rfl rfl (by decide) (Pu_assign rfl rfl) (WL_pure rfl rfl (by decide) (Pu_assign rfl rfl) (WL_nil (X_then ?_)))))))
  refine W_seq ?_
  refine W_seq ?_
  refine W.pre (K' := [(0, _), (1, _), (2, _), (3, _)]) (L' := [(0, _), (101, _)]) ?_ ⟨rfl, ⟨rfl, ⟨rfl, ⟨rfl, trivial⟩⟩⟩⟩ ⟨rfl, ⟨rfl, trivial⟩⟩
  refine W_regL (WL_pure rfl rfl (by decide) (Pu_loadBN (r := 101) rfl Tryz.isAgg42 Tryz.sizeOf42 rfl rfl (nodeC_length ht) (load_all (nodeC_length ht))) (WL_cons rfl rfl (by decide) (OpT_call 200 [0, 101] [] rfl Tryz.call121 rfl rfl rfl (by decide) (by decide) (wrong_spec k s l top ht _) (fun v7 Ps7 hR7 => ?_))))
  obtain ⟨rfl, rfl⟩ := hR7
  refine (WL_pure rfl rfl (by decide) (Pu_assign rfl rfl) (WL_nil (X_then ?_)))
  refine W_seq ?_
  refine W.pre (K' := [(0, _), (1, _), (2, _), (3, _), (4, _)]) (L' := [(0, _), (101, _)]) ?_ ⟨rfl, ⟨rfl, ⟨rfl, ⟨rfl, ⟨rfl, trivial⟩⟩⟩⟩⟩ ⟨rfl, ⟨rfl, trivial⟩⟩
  refine W_regL (WL_pure rfl rfl (by decide) (Pu_move rfl rfl) (WL_pure rfl rfl (by decide) (Pu_bin rfl rfl rfl (run_neq _ _ _ _ _ _)) (WL_nil (X_then ?_))))
  refine W_cond rfl (fun hc9 => ?_) (fun hc9 => ?_)
  ·
    refine W_seq ?_
    refine W.pre (K' := [(0, _), (1, _), (2, _), (3, _), (4, _), (9, _)]) (L' := [(0, _), (101, _)]) ?_ ⟨rfl, ⟨rfl, ⟨rfl, ⟨rfl, ⟨rfl, ⟨rfl, trivial⟩⟩⟩⟩⟩⟩ ⟨rfl, ⟨rfl, trivial⟩⟩
    refine W_regL (WL_pure rfl rfl (by decide) (Pu_move rfl rfl) (WL_pure rfl rfl (by decide) (Pu_assign rfl rfl) (WL_pure rfl rfl (by decide) (Pu_assign rfl rfl) (WL_nil (X_then ?_)))))
    refine W_ret (X_then_ret ?_)
    refine X_nilRow 900 5 1 ?_
    exact X_ret [900] (Ps := [_]) (res2 Tryz.results95 rfl rfl) rfl (by decide) ⟨_, rfl, by rw [inodeR, if_neg (by simpa using hc9)]; rfl⟩
  ·
    refine W_skip (X_then ?_)
    refine W_seq ?_
    refine W.pre (K' := [(0, _), (1, _), (2, _), (3, _), (4, _), (9, _)]) (L' := [(0, _), (101, _)]) ?_ ⟨rfl, ⟨rfl, ⟨rfl, ⟨rfl, ⟨rfl, ⟨rfl, trivial⟩⟩⟩⟩⟩⟩ ⟨rfl, ⟨rfl, trivial⟩⟩
    refine W_draw (N := 9) (by kernel_rfl) rfl [(0, _), (101, _)] ⟨rfl, ⟨rfl, trivial⟩⟩ ?_
    refine (AH_take 0 rfl (by kernel_rfl) (by kernel_rfl) (by kernel_rfl) rfl rfl (by decide) (Pu_fieldAddrB (off := 0) rfl rfl (by kernel_rfl)) (AH_take 1 rfl (by kernel_rfl) (by kernel_rfl) (by kernel_rfl) rfl rfl (by decide) (Pu_loadB (r := 101) rfl Tryz.isAgg3 rfl rfl rfl) (AH_take 2 rfl (by kernel_rfl) (by kernel_rfl) (by kernel_rfl) rfl rfl (by decide) (Pu_conv rfl rfl (conv_byte _ _ Tryz.runUnderlying3 Tryz.runUnderlying5)) (AH_take 4 rfl (by kernel_rfl) (by kernel_rfl) (by kernel_rfl) rfl rfl (by decide) (Pu_fieldAddrB (off := 1) rfl rfl (by kernel_rfl)) (AH_take 5 rfl (by kernel_rfl) (by kernel_rfl) (by kernel_rfl) rfl rfl (by decide) (Pu_loadB (r := 101) rfl Tryz.isAgg3 rfl rfl rfl) (AH_ready [3, 6] (by kernel_rfl) (by decide) ?_))))))
    refine AHs_cons rfl rfl rfl (by decide) (OpT_buildOnes (r := 201) (bs [105, byte k]) rfl rfl Tryz.runUnderlying36 Tryz.sizeOf5 Tryz.zeroValue5 rfl rfl (by decide) rfl (bs_cells _) (fun v14 => ⟨⟨rfl, ⟨rfl, trivial⟩⟩, ?_⟩)) ?_
    ·
      refine (AH_ready [6] (by kernel_rfl) (by decide) ?_)
      refine AHs_cons rfl rfl rfl (by decide) (OpT_call 300 [0, 101, 201] [] rfl Tryz.call129 rfl rfl rfl (by decide) (by decide) (number_spec s 4 (by omega) _) (fun v17 Ps17 hR17 => ?_)) ?_
      ·
        subst hR17
        refine ⟨⟨rfl, ⟨rfl, trivial⟩⟩, ?_⟩
        refine (AH_ready [7] (by kernel_rfl) (by decide) ?_)
        refine AHs_cons rfl rfl rfl (by decide) (OpT_append (r := 201) (r2 := 300) rfl Tryz.underlying36 TI.hi5 TI.hz5 TI.hs5 TI.hby5 TI.hzs5 (by decide) rfl rfl rfl rfl (fun _ h => rowP_rd h) (bs_one _) (by unfold maxLen; omega) (by omega) (fun v18 => ?_)) ?_
        ·
          refine ⟨⟨rfl, ⟨rfl, trivial⟩⟩, ?_⟩
          refine (AH_take 8 rfl (by kernel_rfl) (by kernel_rfl) (by kernel_rfl) rfl rfl (by decide) (Pu_assign rfl rfl) (AH_done (by kernel_rfl) (X_then ?_)))
          refine W_seq ?_
          refine W.pre (K' := [(0, _), (1, _), (2, _), (3, _), (4, _), (5, _), (9, _)]) (L' := [(0, _), (101, _), (201, _), (300, _)]) ?_ ⟨rfl, ⟨rfl, ⟨rfl, ⟨rfl, ⟨rfl, ⟨rfl, ⟨rfl, trivial⟩⟩⟩⟩⟩⟩⟩ ⟨rfl, ⟨rfl, ⟨rfl, ⟨rfl, trivial⟩⟩⟩⟩
          refine W_draw (N := 11) (by kernel_rfl) rfl [(0, _), (101, _)] ⟨rfl, ⟨rfl, trivial⟩⟩ ?_
          refine (AH_take 0 rfl (by kernel_rfl) (by kernel_rfl) (by kernel_rfl) rfl rfl (by decide) (Pu_move rfl rfl) (AH_take 1 rfl (by kernel_rfl) (by kernel_rfl) (by kernel_rfl) rfl rfl (by decide) (Pu_fieldAddrB (off := 2) rfl rfl (by kernel_rfl)) (AH_take 2 rfl (by kernel_rfl) (by kernel_rfl) (by kernel_rfl) rfl rfl (by decide) (Pu_loadB (r := 101) rfl Tryz.isAgg3 rfl rfl rfl) (AH_take 3 rfl (by kernel_rfl) (by kernel_rfl) (by kernel_rfl) rfl rfl (by decide) (Pu_conv rfl rfl (conv_byte _ _ Tryz.runUnderlying3 Tryz.runUnderlying5)) (AH_take 6 rfl (by kernel_rfl) (by kernel_rfl) (by kernel_rfl) rfl rfl (by decide) (Pu_fieldAddrB (off := 3) rfl rfl (by kernel_rfl)) (AH_take 7 rfl (by kernel_rfl) (by kernel_rfl) (by kernel_rfl) rfl rfl (by decide) (Pu_sliceArr rfl Tryz.runUnderlying29 Tryz.sizeOf5 rfl) (AH_ready [4] (by kernel_rfl) (by decide) ?_)))))))
          refine AHs_cons rfl rfl rfl (by decide) (OpT_buildOnes (r := 301) (bs [byte l]) rfl rfl Tryz.runUnderlying36 Tryz.sizeOf5 Tryz.zeroValue5 rfl rfl (by decide) rfl (bs_cells _) (fun v23 => ⟨⟨rfl, ⟨rfl, trivial⟩⟩, ?_⟩)) ?_
          ·
            refine (AH_ready [5] (by kernel_rfl) (by decide) ?_)
            refine AHs_cons rfl rfl rfl (by decide) (OpT_append (r := 201) (r2 := 301) rfl Tryz.underlying36 TI.hi5 TI.hz5 TI.hs5 TI.hby5 TI.hzs5 (by decide) rfl rfl rfl rfl (fun _ h => rowP_rd h) (bs_one _) (by unfold maxLen; omega) (by omega) (fun v24 => ?_)) ?_
            ·
              refine ⟨⟨rfl, ⟨rfl, trivial⟩⟩, ?_⟩
              refine (AH_ready [8] (by kernel_rfl) (by decide) ?_)
              refine AHs_cons rfl rfl rfl (by decide) (OpT_append (r := 201) (r2 := 101) rfl Tryz.underlying36 TI.hi5 TI.hz5 TI.hs5 TI.hby5 TI.hzs5 (by decide) rfl rfl rfl rfl (fun _ h => blk_rd (xs := bs top) h (take_top ht) (by rw [bs_length, ht]) (by omega)) (bs_one _) (by unfold maxLen; omega) (by omega) (fun v27 => ?_)) ?_
              ·
                refine ⟨⟨rfl, ⟨rfl, trivial⟩⟩, ?_⟩
                refine (AH_take 9 rfl (by kernel_rfl) (by kernel_rfl) (by kernel_rfl) rfl rfl (by decide) (Pu_assign rfl rfl) (AH_take 10 rfl (by kernel_rfl) (by kernel_rfl) (by kernel_rfl) rfl rfl (by decide) (Pu_assign rfl rfl) (AH_done (by kernel_rfl) (X_then ?_))))
                refine W_ret ?_
                exact X_ret [201] (Ps := [_]) (res2 Tryz.results95 rfl rfl) rfl (by decide) ⟨_, by simp at hc9; rw [hc9], by rw [inodeR, if_pos (by simpa using hc9)]; exact congrArg (· :: []) (rowB_of _ (by simp [inodeB, numB_length, ht]) (by unfold inodeB; simp only [bs_append]))⟩
              exact AHs_nil
            exact AHs_nil
          exact AHs_nil
        exact AHs_nil
      exact AHs_nil
    refine AHs_cons rfl rfl rfl (by decide) (OpT_call 300 [0, 101] [] rfl Tryz.call129 rfl rfl rfl (by decide) (by decide) (number_spec s 4 (by omega) _) (fun v17 Ps17 hR17 => ?_)) ?_
    ·
      subst hR17
      refine ⟨⟨rfl, ⟨rfl, trivial⟩⟩, ?_⟩
      refine (AH_ready [3] (by kernel_rfl) (by decide) ?_)
      refine AHs_cons rfl rfl rfl (by decide) (OpT_buildOnes (r := 301) (bs [105, byte k]) rfl rfl Tryz.runUnderlying36 Tryz.sizeOf5 Tryz.zeroValue5 rfl rfl (by decide) rfl (bs_cells _) (fun v14 => ⟨⟨rfl, ⟨rfl, trivial⟩⟩, ?_⟩)) ?_
      ·
        refine (AH_ready [7] (by kernel_rfl) (by decide) ?_)
        refine AHs_cons rfl rfl rfl (by decide) (OpT_append (r := 301) (r2 := 300) rfl Tryz.underlying36 TI.hi5 TI.hz5 TI.hs5 TI.hby5 TI.hzs5 (by decide) rfl rfl rfl rfl (fun _ h => rowP_rd h) (bs_one _) (by unfold maxLen; omega) (by omega) (fun v18 => ?_)) ?_
        ·
          refine ⟨⟨rfl, ⟨rfl, trivial⟩⟩, ?_⟩
          refine (AH_take 8 rfl (by kernel_rfl) (by kernel_rfl) (by kernel_rfl) rfl rfl (by decide) (Pu_assign rfl rfl) (AH_done (by kernel_rfl) (X_then ?_)))
          refine W_seq ?_
          refine W.pre (K' := [(0, _), (1, _), (2, _), (3, _), (4, _), (5, _), (9, _)]) (L' := [(0, _), (101, _), (300, _), (301, _)]) ?_ ⟨rfl, ⟨rfl, ⟨rfl, ⟨rfl, ⟨rfl, ⟨rfl, ⟨rfl, trivial⟩⟩⟩⟩⟩⟩⟩ ⟨rfl, ⟨rfl, ⟨rfl, ⟨rfl, trivial⟩⟩⟩⟩
          refine W_draw (N := 11) (by kernel_rfl) rfl [(0, _), (101, _)] ⟨rfl, ⟨rfl, trivial⟩⟩ ?_
          refine (AH_take 0 rfl (by kernel_rfl) (by kernel_rfl) (by kernel_rfl) rfl rfl (by decide) (Pu_move rfl rfl) (AH_take 1 rfl (by kernel_rfl) (by kernel_rfl) (by kernel_rfl) rfl rfl (by decide) (Pu_fieldAddrB (off := 2) rfl rfl (by kernel_rfl)) (AH_take 2 rfl (by kernel_rfl) (by kernel_rfl) (by kernel_rfl) rfl rfl (by decide) (Pu_loadB (r := 101) rfl Tryz.isAgg3 rfl rfl rfl) (AH_take 3 rfl (by kernel_rfl) (by kernel_rfl) (by kernel_rfl) rfl rfl (by decide) (Pu_conv rfl rfl (conv_byte _ _ Tryz.runUnderlying3 Tryz.runUnderlying5)) (AH_take 6 rfl (by kernel_rfl) (by kernel_rfl) (by kernel_rfl) rfl rfl (by decide) (Pu_fieldAddrB (off := 3) rfl rfl (by kernel_rfl)) (AH_take 7 rfl (by kernel_rfl) (by kernel_rfl) (by kernel_rfl) rfl rfl (by decide) (Pu_sliceArr rfl Tryz.runUnderlying29 Tryz.sizeOf5 rfl) (AH_ready [4] (by kernel_rfl) (by decide) ?_)))))))
          refine AHs_cons rfl rfl rfl (by decide) (OpT_buildOnes (r := 302) (bs [byte l]) rfl rfl Tryz.runUnderlying36 Tryz.sizeOf5 Tryz.zeroValue5 rfl rfl (by decide) rfl (bs_cells _) (fun v23 => ⟨⟨rfl, ⟨rfl, trivial⟩⟩, ?_⟩)) ?_
          ·
            refine (AH_ready [5] (by kernel_rfl) (by decide) ?_)
            refine AHs_cons rfl rfl rfl (by decide) (OpT_append (r := 301) (r2 := 302) rfl Tryz.underlying36 TI.hi5 TI.hz5 TI.hs5 TI.hby5 TI.hzs5 (by decide) rfl rfl rfl rfl (fun _ h => rowP_rd h) (bs_one _) (by unfold maxLen; omega) (by omega) (fun v24 => ?_)) ?_
            ·
              refine ⟨⟨rfl, ⟨rfl, trivial⟩⟩, ?_⟩
              refine (AH_ready [8] (by kernel_rfl) (by decide) ?_)
              refine AHs_cons rfl rfl rfl (by decide) (OpT_append (r := 301) (r2 := 101) rfl Tryz.underlying36 TI.hi5 TI.hz5 TI.hs5 TI.hby5 TI.hzs5 (by decide) rfl rfl rfl rfl (fun _ h => blk_rd (xs := bs top) h (take_top ht) (by rw [bs_length, ht]) (by omega)) (bs_one _) (by unfold maxLen; omega) (by omega) (fun v27 => ?_)) ?_
              ·
                refine ⟨⟨rfl, ⟨rfl, trivial⟩⟩, ?_⟩
                refine (AH_take 9 rfl (by kernel_rfl) (by kernel_rfl) (by kernel_rfl) rfl rfl (by decide) (Pu_assign rfl rfl) (AH_take 10 rfl (by kernel_rfl) (by kernel_rfl) (by kernel_rfl) rfl rfl (by decide) (Pu_assign rfl rfl) (AH_done (by kernel_rfl) (X_then ?_))))
                refine W_ret ?_
                exact X_ret [301] (Ps := [_]) (res2 Tryz.results95 rfl rfl) rfl (by decide) ⟨_, by simp at hc9; rw [hc9], by rw [inodeR, if_pos (by simpa using hc9)]; exact congrArg (· :: []) (rowB_of _ (by simp [inodeB, numB_length, ht]) (by unfold inodeB; simp only [bs_append]))⟩
              exact AHs_nil
            exact AHs_nil
          exact AHs_nil
        exact AHs_nil
      exact AHs_nil
    exact AHs_nil
end Go.Proofs.YthkdkmaacjpneaaGreatDoor
/- Blocks: plain words on rows of ids. -/
namespace Go.Proofs.YthkdkmaacjpneaaGreatDoor
set_option linter.unusedVariables false
set_option linter.unusedSimpArgs false
theorem numB_four (n : Int) : numB n 4 = [byte (n.fdiv (2 ^ 24)), byte (n.fdiv (2 ^ 16)), byte (n.fdiv (2 ^ 8)), byte n] := by
  have : n.fdiv 1 = n := by simp
  simp [numB, List.range_succ, this]
theorem val_four (l : List UInt8) : val l 4 = (at0 l 0).toNat * 2 ^ 24 + (at0 l 1).toNat * 2 ^ 16 + (at0 l 2).toNat * 2 ^ 8 + (at0 l 3).toNat := by
  simp only [val]; omega
/-- The first k bytes, zeros behind. -/
def idTo (l : List UInt8) (k : Nat) : List UInt8 := l.take k ++ List.replicate (32 - k) 0
/-- An inner block of the first k of these. -/
def innerTo (l : List (List UInt8)) (k : Nat) : List UInt8 := [110, byte l.length] ++ (l.take k).flatten
def innerE (l : List (List UInt8)) : Int := if l.length = 0 then 1 else if 8 < l.length then 4 else 0
def innerR (l : List (List UInt8)) : List UInt8 := if innerE l = 0 then innerTo l l.length else []
theorem innerTo_succ {l : List (List UInt8)} {k : Nat} (h : k < l.length) : innerTo l (k + 1) = innerTo l k ++ l.getD k [] := by
  unfold innerTo
  rw [List.take_succ_eq_append_getElem h, List.flatten_append, ← List.append_assoc]
  congr 1
  simp [h]
theorem flat_ids {l : List (List UInt8)} (h : Ids l) : l.flatten.length = l.length * 32 := by
  induction l with
  | nil => rfl
  | cons x l ih =>
    rw [List.flatten_cons, List.length_append, ih (fun y hy => h y (by simp [hy])), h x (by simp), List.length_cons]
    omega
theorem innerTo_length {l : List (List UInt8)} (h : Ids l) {k : Nat} (hk : k ≤ l.length) : (innerTo l k).length = 2 + k * 32 := by
  unfold innerTo
  rw [List.length_append, flat_ids (h.take k), List.length_take, Nat.min_eq_left hk]
  rfl
/-- The ids of an inner block. -/
def idsOf (b : List UInt8) (n : Nat) : List (List UInt8) := (List.range n).map fun i => (b.drop (2 + i * 32)).take 32
theorem idsOf_length (b : List UInt8) (n : Nat) : (idsOf b n).length = n := by simp [idsOf]
theorem idsOf_ids {b : List UInt8} {n : Nat} (h : 2 + n * 32 ≤ b.length) : Ids (idsOf b n) := by
  intro x hx
  simp only [idsOf, List.mem_map, List.mem_range] at hx
  obtain ⟨i, hi, rfl⟩ := hx
  simp
  omega
theorem idsOf_succ (b : List UInt8) (n : Nat) : idsOf b (n + 1) = idsOf b n ++ [(b.drop (2 + n * 32)).take 32] := by simp [idsOf, List.range_succ]
/-- The first k of them, zeros behind. -/
def idsTo (b : List UInt8) (n k : Nat) : List (List UInt8) := idsOf b k ++ List.replicate (n - k) zeroId
theorem idsTo_zero (b : List UInt8) (n : Nat) : idsTo b n 0 = List.replicate n zeroId := by simp [idsTo, idsOf]
theorem idsTo_all (b : List UInt8) (n : Nat) : idsTo b n n = idsOf b n := by simp [idsTo]
theorem idsTo_length (b : List UInt8) {n k : Nat} (h : k ≤ n) : (idsTo b n k).length = n := by simp [idsTo, idsOf_length]; omega
theorem idsTo_ids {b : List UInt8} {n k : Nat} (h : 2 + k * 32 ≤ b.length) : Ids (idsTo b n k) := by
  intro x hx
  simp only [idsTo, List.mem_append] at hx
  rcases hx with hx | hx
  · exact idsOf_ids h x hx
  · rw [List.eq_of_mem_replicate hx]; rfl
theorem idsTo_set {b : List UInt8} {n k : Nat} (hk : k < n) : (idsTo b n k).set k ((b.drop (2 + k * 32)).take 32) = idsTo b n (k + 1) := by
  unfold idsTo
  rw [List.set_append_right _ _ (by rw [idsOf_length]; omega), idsOf_length, Nat.sub_self, idsOf_succ, List.append_assoc]
  congr 1
  rw [show n - k = (n - (k + 1)) + 1 by omega, List.replicate_succ]
  rfl
theorem idsC_step {l : List (List UInt8)} (h : Ids l) {k : Nat} (hk : k < l.length) {y : List UInt8} (hy : 32 ≤ y.length) : over (idsC l) (k * 32) ((bs y).take (min y.length 32)) = idsC (l.set k (y.take 32)) := by
  rw [Nat.min_eq_right hy, ← bs_take]
  exact idsC_set h hk (by simp; omega)
def parseNE (b : List UInt8) : Int :=
  if b.length < 2 then 8
  else if at0 b 0 ≠ 110 ∨ (at0 b 1).toNat < 1 ∨ 8 < (at0 b 1).toNat then 11
  else if b.length < 2 + (at0 b 1).toNat * 32 then 8
  else if 2 + (at0 b 1).toNat * 32 < b.length then 9 else 0
def parseNL (b : List UInt8) : List (List UInt8) := if parseNE b = 0 then idsOf b (at0 b 1).toNat else []
theorem parseNE_cut {b : List UInt8} (h : decide ((b.length : Int) < 2) = true) : parseNE b = 8 := by have := of_decide_eq_true h; unfold parseNE; rw [if_pos (by omega)]
theorem parseNE_bad {b : List UInt8} (h : decide ((b.length : Int) < 2) = false) (h2 : (!decide (((at0 b 0).toNat : Int) = 110) || decide (((at0 b 1).toNat : Int) < 1) || decide (8 < ((at0 b 1).toNat : Int))) = true) : parseNE b = 11 := by
  have := of_decide_eq_false h
  unfold parseNE
  rw [if_neg (by omega), if_pos]
  simp at h2
  rcases h2 with (h2 | h2) | h2
  · left; intro e; rw [e] at h2; exact h2 rfl
  · right; left; omega
  · right; right; omega
theorem parseN_good {b : List UInt8} (h2 : (!decide (((at0 b 0).toNat : Int) = 110) || decide (((at0 b 1).toNat : Int) < 1) || decide (8 < ((at0 b 1).toNat : Int))) = false) : at0 b 0 = 110 ∧ 1 ≤ (at0 b 1).toNat ∧ (at0 b 1).toNat ≤ 8 := by
  simp at h2
  exact ⟨UInt8.toNat_inj.1 (by have := h2.1.1; simp; omega), by omega, by omega⟩
theorem parseNE_later {b : List UInt8} (h : decide ((b.length : Int) < 2) = false) (h2 : (!decide (((at0 b 0).toNat : Int) = 110) || decide (((at0 b 1).toNat : Int) < 1) || decide (8 < ((at0 b 1).toNat : Int))) = false) :
    parseNE b = if b.length < 2 + (at0 b 1).toNat * 32 then 8 else if 2 + (at0 b 1).toNat * 32 < b.length then 9 else 0 := by
  have := of_decide_eq_false h
  obtain ⟨q1, q2, q3⟩ := parseN_good h2
  unfold parseNE
  rw [if_neg (by omega), if_neg]
  rintro (h | h | h)
  · exact h q1
  · omega
  · omega
theorem parseNL_err {b : List UInt8} {e : Int} (h : parseNE b = e) (he : e ≠ 0) : parseNL b = [] := by unfold parseNL; rw [h, if_neg he]
section
variable {a b : List (List UInt8)} {k : Nat}
end
end Go.Proofs.YthkdkmaacjpneaaGreatDoor
/- Blocks: the document's inner functions. -/
namespace Go.Proofs.YthkdkmaacjpneaaGreatDoor
open Go.RowKit
set_option linter.unusedVariables false
set_option maxRecDepth 8000

end Go.Proofs.YthkdkmaacjpneaaGreatDoor
/- Blocks: inodes by the document. -/
namespace Go.Proofs.YthkdkmaacjpneaaGreatDoor
open Go.RowKit
set_option linter.unusedVariables false
set_option maxRecDepth 8000

end Go.Proofs.YthkdkmaacjpneaaGreatDoor
/- Blocks: inner blocks written. -/
namespace Go.Proofs.YthkdkmaacjpneaaGreatDoor
open Go.RowKit
set_option linter.unusedVariables false
set_option maxRecDepth 8000

theorem inner_spec (v : Value) (l : List (List UInt8)) (hl : Ids l) (F : HP) (hF : ∀ h, F h → rdI v l h) : CallsS Tryz.prog 94 #[v] F [] (fun r Ps => ∃ v', r = .tuple #[v', .int .i64 (innerE l)] ∧ Ps = [rowB 5 v' (innerR l)]) := by
  refine callsS_enter Tryz.func94 rfl Tryz.ntmps94 (by simp) (fun E => ?_)
  refine W_seq ?_
  refine W.pre (K' := [(0, _)]) (L' := [(0, _)]) ?_ ⟨rfl, trivial⟩ ⟨rfl, trivial⟩
  refine W_regL (WL_pure rfl rfl (by decide) (Pu_assign rfl rfl) (WL_pure rfl rfl (by decide) (Pu_assign rfl rfl) (WL_nil (X_then ?_))))
  refine W_seq ?_
  refine W_block ?_
  refine W_seq ?_
  refine W.pre (K' := [(0, _), (2, _), (3, _)]) (L' := [(0, _)]) ?_ ⟨rfl, ⟨rfl, ⟨rfl, trivial⟩⟩⟩ ⟨rfl, trivial⟩
  refine W_regL (WL_pure rfl rfl (by decide) (Pu_move rfl rfl) (WL_pure rfl rfl (by decide) (Pu_len (r := 0) rfl Tryz.runUnderlying165 rfl rfl hF) (WL_pure rfl rfl (by decide) (Pu_bin rfl rfl rfl (run_eql _ _ _ _ _ _)) (WL_pure rfl rfl (by decide) (Pu_assign rfl rfl) (WL_nil (X_then ?_))))))
  refine W_cond rfl (fun hc7 => ?_) (fun hc7 => ?_)
  ·
    have h0 := of_decide_eq_true hc7
    refine W_seq ?_
    refine W.pre (K' := [(0, _), (2, _), (3, _), (7, _)]) (L' := [(0, _)]) ?_ ⟨rfl, ⟨rfl, ⟨rfl, ⟨rfl, trivial⟩⟩⟩⟩ ⟨rfl, trivial⟩
    refine W_regL (WL_pure rfl rfl (by decide) (Pu_assign rfl rfl) (WL_pure rfl rfl (by decide) (Pu_assign rfl rfl) (WL_nil (X_then ?_))))
    refine W_ret (X_block_ret (X_then_ret ?_))
    refine X_nilRow 9900 5 1 ?_
    have hE : innerE l = 1 := by unfold innerE; rw [if_pos (by omega)]
    exact X_ret [9900] (Ps := [_]) (res2 Tryz.results94 rfl rfl) rfl (by decide) ⟨_, by rw [hE], by rw [innerR, if_neg (by rw [hE]; decide)]; rfl⟩
  ·
    have h0 := of_decide_eq_false hc7
    refine W_seq ?_
    refine W.pre (K' := [(0, _), (2, _), (3, _), (7, _)]) (L' := [(0, _)]) ?_ ⟨rfl, ⟨rfl, ⟨rfl, ⟨rfl, trivial⟩⟩⟩⟩ ⟨rfl, trivial⟩
    refine W_regL (WL_pure rfl rfl (by decide) (Pu_move rfl rfl) (WL_pure rfl rfl (by decide) (Pu_len (r := 0) rfl Tryz.runUnderlying165 rfl rfl hF) (WL_pure rfl rfl (by decide) (Pu_bin rfl rfl rfl (run_gtr _ _ _ _ _ _)) (WL_pure rfl rfl (by decide) (Pu_assign rfl rfl) (WL_nil (X_then ?_))))))
    refine W_cond rfl (fun hc11 => ?_) (fun hc11 => ?_)
    ·
      have h8 := of_decide_eq_true hc11
      refine W_seq ?_
      refine W.pre (K' := [(0, _), (2, _), (3, _), (7, _), (11, _)]) (L' := [(0, _)]) ?_ ⟨rfl, ⟨rfl, ⟨rfl, ⟨rfl, ⟨rfl, trivial⟩⟩⟩⟩⟩ ⟨rfl, trivial⟩
      refine W_regL (WL_pure rfl rfl (by decide) (Pu_assign rfl rfl) (WL_pure rfl rfl (by decide) (Pu_assign rfl rfl) (WL_nil (X_then ?_))))
      refine W_ret (X_block_ret (X_then_ret ?_))
      refine X_nilRow 9900 5 1 ?_
      have hE : innerE l = 4 := by unfold innerE; rw [if_neg (by omega), if_pos (by omega)]
      exact X_ret [9900] (Ps := [_]) (res2 Tryz.results94 rfl rfl) rfl (by decide) ⟨_, by rw [hE], by rw [innerR, if_neg (by rw [hE]; decide)]; rfl⟩
    ·
      have h8 := of_decide_eq_false hc11
      refine W_skip (X_block (X_then ?_))
      refine W_seq ?_
      refine W.pre (K' := [(0, _), (2, _), (3, _), (7, _), (11, _)]) (L' := [(0, _)]) ?_ ⟨rfl, ⟨rfl, ⟨rfl, ⟨rfl, ⟨rfl, trivial⟩⟩⟩⟩⟩ ⟨rfl, trivial⟩
      refine W_regL (WL_pure rfl rfl (by decide) (Pu_move rfl rfl) (WL_pure rfl rfl (by decide) (Pu_len (r := 0) rfl Tryz.runUnderlying165 rfl rfl hF) (WL_pure rfl rfl (by decide) (Pu_conv rfl rfl (conv_byte _ _ Tryz.runUnderlying3 Tryz.runUnderlying5)) (WL_cons rfl rfl (by decide) (OpT_buildOnes (r := 101) (bs [110, byte l.length]) rfl rfl Tryz.runUnderlying36 Tryz.sizeOf5 Tryz.zeroValue5 rfl rfl (by decide) rfl (bs_cells _) (fun v18 => (WL_pure rfl rfl (by decide) (Pu_assign rfl rfl) (WL_nil (X_then ?_)))))))))
      refine W_seq ?_
      refine W_seq ?_
      refine W.pre (K' := [(0, _), (2, _), (3, _), (4, _), (7, _), (11, _)]) (L' := [(0, _), (101, _)]) ?_ ⟨rfl, ⟨rfl, ⟨rfl, ⟨rfl, ⟨rfl, ⟨rfl, trivial⟩⟩⟩⟩⟩⟩ ⟨rfl, ⟨rfl, trivial⟩⟩
      refine W_regL (WL_pure rfl rfl (by decide) (Pu_move rfl rfl) (WL_pure rfl rfl (by decide) (Pu_len (r := 0) rfl Tryz.runUnderlying165 rfl rfl hF) (WL_pure rfl rfl (by decide) (Pu_move rfl rfl) (WL_nil (X_then ?_)))))
      refine W_block ?_
      refine W_loop (α := Nat × Value) (fun k => [(0, v), (4, k.2), (19, v), (20, .int .i64 (l.length : Int)), (21, .int .i64 (k.1 : Int))]) (fun k => [(0, F), (101, rowB 5 k.2 (innerTo l k.1))]) (fun k => k.1 ≤ l.length) (fun k => l.length - k.1) ((0, v18)) (Nat.zero_le _) ⟨rfl, ⟨rfl, ⟨rfl, ⟨rfl, ⟨rfl, trivial⟩⟩⟩⟩⟩ ⟨rfl, ⟨rfl, trivial⟩⟩ (fun x hx => ?_)
      unfold rowB
      refine W_seq ?_
      refine W.pre (K' := [(0, _), (4, _), (19, _), (20, _), (21, _)]) (L' := [(0, _), (101, _)]) ?_ ⟨rfl, ⟨rfl, ⟨rfl, ⟨rfl, ⟨rfl, trivial⟩⟩⟩⟩⟩ ⟨rfl, ⟨rfl, trivial⟩⟩
      refine W_regL (WL_pure rfl rfl (by decide) (Pu_bin rfl rfl rfl (run_lss _ _ _ _ _ _)) (WL_nil (X_then ?_)))
      refine W_seq ?_
      refine W_cond rfl (fun hc22 => ?_) (fun hc22 => ?_)
      ·
        have hlt : x.1 < l.length := by have := of_decide_eq_true hc22; omega
        have hid := hl.get hlt
        refine W_skip (X_then ?_)
        refine W_seq ?_
        refine W_block ?_
        refine W_seq ?_
        refine W.pre (K' := [(0, _), (4, _), (19, _), (20, _), (21, _), (22, _)]) (L' := [(0, _), (101, _)]) ?_ ⟨rfl, ⟨rfl, ⟨rfl, ⟨rfl, ⟨rfl, ⟨rfl, trivial⟩⟩⟩⟩⟩⟩ ⟨rfl, ⟨rfl, trivial⟩⟩
        refine W_regL (WL_pure rfl rfl (by decide) (Pu_idxS (r := 0) rfl Tryz.runUnderlying165 Tryz.sizeOf29 rfl rfl rfl hF (by omega)) (WL_pure rfl rfl (by decide) (Pu_loadSN (r := 0) rfl Tryz.isAgg29 Tryz.sizeOf29 rfl rfl hF ((bs_length _).trans hid) (by decide) (idsC_get (k := x.1) hl hlt)) (WL_cons rfl rfl (by decide) (OpT_alloc (r := 102) (cs := (bs zeroId)) rfl (zero_run (by kernel_rfl : (Tryz.prog.info? 29).bind (·.zero) = some (.agg (bs zeroId).toArray))) rfl (fun g102 => (WL_cons0 rfl rfl (OpT_storeAll (r := 102) rfl Tryz.sizeOf29 rfl rfl rfl rfl ((bs_length _).trans hid) (bs_one _) ?_)))))))
        refine (WL_nil (X_then ?_))
        refine W.pre (K' := [(0, _), (4, _), (6, _), (19, _), (20, _), (21, _), (22, _)]) (L' := [(0, _), (101, _), (102, _)]) ?_ ⟨rfl, ⟨rfl, ⟨rfl, ⟨rfl, ⟨rfl, ⟨rfl, ⟨rfl, trivial⟩⟩⟩⟩⟩⟩⟩ ⟨rfl, ⟨rfl, ⟨rfl, trivial⟩⟩⟩
        refine W_regL (WL_pure rfl rfl (by decide) (Pu_move rfl rfl) (WL_pure rfl rfl (by decide) (Pu_sliceArr rfl Tryz.runUnderlying29 Tryz.sizeOf5 rfl) (WL_cons rfl rfl (by decide) (OpT_append (r := 101) (r2 := 102) rfl Tryz.underlying36 TI.hi5 TI.hz5 TI.hs5 TI.hby5 TI.hzs5 (by decide) rfl rfl rfl rfl (fun _ h => id_rd hid h) (bs_one _) (by rw [innerTo_length hl hx]; unfold maxLen; omega) (by rw [innerTo_length hl hx]; omega) (fun v27 => ?_)))))
        refine (WL_pure rfl rfl (by decide) (Pu_assign rfl rfl) (WL_nil (X_block (X_then ?_))))
        refine W.pre (K' := [(0, _), (4, _), (6, _), (19, _), (20, _), (21, _), (22, _)]) (L' := [(0, _), (101, _), (102, _)]) ?_ ⟨rfl, ⟨rfl, ⟨rfl, ⟨rfl, ⟨rfl, ⟨rfl, ⟨rfl, trivial⟩⟩⟩⟩⟩⟩⟩ ⟨rfl, ⟨rfl, ⟨rfl, trivial⟩⟩⟩
        refine W_regL (WL_pure rfl rfl (by decide) (Pu_bin rfl rfl rfl (run_add _ _ _ _ _ (by omega))) (WL_pure rfl rfl (by decide) (Pu_move rfl rfl) (WL_nil ?_)))
        exact X_round (x.1 + 1, v27) (by show x.1 + 1 ≤ l.length; omega) (by show l.length - (x.1 + 1) < _; omega) ⟨rfl, ⟨rfl, ⟨rfl, ⟨rfl, ⟨rfl, trivial⟩⟩⟩⟩⟩ ⟨rfl, look_eq rfl (rowB_of (innerTo l (x.1 + 1)) (by rw [innerTo_succ hlt, List.length_append, hid]) (by rw [innerTo_succ hlt, bs_append])), trivial⟩
      ·
        have hfin : x.1 = l.length := by have := of_decide_eq_false hc22; omega
        refine W_exit (X_then_exit (X_then_exit (X_block_exit (X_then ?_))))
        refine W_seq ?_
        refine W.pre (K' := [(0, _), (4, _), (19, _), (20, _), (21, _), (22, _)]) (L' := [(0, _), (101, _)]) ?_ ⟨rfl, ⟨rfl, ⟨rfl, ⟨rfl, ⟨rfl, ⟨rfl, trivial⟩⟩⟩⟩⟩⟩ ⟨rfl, ⟨rfl, trivial⟩⟩
        refine W_regL (WL_pure rfl rfl (by decide) (Pu_move rfl rfl) (WL_pure rfl rfl (by decide) (Pu_assign rfl rfl) (WL_pure rfl rfl (by decide) (Pu_assign rfl rfl) (WL_nil (X_then ?_)))))
        refine W_ret ?_
        have hE : innerE l = 0 := by unfold innerE; rw [if_neg (by omega), if_neg (by omega)]
        exact X_ret [101] (Ps := [_]) (res2 Tryz.results94 rfl rfl) rfl (by decide) ⟨_, by rw [hE], by rw [innerR, if_pos hE, ← hfin]⟩
end Go.Proofs.YthkdkmaacjpneaaGreatDoor
/- Blocks: inner blocks read. -/
namespace Go.Proofs.YthkdkmaacjpneaaGreatDoor
open Go.RowKit
set_option linter.unusedVariables false
set_option maxRecDepth 8000

theorem parseInner_spec (v : Value) (l : List UInt8) (F : HP) (hF : ∀ h, F h → rdB v l h) : CallsS Tryz.prog 119 #[v] F [] (fun r Ps => ∃ v', r = .tuple #[v', .int .i64 (parseNE l)] ∧ Ps = [rowI 29 v' (parseNL l)]) := by
  refine callsS_enter Tryz.func119 rfl Tryz.ntmps119 (by simp) (fun E => ?_)
  refine W_seq ?_
  refine W.pre (K' := [(0, _)]) (L' := [(0, _)]) ?_ ⟨rfl, trivial⟩ ⟨rfl, trivial⟩
  refine W_regL (WL_pure rfl rfl (by decide) (Pu_assign rfl rfl) (WL_pure rfl rfl (by decide) (Pu_assign rfl rfl) (WL_nil (X_then ?_))))
  refine W_seq ?_
  refine W_seq ?_
  refine W.pre (K' := [(0, _), (2, _), (3, _)]) (L' := [(0, _)]) ?_ ⟨rfl, ⟨rfl, ⟨rfl, trivial⟩⟩⟩ ⟨rfl, trivial⟩
  refine W_regL (WL_pure rfl rfl (by decide) (Pu_move rfl rfl) (WL_pure rfl rfl (by decide) (Pu_len (r := 0) rfl Tryz.runUnderlying36 rfl rfl hF) (WL_pure rfl rfl (by decide) (Pu_bin rfl rfl rfl (run_lss _ _ _ _ _ _)) (WL_nil (X_then ?_)))))
  refine W_cond rfl (fun hc10 => ?_) (fun hc10 => ?_)
  ·
    refine W_seq ?_
    refine W.pre (K' := [(0, _), (2, _), (3, _), (10, _)]) (L' := [(0, _)]) ?_ ⟨rfl, ⟨rfl, ⟨rfl, ⟨rfl, trivial⟩⟩⟩⟩ ⟨rfl, trivial⟩
    refine W_regL (WL_pure rfl rfl (by decide) (Pu_assign rfl rfl) (WL_pure rfl rfl (by decide) (Pu_assign rfl rfl) (WL_nil (X_then ?_))))
    refine W_ret (X_then_ret ?_)
    have hE := parseNE_cut hc10
    refine X_nilRow 9900 29 32 ?_
    exact X_ret [9900] (Ps := [_]) (res2 Tryz.results119 rfl rfl) rfl (by decide) ⟨_, by rw [hE], by rw [parseNL_err hE (by decide)]; rfl⟩
  ·
    have h2 : 2 ≤ l.length := by have := of_decide_eq_false hc10; omega
    have hx1 := (at0 l 1).toNat_lt
    refine W_skip (X_then ?_)
    refine W_seq ?_
    refine W.pre (K' := [(0, _), (2, _), (3, _), (10, _)]) (L' := [(0, _)]) ?_ ⟨rfl, ⟨rfl, ⟨rfl, ⟨rfl, trivial⟩⟩⟩⟩ ⟨rfl, trivial⟩
    refine W_regL (WL_pure rfl rfl (by decide) (Pu_move rfl rfl) (WL_pure rfl rfl (by decide) (Pu_idxS1 (r := 0) rfl Tryz.runUnderlying36 Tryz.sizeOf5 rfl rfl rfl hF (by omega)) (WL_pure rfl rfl (by decide) (Pu_loadS (r := 0) rfl Tryz.isAgg5 rfl rfl hF (bs_at1 (k := 1) (by omega))) (WL_pure rfl rfl (by decide) (Pu_conv rfl rfl (conv_u8 _ Tryz.runUnderlying5 Tryz.runUnderlying3)) (WL_pure rfl rfl (by decide) (Pu_assign rfl rfl) (WL_nil (X_then ?_)))))))
    refine W_seq ?_
    refine W.pre (K' := [(0, _), (2, _), (3, _), (4, _), (10, _)]) (L' := [(0, _)]) ?_ ⟨rfl, ⟨rfl, ⟨rfl, ⟨rfl, ⟨rfl, trivial⟩⟩⟩⟩⟩ ⟨rfl, trivial⟩
    refine W_regL (WL_pure rfl rfl (by decide) (Pu_move rfl rfl) (WL_pure rfl rfl (by decide) (Pu_bin rfl rfl rfl (run_mul _ _ _ _ _ (by omega))) (WL_pure rfl rfl (by decide) (Pu_bin rfl rfl rfl (run_add _ _ _ _ _ (by omega))) (WL_pure rfl rfl (by decide) (Pu_assign rfl rfl) (WL_nil (X_then ?_))))))
    refine W_seq ?_
    refine W_block ?_
    refine W_seq ?_
    refine W.pre (K' := [(0, _), (2, _), (3, _), (4, _), (5, _), (10, _)]) (L' := [(0, _)]) ?_ ⟨rfl, ⟨rfl, ⟨rfl, ⟨rfl, ⟨rfl, ⟨rfl, trivial⟩⟩⟩⟩⟩⟩ ⟨rfl, trivial⟩
    refine W_regL (WL_pure rfl rfl (by decide) (Pu_move rfl rfl) (WL_pure rfl rfl (by decide) (Pu_idxS1 (r := 0) rfl Tryz.runUnderlying36 Tryz.sizeOf5 rfl rfl rfl hF (by omega)) (WL_pure rfl rfl (by decide) (Pu_loadS (r := 0) rfl Tryz.isAgg5 rfl rfl hF (bs_at1 (k := 0) (by omega))) (WL_pure rfl rfl (by decide) (Pu_bin rfl rfl rfl (run_neq _ _ _ _ _ _)) (WL_pure rfl rfl (by decide) (Pu_move rfl rfl) (WL_guardP rfl rfl rfl rfl (by decide) (fun hb => (Pu_move rfl rfl)) (WL_guardP rfl rfl rfl rfl (by decide) (fun hb => (Pu_bin rfl (ev_gv rfl hb) rfl (run_lss _ _ _ _ _ _))) (WL_pure rfl rfl (by decide) (Pu_or rfl rfl rfl) (WL_pure rfl rfl (by decide) (Pu_move rfl rfl) (WL_guardP rfl rfl rfl rfl (by decide) (fun hb => (Pu_move rfl rfl)) (WL_guardP rfl rfl rfl rfl (by decide) (fun hb => (Pu_bin rfl (ev_gv rfl hb) rfl (run_gtr _ _ _ _ _ _))) (WL_pure rfl rfl (by decide) (Pu_or rfl rfl rfl) (WL_pure rfl rfl (by decide) (Pu_assign rfl rfl) (WL_nil (X_then ?_)))))))))))))))
    refine W_cond rfl (fun hc18 => ?_) (fun hc18 => ?_)
    ·
      refine W_seq ?_
      refine W.pre (K' := [(0, _), (2, _), (3, _), (4, _), (5, _), (10, _), (18, _)]) (L' := [(0, _)]) ?_ ⟨rfl, ⟨rfl, ⟨rfl, ⟨rfl, ⟨rfl, ⟨rfl, ⟨rfl, trivial⟩⟩⟩⟩⟩⟩⟩ ⟨rfl, trivial⟩
      refine W_regL (WL_pure rfl rfl (by decide) (Pu_assign rfl rfl) (WL_pure rfl rfl (by decide) (Pu_assign rfl rfl) (WL_nil (X_then ?_))))
      refine W_ret (X_block_ret (X_then_ret ?_))
      have hE := parseNE_bad hc10 hc18
      refine X_nilRow 9900 29 32 ?_
      exact X_ret [9900] (Ps := [_]) (res2 Tryz.results119 rfl rfl) rfl (by decide) ⟨_, by rw [hE], by rw [parseNL_err hE (by decide)]; rfl⟩
    ·
      obtain ⟨g0, g1, g8⟩ := parseN_good hc18
      refine W_seq ?_
      refine W.pre (K' := [(0, _), (2, _), (3, _), (4, _), (5, _), (10, _), (18, _)]) (L' := [(0, _)]) ?_ ⟨rfl, ⟨rfl, ⟨rfl, ⟨rfl, ⟨rfl, ⟨rfl, ⟨rfl, trivial⟩⟩⟩⟩⟩⟩⟩ ⟨rfl, trivial⟩
      refine W_regL (WL_pure rfl rfl (by decide) (Pu_move rfl rfl) (WL_pure rfl rfl (by decide) (Pu_len (r := 0) rfl Tryz.runUnderlying36 rfl rfl hF) (WL_pure rfl rfl (by decide) (Pu_move rfl rfl) (WL_pure rfl rfl (by decide) (Pu_bin rfl rfl rfl (run_lss _ _ _ _ _ _)) (WL_pure rfl rfl (by decide) (Pu_assign rfl rfl) (WL_nil (X_then ?_)))))))
      refine W_cond rfl (fun hc31 => ?_) (fun hc31 => ?_)
      ·
        have hlt := of_decide_eq_true hc31
        refine W_seq ?_
        refine W.pre (K' := [(0, _), (2, _), (3, _), (4, _), (5, _), (10, _), (18, _), (31, _)]) (L' := [(0, _)]) ?_ ⟨rfl, ⟨rfl, ⟨rfl, ⟨rfl, ⟨rfl, ⟨rfl, ⟨rfl, ⟨rfl, trivial⟩⟩⟩⟩⟩⟩⟩⟩ ⟨rfl, trivial⟩
        refine W_regL (WL_pure rfl rfl (by decide) (Pu_assign rfl rfl) (WL_pure rfl rfl (by decide) (Pu_assign rfl rfl) (WL_nil (X_then ?_))))
        refine W_ret (X_block_ret (X_then_ret ?_))
        have hE := (parseNE_later hc10 hc18).trans (if_pos (by omega))
        refine X_nilRow 9900 29 32 ?_
        exact X_ret [9900] (Ps := [_]) (res2 Tryz.results119 rfl rfl) rfl (by decide) ⟨_, by rw [hE], by rw [parseNL_err hE (by decide)]; rfl⟩
      ·
        have hge := of_decide_eq_false hc31
        refine W_seq ?_
        refine W.pre (K' := [(0, _), (2, _), (3, _), (4, _), (5, _), (10, _), (18, _), (31, _)]) (L' := [(0, _)]) ?_ ⟨rfl, ⟨rfl, ⟨rfl, ⟨rfl, ⟨rfl, ⟨rfl, ⟨rfl, ⟨rfl, trivial⟩⟩⟩⟩⟩⟩⟩⟩ ⟨rfl, trivial⟩
        refine W_regL (WL_pure rfl rfl (by decide) (Pu_move rfl rfl) (WL_pure rfl rfl (by decide) (Pu_len (r := 0) rfl Tryz.runUnderlying36 rfl rfl hF) (WL_pure rfl rfl (by decide) (Pu_move rfl rfl) (WL_pure rfl rfl (by decide) (Pu_bin rfl rfl rfl (run_gtr _ _ _ _ _ _)) (WL_pure rfl rfl (by decide) (Pu_assign rfl rfl) (WL_nil (X_then ?_)))))))
        refine W_cond rfl (fun hc36 => ?_) (fun hc36 => ?_)
        ·
          have hgt := of_decide_eq_true hc36
          refine W_seq ?_
          refine W.pre (K' := [(0, _), (2, _), (3, _), (4, _), (5, _), (10, _), (18, _), (31, _), (36, _)]) (L' := [(0, _)]) ?_ ⟨rfl, ⟨rfl, ⟨rfl, ⟨rfl, ⟨rfl, ⟨rfl, ⟨rfl, ⟨rfl, ⟨rfl, trivial⟩⟩⟩⟩⟩⟩⟩⟩⟩ ⟨rfl, trivial⟩
          refine W_regL (WL_pure rfl rfl (by decide) (Pu_assign rfl rfl) (WL_pure rfl rfl (by decide) (Pu_assign rfl rfl) (WL_nil (X_then ?_))))
          refine W_ret (X_block_ret (X_then_ret ?_))
          have hE := (parseNE_later hc10 hc18).trans ((if_neg (by omega)).trans (if_pos (by omega)))
          refine X_nilRow 9900 29 32 ?_
          exact X_ret [9900] (Ps := [_]) (res2 Tryz.results119 rfl rfl) rfl (by decide) ⟨_, by rw [hE], by rw [parseNL_err hE (by decide)]; rfl⟩
        ·
          have hle := of_decide_eq_false hc36
          have hlen : l.length = 2 + (at0 l 1).toNat * 32 := by omega
          refine W_skip (X_block (X_then ?_))
          refine W_seq ?_
          refine W.pre (K' := [(0, _), (2, _), (3, _), (4, _), (5, _), (10, _), (18, _), (31, _), (36, _)]) (L' := [(0, _)]) ?_ ⟨rfl, ⟨rfl, ⟨rfl, ⟨rfl, ⟨rfl, ⟨rfl, ⟨rfl, ⟨rfl, ⟨rfl, trivial⟩⟩⟩⟩⟩⟩⟩⟩⟩ ⟨rfl, trivial⟩
          refine W_regL (WL_pure rfl rfl (by decide) (Pu_move rfl rfl) (WL_cons rfl rfl (by decide) (OpT_make (r := 101) (m := (at0 l 1).toNat) rfl Tryz.underlying165 TI.hi29 TI.hz29 TI.hs29 rfl rfl (by rw [TI.hby29]; omega) (by unfold maxLen; omega) (made_ids _) (fun v42 => ?_))))
          refine (WL_pure rfl rfl (by decide) (Pu_assign rfl rfl) (WL_nil (X_then ?_)))
          refine W_seq ?_
          refine W_seq ?_
          refine W.pre (K' := [(0, _), (2, _), (3, _), (4, _), (5, _), (6, _), (10, _), (18, _), (31, _), (36, _)]) (L' := [(0, _), (101, _)]) ?_ ⟨rfl, ⟨rfl, ⟨rfl, ⟨rfl, ⟨rfl, ⟨rfl, ⟨rfl, ⟨rfl, ⟨rfl, ⟨rfl, trivial⟩⟩⟩⟩⟩⟩⟩⟩⟩⟩ ⟨rfl, ⟨rfl, trivial⟩⟩
          refine W_regL (WL_pure rfl rfl (by decide) (Pu_move rfl rfl) (WL_pure rfl rfl (by decide) (Pu_len (r := 101) rfl Tryz.runUnderlying165 rfl rfl (fun _ h => rowP_rd h)) (WL_pure rfl rfl (by decide) (Pu_move rfl rfl) (WL_nil (X_then ?_)))))
          refine W_block ?_
          refine W_loop (α := Nat) (fun k => [(0, v), (4, .int .i64 ((at0 l 1).toNat : Int)), (6, v42), (44, .int .i64 ((at0 l 1).toNat : Int)), (45, .int .i64 (k : Int))]) (fun k => [(0, F), (101, rowI 29 v42 (idsTo l (at0 l 1).toNat k))]) (fun k => k ≤ (at0 l 1).toNat) (fun k => (at0 l 1).toNat - k) (0) (Nat.zero_le _) ⟨rfl, ⟨rfl, ⟨rfl, ⟨rfl, ⟨rfl, trivial⟩⟩⟩⟩⟩ ⟨rfl, look_eq rfl (by rw [idsTo_zero]; exact rowI_of _ (by simp) rfl), trivial⟩ (fun x hx => ?_)
          unfold rowI
          refine W_seq ?_
          refine W.pre (K' := [(0, _), (4, _), (6, _), (44, _), (45, _)]) (L' := [(0, _), (101, _)]) ?_ ⟨rfl, ⟨rfl, ⟨rfl, ⟨rfl, ⟨rfl, trivial⟩⟩⟩⟩⟩ ⟨rfl, ⟨rfl, trivial⟩⟩
          refine W_regL (WL_pure rfl rfl (by decide) (Pu_bin rfl rfl rfl (run_lss _ _ _ _ _ _)) (WL_nil (X_then ?_)))
          refine W_seq ?_
          refine W_cond rfl (fun hc46 => ?_) (fun hc46 => ?_)
          ·
            have hlt : x < (at0 l 1).toNat := by have := of_decide_eq_true hc46; omega
            have hil := idsTo_length l (Nat.le_of_lt hlt)
            have hii : Ids (idsTo l (at0 l 1).toNat x) := idsTo_ids (by omega)
            have hx32 : ((l.drop (2 + x * 32)).take 32).length = 32 := by simp; omega
            refine W_skip (X_then ?_)
            refine W_seq ?_
            refine W_block ?_
            refine W_seq ?_
            refine W.pre (K' := [(0, _), (4, _), (6, _), (44, _), (45, _), (46, _)]) (L' := [(0, _), (101, _)]) ?_ ⟨rfl, ⟨rfl, ⟨rfl, ⟨rfl, ⟨rfl, ⟨rfl, trivial⟩⟩⟩⟩⟩⟩ ⟨rfl, ⟨rfl, trivial⟩⟩
            refine W_regL (WL_pure rfl rfl (by decide) (Pu_move rfl rfl) (WL_pure rfl rfl (by decide) (Pu_assign rfl rfl) (WL_nil (X_then ?_))))
            refine W.pre (K' := [(0, _), (4, _), (6, _), (7, _), (44, _), (45, _), (46, _)]) (L' := [(0, _), (101, _)]) ?_ ⟨rfl, ⟨rfl, ⟨rfl, ⟨rfl, ⟨rfl, ⟨rfl, ⟨rfl, trivial⟩⟩⟩⟩⟩⟩⟩ ⟨rfl, ⟨rfl, trivial⟩⟩
            refine W_draw (N := 10) (by kernel_rfl) rfl [(0, _)] ⟨rfl, trivial⟩ ?_
            refine (AH_take 0 rfl (by kernel_rfl) (by kernel_rfl) (by kernel_rfl) rfl rfl (by decide) (Pu_move rfl rfl) (AH_take 1 rfl (by kernel_rfl) (by kernel_rfl) (by kernel_rfl) rfl rfl (by decide) (Pu_move rfl rfl) (AH_take 4 rfl (by kernel_rfl) (by kernel_rfl) (by kernel_rfl) rfl rfl (by decide) (Pu_move rfl rfl) (AH_take 5 rfl (by kernel_rfl) (by kernel_rfl) (by kernel_rfl) rfl rfl (by decide) (Pu_move rfl rfl) (AH_take 6 rfl (by kernel_rfl) (by kernel_rfl) (by kernel_rfl) rfl rfl (by decide) (Pu_bin rfl rfl rfl (run_mul _ _ _ _ _ (by omega))) (AH_take 7 rfl (by kernel_rfl) (by kernel_rfl) (by kernel_rfl) rfl rfl (by decide) (Pu_bin rfl rfl rfl (run_add _ _ _ _ _ (by omega))) (AH_take 8 rfl (by kernel_rfl) (by kernel_rfl) (by kernel_rfl) rfl rfl (by decide) (Pu_slice (r := 0) (a := 2 + x * 32) (b := l.length) rfl Tryz.runUnderlying36 Tryz.sizeOf5 rfl rfl hF (.inr ⟨_, _, _, rfl, rfl, (by omega)⟩) (.inl ⟨rfl, rfl⟩) (by omega) (Nat.le_refl _)) (AH_ready [2] (by kernel_rfl) (by decide) ?_))))))))
            refine AHs_cons rfl rfl rfl (by decide) (OpT_run (Pu_idxS (r := 101) rfl Tryz.runUnderlying165 Tryz.sizeOf29 rfl rfl rfl (fun _ h => rowP_rd h) (by rw [hil]; omega)) ⟨⟨rfl, trivial⟩, ?_⟩) ?_
            ·
              refine (AH_take 3 rfl (by kernel_rfl) (by kernel_rfl) (by kernel_rfl) rfl rfl (by decide) (Pu_sliceArrE rfl Tryz.runUnderlying29 Tryz.sizeOf5 rfl) (AH_ready [9] (by kernel_rfl) (by decide) ?_))
              refine AHs_cons rfl rfl rfl (by decide) (OpT_copyS (r := 101) (r2 := 0) rfl Tryz.underlying36 TI.hsm5 rfl rfl rfl rfl (fun h hp => rdB_tail (hF h hp) (by omega)) (bs_one _) (by rw [idsC_length hii, hil]; simp; omega) (idsC_step (k := x) hii (by rw [hil]; exact hlt) (by simp; omega)) ?_) ?_
              ·
                refine ⟨⟨rfl, trivial⟩, ?_⟩
                refine (AH_done (by kernel_rfl) (X_block (X_then ?_)))
                refine W.pre (K' := [(0, _), (4, _), (6, _), (7, _), (44, _), (45, _), (46, _)]) (L' := [(0, _), (101, _)]) ?_ ⟨rfl, ⟨rfl, ⟨rfl, ⟨rfl, ⟨rfl, ⟨rfl, ⟨rfl, trivial⟩⟩⟩⟩⟩⟩⟩ ⟨rfl, ⟨rfl, trivial⟩⟩
                refine W_regL (WL_pure rfl rfl (by decide) (Pu_bin rfl rfl rfl (run_add _ _ _ _ _ (by omega))) (WL_pure rfl rfl (by decide) (Pu_move rfl rfl) (WL_nil ?_)))
                exact X_round (x + 1) (by show x + 1 ≤ _; omega) (by show _ - (x + 1) < _; omega) ⟨rfl, rfl, rfl, rfl, rfl, trivial⟩ ⟨rfl, look_eq rfl (by rw [idsTo_set hlt]; exact rowI_of _ (by rw [idsTo_length l (show x + 1 ≤ _ from hlt), idsTo_length l (Nat.le_of_lt hlt)]) rfl), trivial⟩
              exact AHs_nil
            exact AHs_nil
          ·
            obtain rfl : x = (at0 l 1).toNat := by have := of_decide_eq_false hc46; omega
            refine W_exit (X_then_exit (X_then_exit (X_block_exit (X_then ?_))))
            refine W_seq ?_
            refine W.pre (K' := [(0, _), (4, _), (6, _), (44, _), (45, _), (46, _)]) (L' := [(0, _), (101, _)]) ?_ ⟨rfl, ⟨rfl, ⟨rfl, ⟨rfl, ⟨rfl, ⟨rfl, trivial⟩⟩⟩⟩⟩⟩ ⟨rfl, ⟨rfl, trivial⟩⟩
            refine W_regL (WL_pure rfl rfl (by decide) (Pu_move rfl rfl) (WL_pure rfl rfl (by decide) (Pu_assign rfl rfl) (WL_pure rfl rfl (by decide) (Pu_assign rfl rfl) (WL_nil (X_then ?_)))))
            refine W_ret ?_
            have hE := (parseNE_later hc10 hc18).trans ((if_neg (by omega)).trans (if_neg (by omega)))
            exact X_ret [101] (Ps := [_]) (res2 Tryz.results119 rfl rfl) rfl (by decide) ⟨_, by rw [hE], by rw [parseNL, if_pos hE, ← idsTo_all]⟩
end Go.Proofs.YthkdkmaacjpneaaGreatDoor
/- Blocks: inner blocks read by the document; rows of ids compared. -/
namespace Go.Proofs.YthkdkmaacjpneaaGreatDoor
open Go.RowKit
set_option linter.unusedVariables false
set_option maxRecDepth 8000

end Go.Proofs.YthkdkmaacjpneaaGreatDoor
/- Blocks: plain words on bytes with some turned. -/
namespace Go.Proofs.YthkdkmaacjpneaaGreatDoor
set_option linter.unusedVariables false
set_option linter.unusedSimpArgs false
/-- The first k turns. -/
def turnTo (x : List UInt8) (a : List Int) (y : List UInt8) : Nat → List UInt8
  | 0 => x
  | k + 1 => (turnTo x a y k).set (a.getD k 0 % ((turnTo x a y k).length : Int)).toNat (at0 (turnTo x a y k) (a.getD k 0 % ((turnTo x a y k).length : Int)).toNat + at0 y k)
/-- How many turns there are. -/
def turnN (x : List UInt8) (a : List Int) (y : List UInt8) : Nat := if x.length = 0 then 0 else min (min a.length y.length) 3
/-- Bytes with some turned, or cut off. -/
def turned (x : List UInt8) (a : List Int) (y : List UInt8) : List UInt8 := turnTo x a y (turnN x a y)
def bentX (x : List UInt8) (a : List Int) (y : List UInt8) (cut : Int) : List UInt8 := if cut.tmod 2 = 1 then (turned x a y).take ((cut / 2) % ((turned x a y).length + 1)).toNat else turned x a y
end Go.Proofs.YthkdkmaacjpneaaGreatDoor
/- Blocks: what is written is read again; inodes compared. -/
namespace Go.Proofs.YthkdkmaacjpneaaGreatDoor
open Go.RowKit
set_option linter.unusedVariables false
set_option linter.unusedSimpArgs false
theorem at0_append_left {a b : List UInt8} {k : Nat} (h : k < a.length) : at0 (a ++ b) k = at0 a k := by simp [at0, List.getElem?_append_left h]
theorem val_append {a b : List UInt8} : ∀ k, k ≤ a.length → val (a ++ b) k = val a k
  | 0, _ => rfl
  | k + 1, h => by rw [val, val, val_append k (by omega), at0_append_left (by omega)]
theorem val_num (s : Int) (h0 : 0 ≤ s) (h1 : s < 4294967296) : (val (numB s 4) 4 : Int) = s := by
  rw [numB_four, val_four]
  have e : ∀ k : Nat, s.fdiv (2 ^ k) = s / 2 ^ k := fun k => Int.fdiv_eq_ediv_of_nonneg _ (by apply Int.pow_nonneg; omega)
  have e24 := byte_toNat (s.fdiv (2 ^ 24))
  have e16 := byte_toNat (s.fdiv (2 ^ 16))
  have e8 := byte_toNat (s.fdiv (2 ^ 8))
  have e0 := byte_toNat s
  rw [e, show (2 : Int) ^ 24 = 16777216 from by decide] at e24
  rw [e, show (2 : Int) ^ 16 = 65536 from by decide] at e16
  rw [e, show (2 : Int) ^ 8 = 256 from by decide] at e8
  show (((byte (s.fdiv (2 ^ 24))).toNat * 2 ^ 24 + (byte (s.fdiv (2 ^ 16))).toNat * 2 ^ 16 + (byte (s.fdiv (2 ^ 8))).toNat * 2 ^ 8 + (byte s).toNat : Nat) : Int) = s
  rw [e, e, e, show (2 : Int) ^ 24 = 16777216 from by decide, show (2 : Int) ^ 16 = 65536 from by decide, show (2 : Int) ^ 8 = 256 from by decide]
  omega
theorem byte_small {n : Int} (h0 : 0 ≤ n) (h1 : n < 256) : ((byte n).toNat : Int) = n := by rw [byte_toNat]; omega
theorem lev_le (s : Int) : lev s ≤ 7 := by unfold lev; repeat' split
                                           all_goals omega
theorem wrong_zero {k s l : Int} {top : List UInt8} (h : wrongN k s l top = 0) : (k = 1 ∨ k = 2) ∧ 0 ≤ s ∧ s ≤ 1048576 ∧ l = (lev s : Int) := by
  unfold wrongN at h
  split at h
  · cases h
  · split at h
    · cases h
    · rename_i h1 h2
      unfold wrongB at h2
      simp at h2
      omega
theorem parse_inode {k s l : Int} {top : List UInt8} (ht : top.length = 32) (h : wrongN k s l top = 0) : parseI (inodeB k s l top) = ((k, s, l, top), 0) := by
  obtain ⟨hk, hs0, hs1, hl⟩ := wrong_zero h
  have hll := lev_le s
  have hlen : (inodeB k s l top).length = 39 := by simp [inodeB, numB_length, ht]
  have e1 : at0 (inodeB k s l top) 0 = 105 := by simp [inodeB, at0]
  have e2 : ((at0 (inodeB k s l top) 1).toNat : Int) = k := by
    have : at0 (inodeB k s l top) 1 = byte k := by simp [inodeB, at0]
    rw [this]
    exact byte_small (by omega) (by omega)
  have d2 : (inodeB k s l top).drop 2 = numB s 4 ++ ([byte l] ++ top) := by simp [inodeB]
  have e3 : (val ((inodeB k s l top).drop 2) 4 : Int) = s := by
    rw [d2, val_append 4 (by rw [numB_length]; omega)]
    exact val_num s hs0 (by omega)
  have e4 : ((at0 (inodeB k s l top) 6).toNat : Int) = l := by
    have : at0 (inodeB k s l top) 6 = byte l := by
      rw [inodeB, numB_four]
      simp [at0]
    rw [this]
    exact byte_small (by omega) (by omega)
  have e5 : ((inodeB k s l top).drop 7).take 32 = top := by
    rw [inodeB, numB_four]
    simp [← ht]
  have hp : parsed (inodeB k s l top) = (k, s, l, top) := by unfold parsed; rw [e2, e3, e4, e5]
  unfold parseI
  rw [if_neg (by omega), hp, if_neg (by simp [e1, h]), if_neg (by omega)]
theorem parseNL_ids (b : List UInt8) : Ids (parseNL b) ∧ (parseNL b).length ≤ 8 := by
  unfold parseNL
  split
  · rename_i h
    unfold parseNE at h
    split at h
    · cases h
    · split at h
      · cases h
      · split at h
        · cases h
        · split at h
          · cases h
          · exact ⟨idsOf_ids (by omega), by rw [idsOf_length]; omega⟩
  · exact ⟨fun x hx => by simp at hx, by simp⟩
theorem parseI_top (b : List UInt8) : (parseI b).1.2.2.2.length = 32 := by
  unfold parseI
  repeat' split
  all_goals first | rfl | (simp [parsed]; omega)
/-- Inodes compared. -/
def nodeEq (k s l : Int) (top : List UInt8) (k' s' l' : Int) (top' : List UInt8) : Bool := k == k' && (s == s' && (l == l' && (top == top' && true)))
end Go.Proofs.YthkdkmaacjpneaaGreatDoor
/- Blocks: plain words of the laws. -/
namespace Go.Proofs.YthkdkmaacjpneaaGreatDoor
set_option linter.unusedVariables false
set_option linter.unusedSimpArgs false
/-- The inode that a law takes. -/
def nodeS (k s : Int) : Int := s % 5000
def nodeM (k s l : Int) (top : List UInt8) (how : Int) : Int × Int × Int × List UInt8 :=
  if how.tmod 3 = 0 then (k, s, l, top) else (1 + k % 2, s % 5000, (lev (s % 5000) : Int), if s % 5000 = 0 then zeroId else top)
end Go.Proofs.YthkdkmaacjpneaaGreatDoor
/- Directories, in plain words. -/
namespace Go.Proofs.YthkdkmaacjpneaaGreatDoor
open Go.RowKit Go.Lib
set_option linter.unusedVariables false
set_option maxRecDepth 8000
set_option linter.unusedSimpArgs false
theorem less_irr : ∀ a : List UInt8, Op.bytesLess a a = false
  | [] => rfl
  | x :: l => by simp [Op.bytesLess, less_irr l]
theorem less_tri : ∀ a b : List UInt8, (!Op.bytesLess a b) = (Op.bytesLess b a || b == a)
  | [], [] => rfl
  | [], y :: m => rfl
  | x :: l, [] => rfl
  | x :: l, y :: m => by
    have ih := less_tri l m
    simp only [Op.bytesLess]
    rcases Nat.lt_trichotomy x.toNat y.toNat with h | h | h
    · have h1 : x < y := UInt8.lt_iff_toNat_lt.2 h
      have h2 : ¬ y < x := fun hc => by have := UInt8.lt_iff_toNat_lt.1 hc; omega
      have h3 : (y == x) = false := by simp; intro hc; subst hc; omega
      have h4 : (y :: m == x :: l) = false := by simp; intro hc; subst hc; omega
      simp [h1, h2, h3, h4]
    · have h0 : x = y := UInt8.toNat_inj.1 h
      subst h0
      have h1 : ¬ x < x := fun hc => by have := UInt8.lt_iff_toNat_lt.1 hc; omega
      have h4 : (x :: m == x :: l) = (m == l) := by simp
      simp [h1, h4, ih]
    · have h1 : y < x := UInt8.lt_iff_toNat_lt.2 h
      have h2 : ¬ x < y := fun hc => by have := UInt8.lt_iff_toNat_lt.1 hc; omega
      have h3 : (x == y) = false := by simp; intro hc; subst hc; omega
      simp [h1, h2, h3]
def nms (es : List Ent) : List (List UInt8) := es.map (·.1)
theorem nms_length (es : List Ent) : (nms es).length = es.length := by simp [nms]
theorem nms_at {es : List Ent} {k : Nat} (h : k < es.length) : (nms es).getD k [] = (es.getD k ent0).1 := by simp [nms, h]
/-- The first k names rise. -/
def riseP (ns : List (List UInt8)) (k : Nat) : Prop := ∀ j, j < k → 1 ≤ j → Op.bytesLess (ns.getD (j - 1) []) (ns.getD j []) = true
instance (ns : List (List UInt8)) (k : Nat) : Decidable (riseP ns k) := by unfold riseP; infer_instance
theorem riseP_succ {ns : List (List UInt8)} {k : Nat} (h : riseP ns k) (h1 : 1 ≤ k → Op.bytesLess (ns.getD (k - 1) []) (ns.getD k []) = true) : riseP ns (k + 1) := fun j hj hj1 => by
  rcases Nat.lt_or_ge j k with hlt | hge
  · exact h j hlt hj1
  · obtain rfl : j = k := by omega
    exact h1 hj1
theorem riseP_not {ns : List (List UInt8)} {k m : Nat} (hk : 1 ≤ k) (hm : k < m) (h : Op.bytesLess (ns.getD (k - 1) []) (ns.getD k []) = false) : ¬ riseP ns m := fun hr => by
  have := hr k hm hk
  rw [h] at this; cases this
/-- What is wrong with a directory. -/
def dirE (es : List Ent) : Nat := if firstBad (nms es) ≠ 0 then firstBad (nms es) else if ¬ riseP (nms es) es.length then 1 else if 20 < es.length then 4 else 0
theorem dirE_bad {es : List Ent} (h : firstBad (nms es) ≠ 0) : dirE es = firstBad (nms es) := by unfold dirE; rw [if_pos h]
theorem dirE_fall {es : List Ent} (h : firstBad (nms es) = 0) (h2 : ¬ riseP (nms es) es.length) : dirE es = 1 := by unfold dirE; rw [if_neg (fun hc => hc h), if_pos h2]
theorem dirE_many {es : List Ent} (h : firstBad (nms es) = 0) (h2 : riseP (nms es) es.length) (h3 : 20 < es.length) : dirE es = 4 := by unfold dirE; rw [if_neg (fun hc => hc h), if_neg (fun hc => hc h2), if_pos h3]
theorem dirE_ok {es : List Ent} (h : firstBad (nms es) = 0) (h2 : riseP (nms es) es.length) (h3 : ¬ 20 < es.length) : dirE es = 0 := by unfold dirE; rw [if_neg (fun hc => hc h), if_neg (fun hc => hc h2), if_neg h3]
/-- An entry's bytes. -/
def entB (e : Ent) : List UInt8 := [byte (e.1.length : Int)] ++ e.1 ++ e.2
def dirTo (es : List Ent) (k : Nat) : List UInt8 := ((es.take k).map entB).flatten
def dirB (es : List Ent) : List UInt8 := (es.map entB).flatten
theorem dirTo_succ {es : List Ent} {k : Nat} (h : k < es.length) : dirTo es (k + 1) = dirTo es k ++ [byte ((es.getD k ent0).1.length : Int)] ++ (es.getD k ent0).1 ++ (es.getD k ent0).2 := by
  unfold dirTo
  rw [List.take_add_one, List.map_append, List.flatten_append]
  simp [List.getElem?_eq_getElem h, entB]
theorem dirTo_all (es : List Ent) : dirTo es es.length = dirB es := by simp [dirTo, dirB]
theorem dirTo_len {es : List Ent} {b : Nat} (hE : Ents es) (hb : ∀ e ∈ es, e.1.length ≤ b) (k : Nat) : (dirTo es k).length ≤ (b + 33) * es.length := by
  have key : ∀ ls : List Ent, (∀ e ∈ ls, e.2.length = 32) → (∀ e ∈ ls, e.1.length ≤ b) → ((ls.map entB).flatten).length ≤ (b + 33) * ls.length := by
    intro ls
    induction ls with
    | nil => intro _ _; simp
    | cons e ls ih =>
      intro h1 h2
      have i1 := ih (fun x hx => h1 x (by simp [hx])) (fun x hx => h2 x (by simp [hx]))
      have a1 := h1 e (by simp)
      have a2 := h2 e (by simp)
      simp only [List.map_cons, List.flatten_cons, List.length_append, entB, List.length_cons, List.length_nil] at i1 ⊢
      rw [Nat.mul_add]
      omega
  have h1 := key (es.take k) (fun e he => hE e (List.mem_of_mem_take he)) (fun e he => hb e (List.mem_of_mem_take he))
  have h2 : (es.take k).length ≤ es.length := by simp; omega
  exact Nat.le_trans h1 (Nat.mul_le_mul_left _ h2)
/-- A directory's bytes, or none, and what is wrong. -/
def dirR (es : List Ent) : List UInt8 := if dirE es = 0 then dirB es else []
/-- Bytes read as entries. -/
def finP (acc : List Ent) : List Ent × Nat := if dirE acc ≠ 0 then ([], dirE acc) else (acc, 0)
def need (b : List UInt8) : Nat := 1 + (at0 b 0).toNat + 32
def entOf (b : List UInt8) : Ent := ((b.drop 1).take (at0 b 0).toNat, (b.drop (1 + (at0 b 0).toNat)).take 32)
def parF : Nat → List UInt8 → List Ent → List Ent × Nat
  | 0, _, acc => finP acc
  | f + 1, b, acc => if b = [] then finP acc else if b.length < need b then ([], 8) else parF f (b.drop (need b)) (acc ++ [entOf b])
theorem parF_fuel : ∀ (f g : Nat) (b : List UInt8) (acc : List Ent), b.length ≤ f → b.length ≤ g → parF f b acc = parF g b acc
  | 0, 0, _, _, _, _ => rfl
  | 0, g + 1, b, acc, h, _ => by
    have : b = [] := List.eq_nil_of_length_eq_zero (by omega)
    subst this; simp [parF]
  | f + 1, 0, b, acc, _, h => by
    have : b = [] := List.eq_nil_of_length_eq_zero (by omega)
    subst this; simp [parF]
  | f + 1, g + 1, b, acc, h1, h2 => by
    simp only [parF]
    split
    · rfl
    · split
      · rfl
      · exact parF_fuel f g _ _ (by unfold need; simp; omega) (by unfold need; simp; omega)
def par (b : List UInt8) (acc : List Ent) : List Ent × Nat := parF b.length b acc
theorem par_nil (acc : List Ent) : par [] acc = finP acc := rfl
theorem par_cut {b : List UInt8} (hb : b ≠ []) (h : b.length < need b) (acc : List Ent) : par b acc = ([], 8) := by
  unfold par
  cases b with
  | nil => exact absurd rfl hb
  | cons x b => rw [List.length_cons, parF, if_neg hb, if_pos h]
theorem par_next {b : List UInt8} (hb : b ≠ []) (h : ¬ b.length < need b) (acc : List Ent) : par b acc = par (b.drop (need b)) (acc ++ [entOf b]) := by
  unfold par
  cases b with
  | nil => exact absurd rfl hb
  | cons x b =>
    rw [List.length_cons, parF, if_neg hb, if_neg h]
    refine parF_fuel _ _ _ _ ?_ (Nat.le_refl _)
    have h2 : 1 ≤ need (x :: b) := by unfold need; omega
    rw [List.length_drop, List.length_cons]
    omega
theorem entOf_id {b : List UInt8} (h : ¬ b.length < need b) : (entOf b).2.length = 32 := by
  unfold need at h
  simp [entOf]; omega
theorem Ents.snoc {es : List Ent} (h : Ents es) {e : Ent} (he : e.2.length = 32) : Ents (es ++ [e]) := fun x hx => by
  rcases List.mem_append.1 hx with hx | hx
  · exact h x hx
  · simp at hx; subst hx; exact he
theorem Ents.nil : Ents [] := fun x hx => by cases hx
/-- A row that a fold reads has at most so many entries as bytes. -/
theorem finP_len (acc : List Ent) : (finP acc).1.length ≤ acc.length := by unfold finP; split <;> simp
theorem par_len : ∀ (n : Nat) (b : List UInt8) (acc : List Ent), b.length ≤ n → (par b acc).1.length ≤ acc.length + b.length ∧ (Ents acc → Ents (par b acc).1)
  | n, b, acc, h => by
    by_cases hb : b = []
    · subst hb
      rw [par_nil]
      refine ⟨by have := finP_len acc; simpa using this, fun hE => ?_⟩
      unfold finP; split
      · exact Ents.nil
      · exact hE
    · by_cases hl : b.length < need b
      · rw [par_cut hb hl]; exact ⟨by simp, fun _ => Ents.nil⟩
      · rw [par_next hb hl]
        have hn1 : 33 ≤ need b := by unfold need; omega
        have hb0 : 0 < b.length := List.length_pos_iff.2 hb
        match n, h with
        | 0, h => omega
        | n + 1, h =>
          obtain ⟨i1, i2⟩ := par_len n (b.drop (need b)) (acc ++ [entOf b]) (by simp; omega)
          refine ⟨?_, fun hE => i2 (hE.snoc (entOf_id hl))⟩
          simp only [List.length_append, List.length_cons, List.length_nil, List.length_drop] at i1
          omega
/-- A good name has at most 48 bytes. -/
theorem chk_len : ∀ (n : Nat) (l : List UInt8) (k : Nat) (bad : Bool), l.length ≤ n → chk l k bad = 0 → l.length + 4 * k ≤ 48
  | n, l, k, bad, hn, h => by
    by_cases hl : l = []
    · subst hl
      rw [chk_nil] at h
      unfold finC at h
      split at h
      · cases h
      · split at h
        · cases h
        · simp; omega
    · cases hno : noRune l with
      | true => rw [chk_none hl hno] at h; cases h
      | false =>
        rw [chk_some hl hno] at h
        have hw := decodeL_width l
        have hle := decodeL_le l hl
        have h4 : (decodeL l).2 ≤ 4 := by
          rw [decodeL_N]
          rcases decodeN_shape l.length (l.getD 0 0).toNat (l.getD 1 0).toNat (l.getD 2 0).toNat (l.getD 3 0).toNat with ⟨_, e⟩ | ⟨_, _, _, _, e⟩ | ⟨_, _, _, _, _, _, e⟩ | ⟨_, _, _, _, _, _, _, e⟩ | e <;> rw [e] <;> simp
        match n, hn with
        | 0, hn => exact absurd (List.eq_nil_of_length_eq_zero (by omega)) hl
        | n + 1, hn =>
          have := chk_len n (l.drop (decodeL l).2) (k + 1) _ (by simp; omega) h
          rw [List.length_drop] at this
          omega
theorem check_len {l : List UInt8} (h : checkN l = 0) : l.length ≤ 48 := by have := chk_len l.length l 0 _ (Nat.le_refl _) h; omega
theorem firstBad_zero {ns : List (List UInt8)} (h : firstBad ns = 0) : ∀ x ∈ ns, checkN x = 0 := by
  induction ns with
  | nil => intro x hx; cases hx
  | cons y r ih =>
    rw [firstBad] at h
    by_cases hy : checkN y ≠ 0
    · rw [if_pos hy] at h; exact absurd h hy
    · rw [if_neg hy] at h
      intro x hx
      rcases List.mem_cons.1 hx with rfl | hx
      · omega
      · exact ih h x hx
theorem dirE_zero {es : List Ent} (h : dirE es = 0) : (∀ e ∈ es, e.1.length ≤ 48) ∧ es.length ≤ 20 := by
  unfold dirE at h
  split at h
  · rename_i h1; exact absurd h h1
  · rename_i h1
    split at h
    · cases h
    · split at h
      · cases h
      · refine ⟨fun e he => check_len (firstBad_zero (by omega : firstBad (nms es) = 0) e.1 (List.mem_map.2 ⟨e, he, rfl⟩)), by omega⟩
end Go.Proofs.YthkdkmaacjpneaaGreatDoor
/- Symbolic states, part 15: a string's bytes, and zeros, appended to a row. -/
namespace Go.Proofs.YthkdkmaacjpneaaGreatDoor
open Go.RowKit
set_option linter.unusedVariables false
set_option linter.unusedSimpArgs false
section
variable {P : Program} {w : World}
theorem own_append {R : Result Value} {e : TypeId} {i : TypeInfo} {z : Value} (hzs : z.cells.size = i.size) (hsz : 0 < i.size) {v : Value} {n : Nat} {xs : List Value} (hown : w.ownsRow 0 e i.size v n xs) {m : Nat} {news : List Value} (hl : news.length = m * i.size) (h63 : n + m ≤ maxLen)
    (hroom : ∀ g cap cur, v = .slice (some ⟨g, 0, none⟩) n cap → w.heap[g]? = some (.cells cur e (0, 0)) → n + m ≤ cap → n * i.size + news.length ≤ cur.size → R = .ok (.slice (some ⟨g, 0, none⟩) (n + m) cap) (w.setRow g (cur.toList.take (n * i.size) ++ news ++ cur.toList.drop (n * i.size + news.length)).toArray))
    (hgrow : ∀ ba cap, v = .slice ba n cap → cap < n + m → (Builtin.firstCells i.size n v).run P w.drew = .ok xs.toArray w.drew → R = .ok (.slice (some ⟨w.heap.size, 0, none⟩) (n + m) (grownCap w (n + m) cap e)) (w.drew.alloc (.cells (xs.toArray ++ news.toArray ++ Builtin.zeroCells z.cells (grownCap w (n + m) cap e - (n + m))) e)))
    (hnone : m = 0 → v = .slice none 0 0 → R = .ok (.slice none 0 0) w) :
    ∃ v' w', R = .ok v' w' ∧ w'.ownsRow 0 e i.size v' (n + m) (xs ++ news) ∧ Chg v.ownBlock.toList w w' ∧ (v'.ownBlock = v.ownBlock ∨ v'.ownBlock = some w.heap.size) := by
  have hlen : (xs ++ news).length = (n + m) * i.size := by rw [List.length_append, hown.1, hl, Nat.add_mul]
  have grown : ∀ (old : Nat), old < n + m → 
      (w.drew.alloc (.cells (xs.toArray ++ news.toArray ++ Builtin.zeroCells z.cells (grownCap w (n + m) old e - (n + m))) e)).ownsRow 0 e i.size
        (.slice (some ⟨w.heap.size, 0, none⟩) (n + m) (grownCap w (n + m) old e)) (n + m) (xs ++ news) := by
    intro old ho
    have hge := grownCap_ge w (n + m) old e
    have hcm : grownCap w (n + m) old e ≤ maxLen := grownCap_le_maxLen w (n + m) old e h63
    refine ⟨hlen, .inr ⟨w.heap.size, _, _, rfl, Nat.zero_le _, heap_alloc_new w.drew _, hge, hcm, ?_, ?_⟩⟩
    · simp only [Array.size_append, List.size_toArray, size_zeroCells, hzs, hown.1, hl, ← Nat.add_mul]
      congr 1
      omega
    · simp only [Array.toList_append, List.append_assoc]
      rw [← List.append_assoc, ← hlen]
      exact List.take_left
  have hch : ∀ (cs : Array Value) (bl : List Nat), Chg bl w (w.drew.alloc (.cells cs e)) := fun cs bl => ⟨rfl, rfl, rfl, by simp, fun k hk _ => heap_alloc_old w.drew _ hk⟩
  rcases hown.2 with ⟨rfl, rfl⟩ | ⟨g, cap, cur, rfl, hbg, hg, hnc, hcm, hcs, htake⟩
  · have hx : xs = [] := List.eq_nil_of_length_eq_zero (by simpa using hown.1)
    subst hx
    by_cases hm : m = 0
    · subst hm
      have hn : news = [] := List.eq_nil_of_length_eq_zero (by simpa using hl)
      subst hn
      exact ⟨.slice none 0 0, w, hnone rfl rfl, World.ownsRow_nil w 0 e i.size, Chg.refl _ _, .inl rfl⟩
    · have hr := hgrow none 0 rfl (by omega) (run_firstCells_none w.drew i.size 0 0 0)
      exact ⟨_, _, hr, grown 0 (by omega), hch _ _, .inr rfl⟩
  · by_cases hroom' : n + m ≤ cap
    · have hfit : n * i.size + news.length ≤ cur.size := by rw [hl, hcs, ← Nat.add_mul]; exact Nat.mul_le_mul_right _ hroom'
      have hr := hroom g cap cur rfl hg hroom' hfit
      refine ⟨_, _, hr, ⟨hlen, .inr ⟨g, cap, _, rfl, hbg, setRow_heap w g cur _ e _ hg, hroom', hcm, ?_, ?_⟩⟩, ⟨rfl, rfl, rfl, by simp [World.setRow], fun k _ hk => setRow_other w g k _ (by simpa [Value.ownBlock] using hk)⟩, .inl rfl⟩
      · simp only [List.size_toArray, List.length_append, List.length_take, List.length_drop, Array.length_toList]
        omega
      · rw [htake, ← hlen]
        exact List.take_left
    · have holds : ∀ j u, xs[j]? = some u → w.cell? ((⟨g, 0, none⟩ : Addr).add j) = some u := hown.cells (g := g) rfl
      have hr := hgrow (some ⟨g, 0, none⟩) cap rfl (by omega) (run_firstCells_some w.drew i.size n ⟨g, 0, none⟩ n cap xs hown.1 (by simpa using holds))
      exact ⟨_, _, hr, grown cap (by omega), hch _ _, .inr rfl⟩
theorem run_append_str (t tx ty e : TypeId) (i : TypeInfo) (z : Value) (ht : P.underlying t = some (.slice e)) (hk : P.underlying tx = some .string) (hi : P.info? e = some i) (hz : i.zero = some z) (hsize : i.size = 1) (hby : i.bytes = 1) (hzs : z.cells.size = 1)
    {v : Value} {n : Nat} {xs : List Value} (hown : w.ownsRow 0 e 1 v n xs) (l : List UInt8) (h63 : n + l.length ≤ maxLen) (hbytes : n + l.length ≤ 140737488355328) :
    ∃ v' w', (Builtin.append_ #[t, tx] ty #[v, sV l]).run P w = .ok v' w' ∧ w'.ownsRow 0 e 1 v' (n + l.length) (xs ++ bs l) ∧ Chg v.ownBlock.toList w w' ∧ (v'.ownBlock = v.ownBlock ∨ v'.ownBlock = some w.heap.size) := by
  have hb : byteCells (strB l) = bs l := by simp [byteCells, strB, bs, bv]
  have hsl : (strB l).size = l.length := strB_size l
  have hsrc := Src.ofString (P := P) w hk (strB l)
  rw [hb, hsl] at hsrc
  have hown' : w.ownsRow 0 e i.size v n xs := by rw [hsize]; exact hown
  have := own_append (P := P) (R := (Builtin.append_ #[t, tx] ty #[v, sV l]).run P w) (z := z) (by rw [hzs, hsize]) (by omega) hown' (m := l.length) (news := bs l) (by rw [bs_length, hsize, Nat.mul_one]) h63
    (fun g cap cur hv hg hroom hfit => by
      subst hv
      have hst := run_storeCells_at P g (n * i.size) e (bs l) 0 cur w hg (by simpa using hfit) (bs_one _)
      simp only [Nat.add_zero] at hst
      have hf : (Builtin.firstCells i.size l.length (sV l)).run P w = .ok (bs l).toArray w := by
        have := firstCells_string (P := P) (strB l) w
        rwa [hb, hsl, ← hsize] at this
      simp [Builtin.append_, run_underlying ht, run_underlying hk, sizeOf, typeInfo, hi, Builtin.lenOf, hsl, hroom, hf, Addr.add_lit, hst])
    (fun ba cap hv hc hold => by
      subst hv
      have h := run_append_grow_src (P := P) w t tx ty e i z ht hi hz ba n cap xs hold (sV l) l.length (bs l) (hsize ▸ hsrc) hc (by unfold maxLen at h63; omega) (growslice_fits (by omega) (by rw [hby]; omega))
      rw [h]
      simp)
    (fun hm hv => by
      subst hv
      have hl0 : l = [] := List.eq_nil_of_length_eq_zero hm
      subst hl0
      exact run_append_nothing w t tx ty e i ht hi none 0 0 (Nat.le_refl _) _ (by rw [hsize]; exact hsrc))
  rw [hsize] at this
  exact this
end
section
variable {P : Program} {E : Env} {n : Nat} {K : Slots} {L : Res} {o : Oper} {C : Value → Res → Prop}
theorem OpT_appendStr {t tx r k1 e : Nat} {x y : Operand} {v : Value} {xs : List Value} {l : List UInt8} {i : TypeInfo} {z : Value}
    (ho : o.op = .call { callee := .builtin .append, args := #[x, y], argTypes := #[t, tx] }) (ht : P.underlying t = some (.slice e)) (hk : P.underlying tx = some .string) (hi : P.info? e = some i) (hz : i.zero = some z)
    (hsize : i.size = 1) (hby : i.bytes = 1) (hzs : z.cells.size = 1) (hx : evK K x = some v) (hy : evK K y = some (sV l)) (hr : look L r = some (rowP e 1 v k1 xs))
    (h63 : k1 + l.length ≤ maxLen) (hbytes : k1 + l.length ≤ 140737488355328)
    (k : ∀ v', C v' ((r, rowP e 1 v' (k1 + l.length) (xs ++ bs l)) :: L)) : OpT P E n o K L C := fun a w Kc Q hA hS hK => by
  obtain ⟨h3, q3, q4⟩ := hS.read hr
  have hOwn := rowP_own q3 q4
  obtain ⟨v', w', hrun, g1, g2, g3⟩ := run_append_str (P := P) t tx o.type e i z ht hk hi hz hsize hby hzs hOwn l h63 hbytes
  unfold Oper.wp execOp
  simp only [ho, resolve, invoke, builtin, Sem.run_bind, Sem.run_pure, Result.andThen_ok, List.map_toArray, List.map_cons, List.map_nil, hA.eval hx, hA.eval hy, hrun]
  refine hK _ _ _ (k v') (hS.step hr fun h hp hin => ?_)
  obtain ⟨h', c1, c2, c3⟩ := rowP_of_own g1
  refine ⟨v.ownBlock.toList, h', ?_, g2, c1, c2, fun g hg => ?_⟩
  · intro k hk
    simp at hk
    exact rowP_block hp hk
  · have hb := c3 g hg
    rcases g3 with h4 | h4
    · left; exact rowP_block hp (h4 ▸ hb)
    · right; rw [h4] at hb; injection hb with hb; omega
end
end Go.Proofs.YthkdkmaacjpneaaGreatDoor
/- latticeref3: a name is checked. -/
namespace Go.Proofs.YthkdkmaacjpneaaGreatDoor
open Go.RowKit Go.Lib
set_option linter.unusedVariables false
set_option maxRecDepth 8000
set_option linter.unusedSimpArgs false

end Go.Proofs.YthkdkmaacjpneaaGreatDoor
