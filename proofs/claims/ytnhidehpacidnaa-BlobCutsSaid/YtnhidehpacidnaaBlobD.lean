/- Blocks: inodes read. -/
import Derived.Test.YtnhidehpacidnaaBlobC
namespace Go.Proofs.Ytnhidehpacidnaa
open Go.RowKit
set_option linter.unusedVariables false

theorem numbered_spec (v : Value) (l : List UInt8) (F : HP) (hF : ∀ h, F h → rdB v l h) (hl : l.length ≤ 7) : CallsS Try.prog 28 #[v] F [] (fun r Ps => r = .int .i64 (val l l.length : Int) ∧ Ps = []) := by
  refine callsS_enter Try.func28 rfl Try.ntmps28 (by simp) (fun E => ?_)
  refine W_seq ?_
  refine W.pre (K' := [(0, _)]) (L' := [(0, _)]) ?_ ⟨rfl, trivial⟩ ⟨rfl, trivial⟩
  refine W_regL (WL_pure rfl rfl (by decide) (Pu_assign rfl rfl) (WL_nil (X_then ?_)))
  refine W_seq ?_
  refine W.pre (K' := [(0, _), (2, _)]) (L' := [(0, _)]) ?_ ⟨rfl, ⟨rfl, trivial⟩⟩ ⟨rfl, trivial⟩
  refine W_regL (WL_pure rfl rfl (by decide) (Pu_assign rfl rfl) (WL_nil (X_then ?_)))
  refine W_seq ?_
  refine W_seq ?_
  refine W.pre (K' := [(0, _), (2, _), (3, _)]) (L' := [(0, _)]) ?_ ⟨rfl, ⟨rfl, ⟨rfl, trivial⟩⟩⟩ ⟨rfl, trivial⟩
  refine W_regL (WL_pure rfl rfl (by decide) (Pu_move rfl rfl) (WL_pure rfl rfl (by decide) (Pu_len (r := 0) rfl Try.runUnderlying28 rfl rfl hF) (WL_pure rfl rfl (by decide) (Pu_move rfl rfl) (WL_nil (X_then ?_)))))
  refine W_block ?_
  refine W_loop (α := Nat) (fun k => [(3, .int .i64 (val l k : Int)), (6, v), (7, .int .i64 (l.length : Int)), (8, .int .i64 (k : Int))]) (fun k => [(0, F)]) (fun k => k ≤ l.length) (fun k => l.length - k) (0) (by omega) ⟨rfl, ⟨rfl, ⟨rfl, ⟨rfl, trivial⟩⟩⟩⟩ ⟨rfl, trivial⟩ (fun x hx => ?_)
  have hv := val_small l (k := x) (by omega)
  refine W_seq ?_
  refine W.pre (K' := [(3, _), (6, _), (7, _), (8, _)]) (L' := [(0, _)]) ?_ ⟨rfl, ⟨rfl, ⟨rfl, ⟨rfl, trivial⟩⟩⟩⟩ ⟨rfl, trivial⟩
  refine W_regL (WL_pure rfl rfl (by decide) (Pu_bin rfl rfl rfl (run_lss _ _ _ _ _ _)) (WL_nil (X_then ?_)))
  refine W_seq ?_
  refine W_cond rfl (fun hc9 => ?_) (fun hc9 => ?_)
  ·
    have hv6 := val_lt6 l (k := x) (by have := of_decide_eq_true hc9; omega)
    refine W_skip (X_then ?_)
    refine W_seq ?_
    refine W_block ?_
    refine W_seq ?_
    refine W.pre (K' := [(3, _), (6, _), (7, _), (8, _), (9, _)]) (L' := [(0, _)]) ?_ ⟨rfl, ⟨rfl, ⟨rfl, ⟨rfl, ⟨rfl, trivial⟩⟩⟩⟩⟩ ⟨rfl, trivial⟩
    refine W_regL (WL_pure rfl rfl (by decide) (Pu_idxS1 (r := 0) rfl Try.runUnderlying28 Try.sizeOf5 rfl rfl rfl hF (by have := of_decide_eq_true hc9; omega)) (WL_pure rfl rfl (by decide) (Pu_loadS (r := 0) rfl Try.isAgg5 rfl rfl hF (bs_at1 (k := x) (by have := of_decide_eq_true hc9; omega))) (WL_pure rfl rfl (by decide) (Pu_assign rfl rfl) (WL_nil (X_then ?_)))))
    refine W.pre (K' := [(3, _), (5, _), (6, _), (7, _), (8, _), (9, _)]) (L' := [(0, _)]) ?_ ⟨rfl, ⟨rfl, ⟨rfl, ⟨rfl, ⟨rfl, ⟨rfl, trivial⟩⟩⟩⟩⟩⟩ ⟨rfl, trivial⟩
    refine W_regL (WL_pure rfl rfl (by decide) (Pu_move rfl rfl) (WL_pure rfl rfl (by decide) (Pu_bin rfl rfl rfl (run_shl _ 8 _ _ _ (by omega) (by omega))) (WL_pure rfl rfl (by decide) (Pu_move rfl rfl) (WL_pure rfl rfl (by decide) (Pu_conv rfl rfl (conv_u8 _ Try.runUnderlying5 Try.runUnderlying3)) (WL_pure rfl rfl (by decide) (Pu_bin rfl rfl rfl (run_orJoin _ _ 8 _ _ _ (by omega) (by have := (at0 l x).toNat_lt; omega) (by omega))) (WL_pure rfl rfl (by decide) (Pu_assign rfl rfl) (WL_nil (X_block (X_then ?_)))))))))
    refine W.pre (K' := [(3, _), (5, _), (6, _), (7, _), (8, _), (9, _)]) (L' := [(0, _)]) ?_ ⟨rfl, ⟨rfl, ⟨rfl, ⟨rfl, ⟨rfl, ⟨rfl, trivial⟩⟩⟩⟩⟩⟩ ⟨rfl, trivial⟩
    refine W_regL (WL_pure rfl rfl (by decide) (Pu_bin rfl rfl rfl (run_add _ _ _ _ _ (by omega))) (WL_pure rfl rfl (by decide) (Pu_move rfl rfl) (WL_nil ?_)))
    exact X_round (x + 1) (by have := of_decide_eq_true hc9; omega) (by have := of_decide_eq_true hc9; omega) ⟨rfl, rfl, rfl, rfl, trivial⟩ ⟨rfl, trivial⟩
  ·
    obtain rfl : x = l.length := by have := of_decide_eq_false hc9; omega
    refine W_exit (X_then_exit (X_then_exit (X_block_exit (X_then ?_))))
    refine W_seq ?_
    refine W.pre (K' := [(3, _), (6, _), (7, _), (8, _), (9, _)]) (L' := [(0, _)]) ?_ ⟨rfl, ⟨rfl, ⟨rfl, ⟨rfl, ⟨rfl, trivial⟩⟩⟩⟩⟩ ⟨rfl, trivial⟩
    refine W_regL (WL_pure rfl rfl (by decide) (Pu_move rfl rfl) (WL_pure rfl rfl (by decide) (Pu_assign rfl rfl) (WL_nil (X_then ?_))))
    refine W_ret ?_
    exact X_ret [] (Ps := []) (res1 Try.results28 rfl) rfl (by decide) ⟨rfl, rfl⟩
theorem numbered_spec2 (v : Value) (l : List UInt8) (n : Nat) (F : HP) (hF : ∀ h, F h → rdB v (l.take n) h) (hn : n ≤ l.length) (hl : n ≤ 7) : CallsS Try.prog 28 #[v] F [] (fun r Ps => r = .int .i64 (val l n : Int) ∧ Ps = []) :=
  (numbered_spec v (l.take n) F hF (by simp; omega)).imp fun r Ps ⟨h1, h2⟩ => ⟨by rw [h1, List.length_take, Nat.min_eq_left hn, val_take l n n (Nat.le_refl _)], h2⟩
theorem parseInode_spec (v : Value) (l : List UInt8) (F : HP) (hF : ∀ h, F h → rdB v l h) : CallsS Try.prog 18 #[v] F [] (fun r Ps => r = .tuple #[nodeV (parseI l).1.1 (parseI l).1.2.1 (parseI l).1.2.2.1 (parseI l).1.2.2.2, .int .i64 (parseI l).2] ∧ Ps = []) := by
  refine callsS_enter Try.func18 rfl Try.ntmps18 (by simp) (fun E => ?_)
  refine W_seq ?_
  refine W.pre (K' := [(0, _)]) (L' := [(0, _)]) ?_ ⟨rfl, trivial⟩ ⟨rfl, trivial⟩
  refine W_regL (WL_cons rfl rfl (by decide) (OpT_alloc (r := 101) rfl (zero_run (by kernel_rfl : (Try.prog.info? 27).bind (·.zero) = some (.agg (nodeC 0 0 0 zeroId).toArray))) rfl (fun g101 => (WL_pure rfl rfl (by decide) (Pu_assign rfl rfl) (WL_nil (X_then ?_))))))
  refine W_seq ?_
  refine W_seq ?_
  refine W.pre (K' := [(0, _), (2, _), (3, _)]) (L' := [(0, _), (101, _)]) ?_ ⟨rfl, ⟨rfl, ⟨rfl, trivial⟩⟩⟩ ⟨rfl, ⟨rfl, trivial⟩⟩
  refine W_regL (WL_pure rfl rfl (by decide) (Pu_move rfl rfl) (WL_pure rfl rfl (by decide) (Pu_len (r := 0) rfl Try.runUnderlying28 rfl rfl hF) (WL_pure rfl rfl (by decide) (Pu_bin rfl rfl rfl (run_lss _ _ _ _ _ _)) (WL_nil (X_then ?_)))))
  refine W_cond rfl (fun hc7 => ?_) (fun hc7 => ?_)
  ·
    have h39 := of_decide_eq_true hc7
    refine W_seq ?_
    refine W.pre (K' := [(0, _), (2, _), (3, _), (7, _)]) (L' := [(0, _), (101, _)]) ?_ ⟨rfl, ⟨rfl, ⟨rfl, ⟨rfl, trivial⟩⟩⟩⟩ ⟨rfl, ⟨rfl, trivial⟩⟩
    refine W_regL (WL_pure rfl rfl (by decide) (Pu_build (V := _) [(0, 1), (1, 1), (2, 1), (3, 32)] (nodeC 0 0 0 zeroId) rfl rfl (by kernel_rfl) (by kernel_rfl) (.nil _) rfl) (WL_cons0 rfl rfl (OpT_storeAll (r := 101) rfl Try.sizeOf27 rfl rfl rfl (by simp [nodeC, bs_length, zeroId_length, *]) (by simp [nodeC, bs_length, zeroId_length, *]) (one_node _ _ _ _) ?_)))
    refine (WL_pure rfl rfl (by decide) (Pu_assign rfl rfl) (WL_nil (X_then ?_)))
    refine W_ret (X_then_ret ?_)
    exact X_ret [] (Ps := []) (resC2 (r := 101) Try.results18 rfl rfl Try.isAgg27 Try.sizeOf27 rfl (nodeC_length zeroId_length)) rfl (by decide) ⟨by rw [parseI_cut h39]; rfl, rfl⟩
  ·
    have h39 : 39 ≤ l.length := by have := of_decide_eq_false hc7; omega
    have htop := parsed_top h39
    refine W_skip (X_then ?_)
    refine W_seq ?_
    refine W.pre (K' := [(0, _), (2, _), (3, _), (7, _)]) (L' := [(0, _), (101, _)]) ?_ ⟨rfl, ⟨rfl, ⟨rfl, ⟨rfl, trivial⟩⟩⟩⟩ ⟨rfl, ⟨rfl, trivial⟩⟩
    refine W_draw (N := 14) (by kernel_rfl) rfl [(0, _), (101, _)] ⟨rfl, ⟨rfl, trivial⟩⟩ ?_
    refine (AH_take 0 rfl (by kernel_rfl) (by kernel_rfl) (by kernel_rfl) rfl rfl (by decide) (Pu_move rfl rfl) (AH_take 1 rfl (by kernel_rfl) (by kernel_rfl) (by kernel_rfl) rfl rfl (by decide) (Pu_idxS1 (r := 0) rfl Try.runUnderlying28 Try.sizeOf5 rfl rfl rfl hF (by omega)) (AH_take 2 rfl (by kernel_rfl) (by kernel_rfl) (by kernel_rfl) rfl rfl (by decide) (Pu_loadS (r := 0) rfl Try.isAgg5 rfl rfl hF (bs_at1 (k := 1) (by omega))) (AH_take 3 rfl (by kernel_rfl) (by kernel_rfl) (by kernel_rfl) rfl rfl (by decide) (Pu_conv rfl rfl (conv_u8 _ Try.runUnderlying5 Try.runUnderlying3)) (AH_take 4 rfl (by kernel_rfl) (by kernel_rfl) (by kernel_rfl) rfl rfl (by decide) (Pu_move rfl rfl) (AH_take 5 rfl (by kernel_rfl) (by kernel_rfl) (by kernel_rfl) rfl rfl (by decide) (Pu_slice (r := 0) (a := 2) (b := 6) rfl Try.runUnderlying28 Try.sizeOf5 rfl rfl hF (.inr ⟨_, _, _, rfl, rfl, rfl⟩) (.inr ⟨_, _, _, rfl, rfl, rfl⟩) (by omega) (by omega)) (AH_take 7 rfl (by kernel_rfl) (by kernel_rfl) (by kernel_rfl) rfl rfl (by decide) (Pu_move rfl rfl) (AH_take 8 rfl (by kernel_rfl) (by kernel_rfl) (by kernel_rfl) rfl rfl (by decide) (Pu_idxS1 (r := 0) rfl Try.runUnderlying28 Try.sizeOf5 rfl rfl rfl hF (by omega)) (AH_take 9 rfl (by kernel_rfl) (by kernel_rfl) (by kernel_rfl) rfl rfl (by decide) (Pu_loadS (r := 0) rfl Try.isAgg5 rfl rfl hF (bs_at1 (k := 6) (by omega))) (AH_take 10 rfl (by kernel_rfl) (by kernel_rfl) (by kernel_rfl) rfl rfl (by decide) (Pu_conv rfl rfl (conv_u8 _ Try.runUnderlying5 Try.runUnderlying3)) (AH_ready [6, 12] (by kernel_rfl) (by decide) ?_)))))))))))
    refine AHs_cons rfl rfl rfl (by decide) (OpT_call 200 [0, 101] [] rfl Try.call28 rfl rfl rfl (by decide) (by decide) (numbered_spec2 _ (l.drop 2) 4 _ (rd_star 0 rfl (fun h hp => rdB_sub (hF h hp) (by omega) (by omega))) (by simp; omega) (by omega)) (fun v15 Ps15 hR15 => ?_)) ?_
    ·
      obtain ⟨rfl, rfl⟩ := hR15
      refine ⟨⟨rfl, ⟨rfl, trivial⟩⟩, ?_⟩
      refine (AH_take 11 rfl (by kernel_rfl) (by kernel_rfl) (by kernel_rfl) rfl rfl (by decide) (Pu_build (V := nodeV (at0 l 1).toNat (val (l.drop 2) 4) (at0 l 6).toNat zeroId) [(0, 1), (1, 1), (2, 1), (3, 32)] (nodeC 0 0 0 zeroId) rfl rfl (by kernel_rfl) (by kernel_rfl) (.one rfl rfl (by simp [nodeC, bs_length, zeroId_length]) rfl (.one rfl rfl (by simp [nodeC, bs_length, zeroId_length]) rfl (.one rfl rfl (by simp [nodeC, bs_length, zeroId_length]) rfl (.nil _)))) rfl) (AH_ready [12] (by kernel_rfl) (by decide) ?_))
      refine AHs_cons rfl rfl rfl (by decide) (OpT_alloc (r := 201) rfl (zero_run (by kernel_rfl : (Try.prog.info? 27).bind (·.zero) = some (.agg (nodeC 0 0 0 zeroId).toArray))) rfl (fun g201 => ⟨⟨rfl, ⟨rfl, trivial⟩⟩, ?_⟩)) ?_
      ·
        refine (AH_ready [13] (by kernel_rfl) (by decide) ?_)
        refine AHs_cons0 rfl rfl rfl (OpT_storeAll (r := 201) rfl Try.sizeOf27 rfl rfl rfl (by simp [nodeC, bs_length, zeroId_length, *]) (by simp [nodeC, bs_length, zeroId_length, *]) (one_node _ _ _ _) ?_) ?_
        ·
          refine ⟨⟨rfl, ⟨rfl, trivial⟩⟩, ?_⟩
          refine (AH_done (by kernel_rfl) (X_then ?_))
          refine W_seq ?_
          refine W.pre (K' := [(0, _), (2, _), (3, _), (4, _), (7, _)]) (L' := [(0, _), (101, _), (201, _)]) ?_ ⟨rfl, ⟨rfl, ⟨rfl, ⟨rfl, ⟨rfl, trivial⟩⟩⟩⟩⟩ ⟨rfl, ⟨rfl, ⟨rfl, trivial⟩⟩⟩
          refine W_draw (N := 5) (by kernel_rfl) rfl [(0, _), (101, _)] ⟨rfl, ⟨rfl, trivial⟩⟩ ?_
          refine (AH_take 0 rfl (by kernel_rfl) (by kernel_rfl) (by kernel_rfl) rfl rfl (by decide) (Pu_fieldAddrB (off := 3) rfl rfl (by kernel_rfl)) (AH_take 1 rfl (by kernel_rfl) (by kernel_rfl) (by kernel_rfl) rfl rfl (by decide) (Pu_sliceArr rfl Try.runUnderlying25 Try.sizeOf5 rfl) (AH_take 2 rfl (by kernel_rfl) (by kernel_rfl) (by kernel_rfl) rfl rfl (by decide) (Pu_move rfl rfl) (AH_take 3 rfl (by kernel_rfl) (by kernel_rfl) (by kernel_rfl) rfl rfl (by decide) (Pu_slice (r := 0) (a := 7) (b := 39) rfl Try.runUnderlying28 Try.sizeOf5 rfl rfl hF (.inr ⟨_, _, _, rfl, rfl, rfl⟩) (.inr ⟨_, _, _, rfl, rfl, rfl⟩) (by omega) (by omega)) (AH_ready [4] (by kernel_rfl) (by decide) ?_)))))
          refine AHs_cons rfl rfl rfl (by decide) (OpT_copyB (r := 201) (r2 := 0) rfl Try.underlying28 TI.hsm5 rfl rfl rfl rfl (fun h hp => rdB_sub (hF h hp) (by omega) (by omega)) (bs_one _) (by simp [nodeC, bs_length, zeroId_length]; omega) (node_copy zeroId_length htop) ?_) ?_
          ·
            refine ⟨⟨rfl, ⟨rfl, trivial⟩⟩, ?_⟩
            refine (AH_done (by kernel_rfl) (X_then ?_))
            refine W_seq ?_
            refine W_block ?_
            refine W_seq ?_
            refine W.pre (K' := [(0, _), (2, _), (3, _), (4, _), (7, _)]) (L' := [(0, _), (101, _), (201, _)]) ?_ ⟨rfl, ⟨rfl, ⟨rfl, ⟨rfl, ⟨rfl, trivial⟩⟩⟩⟩⟩ ⟨rfl, ⟨rfl, ⟨rfl, trivial⟩⟩⟩
            refine W_regL (WL_pure rfl rfl (by decide) (Pu_move rfl rfl) (WL_pure rfl rfl (by decide) (Pu_idxS1 (r := 0) rfl Try.runUnderlying28 Try.sizeOf5 rfl rfl rfl hF (by omega)) (WL_pure rfl rfl (by decide) (Pu_loadS (r := 0) rfl Try.isAgg5 rfl rfl hF (bs_at1 (k := 0) (by omega))) (WL_pure rfl rfl (by decide) (Pu_bin rfl rfl rfl (run_neq _ _ _ _ _ _)) (WL_pure rfl rfl (by decide) (Pu_move rfl rfl) (WL_guardP rfl rfl rfl rfl (by decide) (fun hb => (Pu_loadBN (r := 201) rfl Try.isAgg27 Try.sizeOf27 rfl rfl (nodeC_length htop) (load_all (nodeC_length htop)))) (WL_guard (V := .int .i64 (wrongN (parsed l).1 (parsed l).2.1 (parsed l).2.2.1 (parsed l).2.2.2)) rfl rfl rfl rfl (by decide) (fun hb => (OpT_call 300 [0, 101, 201] [] rfl Try.call22 (evL_cons (ev_gv rfl hb) evL_nil) rfl rfl (by decide) (by decide) (wrong_spec _ _ _ _ htop _) (fun v33 Ps33 hR33 => ⟨hR33.1, fun w hw => by rw [hR33.2] at hw; exact hw.sub (AllIn.look ⟨rfl, rfl, rfl, trivial⟩)⟩))) ?_)))))))
            refine (WL_guardP rfl rfl rfl rfl (by decide) (fun hb => (Pu_bin rfl (ev_gv rfl hb) rfl (run_neq _ _ _ _ _ _))) (WL_pure rfl rfl (by decide) (Pu_or rfl rfl rfl) (WL_pure rfl rfl (by decide) (Pu_assign rfl rfl) (WL_nil (X_then ?_)))))
            refine W_cond rfl (fun hc26 => ?_) (fun hc26 => ?_)
            ·
              refine W_seq ?_
              refine W.pre (K' := [(0, _), (2, _), (3, _), (4, _), (7, _), (26, _)]) (L' := [(0, _), (101, _), (201, _)]) ?_ ⟨rfl, ⟨rfl, ⟨rfl, ⟨rfl, ⟨rfl, ⟨rfl, trivial⟩⟩⟩⟩⟩⟩ ⟨rfl, ⟨rfl, ⟨rfl, trivial⟩⟩⟩
              refine W_regL (WL_pure rfl rfl (by decide) (Pu_build (V := _) [(0, 1), (1, 1), (2, 1), (3, 32)] (nodeC 0 0 0 zeroId) rfl rfl (by kernel_rfl) (by kernel_rfl) (.nil _) rfl) (WL_cons0 rfl rfl (OpT_storeAll (r := 101) rfl Try.sizeOf27 rfl rfl rfl (by simp [nodeC, bs_length, zeroId_length, *]) (by simp [nodeC, bs_length, zeroId_length, *]) (one_node _ _ _ _) ?_)))
              refine (WL_pure rfl rfl (by decide) (Pu_assign rfl rfl) (WL_nil (X_then ?_)))
              refine W_ret (X_block_ret (X_then_ret ?_))
              exact X_ret [] (Ps := []) (resC2 (r := 101) Try.results18 rfl rfl Try.isAgg27 Try.sizeOf27 rfl (nodeC_length zeroId_length)) rfl (by decide) ⟨by rw [parseI_bad h39 hc26]; rfl, rfl⟩
            ·
              refine W_seq ?_
              refine W.pre (K' := [(0, _), (2, _), (3, _), (4, _), (7, _), (26, _)]) (L' := [(0, _), (101, _), (201, _)]) ?_ ⟨rfl, ⟨rfl, ⟨rfl, ⟨rfl, ⟨rfl, ⟨rfl, trivial⟩⟩⟩⟩⟩⟩ ⟨rfl, ⟨rfl, ⟨rfl, trivial⟩⟩⟩
              refine W_regL (WL_pure rfl rfl (by decide) (Pu_move rfl rfl) (WL_pure rfl rfl (by decide) (Pu_len (r := 0) rfl Try.runUnderlying28 rfl rfl hF) (WL_pure rfl rfl (by decide) (Pu_bin rfl rfl rfl (run_gtr _ _ _ _ _ _)) (WL_pure rfl rfl (by decide) (Pu_assign rfl rfl) (WL_nil (X_then ?_))))))
              refine W_cond rfl (fun hc37 => ?_) (fun hc37 => ?_)
              ·
                refine W_seq ?_
                refine W.pre (K' := [(0, _), (2, _), (3, _), (4, _), (7, _), (26, _), (37, _)]) (L' := [(0, _), (101, _), (201, _)]) ?_ ⟨rfl, ⟨rfl, ⟨rfl, ⟨rfl, ⟨rfl, ⟨rfl, ⟨rfl, trivial⟩⟩⟩⟩⟩⟩⟩ ⟨rfl, ⟨rfl, ⟨rfl, trivial⟩⟩⟩
                refine W_regL (WL_pure rfl rfl (by decide) (Pu_build (V := _) [(0, 1), (1, 1), (2, 1), (3, 32)] (nodeC 0 0 0 zeroId) rfl rfl (by kernel_rfl) (by kernel_rfl) (.nil _) rfl) (WL_cons0 rfl rfl (OpT_storeAll (r := 101) rfl Try.sizeOf27 rfl rfl rfl (by simp [nodeC, bs_length, zeroId_length, *]) (by simp [nodeC, bs_length, zeroId_length, *]) (one_node _ _ _ _) ?_)))
                refine (WL_pure rfl rfl (by decide) (Pu_assign rfl rfl) (WL_nil (X_then ?_)))
                refine W_ret (X_block_ret (X_then_ret ?_))
                exact X_ret [] (Ps := []) (resC2 (r := 101) Try.results18 rfl rfl Try.isAgg27 Try.sizeOf27 rfl (nodeC_length zeroId_length)) rfl (by decide) ⟨by rw [parseI_more h39 hc26 hc37]; rfl, rfl⟩
              ·
                refine W_skip (X_block (X_then ?_))
                refine W_seq ?_
                refine W.pre (K' := [(0, _), (2, _), (3, _), (4, _), (7, _), (26, _), (37, _)]) (L' := [(0, _), (101, _), (201, _)]) ?_ ⟨rfl, ⟨rfl, ⟨rfl, ⟨rfl, ⟨rfl, ⟨rfl, ⟨rfl, trivial⟩⟩⟩⟩⟩⟩⟩ ⟨rfl, ⟨rfl, ⟨rfl, trivial⟩⟩⟩
                refine W_regL (WL_pure rfl rfl (by decide) (Pu_loadBN (r := 201) rfl Try.isAgg27 Try.sizeOf27 rfl rfl (nodeC_length htop) (load_all (nodeC_length htop))) (WL_cons0 rfl rfl (OpT_storeAll (r := 101) rfl Try.sizeOf27 rfl rfl rfl rfl (nodeC_length htop) (one_node _ _ _ _) ?_)))
                refine (WL_pure rfl rfl (by decide) (Pu_assign rfl rfl) (WL_nil (X_then ?_)))
                refine W_ret ?_
                exact X_ret [] (Ps := []) (resC2 (r := 101) Try.results18 rfl rfl Try.isAgg27 Try.sizeOf27 rfl (nodeC_length htop)) rfl (by decide) ⟨by rw [parseI_ok h39 hc26 hc37]; rfl, rfl⟩
          exact AHs_nil
        exact AHs_nil
      exact AHs_nil
    refine AHs_cons rfl rfl rfl (by decide) (OpT_alloc (r := 102) rfl (zero_run (by kernel_rfl : (Try.prog.info? 27).bind (·.zero) = some (.agg (nodeC 0 0 0 zeroId).toArray))) rfl (fun g102 => ⟨⟨rfl, ⟨rfl, trivial⟩⟩, ?_⟩)) ?_
    ·
      refine (AH_ready [6] (by kernel_rfl) (by decide) ?_)
      refine AHs_cons rfl rfl rfl (by decide) (OpT_call 200 [0, 101, 102] [] rfl Try.call28 rfl rfl rfl (by decide) (by decide) (numbered_spec2 _ (l.drop 2) 4 _ (rd_star 0 rfl (fun h hp => rdB_sub (hF h hp) (by omega) (by omega))) (by simp; omega) (by omega)) (fun v15 Ps15 hR15 => ?_)) ?_
      ·
        obtain ⟨rfl, rfl⟩ := hR15
        refine ⟨⟨rfl, ⟨rfl, trivial⟩⟩, ?_⟩
        refine (AH_take 11 rfl (by kernel_rfl) (by kernel_rfl) (by kernel_rfl) rfl rfl (by decide) (Pu_build (V := nodeV (at0 l 1).toNat (val (l.drop 2) 4) (at0 l 6).toNat zeroId) [(0, 1), (1, 1), (2, 1), (3, 32)] (nodeC 0 0 0 zeroId) rfl rfl (by kernel_rfl) (by kernel_rfl) (.one rfl rfl (by simp [nodeC, bs_length, zeroId_length]) rfl (.one rfl rfl (by simp [nodeC, bs_length, zeroId_length]) rfl (.one rfl rfl (by simp [nodeC, bs_length, zeroId_length]) rfl (.nil _)))) rfl) (AH_ready [13] (by kernel_rfl) (by decide) ?_))
        refine AHs_cons0 rfl rfl rfl (OpT_storeAll (r := 102) rfl Try.sizeOf27 rfl rfl rfl (by simp [nodeC, bs_length, zeroId_length, *]) (by simp [nodeC, bs_length, zeroId_length, *]) (one_node _ _ _ _) ?_) ?_
        ·
          refine ⟨⟨rfl, ⟨rfl, trivial⟩⟩, ?_⟩
          refine (AH_done (by kernel_rfl) (X_then ?_))
          refine W_seq ?_
          refine W.pre (K' := [(0, _), (2, _), (3, _), (4, _), (7, _)]) (L' := [(0, _), (101, _), (102, _)]) ?_ ⟨rfl, ⟨rfl, ⟨rfl, ⟨rfl, ⟨rfl, trivial⟩⟩⟩⟩⟩ ⟨rfl, ⟨rfl, ⟨rfl, trivial⟩⟩⟩
          refine W_draw (N := 5) (by kernel_rfl) rfl [(0, _), (101, _)] ⟨rfl, ⟨rfl, trivial⟩⟩ ?_
          refine (AH_take 0 rfl (by kernel_rfl) (by kernel_rfl) (by kernel_rfl) rfl rfl (by decide) (Pu_fieldAddrB (off := 3) rfl rfl (by kernel_rfl)) (AH_take 1 rfl (by kernel_rfl) (by kernel_rfl) (by kernel_rfl) rfl rfl (by decide) (Pu_sliceArr rfl Try.runUnderlying25 Try.sizeOf5 rfl) (AH_take 2 rfl (by kernel_rfl) (by kernel_rfl) (by kernel_rfl) rfl rfl (by decide) (Pu_move rfl rfl) (AH_take 3 rfl (by kernel_rfl) (by kernel_rfl) (by kernel_rfl) rfl rfl (by decide) (Pu_slice (r := 0) (a := 7) (b := 39) rfl Try.runUnderlying28 Try.sizeOf5 rfl rfl hF (.inr ⟨_, _, _, rfl, rfl, rfl⟩) (.inr ⟨_, _, _, rfl, rfl, rfl⟩) (by omega) (by omega)) (AH_ready [4] (by kernel_rfl) (by decide) ?_)))))
          refine AHs_cons rfl rfl rfl (by decide) (OpT_copyB (r := 102) (r2 := 0) rfl Try.underlying28 TI.hsm5 rfl rfl rfl rfl (fun h hp => rdB_sub (hF h hp) (by omega) (by omega)) (bs_one _) (by simp [nodeC, bs_length, zeroId_length]; omega) (node_copy zeroId_length htop) ?_) ?_
          ·
            refine ⟨⟨rfl, ⟨rfl, trivial⟩⟩, ?_⟩
            refine (AH_done (by kernel_rfl) (X_then ?_))
            refine W_seq ?_
            refine W_block ?_
            refine W_seq ?_
            refine W.pre (K' := [(0, _), (2, _), (3, _), (4, _), (7, _)]) (L' := [(0, _), (101, _), (102, _)]) ?_ ⟨rfl, ⟨rfl, ⟨rfl, ⟨rfl, ⟨rfl, trivial⟩⟩⟩⟩⟩ ⟨rfl, ⟨rfl, ⟨rfl, trivial⟩⟩⟩
            refine W_regL (WL_pure rfl rfl (by decide) (Pu_move rfl rfl) (WL_pure rfl rfl (by decide) (Pu_idxS1 (r := 0) rfl Try.runUnderlying28 Try.sizeOf5 rfl rfl rfl hF (by omega)) (WL_pure rfl rfl (by decide) (Pu_loadS (r := 0) rfl Try.isAgg5 rfl rfl hF (bs_at1 (k := 0) (by omega))) (WL_pure rfl rfl (by decide) (Pu_bin rfl rfl rfl (run_neq _ _ _ _ _ _)) (WL_pure rfl rfl (by decide) (Pu_move rfl rfl) (WL_guardP rfl rfl rfl rfl (by decide) (fun hb => (Pu_loadBN (r := 102) rfl Try.isAgg27 Try.sizeOf27 rfl rfl (nodeC_length htop) (load_all (nodeC_length htop)))) (WL_guard (V := .int .i64 (wrongN (parsed l).1 (parsed l).2.1 (parsed l).2.2.1 (parsed l).2.2.2)) rfl rfl rfl rfl (by decide) (fun hb => (OpT_call 300 [0, 101, 102] [] rfl Try.call22 (evL_cons (ev_gv rfl hb) evL_nil) rfl rfl (by decide) (by decide) (wrong_spec _ _ _ _ htop _) (fun v33 Ps33 hR33 => ⟨hR33.1, fun w hw => by rw [hR33.2] at hw; exact hw.sub (AllIn.look ⟨rfl, rfl, rfl, trivial⟩)⟩))) ?_)))))))
            refine (WL_guardP rfl rfl rfl rfl (by decide) (fun hb => (Pu_bin rfl (ev_gv rfl hb) rfl (run_neq _ _ _ _ _ _))) (WL_pure rfl rfl (by decide) (Pu_or rfl rfl rfl) (WL_pure rfl rfl (by decide) (Pu_assign rfl rfl) (WL_nil (X_then ?_)))))
            refine W_cond rfl (fun hc26 => ?_) (fun hc26 => ?_)
            ·
              refine W_seq ?_
              refine W.pre (K' := [(0, _), (2, _), (3, _), (4, _), (7, _), (26, _)]) (L' := [(0, _), (101, _), (102, _)]) ?_ ⟨rfl, ⟨rfl, ⟨rfl, ⟨rfl, ⟨rfl, ⟨rfl, trivial⟩⟩⟩⟩⟩⟩ ⟨rfl, ⟨rfl, ⟨rfl, trivial⟩⟩⟩
              refine W_regL (WL_pure rfl rfl (by decide) (Pu_build (V := _) [(0, 1), (1, 1), (2, 1), (3, 32)] (nodeC 0 0 0 zeroId) rfl rfl (by kernel_rfl) (by kernel_rfl) (.nil _) rfl) (WL_cons0 rfl rfl (OpT_storeAll (r := 101) rfl Try.sizeOf27 rfl rfl rfl (by simp [nodeC, bs_length, zeroId_length, *]) (by simp [nodeC, bs_length, zeroId_length, *]) (one_node _ _ _ _) ?_)))
              refine (WL_pure rfl rfl (by decide) (Pu_assign rfl rfl) (WL_nil (X_then ?_)))
              refine W_ret (X_block_ret (X_then_ret ?_))
              exact X_ret [] (Ps := []) (resC2 (r := 101) Try.results18 rfl rfl Try.isAgg27 Try.sizeOf27 rfl (nodeC_length zeroId_length)) rfl (by decide) ⟨by rw [parseI_bad h39 hc26]; rfl, rfl⟩
            ·
              refine W_seq ?_
              refine W.pre (K' := [(0, _), (2, _), (3, _), (4, _), (7, _), (26, _)]) (L' := [(0, _), (101, _), (102, _)]) ?_ ⟨rfl, ⟨rfl, ⟨rfl, ⟨rfl, ⟨rfl, ⟨rfl, trivial⟩⟩⟩⟩⟩⟩ ⟨rfl, ⟨rfl, ⟨rfl, trivial⟩⟩⟩
              refine W_regL (WL_pure rfl rfl (by decide) (Pu_move rfl rfl) (WL_pure rfl rfl (by decide) (Pu_len (r := 0) rfl Try.runUnderlying28 rfl rfl hF) (WL_pure rfl rfl (by decide) (Pu_bin rfl rfl rfl (run_gtr _ _ _ _ _ _)) (WL_pure rfl rfl (by decide) (Pu_assign rfl rfl) (WL_nil (X_then ?_))))))
              refine W_cond rfl (fun hc37 => ?_) (fun hc37 => ?_)
              ·
                refine W_seq ?_
                refine W.pre (K' := [(0, _), (2, _), (3, _), (4, _), (7, _), (26, _), (37, _)]) (L' := [(0, _), (101, _), (102, _)]) ?_ ⟨rfl, ⟨rfl, ⟨rfl, ⟨rfl, ⟨rfl, ⟨rfl, ⟨rfl, trivial⟩⟩⟩⟩⟩⟩⟩ ⟨rfl, ⟨rfl, ⟨rfl, trivial⟩⟩⟩
                refine W_regL (WL_pure rfl rfl (by decide) (Pu_build (V := _) [(0, 1), (1, 1), (2, 1), (3, 32)] (nodeC 0 0 0 zeroId) rfl rfl (by kernel_rfl) (by kernel_rfl) (.nil _) rfl) (WL_cons0 rfl rfl (OpT_storeAll (r := 101) rfl Try.sizeOf27 rfl rfl rfl (by simp [nodeC, bs_length, zeroId_length, *]) (by simp [nodeC, bs_length, zeroId_length, *]) (one_node _ _ _ _) ?_)))
                refine (WL_pure rfl rfl (by decide) (Pu_assign rfl rfl) (WL_nil (X_then ?_)))
                refine W_ret (X_block_ret (X_then_ret ?_))
                exact X_ret [] (Ps := []) (resC2 (r := 101) Try.results18 rfl rfl Try.isAgg27 Try.sizeOf27 rfl (nodeC_length zeroId_length)) rfl (by decide) ⟨by rw [parseI_more h39 hc26 hc37]; rfl, rfl⟩
              ·
                refine W_skip (X_block (X_then ?_))
                refine W_seq ?_
                refine W.pre (K' := [(0, _), (2, _), (3, _), (4, _), (7, _), (26, _), (37, _)]) (L' := [(0, _), (101, _), (102, _)]) ?_ ⟨rfl, ⟨rfl, ⟨rfl, ⟨rfl, ⟨rfl, ⟨rfl, ⟨rfl, trivial⟩⟩⟩⟩⟩⟩⟩ ⟨rfl, ⟨rfl, ⟨rfl, trivial⟩⟩⟩
                refine W_regL (WL_pure rfl rfl (by decide) (Pu_loadBN (r := 102) rfl Try.isAgg27 Try.sizeOf27 rfl rfl (nodeC_length htop) (load_all (nodeC_length htop))) (WL_cons0 rfl rfl (OpT_storeAll (r := 101) rfl Try.sizeOf27 rfl rfl rfl rfl (nodeC_length htop) (one_node _ _ _ _) ?_)))
                refine (WL_pure rfl rfl (by decide) (Pu_assign rfl rfl) (WL_nil (X_then ?_)))
                refine W_ret ?_
                exact X_ret [] (Ps := []) (resC2 (r := 101) Try.results18 rfl rfl Try.isAgg27 Try.sizeOf27 rfl (nodeC_length htop)) rfl (by decide) ⟨by rw [parseI_ok h39 hc26 hc37]; rfl, rfl⟩
          exact AHs_nil
        exact AHs_nil
      exact AHs_nil
    exact AHs_nil
end Go.Proofs.Ytnhidehpacidnaa
