/- Blocks: the law of cuts. -/
import Derived.Test.YtnhidehpacidnaaBlobQ
import Derived.Test.YtnhidehpacidnaaBlobP
import Derived.Test.YtnhidehpacidnaaOpen2
import Derived.Test.YtnhidehpacidnaaBlob6
namespace Go.Proofs.Ytnhidehpacidnaa
open Go.RowKit
set_option linter.unusedVariables false

theorem blobCuts_law (Wo : World) (a0 : Int) (vl : Value) (l : List (List UInt8)) (hrl : Rd Wo 32 vl l.length (idsC l)) (hl : Ids l) (pl : List UInt8) (hpl : pl.length = 56) (vr : Value) (raw : List UInt8) (hrr : RdB Wo vr raw) :
    CallsS Try.prog 6 #[.int .i64 a0, vl, .agg (bs pl).toArray, vr] (orig Wo) [] (fun v Ps => v = .bool true) := by
  refine callsS_enter Try.func6 rfl Try.ntmps6 (by simp) (fun E => ?_)
  refine W_seq ?_
  refine W.pre (K' := [(0, _), (1, _), (2, _), (3, _)]) (L' := [(0, _)]) ?_ ⟨rfl, ⟨rfl, ⟨rfl, ⟨rfl, trivial⟩⟩⟩⟩ ⟨rfl, trivial⟩
  refine W_fact (r := 0) rfl (fun h hp => rd_one (Rd.orig hrr h hp)) (fun ho3 => ?_)
  refine W_regL (WL_cons rfl rfl (by decide) (OpT_box (r := 101) rfl rfl rfl (fun g101 => (WL_pure rfl rfl (by decide) (Pu_assign rfl rfl) (WL_nil (X_then ?_))))))
  refine W_seq ?_
  refine W_seq ?_
  refine W.pre (K' := [(0, _), (1, _), (2, _), (3, _), (6, _), (8, _)]) (L' := [(0, _), (101, _)]) ?_ ⟨rfl, ⟨rfl, ⟨rfl, ⟨rfl, ⟨rfl, ⟨rfl, trivial⟩⟩⟩⟩⟩⟩ ⟨rfl, ⟨rfl, trivial⟩⟩
  refine W_regL (WL_cons rfl rfl (by decide) (OpT_call 200 [0, 101] [] rfl Try.call7 rfl rfl rfl (by decide) (by decide) (known_spec _) (fun v32 Ps32 hR32 => ?_)))
  obtain ⟨rfl, rfl⟩ := hR32
  refine (WL_pure rfl rfl (by decide) (Pu_un rfl rfl (run_not _)) (WL_nil (X_then ?_)))
  refine W_false rfl (rfl) ?_
  refine W_skip (X_then ?_)
  refine W_seq ?_
  refine W_seq ?_
  refine W.pre (K' := [(0, _), (1, _), (2, _), (3, _), (6, _), (8, _), (33, _)]) (L' := [(0, _), (101, _)]) ?_ ⟨rfl, ⟨rfl, ⟨rfl, ⟨rfl, ⟨rfl, ⟨rfl, ⟨rfl, trivial⟩⟩⟩⟩⟩⟩⟩ ⟨rfl, ⟨rfl, trivial⟩⟩
  refine W_regL (WL_pure rfl rfl (by decide) (Pu_move rfl rfl) (WL_pure rfl rfl (by decide) (Pu_len (r := 0) rfl Try.runUnderlying33 rfl rfl (fun h hp => Rd.orig hrl h hp)) (WL_pure rfl rfl (by decide) (Pu_bin rfl rfl rfl (run_eql _ _ _ _ _ _)) (WL_pure rfl rfl (by decide) (Pu_move rfl rfl) (WL_guardP rfl rfl rfl rfl (by decide) (fun hb => (Pu_move rfl rfl)) (WL_guardP rfl rfl rfl rfl (by decide) (fun hb => (Pu_len (r := 0) rfl Try.runUnderlying33 (ev_gv rfl hb) rfl (fun h hp => Rd.orig hrl h hp))) (WL_guardP rfl rfl rfl rfl (by decide) (fun hb => (Pu_bin rfl (ev_gv rfl hb) rfl (run_gtr _ _ _ _ _ _))) (WL_pure rfl rfl (by decide) (Pu_or rfl rfl rfl) (WL_pure rfl rfl (by decide) (Pu_move rfl rfl) (WL_guardP rfl rfl rfl rfl (by decide) (fun hb => (Pu_move rfl rfl)) (WL_guardP rfl rfl rfl rfl (by decide) (fun hb => (Pu_len (r := 0) rfl Try.runUnderlying28 (ev_gv rfl hb) rfl (fun h hp => Rd.orig hrr h hp))) (WL_guardP rfl rfl rfl rfl (by decide) (fun hb => (Pu_bin rfl (ev_gv rfl hb) rfl (run_gtr _ _ _ _ _ _))) (WL_pure rfl rfl (by decide) (Pu_or rfl rfl rfl) (WL_nil (X_then ?_)))))))))))))))
  refine W_cond rfl (fun hc46 => ?_) (fun hc46 => ?_)
  ·
    refine W_seq ?_
    refine W.pre (K' := [(0, _), (1, _), (2, _), (3, _), (6, _), (8, _), (33, _), (46, _)]) (L' := [(0, _), (101, _)]) ?_ ⟨rfl, ⟨rfl, ⟨rfl, ⟨rfl, ⟨rfl, ⟨rfl, ⟨rfl, ⟨rfl, trivial⟩⟩⟩⟩⟩⟩⟩⟩ ⟨rfl, ⟨rfl, trivial⟩⟩
    refine W_regL (WL_pure rfl rfl (by decide) (Pu_assign rfl rfl) (WL_nil (X_then ?_)))
    refine W_ret (X_then_ret ?_)
    exact X_ret [] (Ps := []) (res1 Try.results6 rfl) rfl (by decide) rfl
  ·
    have hsz : 1 ≤ l.length ∧ l.length ≤ 8 ∧ raw.length ≤ 60 := by rw [Bool.or_eq_false_iff, Bool.or_eq_false_iff] at hc46; have h1 := of_decide_eq_false hc46.1.1; have h2 := of_decide_eq_false hc46.1.2; have h3 := of_decide_eq_false hc46.2; omega
    have hs0 := Int.emod_nonneg a0 (show (5000 : Int) ≠ 0 by decide)
    have hs1 := Int.emod_lt_of_pos a0 (show (0 : Int) < 5000 by decide)
    have hid0 : (l.getD 0 []).length = 32 := hl.get (by omega)
    refine W_skip (X_then ?_)
    refine W_seq ?_
    refine W.pre (K' := [(0, _), (1, _), (2, _), (3, _), (6, _), (8, _), (33, _), (46, _)]) (L' := [(0, _), (101, _)]) ?_ ⟨rfl, ⟨rfl, ⟨rfl, ⟨rfl, ⟨rfl, ⟨rfl, ⟨rfl, ⟨rfl, trivial⟩⟩⟩⟩⟩⟩⟩⟩ ⟨rfl, ⟨rfl, trivial⟩⟩
    refine W_regL (WL_pure rfl rfl (by decide) (Pu_move rfl rfl) (WL_cons rfl rfl (by decide) (OpT_call 300 [0, 101] [] rfl Try.call8 rfl rfl rfl (by decide) (by decide) (within_spec a0 5000 (by omega) (by omega) _) (fun v48 Ps48 hR48 => ?_))))
    obtain ⟨rfl, rfl⟩ := hR48
    refine (WL_pure rfl rfl (by decide) (Pu_build (V := nodeV 1 (a0 % 5000) 0 zeroId) [(0, 1), (1, 1), (2, 1), (3, 32)] (nodeC 0 0 0 zeroId) rfl rfl (by kernel_rfl) (by kernel_rfl) (.one rfl rfl (by simp [nodeC, bs_length, zeroId_length]) rfl (.one rfl rfl (by simp [nodeC, bs_length, zeroId_length]) rfl (.nil _))) rfl) (WL_cons rfl rfl (by decide) (OpT_alloc (r := 301) rfl (zero_run (by kernel_rfl : (Try.prog.info? 27).bind (·.zero) = some (.agg (nodeC 0 0 0 zeroId).toArray))) rfl (fun g301 => (WL_cons0 rfl rfl (OpT_storeAll (r := 301) rfl Try.sizeOf27 rfl rfl rfl rfl (nodeC_length zeroId_length) (one_node _ _ _ _) ?_))))))
    refine (WL_nil (X_then ?_))
    refine W_seq ?_
    refine W_seq ?_
    refine W.pre (K' := [(0, _), (1, _), (2, _), (3, _), (6, _), (8, _), (9, _), (33, _), (46, _)]) (L' := [(0, _), (101, _), (301, _)]) ?_ ⟨rfl, ⟨rfl, ⟨rfl, ⟨rfl, ⟨rfl, ⟨rfl, ⟨rfl, ⟨rfl, ⟨rfl, trivial⟩⟩⟩⟩⟩⟩⟩⟩⟩ ⟨rfl, ⟨rfl, ⟨rfl, trivial⟩⟩⟩
    refine W_regL (WL_pure rfl rfl (by decide) (Pu_assign rfl rfl) (WL_nil (X_then ?_)))
    refine W_block ?_
    refine W_loop (α := Nat) (fun n => [(1, vl), (3, vr), (6, .pointer (some ⟨g101, 0, none⟩)), (9, .pointer (some ⟨g301, 0, none⟩)), (10, .int .i64 (all8 n))]) (fun n => [(0, orig Wo), (101, blk g101 53 (bs pl)), (301, blk g301 27 (nodeC 1 (a0 % 5000) (n : Int) zeroId))]) (fun n => n ≤ 7 ∧ (n = 0 ∨ all8 (n - 1) < (a0 % 5000))) (fun n => 7 - n) (0) ⟨by omega, .inl rfl⟩ ⟨rfl, ⟨rfl, ⟨rfl, ⟨rfl, ⟨rfl, trivial⟩⟩⟩⟩⟩ ⟨rfl, ⟨rfl, ⟨rfl, trivial⟩⟩⟩ (fun x hx => ?_)
    obtain ⟨h7, hlo⟩ := hx
    have hb := all8_le h7
    have h0 := all8_pos x
    refine W_seq ?_
    refine W_seq ?_
    refine W.pre (K' := [(1, _), (3, _), (6, _), (9, _), (10, _)]) (L' := [(0, _), (101, _), (301, _)]) ?_ ⟨rfl, ⟨rfl, ⟨rfl, ⟨rfl, ⟨rfl, trivial⟩⟩⟩⟩⟩ ⟨rfl, ⟨rfl, ⟨rfl, trivial⟩⟩⟩
    refine W_regL (WL_pure rfl rfl (by decide) (Pu_move rfl rfl) (WL_pure rfl rfl (by decide) (Pu_fieldAddrB (off := 1) rfl rfl (by kernel_rfl)) (WL_pure rfl rfl (by decide) (Pu_loadB (r := 301) rfl Try.isAgg3 rfl rfl rfl) (WL_pure rfl rfl (by decide) (Pu_bin rfl rfl rfl (run_lss _ _ _ _ _ _)) (WL_nil (X_then ?_))))))
    refine W_cond rfl (fun hc53 => ?_) (fun hc53 => ?_)
    ·
      have hx6 : x + 1 ≤ 7 := by
        have hlt := of_decide_eq_true hc53
        rcases Nat.lt_or_ge x 7 with h | h
        · omega
        · obtain rfl : x = 7 := by omega
          have : all8 7 = 134217728 := rfl
          omega
      refine W_skip (X_then ?_)
      refine W_seq ?_
      refine W_block ?_
      refine W.pre (K' := [(1, _), (3, _), (6, _), (9, _), (10, _), (53, _)]) (L' := [(0, _), (101, _), (301, _)]) ?_ ⟨rfl, ⟨rfl, ⟨rfl, ⟨rfl, ⟨rfl, ⟨rfl, trivial⟩⟩⟩⟩⟩⟩ ⟨rfl, ⟨rfl, ⟨rfl, trivial⟩⟩⟩
      refine W_regL (WL_pure rfl rfl (by decide) (Pu_fieldAddrB (off := 2) rfl rfl (by kernel_rfl)) (WL_pure rfl rfl (by decide) (Pu_loadB (r := 301) rfl Try.isAgg3 rfl rfl rfl) (WL_pure rfl rfl (by decide) (Pu_bin rfl rfl rfl (run_add _ _ _ _ _ (by omega))) (WL_pure rfl rfl (by decide) (Pu_fieldAddrB (off := 2) rfl rfl (by kernel_rfl)) (WL_cons0 rfl rfl (OpT_storeB1 (r := 301) rfl Try.sizeOf3 rfl rfl rfl rfl (by rw [nodeC_length zeroId_length]; decide) (rfl : _ = nodeC 1 (a0 % 5000) ((x : Int) + 1) zeroId) ?_))))))
      refine (WL_nil (X_block (X_then ?_)))
      refine W.pre (K' := [(1, _), (3, _), (6, _), (9, _), (10, _), (53, _)]) (L' := [(0, _), (101, _), (301, _)]) ?_ ⟨rfl, ⟨rfl, ⟨rfl, ⟨rfl, ⟨rfl, ⟨rfl, trivial⟩⟩⟩⟩⟩⟩ ⟨rfl, ⟨rfl, ⟨rfl, trivial⟩⟩⟩
      refine W_regL (WL_pure rfl rfl (by decide) (Pu_move rfl rfl) (WL_pure rfl rfl (by decide) (Pu_bin rfl rfl rfl (run_mul _ _ _ _ _ (by omega))) (WL_pure rfl rfl (by decide) (Pu_assign rfl rfl) (WL_nil ?_))))
      rw [all8_succ]
      exact X_round (x + 1) ⟨hx6, .inr (by simpa using of_decide_eq_true hc53)⟩ (by omega) ⟨rfl, rfl, rfl, rfl, rfl, trivial⟩ ⟨rfl, rfl, rfl, trivial⟩
    ·
      have hge := of_decide_eq_false hc53
      obtain rfl : x = lev (a0 % 5000) := (lev_of h7 hlo (by simp; omega)).symm
      refine W_exit (X_then_exit (X_then_exit (X_block_exit (X_then ?_))))
      refine W_seq ?_
      refine W_seq ?_
      refine W.pre (K' := [(1, _), (3, _), (6, _), (9, _), (10, _), (53, _)]) (L' := [(0, _), (101, _), (301, _)]) ?_ ⟨rfl, ⟨rfl, ⟨rfl, ⟨rfl, ⟨rfl, ⟨rfl, trivial⟩⟩⟩⟩⟩⟩ ⟨rfl, ⟨rfl, ⟨rfl, trivial⟩⟩⟩
      refine W_regL (WL_pure rfl rfl (by decide) (Pu_fieldAddrB (off := 1) rfl rfl (by kernel_rfl)) (WL_pure rfl rfl (by decide) (Pu_loadB (r := 301) rfl Try.isAgg3 rfl rfl rfl) (WL_pure rfl rfl (by decide) (Pu_bin rfl rfl rfl (run_gtr _ _ _ _ _ _)) (WL_nil (X_then ?_)))))
      refine W_cond rfl (fun hc62 => ?_) (fun hc62 => ?_)
      ·
        have hpos := of_decide_eq_true hc62
        obtain ⟨top, htop⟩ : ∃ t, t = l.getD 0 [] := ⟨_, rfl⟩
        have ht : top.length = 32 := by rw [htop]; exact hid0
        have hz : (a0 % 5000) = 0 → top = zeroId := fun h => absurd h (by omega)
        refine W.pre (K' := [(1, _), (3, _), (6, _), (9, _), (10, _), (53, _), (62, _)]) (L' := [(0, _), (101, _), (301, _)]) ?_ ⟨rfl, ⟨rfl, ⟨rfl, ⟨rfl, ⟨rfl, ⟨rfl, ⟨rfl, trivial⟩⟩⟩⟩⟩⟩⟩ ⟨rfl, ⟨rfl, ⟨rfl, trivial⟩⟩⟩
        refine W_regL (WL_pure rfl rfl (by decide) (Pu_move rfl rfl) (WL_pure rfl rfl (by decide) (Pu_idxS (r := 0) rfl Try.runUnderlying33 Try.sizeOf25 rfl rfl rfl (fun h hp => Rd.orig hrl h hp) (by omega)) (WL_pure rfl rfl (by decide) (Pu_loadSN (r := 0) rfl Try.isAgg25 Try.sizeOf25 rfl rfl (fun h hp => Rd.orig hrl h hp) ((bs_length _).trans hid0) (by decide) (idsC_get (k := 0) hl (by omega))) (WL_pure rfl rfl (by decide) (Pu_fieldAddrB (off := 3) rfl rfl (by kernel_rfl)) (WL_cons0 rfl rfl (OpT_storeF (r := 301) rfl Try.sizeOf25 rfl rfl rfl ((bs_length _).trans hid0) (by rw [nodeC_length zeroId_length]; decide) (bs_one _) ((node_over zeroId_length hid0).trans (by rw [← htop])) ?_))))))
        refine (WL_nil (X_then ?_))
        refine W_seq ?_
        refine W.pre (K' := [(1, _), (3, _), (6, _), (9, _), (10, _), (53, _), (62, _)]) (L' := [(0, _), (101, _), (301, _)]) ?_ ⟨rfl, ⟨rfl, ⟨rfl, ⟨rfl, ⟨rfl, ⟨rfl, ⟨rfl, trivial⟩⟩⟩⟩⟩⟩⟩ ⟨rfl, ⟨rfl, ⟨rfl, trivial⟩⟩⟩
        have hw0 : wrongN 1 (a0 % 5000) (lev (a0 % 5000) : Int) top = 0 := cuts_node hs0 hs1 hz
        have hpI : (parseI (inodeR 1 (a0 % 5000) (lev (a0 % 5000) : Int) top)).2 = 0 := by rw [inodeR, if_pos hw0, parse_inode ht hw0]
        have hlI : (inodeR 1 (a0 % 5000) (lev (a0 % 5000) : Int) top).length = 39 := by rw [inodeR, if_pos hw0]; simp [inodeB, numB_length, ht]
        have hE0 : innerE l = 0 := by unfold innerE; rw [if_neg (by omega), if_neg (by omega)]
        have hpN := (parse_inner hl hE0).1
        have hlN : (innerR l).length = 2 + 32 * l.length := by rw [innerR, if_pos hE0, innerTo_length hl (Nat.le_refl _)]; omega
        have hR0 : rootE pl 7 raw = 0 := by unfold rootE; rw [if_neg (by omega), if_neg (by omega)]
        have hRR : rootR pl 7 (l.getD 0 []) raw = (rootLs pl 7 (l.getD 0 []) raw).flatten := by rw [rootR, if_pos hR0]
        have hpR : pRootE (rootR pl 7 (l.getD 0 []) raw) = 0 := by rw [hRR]; exact (parse_root hpl (by omega) hid0 (by omega)).1
        have hlR : (rootR pl 7 (l.getD 0 []) raw).length = 95 + raw.length := by rw [hRR]; exact root_length hpl hid0
        refine W_regL (WL_pure rfl rfl (by decide) (Pu_loadBN (r := 301) rfl Try.isAgg27 Try.sizeOf27 rfl rfl (nodeC_length ht) (load_all (nodeC_length ht))) (WL_cons rfl rfl (by decide) (OpT_call 400 [0, 101, 301] [] rfl Try.call9 rfl rfl rfl (by decide) (by decide) (inode_spec _ _ _ _ ht _) (fun v69 Ps69 hR69 => ?_))))
        obtain ⟨va, rfl, rfl⟩ := hR69
        refine (WL_pure rfl rfl (by decide) (Pu_move rfl rfl) (WL_pure rfl rfl (by decide) (Pu_extract rfl rfl rfl) (WL_pure rfl rfl (by decide) (Pu_extract rfl rfl rfl) (WL_pure rfl rfl (by decide) (Pu_assign rfl rfl) (WL_pure rfl rfl (by decide) (Pu_assign rfl rfl) (WL_nil (X_then ?_)))))))
        refine W_seq ?_
        refine W.pre (K' := [(1, _), (3, _), (6, _), (9, _), (10, _), (11, _), (12, _), (53, _), (62, _)]) (L' := [(0, _), (101, _), (301, _), (400, _)]) ?_ ⟨rfl, ⟨rfl, ⟨rfl, ⟨rfl, ⟨rfl, ⟨rfl, ⟨rfl, ⟨rfl, ⟨rfl, trivial⟩⟩⟩⟩⟩⟩⟩⟩⟩ ⟨rfl, ⟨rfl, ⟨rfl, ⟨rfl, trivial⟩⟩⟩⟩
        refine W_regL (WL_pure rfl rfl (by decide) (Pu_move rfl rfl) (WL_cons rfl rfl (by decide) (OpT_call 500 [0, 101, 301, 400] [] rfl Try.call10 rfl rfl rfl (by decide) (by decide) (inner_spec _ l hl _ (rd_star 0 rfl (fun h hp => Rd.orig hrl h hp))) (fun v74 Ps74 hR74 => ?_))))
        obtain ⟨vb, rfl, rfl⟩ := hR74
        refine (WL_pure rfl rfl (by decide) (Pu_move rfl rfl) (WL_pure rfl rfl (by decide) (Pu_extract rfl rfl rfl) (WL_pure rfl rfl (by decide) (Pu_extract rfl rfl rfl) (WL_pure rfl rfl (by decide) (Pu_assign rfl rfl) (WL_pure rfl rfl (by decide) (Pu_assign rfl rfl) (WL_nil (X_then ?_)))))))
        refine W_seq ?_
        refine W.pre (K' := [(1, _), (3, _), (6, _), (9, _), (10, _), (11, _), (12, _), (13, _), (14, _), (53, _), (62, _)]) (L' := [(0, _), (101, _), (301, _), (400, _), (500, _)]) ?_ ⟨rfl, ⟨rfl, ⟨rfl, ⟨rfl, ⟨rfl, ⟨rfl, ⟨rfl, ⟨rfl, ⟨rfl, ⟨rfl, ⟨rfl, trivial⟩⟩⟩⟩⟩⟩⟩⟩⟩⟩⟩ ⟨rfl, ⟨rfl, ⟨rfl, ⟨rfl, ⟨rfl, trivial⟩⟩⟩⟩⟩
        refine W_draw (N := 12) (by kernel_rfl) rfl [(0, _), (101, _), (301, _)] ⟨rfl, ⟨rfl, ⟨rfl, trivial⟩⟩⟩ ?_
        refine (AH_take 0 rfl (by kernel_rfl) (by kernel_rfl) (by kernel_rfl) rfl rfl (by decide) (Pu_sliceArr rfl Try.runUnderlying53 Try.sizeOf5 rfl) (AH_take 1 rfl (by kernel_rfl) (by kernel_rfl) (by kernel_rfl) rfl rfl (by decide) (Pu_move rfl rfl) (AH_take 2 rfl (by kernel_rfl) (by kernel_rfl) (by kernel_rfl) rfl rfl (by decide) (Pu_idxS (r := 0) rfl Try.runUnderlying33 Try.sizeOf25 rfl rfl rfl (fun h hp => Rd.orig hrl h hp) (by omega)) (AH_take 3 rfl (by kernel_rfl) (by kernel_rfl) (by kernel_rfl) rfl rfl (by decide) (Pu_loadSN (r := 0) rfl Try.isAgg25 Try.sizeOf25 rfl rfl (fun h hp => Rd.orig hrl h hp) ((bs_length _).trans hid0) (by decide) (idsC_get (k := 0) hl (by omega))) (AH_take 4 rfl (by kernel_rfl) (by kernel_rfl) (by kernel_rfl) rfl rfl (by decide) (Pu_move rfl rfl) (AH_take 5 rfl (by kernel_rfl) (by kernel_rfl) (by kernel_rfl) rfl rfl (by decide) (Pu_build (V := rootV _ 7 (l.getD 0 []) vr) [(0, 1), (1, 1), (2, 32), (34, 1)] (rootC (.slice none 0 0) 0 zeroId (.slice none 0 0)) rfl rfl (by kernel_rfl) (by kernel_rfl) (.one rfl rfl (by simp [rootC, bs_length, zeroId_length]) rfl (.one rfl rfl (by simp [rootC, bs_length, zeroId_length]) rfl (.many rfl ((bs_length _).trans hid0) (by simp [rootC, bs_length, zeroId_length]) rfl (.one rfl ho3 (by simp [rootC, bs_length, zeroId_length, over]; omega) rfl (.nil _))))) (congrArg (fun q => Value.agg (List.toArray q)) ((congrArg (fun q => List.set q 34 _) (root_over zeroId_length hid0)).trans (root_set hid0)))) (AH_ready [6] (by kernel_rfl) (by decide) ?_)))))))
        refine AHs_cons rfl rfl rfl (by decide) (OpT_call 600 [0, 101, 301, 400, 500] [] rfl Try.call20 rfl rfl rfl (by decide) (by decide) (root_spec _ pl 7 (l.getD 0 []) hid0 vr raw _ (fun h hp => rdP_cast (rd_star 1 rfl (fun _ h => blk_rd (xs := bs pl) h (by rw [List.drop_zero, List.take_of_length_le (by rw [bs_length, hpl]; omega)]) (by rw [bs_length, hpl]) (Nat.le_refl 56)) h hp) rfl hpl.symm) (rd_star 0 rfl (fun h hp => Rd.orig hrr h hp))) (fun v84 Ps84 hR84 => ?_)) ?_
        ·
          obtain ⟨vc, rfl, rfl⟩ := hR84
          refine ⟨⟨rfl, ⟨rfl, ⟨rfl, trivial⟩⟩⟩, ?_⟩
          refine (AH_take 7 rfl (by kernel_rfl) (by kernel_rfl) (by kernel_rfl) rfl rfl (by decide) (Pu_move rfl rfl) (AH_take 8 rfl (by kernel_rfl) (by kernel_rfl) (by kernel_rfl) rfl rfl (by decide) (Pu_extract rfl rfl rfl) (AH_take 9 rfl (by kernel_rfl) (by kernel_rfl) (by kernel_rfl) rfl rfl (by decide) (Pu_extract rfl rfl rfl) (AH_take 10 rfl (by kernel_rfl) (by kernel_rfl) (by kernel_rfl) rfl rfl (by decide) (Pu_assign rfl rfl) (AH_take 11 rfl (by kernel_rfl) (by kernel_rfl) (by kernel_rfl) rfl rfl (by decide) (Pu_assign rfl rfl) (AH_done (by kernel_rfl) (X_then ?_)))))))
          refine W_seq ?_
          refine W_seq ?_
          refine W.pre (K' := [(1, _), (3, _), (6, _), (9, _), (10, _), (11, _), (12, _), (13, _), (14, _), (15, _), (16, _), (53, _), (62, _)]) (L' := [(0, _), (101, _), (301, _), (400, _), (500, _), (600, _)]) ?_ ⟨rfl, ⟨rfl, ⟨rfl, ⟨rfl, ⟨rfl, ⟨rfl, ⟨rfl, ⟨rfl, ⟨rfl, ⟨rfl, ⟨rfl, ⟨rfl, ⟨rfl, trivial⟩⟩⟩⟩⟩⟩⟩⟩⟩⟩⟩⟩⟩ ⟨rfl, ⟨rfl, ⟨rfl, ⟨rfl, ⟨rfl, ⟨rfl, trivial⟩⟩⟩⟩⟩⟩
          refine W_regL (WL_pure rfl rfl (by decide) (Pu_move rfl rfl) (WL_pure rfl rfl (by decide) (Pu_bin rfl rfl rfl (run_neq _ _ _ _ _ _)) (WL_pure rfl rfl (by decide) (Pu_move rfl rfl) (WL_guardP rfl rfl rfl rfl (by decide) (fun hb => (Pu_move rfl rfl)) (WL_guardP rfl rfl rfl rfl (by decide) (fun hb => (Pu_bin rfl (ev_gv rfl hb) rfl (run_neq _ _ _ _ _ _))) (WL_pure rfl rfl (by decide) (Pu_or rfl rfl rfl) (WL_pure rfl rfl (by decide) (Pu_move rfl rfl) (WL_guardP rfl rfl rfl rfl (by decide) (fun hb => (Pu_move rfl rfl)) (WL_guardP rfl rfl rfl rfl (by decide) (fun hb => (Pu_bin rfl (ev_gv rfl hb) rfl (run_neq _ _ _ _ _ _))) (WL_pure rfl rfl (by decide) (Pu_or rfl rfl rfl) (WL_pure rfl rfl (by decide) (Pu_move rfl rfl) (WL_guardP rfl rfl rfl rfl (by decide) (fun hb => (Pu_move rfl rfl)) (WL_guardP rfl rfl rfl rfl (by decide) (fun hb => (Pu_len (r := 400) rfl Try.runUnderlying28 (ev_gv rfl hb) rfl rowB_rd)) (WL_guardP rfl rfl rfl rfl (by decide) (fun hb => (Pu_bin rfl (ev_gv rfl hb) rfl (run_neq _ _ _ _ _ _))) (WL_pure rfl rfl (by decide) (Pu_or rfl rfl rfl) (WL_pure rfl rfl (by decide) (Pu_move rfl rfl) (WL_guardP rfl rfl rfl rfl (by decide) (fun hb => (Pu_move rfl rfl)) (WL_guardP rfl rfl rfl rfl (by decide) (fun hb => (Pu_len (r := 500) rfl Try.runUnderlying28 (ev_gv rfl hb) rfl rowB_rd)) (WL_guardP rfl rfl rfl rfl (by decide) (fun hb => (Pu_move rfl rfl)) (WL_guardP rfl rfl rfl rfl (by decide) (fun hb => (Pu_len (r := 0) rfl Try.runUnderlying33 (ev_gv rfl hb) rfl (fun h hp => Rd.orig hrl h hp))) (WL_guardP rfl rfl rfl rfl (by decide) (fun hb => (Pu_bin rfl rfl (ev_gv rfl hb) (run_mul _ _ _ _ _ (by omega)))) (WL_guardP rfl rfl rfl rfl (by decide) (fun hb => (Pu_bin rfl rfl (ev_gv rfl hb) (run_add _ _ _ _ _ (by omega)))) (WL_guardP rfl rfl rfl rfl (by decide) (fun hb => (Pu_bin rfl (ev_gv rfl hb) (ev_gv rfl hb) (run_neq _ _ _ _ _ _))) (WL_pure rfl rfl (by decide) (Pu_or rfl rfl rfl) (WL_pure rfl rfl (by decide) (Pu_move rfl rfl) (WL_guardP rfl rfl rfl rfl (by decide) (fun hb => (Pu_move rfl rfl)) (WL_guardP rfl rfl rfl rfl (by decide) (fun hb => (Pu_len (r := 600) rfl Try.runUnderlying28 (ev_gv rfl hb) rfl rowB_rd)) (WL_guardP rfl rfl rfl rfl (by decide) (fun hb => (Pu_move rfl rfl)) (WL_guardP rfl rfl rfl rfl (by decide) (fun hb => (Pu_len (r := 0) rfl Try.runUnderlying28 (ev_gv rfl hb) rfl (fun h hp => Rd.orig hrr h hp))) (WL_guardP rfl rfl rfl rfl (by decide) (fun hb => (Pu_bin rfl rfl (ev_gv rfl hb) (run_add _ _ _ _ _ (by omega)))) (WL_guardP rfl rfl rfl rfl (by decide) (fun hb => (Pu_bin rfl (ev_gv rfl hb) (ev_gv rfl hb) (run_neq _ _ _ _ _ _))) (WL_pure rfl rfl (by decide) (Pu_or rfl rfl rfl) (WL_nil (X_then ?_))))))))))))))))))))))))))))))))))
          refine W_false rfl (by rw [hw0, hE0, hR0, hlI, hlN, hlR]; simp) ?_
          refine W_skip (X_then ?_)
          refine W_seq ?_
          refine W_seq ?_
          refine W.pre (K' := [(1, _), (3, _), (6, _), (9, _), (10, _), (11, _), (12, _), (13, _), (14, _), (15, _), (16, _), (53, _), (62, _), (118, _)]) (L' := [(0, _), (101, _), (301, _), (400, _), (500, _), (600, _)]) ?_ ⟨rfl, ⟨rfl, ⟨rfl, ⟨rfl, ⟨rfl, ⟨rfl, ⟨rfl, ⟨rfl, ⟨rfl, ⟨rfl, ⟨rfl, ⟨rfl, ⟨rfl, ⟨rfl, trivial⟩⟩⟩⟩⟩⟩⟩⟩⟩⟩⟩⟩⟩⟩ ⟨rfl, ⟨rfl, ⟨rfl, ⟨rfl, ⟨rfl, ⟨rfl, trivial⟩⟩⟩⟩⟩⟩
          refine W_regL (WL_pure rfl rfl (by decide) (Pu_assign rfl rfl) (WL_nil (X_then ?_)))
          refine W_block ?_
          refine W_loop (α := Nat) (fun i => [(11, va), (13, vb), (15, vc), (17, .int .i64 (i : Int))]) (fun i => [(0, orig Wo), (400, rowB 5 va (inodeR 1 (a0 % 5000) (lev (a0 % 5000) : Int) top)), (500, rowB 5 vb (innerR l)), (600, rowB 5 vc (rootR pl 7 (l.getD 0 []) raw))]) (fun i => i ≤ (inodeR 1 (a0 % 5000) (lev (a0 % 5000) : Int) top).length + 1) (fun i => (inodeR 1 (a0 % 5000) (lev (a0 % 5000) : Int) top).length + 1 - i) (0) (Nat.zero_le _) ⟨rfl, ⟨rfl, ⟨rfl, ⟨rfl, trivial⟩⟩⟩⟩ ⟨rfl, ⟨rfl, ⟨rfl, ⟨rfl, trivial⟩⟩⟩⟩ (fun x hx => ?_)
          refine W_seq ?_
          refine W_seq ?_
          refine W.pre (K' := [(11, _), (13, _), (15, _), (17, _)]) (L' := [(0, _), (400, _), (500, _), (600, _)]) ?_ ⟨rfl, ⟨rfl, ⟨rfl, ⟨rfl, trivial⟩⟩⟩⟩ ⟨rfl, ⟨rfl, ⟨rfl, ⟨rfl, trivial⟩⟩⟩⟩
          refine W_regL (WL_pure rfl rfl (by decide) (Pu_move rfl rfl) (WL_pure rfl rfl (by decide) (Pu_move rfl rfl) (WL_pure rfl rfl (by decide) (Pu_len (r := 400) rfl Try.runUnderlying28 rfl rfl rowB_rd) (WL_pure rfl rfl (by decide) (Pu_bin rfl rfl rfl (run_leq _ _ _ _ _ _)) (WL_nil (X_then ?_))))))
          refine W_cond rfl (fun hc122 => ?_) (fun hc122 => ?_)
          ·
            have hlt : x ≤ (inodeR 1 (a0 % 5000) (lev (a0 % 5000) : Int) top).length := by have := of_decide_eq_true hc122; omega
            refine W_skip (X_then ?_)
            refine W_seq ?_
            refine W_block ?_
            refine W_seq ?_
            refine W.pre (K' := [(11, _), (13, _), (15, _), (17, _), (122, _)]) (L' := [(0, _), (400, _), (500, _), (600, _)]) ?_ ⟨rfl, ⟨rfl, ⟨rfl, ⟨rfl, ⟨rfl, trivial⟩⟩⟩⟩⟩ ⟨rfl, ⟨rfl, ⟨rfl, ⟨rfl, trivial⟩⟩⟩⟩
            refine W_regL (WL_pure rfl rfl (by decide) (Pu_move rfl rfl) (WL_pure rfl rfl (by decide) (Pu_move rfl rfl) (WL_pure rfl rfl (by decide) (Pu_slice (r := 400) (b := x) rfl Try.runUnderlying28 Try.sizeOf5 rfl rfl rowB_rd (.inl ⟨rfl, rfl⟩) (.inr ⟨_, _, _, rfl, rfl, rfl⟩) (Nat.zero_le _) hlt) (WL_cons rfl rfl (by decide) (OpT_call 700 [0, 400, 500, 600] [] rfl Try.call18 rfl rfl rfl (by decide) (by decide) (parseInode_spec _ ((inodeR 1 (a0 % 5000) (lev (a0 % 5000) : Int) top).take x) _ (rd_star 1 rfl (fun h hp => rdB_front (b := x) (rowB_rd h hp) hlt))) (fun v129 Ps129 hR129 => ?_))))))
            obtain ⟨rfl, rfl⟩ := hR129
            refine (WL_pure rfl rfl (by decide) (Pu_move rfl rfl) (WL_pure rfl rfl (by decide) (Pu_extract rfl rfl rfl) (WL_pure rfl rfl (by decide) (Pu_extract rfl rfl rfl) (WL_cons rfl rfl (by decide) (OpT_alloc (r := 701) rfl (zero_run (by kernel_rfl : (Try.prog.info? 27).bind (·.zero) = some (.agg (nodeC 0 0 0 zeroId).toArray))) rfl (fun g701 => (WL_cons0 rfl rfl (OpT_storeAll (r := 701) rfl Try.sizeOf27 rfl rfl rfl rfl (nodeC_length (parseI_top ((inodeR 1 (a0 % 5000) (lev (a0 % 5000) : Int) top).take x))) (one_node _ _ _ _) ?_))))))))
            refine (WL_pure rfl rfl (by decide) (Pu_assign rfl rfl) (WL_nil (X_then ?_)))
            refine W_seq ?_
            refine W.pre (K' := [(11, _), (13, _), (15, _), (17, _), (19, _), (122, _)]) (L' := [(0, _), (400, _), (500, _), (600, _), (701, _)]) ?_ ⟨rfl, ⟨rfl, ⟨rfl, ⟨rfl, ⟨rfl, ⟨rfl, trivial⟩⟩⟩⟩⟩⟩ ⟨rfl, ⟨rfl, ⟨rfl, ⟨rfl, ⟨rfl, trivial⟩⟩⟩⟩⟩
            refine W_regL (WL_pure rfl rfl (by decide) (Pu_move rfl rfl) (WL_pure rfl rfl (by decide) (Pu_bin rfl rfl rfl (run_eql _ _ _ _ _ _)) (WL_pure rfl rfl (by decide) (Pu_move rfl rfl) (WL_pure rfl rfl (by decide) (Pu_move rfl rfl) (WL_pure rfl rfl (by decide) (Pu_len (r := 400) rfl Try.runUnderlying28 rfl rfl rowB_rd) (WL_pure rfl rfl (by decide) (Pu_bin rfl rfl rfl (run_lss _ _ _ _ _ _)) (WL_pure rfl rfl (by decide) (Pu_bin rfl rfl rfl (run_neb _ _ _ Try.underlying4 _ _)) (WL_nil (X_then ?_)))))))))
            refine W_false rfl (cutI hlI hpI hlt) ?_
            refine W_skip (X_block (X_then ?_))
            refine W.pre (K' := [(11, _), (13, _), (15, _), (17, _), (19, _), (122, _), (138, _)]) (L' := [(0, _), (400, _), (500, _), (600, _), (701, _)]) ?_ ⟨rfl, ⟨rfl, ⟨rfl, ⟨rfl, ⟨rfl, ⟨rfl, ⟨rfl, trivial⟩⟩⟩⟩⟩⟩⟩ ⟨rfl, ⟨rfl, ⟨rfl, ⟨rfl, ⟨rfl, trivial⟩⟩⟩⟩⟩
            refine W_regL (WL_pure rfl rfl (by decide) (Pu_move rfl rfl) (WL_pure rfl rfl (by decide) (Pu_bin rfl rfl rfl (run_add _ _ _ _ _ (by omega))) (WL_pure rfl rfl (by decide) (Pu_assign rfl rfl) (WL_nil ?_))))
            exact X_round (x + 1) (by omega) (by omega) ⟨rfl, rfl, rfl, rfl, trivial⟩ ⟨rfl, rfl, rfl, rfl, trivial⟩
          ·
            refine W_exit (X_then_exit (X_then_exit (X_block_exit (X_then ?_))))
            refine W_seq ?_
            refine W_seq ?_
            refine W.pre (K' := [(11, _), (13, _), (15, _), (17, _), (122, _)]) (L' := [(0, _), (400, _), (500, _), (600, _)]) ?_ ⟨rfl, ⟨rfl, ⟨rfl, ⟨rfl, ⟨rfl, trivial⟩⟩⟩⟩⟩ ⟨rfl, ⟨rfl, ⟨rfl, ⟨rfl, trivial⟩⟩⟩⟩
            refine W_regL (WL_pure rfl rfl (by decide) (Pu_assign rfl rfl) (WL_nil (X_then ?_)))
            refine W_block ?_
            refine W_loop (α := Nat) (fun i => [(11, va), (13, vb), (15, vc), (20, .int .i64 (i : Int))]) (fun i => [(0, orig Wo), (400, rowB 5 va (inodeR 1 (a0 % 5000) (lev (a0 % 5000) : Int) top)), (500, rowB 5 vb (innerR l)), (600, rowB 5 vc (rootR pl 7 (l.getD 0 []) raw))]) (fun i => i ≤ (innerR l).length + 1) (fun i => (innerR l).length + 1 - i) (0) (Nat.zero_le _) ⟨rfl, ⟨rfl, ⟨rfl, ⟨rfl, trivial⟩⟩⟩⟩ ⟨rfl, ⟨rfl, ⟨rfl, ⟨rfl, trivial⟩⟩⟩⟩ (fun x hx => ?_)
            refine W_seq ?_
            refine W_seq ?_
            refine W.pre (K' := [(11, _), (13, _), (15, _), (20, _)]) (L' := [(0, _), (400, _), (500, _), (600, _)]) ?_ ⟨rfl, ⟨rfl, ⟨rfl, ⟨rfl, trivial⟩⟩⟩⟩ ⟨rfl, ⟨rfl, ⟨rfl, ⟨rfl, trivial⟩⟩⟩⟩
            refine W_regL (WL_pure rfl rfl (by decide) (Pu_move rfl rfl) (WL_pure rfl rfl (by decide) (Pu_move rfl rfl) (WL_pure rfl rfl (by decide) (Pu_len (r := 500) rfl Try.runUnderlying28 rfl rfl rowB_rd) (WL_pure rfl rfl (by decide) (Pu_bin rfl rfl rfl (run_leq _ _ _ _ _ _)) (WL_nil (X_then ?_))))))
            refine W_cond rfl (fun hc142 => ?_) (fun hc142 => ?_)
            ·
              have hlt : x ≤ (innerR l).length := by have := of_decide_eq_true hc142; omega
              refine W_skip (X_then ?_)
              refine W_seq ?_
              refine W_block ?_
              refine W_seq ?_
              refine W.pre (K' := [(11, _), (13, _), (15, _), (20, _), (142, _)]) (L' := [(0, _), (400, _), (500, _), (600, _)]) ?_ ⟨rfl, ⟨rfl, ⟨rfl, ⟨rfl, ⟨rfl, trivial⟩⟩⟩⟩⟩ ⟨rfl, ⟨rfl, ⟨rfl, ⟨rfl, trivial⟩⟩⟩⟩
              refine W_regL (WL_pure rfl rfl (by decide) (Pu_move rfl rfl) (WL_pure rfl rfl (by decide) (Pu_move rfl rfl) (WL_pure rfl rfl (by decide) (Pu_slice (r := 500) (b := x) rfl Try.runUnderlying28 Try.sizeOf5 rfl rfl rowB_rd (.inl ⟨rfl, rfl⟩) (.inr ⟨_, _, _, rfl, rfl, rfl⟩) (Nat.zero_le _) hlt) (WL_cons rfl rfl (by decide) (OpT_call 700 [0, 400, 500, 600] [] rfl Try.call13 rfl rfl rfl (by decide) (by decide) (parseInner_spec _ ((innerR l).take x) _ (rd_star 2 rfl (fun h hp => rdB_front (b := x) (rowB_rd h hp) hlt))) (fun v149 Ps149 hR149 => ?_))))))
              obtain ⟨v', rfl, rfl⟩ := hR149
              refine (WL_pure rfl rfl (by decide) (Pu_move rfl rfl) (WL_pure rfl rfl (by decide) (Pu_extract rfl rfl rfl) (WL_pure rfl rfl (by decide) (Pu_extract rfl rfl rfl) (WL_pure rfl rfl (by decide) (Pu_assign rfl rfl) (WL_pure rfl rfl (by decide) (Pu_assign rfl rfl) (WL_nil (X_then ?_)))))))
              refine W_seq ?_
              refine W.pre (K' := [(11, _), (13, _), (15, _), (20, _), (22, _), (142, _)]) (L' := [(0, _), (400, _), (500, _), (600, _), (700, _)]) ?_ ⟨rfl, ⟨rfl, ⟨rfl, ⟨rfl, ⟨rfl, ⟨rfl, trivial⟩⟩⟩⟩⟩⟩ ⟨rfl, ⟨rfl, ⟨rfl, ⟨rfl, ⟨rfl, trivial⟩⟩⟩⟩⟩
              refine W_regL (WL_pure rfl rfl (by decide) (Pu_move rfl rfl) (WL_pure rfl rfl (by decide) (Pu_bin rfl rfl rfl (run_eql _ _ _ _ _ _)) (WL_pure rfl rfl (by decide) (Pu_move rfl rfl) (WL_pure rfl rfl (by decide) (Pu_move rfl rfl) (WL_pure rfl rfl (by decide) (Pu_len (r := 500) rfl Try.runUnderlying28 rfl rfl rowB_rd) (WL_pure rfl rfl (by decide) (Pu_bin rfl rfl rfl (run_lss _ _ _ _ _ _)) (WL_pure rfl rfl (by decide) (Pu_bin rfl rfl rfl (run_neb _ _ _ Try.underlying4 _ _)) (WL_nil (X_then ?_)))))))))
              refine W_false rfl (cutN hpN hlt) ?_
              refine W_skip (X_block (X_then ?_))
              refine W.pre (K' := [(11, _), (13, _), (15, _), (20, _), (22, _), (142, _), (158, _)]) (L' := [(0, _), (400, _), (500, _), (600, _), (700, _)]) ?_ ⟨rfl, ⟨rfl, ⟨rfl, ⟨rfl, ⟨rfl, ⟨rfl, ⟨rfl, trivial⟩⟩⟩⟩⟩⟩⟩ ⟨rfl, ⟨rfl, ⟨rfl, ⟨rfl, ⟨rfl, trivial⟩⟩⟩⟩⟩
              refine W_regL (WL_pure rfl rfl (by decide) (Pu_move rfl rfl) (WL_pure rfl rfl (by decide) (Pu_bin rfl rfl rfl (run_add _ _ _ _ _ (by omega))) (WL_pure rfl rfl (by decide) (Pu_assign rfl rfl) (WL_nil ?_))))
              exact X_round (x + 1) (by omega) (by omega) ⟨rfl, rfl, rfl, rfl, trivial⟩ ⟨rfl, rfl, rfl, rfl, trivial⟩
            ·
              refine W_exit (X_then_exit (X_then_exit (X_block_exit (X_then ?_))))
              refine W_seq ?_
              refine W_seq ?_
              refine W.pre (K' := [(11, _), (13, _), (15, _), (20, _), (142, _)]) (L' := [(0, _), (400, _), (500, _), (600, _)]) ?_ ⟨rfl, ⟨rfl, ⟨rfl, ⟨rfl, ⟨rfl, trivial⟩⟩⟩⟩⟩ ⟨rfl, ⟨rfl, ⟨rfl, ⟨rfl, trivial⟩⟩⟩⟩
              refine W_regL (WL_pure rfl rfl (by decide) (Pu_assign rfl rfl) (WL_nil (X_then ?_)))
              refine W_block ?_
              refine W_loop (α := Nat) (fun i => [(11, va), (13, vb), (15, vc), (23, .int .i64 (i : Int))]) (fun i => [(0, orig Wo), (400, rowB 5 va (inodeR 1 (a0 % 5000) (lev (a0 % 5000) : Int) top)), (500, rowB 5 vb (innerR l)), (600, rowB 5 vc (rootR pl 7 (l.getD 0 []) raw))]) (fun i => i ≤ (rootR pl 7 (l.getD 0 []) raw).length + 1) (fun i => (rootR pl 7 (l.getD 0 []) raw).length + 1 - i) (0) (Nat.zero_le _) ⟨rfl, ⟨rfl, ⟨rfl, ⟨rfl, trivial⟩⟩⟩⟩ ⟨rfl, ⟨rfl, ⟨rfl, ⟨rfl, trivial⟩⟩⟩⟩ (fun x hx => ?_)
              refine W_seq ?_
              refine W_seq ?_
              refine W.pre (K' := [(11, _), (13, _), (15, _), (23, _)]) (L' := [(0, _), (400, _), (500, _), (600, _)]) ?_ ⟨rfl, ⟨rfl, ⟨rfl, ⟨rfl, trivial⟩⟩⟩⟩ ⟨rfl, ⟨rfl, ⟨rfl, ⟨rfl, trivial⟩⟩⟩⟩
              refine W_regL (WL_pure rfl rfl (by decide) (Pu_move rfl rfl) (WL_pure rfl rfl (by decide) (Pu_move rfl rfl) (WL_pure rfl rfl (by decide) (Pu_len (r := 600) rfl Try.runUnderlying28 rfl rfl rowB_rd) (WL_pure rfl rfl (by decide) (Pu_bin rfl rfl rfl (run_leq _ _ _ _ _ _)) (WL_nil (X_then ?_))))))
              refine W_cond rfl (fun hc162 => ?_) (fun hc162 => ?_)
              ·
                have hlt : x ≤ (rootR pl 7 (l.getD 0 []) raw).length := by have := of_decide_eq_true hc162; omega
                refine W_skip (X_then ?_)
                refine W_seq ?_
                refine W_block ?_
                refine W_seq ?_
                refine W.pre (K' := [(11, _), (13, _), (15, _), (23, _), (162, _)]) (L' := [(0, _), (400, _), (500, _), (600, _)]) ?_ ⟨rfl, ⟨rfl, ⟨rfl, ⟨rfl, ⟨rfl, trivial⟩⟩⟩⟩⟩ ⟨rfl, ⟨rfl, ⟨rfl, ⟨rfl, trivial⟩⟩⟩⟩
                refine W_regL (WL_pure rfl rfl (by decide) (Pu_move rfl rfl) (WL_pure rfl rfl (by decide) (Pu_move rfl rfl) (WL_pure rfl rfl (by decide) (Pu_slice (r := 600) (b := x) rfl Try.runUnderlying28 Try.sizeOf5 rfl rfl rowB_rd (.inl ⟨rfl, rfl⟩) (.inr ⟨_, _, _, rfl, rfl, rfl⟩) (Nat.zero_le _) hlt) (WL_cons rfl rfl (by decide) (OpT_call 700 [0, 400, 500, 600] [] rfl Try.call21 rfl rfl rfl (by decide) (by decide) (parseRoot_spec _ ((rootR pl 7 (l.getD 0 []) raw).take x) (by simp; omega) _ (rd_star 3 rfl (fun h hp => rdB_front (b := x) (rowB_rd h hp) hlt))) (fun v169 Ps169 hR169 => ?_))))))
                obtain ⟨pv, tv, rfl, rfl⟩ := hR169
                refine WL_fact (r := 700) rfl (fun h hp => rd_one (rowB_rd h hp)) (fun hop => WL_fact (r := 701) rfl (fun h hp => rd_one (rowB_rd h hp)) (fun hot => ?_))
                have htp := pRoot_top ((rootR pl 7 (l.getD 0 []) raw).take x)
                refine (WL_pure rfl rfl (by decide) (Pu_move rfl rfl) (WL_pure rfl rfl (by decide) (Pu_extract rfl rfl rfl) (WL_pure rfl rfl (by decide) (Pu_extract rfl rfl rfl) (WL_cons rfl rfl (by decide) (OpT_alloc (r := 701) rfl (zero_run (by kernel_rfl : (Try.prog.info? 56).bind (·.zero) = some (.agg (rootC (.slice none 0 0) 0 zeroId (.slice none 0 0)).toArray))) rfl (fun g701 => (WL_cons0 rfl rfl (OpT_storeAll (r := 701) rfl Try.sizeOf56 rfl rfl rfl rfl (rootC_length htp) (one_root hop hot) ?_))))))))
                refine (WL_pure rfl rfl (by decide) (Pu_assign rfl rfl) (WL_nil (X_then ?_)))
                refine W_seq ?_
                refine W.pre (K' := [(11, _), (13, _), (15, _), (23, _), (25, _), (162, _)]) (L' := [(0, _), (400, _), (500, _), (600, _), (700, _), (701, _)]) ?_ ⟨rfl, ⟨rfl, ⟨rfl, ⟨rfl, ⟨rfl, ⟨rfl, trivial⟩⟩⟩⟩⟩⟩ ⟨rfl, ⟨rfl, ⟨rfl, ⟨rfl, ⟨rfl, ⟨rfl, trivial⟩⟩⟩⟩⟩⟩
                refine W_regL (WL_pure rfl rfl (by decide) (Pu_move rfl rfl) (WL_pure rfl rfl (by decide) (Pu_bin rfl rfl rfl (run_eql _ _ _ _ _ _)) (WL_pure rfl rfl (by decide) (Pu_move rfl rfl) (WL_pure rfl rfl (by decide) (Pu_move rfl rfl) (WL_pure rfl rfl (by decide) (Pu_len (r := 600) rfl Try.runUnderlying28 rfl rfl rowB_rd) (WL_pure rfl rfl (by decide) (Pu_bin rfl rfl rfl (run_lss _ _ _ _ _ _)) (WL_pure rfl rfl (by decide) (Pu_bin rfl rfl rfl (run_neb _ _ _ Try.underlying4 _ _)) (WL_nil (X_then ?_)))))))))
                refine W_false rfl (cutR hpR hlt) ?_
                refine W_skip (X_block (X_then ?_))
                refine W.pre (K' := [(11, _), (13, _), (15, _), (23, _), (25, _), (162, _), (178, _)]) (L' := [(0, _), (400, _), (500, _), (600, _), (700, _), (701, _)]) ?_ ⟨rfl, ⟨rfl, ⟨rfl, ⟨rfl, ⟨rfl, ⟨rfl, ⟨rfl, trivial⟩⟩⟩⟩⟩⟩⟩ ⟨rfl, ⟨rfl, ⟨rfl, ⟨rfl, ⟨rfl, ⟨rfl, trivial⟩⟩⟩⟩⟩⟩
                refine W_regL (WL_pure rfl rfl (by decide) (Pu_move rfl rfl) (WL_pure rfl rfl (by decide) (Pu_bin rfl rfl rfl (run_add _ _ _ _ _ (by omega))) (WL_pure rfl rfl (by decide) (Pu_assign rfl rfl) (WL_nil ?_))))
                exact X_round (x + 1) (by omega) (by omega) ⟨rfl, rfl, rfl, rfl, trivial⟩ ⟨rfl, rfl, rfl, rfl, trivial⟩
              ·
                refine W_exit (X_then_exit (X_then_exit (X_block_exit (X_then ?_))))
                refine W_seq ?_
                refine W.pre (K' := [(11, _), (13, _), (15, _), (23, _), (162, _)]) (L' := [(0, _), (400, _), (500, _), (600, _)]) ?_ ⟨rfl, ⟨rfl, ⟨rfl, ⟨rfl, ⟨rfl, trivial⟩⟩⟩⟩⟩ ⟨rfl, ⟨rfl, ⟨rfl, ⟨rfl, trivial⟩⟩⟩⟩
                refine W_regL (WL_pure rfl rfl (by decide) (Pu_move rfl rfl) (WL_cons rfl rfl (by decide) (OpT_buildOnes (r := 601) (bs [0]) rfl rfl Try.runUnderlying28 Try.sizeOf5 Try.zeroValue5 rfl rfl (by decide) rfl (bs_cells _) (fun v181 => (WL_cons rfl rfl (by decide) (OpT_append (r := 400) (r2 := 601) rfl Try.underlying28 TI.hi5 TI.hz5 TI.hs5 TI.hby5 TI.hzs5 (by decide) rfl rfl rfl rfl (fun _ h => rowP_rd h) (bs_one _) (by unfold maxLen; omega) (by omega) (fun v182 => ?_)))))))
                refine (WL_cons rfl rfl (by decide) (OpT_call 700 [0, 400, 500, 600, 601] [] rfl Try.call18 rfl rfl rfl (by decide) (by decide) (parseInode_spec _ ((inodeR 1 (a0 % 5000) (lev (a0 % 5000) : Int) top) ++ [0]) _ (rd_star 1 rfl (fun h hp => rdP_cast (rowP_rd hp) (bs_append (inodeR 1 (a0 % 5000) (lev (a0 % 5000) : Int) top) [0]).symm (by simp)))) (fun v183 Ps183 hR183 => ?_)))
                obtain ⟨rfl, rfl⟩ := hR183
                refine (WL_pure rfl rfl (by decide) (Pu_move rfl rfl) (WL_pure rfl rfl (by decide) (Pu_extract rfl rfl rfl) (WL_pure rfl rfl (by decide) (Pu_extract rfl rfl rfl) (WL_cons rfl rfl (by decide) (OpT_alloc (r := 701) rfl (zero_run (by kernel_rfl : (Try.prog.info? 27).bind (·.zero) = some (.agg (nodeC 0 0 0 zeroId).toArray))) rfl (fun g701 => (WL_cons0 rfl rfl (OpT_storeAll (r := 701) rfl Try.sizeOf27 rfl rfl rfl rfl (nodeC_length (parseI_top ((inodeR 1 (a0 % 5000) (lev (a0 % 5000) : Int) top) ++ [0]))) (one_node _ _ _ _) ?_))))))))
                refine (WL_pure rfl rfl (by decide) (Pu_assign rfl rfl) (WL_nil (X_then ?_)))
                refine W_seq ?_
                refine W.pre (K' := [(11, _), (13, _), (15, _), (23, _), (27, _), (162, _)]) (L' := [(0, _), (400, _), (500, _), (600, _), (601, _), (701, _)]) ?_ ⟨rfl, ⟨rfl, ⟨rfl, ⟨rfl, ⟨rfl, ⟨rfl, trivial⟩⟩⟩⟩⟩⟩ ⟨rfl, ⟨rfl, ⟨rfl, ⟨rfl, ⟨rfl, ⟨rfl, trivial⟩⟩⟩⟩⟩⟩
                refine W_regL (WL_pure rfl rfl (by decide) (Pu_move rfl rfl) (WL_cons rfl rfl (by decide) (OpT_buildOnes (r := 702) (bs [0]) rfl rfl Try.runUnderlying28 Try.sizeOf5 Try.zeroValue5 rfl rfl (by decide) rfl (bs_cells _) (fun v188 => (WL_cons rfl rfl (by decide) (OpT_append (r := 500) (r2 := 702) rfl Try.underlying28 TI.hi5 TI.hz5 TI.hs5 TI.hby5 TI.hzs5 (by decide) rfl rfl rfl rfl (fun _ h => rowP_rd h) (bs_one _) (by unfold maxLen; omega) (by omega) (fun v189 => ?_)))))))
                refine (WL_cons rfl rfl (by decide) (OpT_call 800 [0, 400, 500, 600, 601, 701, 702] [] rfl Try.call13 rfl rfl rfl (by decide) (by decide) (parseInner_spec _ ((innerR l) ++ [0]) _ (rd_star 2 rfl (fun h hp => rdP_cast (rowP_rd hp) (bs_append (innerR l) [0]).symm (by simp)))) (fun v190 Ps190 hR190 => ?_)))
                obtain ⟨v', rfl, rfl⟩ := hR190
                refine (WL_pure rfl rfl (by decide) (Pu_move rfl rfl) (WL_pure rfl rfl (by decide) (Pu_extract rfl rfl rfl) (WL_pure rfl rfl (by decide) (Pu_extract rfl rfl rfl) (WL_pure rfl rfl (by decide) (Pu_assign rfl rfl) (WL_pure rfl rfl (by decide) (Pu_assign rfl rfl) (WL_nil (X_then ?_)))))))
                refine W_seq ?_
                refine W.pre (K' := [(11, _), (13, _), (15, _), (23, _), (27, _), (29, _), (162, _)]) (L' := [(0, _), (400, _), (500, _), (600, _), (601, _), (701, _), (702, _), (800, _)]) ?_ ⟨rfl, ⟨rfl, ⟨rfl, ⟨rfl, ⟨rfl, ⟨rfl, ⟨rfl, trivial⟩⟩⟩⟩⟩⟩⟩ ⟨rfl, ⟨rfl, ⟨rfl, ⟨rfl, ⟨rfl, ⟨rfl, ⟨rfl, ⟨rfl, trivial⟩⟩⟩⟩⟩⟩⟩⟩
                refine W_regL (WL_pure rfl rfl (by decide) (Pu_move rfl rfl) (WL_cons rfl rfl (by decide) (OpT_buildOnes (r := 801) (bs [0]) rfl rfl Try.runUnderlying28 Try.sizeOf5 Try.zeroValue5 rfl rfl (by decide) rfl (bs_cells _) (fun v195 => (WL_cons rfl rfl (by decide) (OpT_append (r := 600) (r2 := 801) rfl Try.underlying28 TI.hi5 TI.hz5 TI.hs5 TI.hby5 TI.hzs5 (by decide) rfl rfl rfl rfl (fun _ h => rowP_rd h) (bs_one _) (by unfold maxLen; omega) (by omega) (fun v196 => ?_)))))))
                refine (WL_cons rfl rfl (by decide) (OpT_call 900 [0, 400, 500, 600, 601, 701, 702, 800, 801] [] rfl Try.call21 rfl rfl rfl (by decide) (by decide) (parseRoot_spec _ ((rootR pl 7 (l.getD 0 []) raw) ++ [0]) (by rw [List.length_append]; show _ + 1 ≤ _; omega) _ (rd_star 3 rfl (fun h hp => rdP_cast (rowP_rd hp) (bs_append (rootR pl 7 (l.getD 0 []) raw) [0]).symm (by simp)))) (fun v197 Ps197 hR197 => ?_)))
                obtain ⟨pv, tv, rfl, rfl⟩ := hR197
                refine WL_fact (r := 900) rfl (fun h hp => rd_one (rowB_rd h hp)) (fun hop => WL_fact (r := 901) rfl (fun h hp => rd_one (rowB_rd h hp)) (fun hot => ?_))
                have htp := pRoot_top ((rootR pl 7 (l.getD 0 []) raw) ++ [0])
                refine (WL_pure rfl rfl (by decide) (Pu_move rfl rfl) (WL_pure rfl rfl (by decide) (Pu_extract rfl rfl rfl) (WL_pure rfl rfl (by decide) (Pu_extract rfl rfl rfl) (WL_cons rfl rfl (by decide) (OpT_alloc (r := 901) rfl (zero_run (by kernel_rfl : (Try.prog.info? 56).bind (·.zero) = some (.agg (rootC (.slice none 0 0) 0 zeroId (.slice none 0 0)).toArray))) rfl (fun g901 => (WL_cons0 rfl rfl (OpT_storeAll (r := 901) rfl Try.sizeOf56 rfl rfl rfl rfl (rootC_length htp) (one_root hop hot) ?_))))))))
                refine (WL_pure rfl rfl (by decide) (Pu_assign rfl rfl) (WL_nil (X_then ?_)))
                refine W_seq ?_
                refine W.pre (K' := [(11, _), (13, _), (15, _), (23, _), (27, _), (29, _), (31, _), (162, _)]) (L' := [(0, _), (400, _), (500, _), (600, _), (601, _), (701, _), (702, _), (800, _), (801, _), (900, _), (901, _)]) ?_ ⟨rfl, ⟨rfl, ⟨rfl, ⟨rfl, ⟨rfl, ⟨rfl, ⟨rfl, ⟨rfl, trivial⟩⟩⟩⟩⟩⟩⟩⟩ ⟨rfl, ⟨rfl, ⟨rfl, ⟨rfl, ⟨rfl, ⟨rfl, ⟨rfl, ⟨rfl, ⟨rfl, ⟨rfl, ⟨rfl, trivial⟩⟩⟩⟩⟩⟩⟩⟩⟩⟩⟩
                refine W_regL (WL_pure rfl rfl (by decide) (Pu_move rfl rfl) (WL_pure rfl rfl (by decide) (Pu_bin rfl rfl rfl (run_eql _ _ _ _ _ _)) (WL_pure rfl rfl (by decide) (Pu_move rfl rfl) (WL_guardP rfl rfl rfl rfl (by decide) (fun hb => (Pu_move rfl rfl)) (WL_guardP rfl rfl rfl rfl (by decide) (fun hb => (Pu_bin rfl (ev_gv rfl hb) rfl (run_eql _ _ _ _ _ _))) (WL_pure rfl rfl (by decide) (Pu_and rfl rfl rfl) (WL_pure rfl rfl (by decide) (Pu_move rfl rfl) (WL_guardP rfl rfl rfl rfl (by decide) (fun hb => (Pu_move rfl rfl)) (WL_guardP rfl rfl rfl rfl (by decide) (fun hb => (Pu_bin rfl (ev_gv rfl hb) rfl (run_eql _ _ _ _ _ _))) (WL_pure rfl rfl (by decide) (Pu_and rfl rfl rfl) (WL_pure rfl rfl (by decide) (Pu_assign rfl rfl) (WL_nil (X_then ?_)))))))))))))
                refine W_ret ?_
                exact X_ret [] (Ps := []) (res1 Try.results6 rfl) rfl (by decide) (bool_val (by rw [longI hlI hpI, longN hpN, longR hpR]; rfl))
        exact AHs_nil
      ·
        have hpos := of_decide_eq_false hc62
        obtain ⟨top, htop⟩ : ∃ t, t = zeroId := ⟨_, rfl⟩
        have ht : top.length = 32 := by rw [htop]; rfl
        have hz : (a0 % 5000) = 0 → top = zeroId := fun h => htop
        refine W_skip (X_then ?_)
        refine W_seq ?_
        refine W.pre (K' := [(1, _), (3, _), (6, _), (9, _), (10, _), (53, _), (62, _)]) (L' := [(0, _), (101, _), (301, _)]) ?_ ⟨rfl, ⟨rfl, ⟨rfl, ⟨rfl, ⟨rfl, ⟨rfl, ⟨rfl, trivial⟩⟩⟩⟩⟩⟩⟩ ⟨rfl, ⟨rfl, ⟨rfl, trivial⟩⟩⟩
        refine W_turn (P' := blk _ _ (nodeC 1 (a0 % 5000) (lev (a0 % 5000) : Int) top)) 301 rfl (fun h hp => by rw [htop]; exact hp) ?_
        have hw0 : wrongN 1 (a0 % 5000) (lev (a0 % 5000) : Int) top = 0 := cuts_node hs0 hs1 hz
        have hpI : (parseI (inodeR 1 (a0 % 5000) (lev (a0 % 5000) : Int) top)).2 = 0 := by rw [inodeR, if_pos hw0, parse_inode ht hw0]
        have hlI : (inodeR 1 (a0 % 5000) (lev (a0 % 5000) : Int) top).length = 39 := by rw [inodeR, if_pos hw0]; simp [inodeB, numB_length, ht]
        have hE0 : innerE l = 0 := by unfold innerE; rw [if_neg (by omega), if_neg (by omega)]
        have hpN := (parse_inner hl hE0).1
        have hlN : (innerR l).length = 2 + 32 * l.length := by rw [innerR, if_pos hE0, innerTo_length hl (Nat.le_refl _)]; omega
        have hR0 : rootE pl 7 raw = 0 := by unfold rootE; rw [if_neg (by omega), if_neg (by omega)]
        have hRR : rootR pl 7 (l.getD 0 []) raw = (rootLs pl 7 (l.getD 0 []) raw).flatten := by rw [rootR, if_pos hR0]
        have hpR : pRootE (rootR pl 7 (l.getD 0 []) raw) = 0 := by rw [hRR]; exact (parse_root hpl (by omega) hid0 (by omega)).1
        have hlR : (rootR pl 7 (l.getD 0 []) raw).length = 95 + raw.length := by rw [hRR]; exact root_length hpl hid0
        refine W_regL (WL_pure rfl rfl (by decide) (Pu_loadBN (r := 301) rfl Try.isAgg27 Try.sizeOf27 rfl rfl (nodeC_length ht) (load_all (nodeC_length ht))) (WL_cons rfl rfl (by decide) (OpT_call 400 [0, 101, 301] [] rfl Try.call9 rfl rfl rfl (by decide) (by decide) (inode_spec _ _ _ _ ht _) (fun v69 Ps69 hR69 => ?_))))
        obtain ⟨va, rfl, rfl⟩ := hR69
        refine (WL_pure rfl rfl (by decide) (Pu_move rfl rfl) (WL_pure rfl rfl (by decide) (Pu_extract rfl rfl rfl) (WL_pure rfl rfl (by decide) (Pu_extract rfl rfl rfl) (WL_pure rfl rfl (by decide) (Pu_assign rfl rfl) (WL_pure rfl rfl (by decide) (Pu_assign rfl rfl) (WL_nil (X_then ?_)))))))
        refine W_seq ?_
        refine W.pre (K' := [(1, _), (3, _), (6, _), (9, _), (10, _), (11, _), (12, _), (53, _), (62, _)]) (L' := [(0, _), (101, _), (301, _), (400, _)]) ?_ ⟨rfl, ⟨rfl, ⟨rfl, ⟨rfl, ⟨rfl, ⟨rfl, ⟨rfl, ⟨rfl, ⟨rfl, trivial⟩⟩⟩⟩⟩⟩⟩⟩⟩ ⟨rfl, ⟨rfl, ⟨rfl, ⟨rfl, trivial⟩⟩⟩⟩
        refine W_regL (WL_pure rfl rfl (by decide) (Pu_move rfl rfl) (WL_cons rfl rfl (by decide) (OpT_call 500 [0, 101, 301, 400] [] rfl Try.call10 rfl rfl rfl (by decide) (by decide) (inner_spec _ l hl _ (rd_star 0 rfl (fun h hp => Rd.orig hrl h hp))) (fun v74 Ps74 hR74 => ?_))))
        obtain ⟨vb, rfl, rfl⟩ := hR74
        refine (WL_pure rfl rfl (by decide) (Pu_move rfl rfl) (WL_pure rfl rfl (by decide) (Pu_extract rfl rfl rfl) (WL_pure rfl rfl (by decide) (Pu_extract rfl rfl rfl) (WL_pure rfl rfl (by decide) (Pu_assign rfl rfl) (WL_pure rfl rfl (by decide) (Pu_assign rfl rfl) (WL_nil (X_then ?_)))))))
        refine W_seq ?_
        refine W.pre (K' := [(1, _), (3, _), (6, _), (9, _), (10, _), (11, _), (12, _), (13, _), (14, _), (53, _), (62, _)]) (L' := [(0, _), (101, _), (301, _), (400, _), (500, _)]) ?_ ⟨rfl, ⟨rfl, ⟨rfl, ⟨rfl, ⟨rfl, ⟨rfl, ⟨rfl, ⟨rfl, ⟨rfl, ⟨rfl, ⟨rfl, trivial⟩⟩⟩⟩⟩⟩⟩⟩⟩⟩⟩ ⟨rfl, ⟨rfl, ⟨rfl, ⟨rfl, ⟨rfl, trivial⟩⟩⟩⟩⟩
        refine W_draw (N := 12) (by kernel_rfl) rfl [(0, _), (101, _), (301, _)] ⟨rfl, ⟨rfl, ⟨rfl, trivial⟩⟩⟩ ?_
        refine (AH_take 0 rfl (by kernel_rfl) (by kernel_rfl) (by kernel_rfl) rfl rfl (by decide) (Pu_sliceArr rfl Try.runUnderlying53 Try.sizeOf5 rfl) (AH_take 1 rfl (by kernel_rfl) (by kernel_rfl) (by kernel_rfl) rfl rfl (by decide) (Pu_move rfl rfl) (AH_take 2 rfl (by kernel_rfl) (by kernel_rfl) (by kernel_rfl) rfl rfl (by decide) (Pu_idxS (r := 0) rfl Try.runUnderlying33 Try.sizeOf25 rfl rfl rfl (fun h hp => Rd.orig hrl h hp) (by omega)) (AH_take 3 rfl (by kernel_rfl) (by kernel_rfl) (by kernel_rfl) rfl rfl (by decide) (Pu_loadSN (r := 0) rfl Try.isAgg25 Try.sizeOf25 rfl rfl (fun h hp => Rd.orig hrl h hp) ((bs_length _).trans hid0) (by decide) (idsC_get (k := 0) hl (by omega))) (AH_take 4 rfl (by kernel_rfl) (by kernel_rfl) (by kernel_rfl) rfl rfl (by decide) (Pu_move rfl rfl) (AH_take 5 rfl (by kernel_rfl) (by kernel_rfl) (by kernel_rfl) rfl rfl (by decide) (Pu_build (V := rootV _ 7 (l.getD 0 []) vr) [(0, 1), (1, 1), (2, 32), (34, 1)] (rootC (.slice none 0 0) 0 zeroId (.slice none 0 0)) rfl rfl (by kernel_rfl) (by kernel_rfl) (.one rfl rfl (by simp [rootC, bs_length, zeroId_length]) rfl (.one rfl rfl (by simp [rootC, bs_length, zeroId_length]) rfl (.many rfl ((bs_length _).trans hid0) (by simp [rootC, bs_length, zeroId_length]) rfl (.one rfl ho3 (by simp [rootC, bs_length, zeroId_length, over]; omega) rfl (.nil _))))) (congrArg (fun q => Value.agg (List.toArray q)) ((congrArg (fun q => List.set q 34 _) (root_over zeroId_length hid0)).trans (root_set hid0)))) (AH_ready [6] (by kernel_rfl) (by decide) ?_)))))))
        refine AHs_cons rfl rfl rfl (by decide) (OpT_call 600 [0, 101, 301, 400, 500] [] rfl Try.call20 rfl rfl rfl (by decide) (by decide) (root_spec _ pl 7 (l.getD 0 []) hid0 vr raw _ (fun h hp => rdP_cast (rd_star 1 rfl (fun _ h => blk_rd (xs := bs pl) h (by rw [List.drop_zero, List.take_of_length_le (by rw [bs_length, hpl]; omega)]) (by rw [bs_length, hpl]) (Nat.le_refl 56)) h hp) rfl hpl.symm) (rd_star 0 rfl (fun h hp => Rd.orig hrr h hp))) (fun v84 Ps84 hR84 => ?_)) ?_
        ·
          obtain ⟨vc, rfl, rfl⟩ := hR84
          refine ⟨⟨rfl, ⟨rfl, ⟨rfl, trivial⟩⟩⟩, ?_⟩
          refine (AH_take 7 rfl (by kernel_rfl) (by kernel_rfl) (by kernel_rfl) rfl rfl (by decide) (Pu_move rfl rfl) (AH_take 8 rfl (by kernel_rfl) (by kernel_rfl) (by kernel_rfl) rfl rfl (by decide) (Pu_extract rfl rfl rfl) (AH_take 9 rfl (by kernel_rfl) (by kernel_rfl) (by kernel_rfl) rfl rfl (by decide) (Pu_extract rfl rfl rfl) (AH_take 10 rfl (by kernel_rfl) (by kernel_rfl) (by kernel_rfl) rfl rfl (by decide) (Pu_assign rfl rfl) (AH_take 11 rfl (by kernel_rfl) (by kernel_rfl) (by kernel_rfl) rfl rfl (by decide) (Pu_assign rfl rfl) (AH_done (by kernel_rfl) (X_then ?_)))))))
          refine W_seq ?_
          refine W_seq ?_
          refine W.pre (K' := [(1, _), (3, _), (6, _), (9, _), (10, _), (11, _), (12, _), (13, _), (14, _), (15, _), (16, _), (53, _), (62, _)]) (L' := [(0, _), (101, _), (301, _), (400, _), (500, _), (600, _)]) ?_ ⟨rfl, ⟨rfl, ⟨rfl, ⟨rfl, ⟨rfl, ⟨rfl, ⟨rfl, ⟨rfl, ⟨rfl, ⟨rfl, ⟨rfl, ⟨rfl, ⟨rfl, trivial⟩⟩⟩⟩⟩⟩⟩⟩⟩⟩⟩⟩⟩ ⟨rfl, ⟨rfl, ⟨rfl, ⟨rfl, ⟨rfl, ⟨rfl, trivial⟩⟩⟩⟩⟩⟩
          refine W_regL (WL_pure rfl rfl (by decide) (Pu_move rfl rfl) (WL_pure rfl rfl (by decide) (Pu_bin rfl rfl rfl (run_neq _ _ _ _ _ _)) (WL_pure rfl rfl (by decide) (Pu_move rfl rfl) (WL_guardP rfl rfl rfl rfl (by decide) (fun hb => (Pu_move rfl rfl)) (WL_guardP rfl rfl rfl rfl (by decide) (fun hb => (Pu_bin rfl (ev_gv rfl hb) rfl (run_neq _ _ _ _ _ _))) (WL_pure rfl rfl (by decide) (Pu_or rfl rfl rfl) (WL_pure rfl rfl (by decide) (Pu_move rfl rfl) (WL_guardP rfl rfl rfl rfl (by decide) (fun hb => (Pu_move rfl rfl)) (WL_guardP rfl rfl rfl rfl (by decide) (fun hb => (Pu_bin rfl (ev_gv rfl hb) rfl (run_neq _ _ _ _ _ _))) (WL_pure rfl rfl (by decide) (Pu_or rfl rfl rfl) (WL_pure rfl rfl (by decide) (Pu_move rfl rfl) (WL_guardP rfl rfl rfl rfl (by decide) (fun hb => (Pu_move rfl rfl)) (WL_guardP rfl rfl rfl rfl (by decide) (fun hb => (Pu_len (r := 400) rfl Try.runUnderlying28 (ev_gv rfl hb) rfl rowB_rd)) (WL_guardP rfl rfl rfl rfl (by decide) (fun hb => (Pu_bin rfl (ev_gv rfl hb) rfl (run_neq _ _ _ _ _ _))) (WL_pure rfl rfl (by decide) (Pu_or rfl rfl rfl) (WL_pure rfl rfl (by decide) (Pu_move rfl rfl) (WL_guardP rfl rfl rfl rfl (by decide) (fun hb => (Pu_move rfl rfl)) (WL_guardP rfl rfl rfl rfl (by decide) (fun hb => (Pu_len (r := 500) rfl Try.runUnderlying28 (ev_gv rfl hb) rfl rowB_rd)) (WL_guardP rfl rfl rfl rfl (by decide) (fun hb => (Pu_move rfl rfl)) (WL_guardP rfl rfl rfl rfl (by decide) (fun hb => (Pu_len (r := 0) rfl Try.runUnderlying33 (ev_gv rfl hb) rfl (fun h hp => Rd.orig hrl h hp))) (WL_guardP rfl rfl rfl rfl (by decide) (fun hb => (Pu_bin rfl rfl (ev_gv rfl hb) (run_mul _ _ _ _ _ (by omega)))) (WL_guardP rfl rfl rfl rfl (by decide) (fun hb => (Pu_bin rfl rfl (ev_gv rfl hb) (run_add _ _ _ _ _ (by omega)))) (WL_guardP rfl rfl rfl rfl (by decide) (fun hb => (Pu_bin rfl (ev_gv rfl hb) (ev_gv rfl hb) (run_neq _ _ _ _ _ _))) (WL_pure rfl rfl (by decide) (Pu_or rfl rfl rfl) (WL_pure rfl rfl (by decide) (Pu_move rfl rfl) (WL_guardP rfl rfl rfl rfl (by decide) (fun hb => (Pu_move rfl rfl)) (WL_guardP rfl rfl rfl rfl (by decide) (fun hb => (Pu_len (r := 600) rfl Try.runUnderlying28 (ev_gv rfl hb) rfl rowB_rd)) (WL_guardP rfl rfl rfl rfl (by decide) (fun hb => (Pu_move rfl rfl)) (WL_guardP rfl rfl rfl rfl (by decide) (fun hb => (Pu_len (r := 0) rfl Try.runUnderlying28 (ev_gv rfl hb) rfl (fun h hp => Rd.orig hrr h hp))) (WL_guardP rfl rfl rfl rfl (by decide) (fun hb => (Pu_bin rfl rfl (ev_gv rfl hb) (run_add _ _ _ _ _ (by omega)))) (WL_guardP rfl rfl rfl rfl (by decide) (fun hb => (Pu_bin rfl (ev_gv rfl hb) (ev_gv rfl hb) (run_neq _ _ _ _ _ _))) (WL_pure rfl rfl (by decide) (Pu_or rfl rfl rfl) (WL_nil (X_then ?_))))))))))))))))))))))))))))))))))
          refine W_false rfl (by rw [hw0, hE0, hR0, hlI, hlN, hlR]; simp) ?_
          refine W_skip (X_then ?_)
          refine W_seq ?_
          refine W_seq ?_
          refine W.pre (K' := [(1, _), (3, _), (6, _), (9, _), (10, _), (11, _), (12, _), (13, _), (14, _), (15, _), (16, _), (53, _), (62, _), (118, _)]) (L' := [(0, _), (101, _), (301, _), (400, _), (500, _), (600, _)]) ?_ ⟨rfl, ⟨rfl, ⟨rfl, ⟨rfl, ⟨rfl, ⟨rfl, ⟨rfl, ⟨rfl, ⟨rfl, ⟨rfl, ⟨rfl, ⟨rfl, ⟨rfl, ⟨rfl, trivial⟩⟩⟩⟩⟩⟩⟩⟩⟩⟩⟩⟩⟩⟩ ⟨rfl, ⟨rfl, ⟨rfl, ⟨rfl, ⟨rfl, ⟨rfl, trivial⟩⟩⟩⟩⟩⟩
          refine W_regL (WL_pure rfl rfl (by decide) (Pu_assign rfl rfl) (WL_nil (X_then ?_)))
          refine W_block ?_
          refine W_loop (α := Nat) (fun i => [(11, va), (13, vb), (15, vc), (17, .int .i64 (i : Int))]) (fun i => [(0, orig Wo), (400, rowB 5 va (inodeR 1 (a0 % 5000) (lev (a0 % 5000) : Int) top)), (500, rowB 5 vb (innerR l)), (600, rowB 5 vc (rootR pl 7 (l.getD 0 []) raw))]) (fun i => i ≤ (inodeR 1 (a0 % 5000) (lev (a0 % 5000) : Int) top).length + 1) (fun i => (inodeR 1 (a0 % 5000) (lev (a0 % 5000) : Int) top).length + 1 - i) (0) (Nat.zero_le _) ⟨rfl, ⟨rfl, ⟨rfl, ⟨rfl, trivial⟩⟩⟩⟩ ⟨rfl, ⟨rfl, ⟨rfl, ⟨rfl, trivial⟩⟩⟩⟩ (fun x hx => ?_)
          refine W_seq ?_
          refine W_seq ?_
          refine W.pre (K' := [(11, _), (13, _), (15, _), (17, _)]) (L' := [(0, _), (400, _), (500, _), (600, _)]) ?_ ⟨rfl, ⟨rfl, ⟨rfl, ⟨rfl, trivial⟩⟩⟩⟩ ⟨rfl, ⟨rfl, ⟨rfl, ⟨rfl, trivial⟩⟩⟩⟩
          refine W_regL (WL_pure rfl rfl (by decide) (Pu_move rfl rfl) (WL_pure rfl rfl (by decide) (Pu_move rfl rfl) (WL_pure rfl rfl (by decide) (Pu_len (r := 400) rfl Try.runUnderlying28 rfl rfl rowB_rd) (WL_pure rfl rfl (by decide) (Pu_bin rfl rfl rfl (run_leq _ _ _ _ _ _)) (WL_nil (X_then ?_))))))
          refine W_cond rfl (fun hc122 => ?_) (fun hc122 => ?_)
          ·
            have hlt : x ≤ (inodeR 1 (a0 % 5000) (lev (a0 % 5000) : Int) top).length := by have := of_decide_eq_true hc122; omega
            refine W_skip (X_then ?_)
            refine W_seq ?_
            refine W_block ?_
            refine W_seq ?_
            refine W.pre (K' := [(11, _), (13, _), (15, _), (17, _), (122, _)]) (L' := [(0, _), (400, _), (500, _), (600, _)]) ?_ ⟨rfl, ⟨rfl, ⟨rfl, ⟨rfl, ⟨rfl, trivial⟩⟩⟩⟩⟩ ⟨rfl, ⟨rfl, ⟨rfl, ⟨rfl, trivial⟩⟩⟩⟩
            refine W_regL (WL_pure rfl rfl (by decide) (Pu_move rfl rfl) (WL_pure rfl rfl (by decide) (Pu_move rfl rfl) (WL_pure rfl rfl (by decide) (Pu_slice (r := 400) (b := x) rfl Try.runUnderlying28 Try.sizeOf5 rfl rfl rowB_rd (.inl ⟨rfl, rfl⟩) (.inr ⟨_, _, _, rfl, rfl, rfl⟩) (Nat.zero_le _) hlt) (WL_cons rfl rfl (by decide) (OpT_call 700 [0, 400, 500, 600] [] rfl Try.call18 rfl rfl rfl (by decide) (by decide) (parseInode_spec _ ((inodeR 1 (a0 % 5000) (lev (a0 % 5000) : Int) top).take x) _ (rd_star 1 rfl (fun h hp => rdB_front (b := x) (rowB_rd h hp) hlt))) (fun v129 Ps129 hR129 => ?_))))))
            obtain ⟨rfl, rfl⟩ := hR129
            refine (WL_pure rfl rfl (by decide) (Pu_move rfl rfl) (WL_pure rfl rfl (by decide) (Pu_extract rfl rfl rfl) (WL_pure rfl rfl (by decide) (Pu_extract rfl rfl rfl) (WL_cons rfl rfl (by decide) (OpT_alloc (r := 701) rfl (zero_run (by kernel_rfl : (Try.prog.info? 27).bind (·.zero) = some (.agg (nodeC 0 0 0 zeroId).toArray))) rfl (fun g701 => (WL_cons0 rfl rfl (OpT_storeAll (r := 701) rfl Try.sizeOf27 rfl rfl rfl rfl (nodeC_length (parseI_top ((inodeR 1 (a0 % 5000) (lev (a0 % 5000) : Int) top).take x))) (one_node _ _ _ _) ?_))))))))
            refine (WL_pure rfl rfl (by decide) (Pu_assign rfl rfl) (WL_nil (X_then ?_)))
            refine W_seq ?_
            refine W.pre (K' := [(11, _), (13, _), (15, _), (17, _), (19, _), (122, _)]) (L' := [(0, _), (400, _), (500, _), (600, _), (701, _)]) ?_ ⟨rfl, ⟨rfl, ⟨rfl, ⟨rfl, ⟨rfl, ⟨rfl, trivial⟩⟩⟩⟩⟩⟩ ⟨rfl, ⟨rfl, ⟨rfl, ⟨rfl, ⟨rfl, trivial⟩⟩⟩⟩⟩
            refine W_regL (WL_pure rfl rfl (by decide) (Pu_move rfl rfl) (WL_pure rfl rfl (by decide) (Pu_bin rfl rfl rfl (run_eql _ _ _ _ _ _)) (WL_pure rfl rfl (by decide) (Pu_move rfl rfl) (WL_pure rfl rfl (by decide) (Pu_move rfl rfl) (WL_pure rfl rfl (by decide) (Pu_len (r := 400) rfl Try.runUnderlying28 rfl rfl rowB_rd) (WL_pure rfl rfl (by decide) (Pu_bin rfl rfl rfl (run_lss _ _ _ _ _ _)) (WL_pure rfl rfl (by decide) (Pu_bin rfl rfl rfl (run_neb _ _ _ Try.underlying4 _ _)) (WL_nil (X_then ?_)))))))))
            refine W_false rfl (cutI hlI hpI hlt) ?_
            refine W_skip (X_block (X_then ?_))
            refine W.pre (K' := [(11, _), (13, _), (15, _), (17, _), (19, _), (122, _), (138, _)]) (L' := [(0, _), (400, _), (500, _), (600, _), (701, _)]) ?_ ⟨rfl, ⟨rfl, ⟨rfl, ⟨rfl, ⟨rfl, ⟨rfl, ⟨rfl, trivial⟩⟩⟩⟩⟩⟩⟩ ⟨rfl, ⟨rfl, ⟨rfl, ⟨rfl, ⟨rfl, trivial⟩⟩⟩⟩⟩
            refine W_regL (WL_pure rfl rfl (by decide) (Pu_move rfl rfl) (WL_pure rfl rfl (by decide) (Pu_bin rfl rfl rfl (run_add _ _ _ _ _ (by omega))) (WL_pure rfl rfl (by decide) (Pu_assign rfl rfl) (WL_nil ?_))))
            exact X_round (x + 1) (by omega) (by omega) ⟨rfl, rfl, rfl, rfl, trivial⟩ ⟨rfl, rfl, rfl, rfl, trivial⟩
          ·
            refine W_exit (X_then_exit (X_then_exit (X_block_exit (X_then ?_))))
            refine W_seq ?_
            refine W_seq ?_
            refine W.pre (K' := [(11, _), (13, _), (15, _), (17, _), (122, _)]) (L' := [(0, _), (400, _), (500, _), (600, _)]) ?_ ⟨rfl, ⟨rfl, ⟨rfl, ⟨rfl, ⟨rfl, trivial⟩⟩⟩⟩⟩ ⟨rfl, ⟨rfl, ⟨rfl, ⟨rfl, trivial⟩⟩⟩⟩
            refine W_regL (WL_pure rfl rfl (by decide) (Pu_assign rfl rfl) (WL_nil (X_then ?_)))
            refine W_block ?_
            refine W_loop (α := Nat) (fun i => [(11, va), (13, vb), (15, vc), (20, .int .i64 (i : Int))]) (fun i => [(0, orig Wo), (400, rowB 5 va (inodeR 1 (a0 % 5000) (lev (a0 % 5000) : Int) top)), (500, rowB 5 vb (innerR l)), (600, rowB 5 vc (rootR pl 7 (l.getD 0 []) raw))]) (fun i => i ≤ (innerR l).length + 1) (fun i => (innerR l).length + 1 - i) (0) (Nat.zero_le _) ⟨rfl, ⟨rfl, ⟨rfl, ⟨rfl, trivial⟩⟩⟩⟩ ⟨rfl, ⟨rfl, ⟨rfl, ⟨rfl, trivial⟩⟩⟩⟩ (fun x hx => ?_)
            refine W_seq ?_
            refine W_seq ?_
            refine W.pre (K' := [(11, _), (13, _), (15, _), (20, _)]) (L' := [(0, _), (400, _), (500, _), (600, _)]) ?_ ⟨rfl, ⟨rfl, ⟨rfl, ⟨rfl, trivial⟩⟩⟩⟩ ⟨rfl, ⟨rfl, ⟨rfl, ⟨rfl, trivial⟩⟩⟩⟩
            refine W_regL (WL_pure rfl rfl (by decide) (Pu_move rfl rfl) (WL_pure rfl rfl (by decide) (Pu_move rfl rfl) (WL_pure rfl rfl (by decide) (Pu_len (r := 500) rfl Try.runUnderlying28 rfl rfl rowB_rd) (WL_pure rfl rfl (by decide) (Pu_bin rfl rfl rfl (run_leq _ _ _ _ _ _)) (WL_nil (X_then ?_))))))
            refine W_cond rfl (fun hc142 => ?_) (fun hc142 => ?_)
            ·
              have hlt : x ≤ (innerR l).length := by have := of_decide_eq_true hc142; omega
              refine W_skip (X_then ?_)
              refine W_seq ?_
              refine W_block ?_
              refine W_seq ?_
              refine W.pre (K' := [(11, _), (13, _), (15, _), (20, _), (142, _)]) (L' := [(0, _), (400, _), (500, _), (600, _)]) ?_ ⟨rfl, ⟨rfl, ⟨rfl, ⟨rfl, ⟨rfl, trivial⟩⟩⟩⟩⟩ ⟨rfl, ⟨rfl, ⟨rfl, ⟨rfl, trivial⟩⟩⟩⟩
              refine W_regL (WL_pure rfl rfl (by decide) (Pu_move rfl rfl) (WL_pure rfl rfl (by decide) (Pu_move rfl rfl) (WL_pure rfl rfl (by decide) (Pu_slice (r := 500) (b := x) rfl Try.runUnderlying28 Try.sizeOf5 rfl rfl rowB_rd (.inl ⟨rfl, rfl⟩) (.inr ⟨_, _, _, rfl, rfl, rfl⟩) (Nat.zero_le _) hlt) (WL_cons rfl rfl (by decide) (OpT_call 700 [0, 400, 500, 600] [] rfl Try.call13 rfl rfl rfl (by decide) (by decide) (parseInner_spec _ ((innerR l).take x) _ (rd_star 2 rfl (fun h hp => rdB_front (b := x) (rowB_rd h hp) hlt))) (fun v149 Ps149 hR149 => ?_))))))
              obtain ⟨v', rfl, rfl⟩ := hR149
              refine (WL_pure rfl rfl (by decide) (Pu_move rfl rfl) (WL_pure rfl rfl (by decide) (Pu_extract rfl rfl rfl) (WL_pure rfl rfl (by decide) (Pu_extract rfl rfl rfl) (WL_pure rfl rfl (by decide) (Pu_assign rfl rfl) (WL_pure rfl rfl (by decide) (Pu_assign rfl rfl) (WL_nil (X_then ?_)))))))
              refine W_seq ?_
              refine W.pre (K' := [(11, _), (13, _), (15, _), (20, _), (22, _), (142, _)]) (L' := [(0, _), (400, _), (500, _), (600, _), (700, _)]) ?_ ⟨rfl, ⟨rfl, ⟨rfl, ⟨rfl, ⟨rfl, ⟨rfl, trivial⟩⟩⟩⟩⟩⟩ ⟨rfl, ⟨rfl, ⟨rfl, ⟨rfl, ⟨rfl, trivial⟩⟩⟩⟩⟩
              refine W_regL (WL_pure rfl rfl (by decide) (Pu_move rfl rfl) (WL_pure rfl rfl (by decide) (Pu_bin rfl rfl rfl (run_eql _ _ _ _ _ _)) (WL_pure rfl rfl (by decide) (Pu_move rfl rfl) (WL_pure rfl rfl (by decide) (Pu_move rfl rfl) (WL_pure rfl rfl (by decide) (Pu_len (r := 500) rfl Try.runUnderlying28 rfl rfl rowB_rd) (WL_pure rfl rfl (by decide) (Pu_bin rfl rfl rfl (run_lss _ _ _ _ _ _)) (WL_pure rfl rfl (by decide) (Pu_bin rfl rfl rfl (run_neb _ _ _ Try.underlying4 _ _)) (WL_nil (X_then ?_)))))))))
              refine W_false rfl (cutN hpN hlt) ?_
              refine W_skip (X_block (X_then ?_))
              refine W.pre (K' := [(11, _), (13, _), (15, _), (20, _), (22, _), (142, _), (158, _)]) (L' := [(0, _), (400, _), (500, _), (600, _), (700, _)]) ?_ ⟨rfl, ⟨rfl, ⟨rfl, ⟨rfl, ⟨rfl, ⟨rfl, ⟨rfl, trivial⟩⟩⟩⟩⟩⟩⟩ ⟨rfl, ⟨rfl, ⟨rfl, ⟨rfl, ⟨rfl, trivial⟩⟩⟩⟩⟩
              refine W_regL (WL_pure rfl rfl (by decide) (Pu_move rfl rfl) (WL_pure rfl rfl (by decide) (Pu_bin rfl rfl rfl (run_add _ _ _ _ _ (by omega))) (WL_pure rfl rfl (by decide) (Pu_assign rfl rfl) (WL_nil ?_))))
              exact X_round (x + 1) (by omega) (by omega) ⟨rfl, rfl, rfl, rfl, trivial⟩ ⟨rfl, rfl, rfl, rfl, trivial⟩
            ·
              refine W_exit (X_then_exit (X_then_exit (X_block_exit (X_then ?_))))
              refine W_seq ?_
              refine W_seq ?_
              refine W.pre (K' := [(11, _), (13, _), (15, _), (20, _), (142, _)]) (L' := [(0, _), (400, _), (500, _), (600, _)]) ?_ ⟨rfl, ⟨rfl, ⟨rfl, ⟨rfl, ⟨rfl, trivial⟩⟩⟩⟩⟩ ⟨rfl, ⟨rfl, ⟨rfl, ⟨rfl, trivial⟩⟩⟩⟩
              refine W_regL (WL_pure rfl rfl (by decide) (Pu_assign rfl rfl) (WL_nil (X_then ?_)))
              refine W_block ?_
              refine W_loop (α := Nat) (fun i => [(11, va), (13, vb), (15, vc), (23, .int .i64 (i : Int))]) (fun i => [(0, orig Wo), (400, rowB 5 va (inodeR 1 (a0 % 5000) (lev (a0 % 5000) : Int) top)), (500, rowB 5 vb (innerR l)), (600, rowB 5 vc (rootR pl 7 (l.getD 0 []) raw))]) (fun i => i ≤ (rootR pl 7 (l.getD 0 []) raw).length + 1) (fun i => (rootR pl 7 (l.getD 0 []) raw).length + 1 - i) (0) (Nat.zero_le _) ⟨rfl, ⟨rfl, ⟨rfl, ⟨rfl, trivial⟩⟩⟩⟩ ⟨rfl, ⟨rfl, ⟨rfl, ⟨rfl, trivial⟩⟩⟩⟩ (fun x hx => ?_)
              refine W_seq ?_
              refine W_seq ?_
              refine W.pre (K' := [(11, _), (13, _), (15, _), (23, _)]) (L' := [(0, _), (400, _), (500, _), (600, _)]) ?_ ⟨rfl, ⟨rfl, ⟨rfl, ⟨rfl, trivial⟩⟩⟩⟩ ⟨rfl, ⟨rfl, ⟨rfl, ⟨rfl, trivial⟩⟩⟩⟩
              refine W_regL (WL_pure rfl rfl (by decide) (Pu_move rfl rfl) (WL_pure rfl rfl (by decide) (Pu_move rfl rfl) (WL_pure rfl rfl (by decide) (Pu_len (r := 600) rfl Try.runUnderlying28 rfl rfl rowB_rd) (WL_pure rfl rfl (by decide) (Pu_bin rfl rfl rfl (run_leq _ _ _ _ _ _)) (WL_nil (X_then ?_))))))
              refine W_cond rfl (fun hc162 => ?_) (fun hc162 => ?_)
              ·
                have hlt : x ≤ (rootR pl 7 (l.getD 0 []) raw).length := by have := of_decide_eq_true hc162; omega
                refine W_skip (X_then ?_)
                refine W_seq ?_
                refine W_block ?_
                refine W_seq ?_
                refine W.pre (K' := [(11, _), (13, _), (15, _), (23, _), (162, _)]) (L' := [(0, _), (400, _), (500, _), (600, _)]) ?_ ⟨rfl, ⟨rfl, ⟨rfl, ⟨rfl, ⟨rfl, trivial⟩⟩⟩⟩⟩ ⟨rfl, ⟨rfl, ⟨rfl, ⟨rfl, trivial⟩⟩⟩⟩
                refine W_regL (WL_pure rfl rfl (by decide) (Pu_move rfl rfl) (WL_pure rfl rfl (by decide) (Pu_move rfl rfl) (WL_pure rfl rfl (by decide) (Pu_slice (r := 600) (b := x) rfl Try.runUnderlying28 Try.sizeOf5 rfl rfl rowB_rd (.inl ⟨rfl, rfl⟩) (.inr ⟨_, _, _, rfl, rfl, rfl⟩) (Nat.zero_le _) hlt) (WL_cons rfl rfl (by decide) (OpT_call 700 [0, 400, 500, 600] [] rfl Try.call21 rfl rfl rfl (by decide) (by decide) (parseRoot_spec _ ((rootR pl 7 (l.getD 0 []) raw).take x) (by simp; omega) _ (rd_star 3 rfl (fun h hp => rdB_front (b := x) (rowB_rd h hp) hlt))) (fun v169 Ps169 hR169 => ?_))))))
                obtain ⟨pv, tv, rfl, rfl⟩ := hR169
                refine WL_fact (r := 700) rfl (fun h hp => rd_one (rowB_rd h hp)) (fun hop => WL_fact (r := 701) rfl (fun h hp => rd_one (rowB_rd h hp)) (fun hot => ?_))
                have htp := pRoot_top ((rootR pl 7 (l.getD 0 []) raw).take x)
                refine (WL_pure rfl rfl (by decide) (Pu_move rfl rfl) (WL_pure rfl rfl (by decide) (Pu_extract rfl rfl rfl) (WL_pure rfl rfl (by decide) (Pu_extract rfl rfl rfl) (WL_cons rfl rfl (by decide) (OpT_alloc (r := 701) rfl (zero_run (by kernel_rfl : (Try.prog.info? 56).bind (·.zero) = some (.agg (rootC (.slice none 0 0) 0 zeroId (.slice none 0 0)).toArray))) rfl (fun g701 => (WL_cons0 rfl rfl (OpT_storeAll (r := 701) rfl Try.sizeOf56 rfl rfl rfl rfl (rootC_length htp) (one_root hop hot) ?_))))))))
                refine (WL_pure rfl rfl (by decide) (Pu_assign rfl rfl) (WL_nil (X_then ?_)))
                refine W_seq ?_
                refine W.pre (K' := [(11, _), (13, _), (15, _), (23, _), (25, _), (162, _)]) (L' := [(0, _), (400, _), (500, _), (600, _), (700, _), (701, _)]) ?_ ⟨rfl, ⟨rfl, ⟨rfl, ⟨rfl, ⟨rfl, ⟨rfl, trivial⟩⟩⟩⟩⟩⟩ ⟨rfl, ⟨rfl, ⟨rfl, ⟨rfl, ⟨rfl, ⟨rfl, trivial⟩⟩⟩⟩⟩⟩
                refine W_regL (WL_pure rfl rfl (by decide) (Pu_move rfl rfl) (WL_pure rfl rfl (by decide) (Pu_bin rfl rfl rfl (run_eql _ _ _ _ _ _)) (WL_pure rfl rfl (by decide) (Pu_move rfl rfl) (WL_pure rfl rfl (by decide) (Pu_move rfl rfl) (WL_pure rfl rfl (by decide) (Pu_len (r := 600) rfl Try.runUnderlying28 rfl rfl rowB_rd) (WL_pure rfl rfl (by decide) (Pu_bin rfl rfl rfl (run_lss _ _ _ _ _ _)) (WL_pure rfl rfl (by decide) (Pu_bin rfl rfl rfl (run_neb _ _ _ Try.underlying4 _ _)) (WL_nil (X_then ?_)))))))))
                refine W_false rfl (cutR hpR hlt) ?_
                refine W_skip (X_block (X_then ?_))
                refine W.pre (K' := [(11, _), (13, _), (15, _), (23, _), (25, _), (162, _), (178, _)]) (L' := [(0, _), (400, _), (500, _), (600, _), (700, _), (701, _)]) ?_ ⟨rfl, ⟨rfl, ⟨rfl, ⟨rfl, ⟨rfl, ⟨rfl, ⟨rfl, trivial⟩⟩⟩⟩⟩⟩⟩ ⟨rfl, ⟨rfl, ⟨rfl, ⟨rfl, ⟨rfl, ⟨rfl, trivial⟩⟩⟩⟩⟩⟩
                refine W_regL (WL_pure rfl rfl (by decide) (Pu_move rfl rfl) (WL_pure rfl rfl (by decide) (Pu_bin rfl rfl rfl (run_add _ _ _ _ _ (by omega))) (WL_pure rfl rfl (by decide) (Pu_assign rfl rfl) (WL_nil ?_))))
                exact X_round (x + 1) (by omega) (by omega) ⟨rfl, rfl, rfl, rfl, trivial⟩ ⟨rfl, rfl, rfl, rfl, trivial⟩
              ·
                refine W_exit (X_then_exit (X_then_exit (X_block_exit (X_then ?_))))
                refine W_seq ?_
                refine W.pre (K' := [(11, _), (13, _), (15, _), (23, _), (162, _)]) (L' := [(0, _), (400, _), (500, _), (600, _)]) ?_ ⟨rfl, ⟨rfl, ⟨rfl, ⟨rfl, ⟨rfl, trivial⟩⟩⟩⟩⟩ ⟨rfl, ⟨rfl, ⟨rfl, ⟨rfl, trivial⟩⟩⟩⟩
                refine W_regL (WL_pure rfl rfl (by decide) (Pu_move rfl rfl) (WL_cons rfl rfl (by decide) (OpT_buildOnes (r := 601) (bs [0]) rfl rfl Try.runUnderlying28 Try.sizeOf5 Try.zeroValue5 rfl rfl (by decide) rfl (bs_cells _) (fun v181 => (WL_cons rfl rfl (by decide) (OpT_append (r := 400) (r2 := 601) rfl Try.underlying28 TI.hi5 TI.hz5 TI.hs5 TI.hby5 TI.hzs5 (by decide) rfl rfl rfl rfl (fun _ h => rowP_rd h) (bs_one _) (by unfold maxLen; omega) (by omega) (fun v182 => ?_)))))))
                refine (WL_cons rfl rfl (by decide) (OpT_call 700 [0, 400, 500, 600, 601] [] rfl Try.call18 rfl rfl rfl (by decide) (by decide) (parseInode_spec _ ((inodeR 1 (a0 % 5000) (lev (a0 % 5000) : Int) top) ++ [0]) _ (rd_star 1 rfl (fun h hp => rdP_cast (rowP_rd hp) (bs_append (inodeR 1 (a0 % 5000) (lev (a0 % 5000) : Int) top) [0]).symm (by simp)))) (fun v183 Ps183 hR183 => ?_)))
                obtain ⟨rfl, rfl⟩ := hR183
                refine (WL_pure rfl rfl (by decide) (Pu_move rfl rfl) (WL_pure rfl rfl (by decide) (Pu_extract rfl rfl rfl) (WL_pure rfl rfl (by decide) (Pu_extract rfl rfl rfl) (WL_cons rfl rfl (by decide) (OpT_alloc (r := 701) rfl (zero_run (by kernel_rfl : (Try.prog.info? 27).bind (·.zero) = some (.agg (nodeC 0 0 0 zeroId).toArray))) rfl (fun g701 => (WL_cons0 rfl rfl (OpT_storeAll (r := 701) rfl Try.sizeOf27 rfl rfl rfl rfl (nodeC_length (parseI_top ((inodeR 1 (a0 % 5000) (lev (a0 % 5000) : Int) top) ++ [0]))) (one_node _ _ _ _) ?_))))))))
                refine (WL_pure rfl rfl (by decide) (Pu_assign rfl rfl) (WL_nil (X_then ?_)))
                refine W_seq ?_
                refine W.pre (K' := [(11, _), (13, _), (15, _), (23, _), (27, _), (162, _)]) (L' := [(0, _), (400, _), (500, _), (600, _), (601, _), (701, _)]) ?_ ⟨rfl, ⟨rfl, ⟨rfl, ⟨rfl, ⟨rfl, ⟨rfl, trivial⟩⟩⟩⟩⟩⟩ ⟨rfl, ⟨rfl, ⟨rfl, ⟨rfl, ⟨rfl, ⟨rfl, trivial⟩⟩⟩⟩⟩⟩
                refine W_regL (WL_pure rfl rfl (by decide) (Pu_move rfl rfl) (WL_cons rfl rfl (by decide) (OpT_buildOnes (r := 702) (bs [0]) rfl rfl Try.runUnderlying28 Try.sizeOf5 Try.zeroValue5 rfl rfl (by decide) rfl (bs_cells _) (fun v188 => (WL_cons rfl rfl (by decide) (OpT_append (r := 500) (r2 := 702) rfl Try.underlying28 TI.hi5 TI.hz5 TI.hs5 TI.hby5 TI.hzs5 (by decide) rfl rfl rfl rfl (fun _ h => rowP_rd h) (bs_one _) (by unfold maxLen; omega) (by omega) (fun v189 => ?_)))))))
                refine (WL_cons rfl rfl (by decide) (OpT_call 800 [0, 400, 500, 600, 601, 701, 702] [] rfl Try.call13 rfl rfl rfl (by decide) (by decide) (parseInner_spec _ ((innerR l) ++ [0]) _ (rd_star 2 rfl (fun h hp => rdP_cast (rowP_rd hp) (bs_append (innerR l) [0]).symm (by simp)))) (fun v190 Ps190 hR190 => ?_)))
                obtain ⟨v', rfl, rfl⟩ := hR190
                refine (WL_pure rfl rfl (by decide) (Pu_move rfl rfl) (WL_pure rfl rfl (by decide) (Pu_extract rfl rfl rfl) (WL_pure rfl rfl (by decide) (Pu_extract rfl rfl rfl) (WL_pure rfl rfl (by decide) (Pu_assign rfl rfl) (WL_pure rfl rfl (by decide) (Pu_assign rfl rfl) (WL_nil (X_then ?_)))))))
                refine W_seq ?_
                refine W.pre (K' := [(11, _), (13, _), (15, _), (23, _), (27, _), (29, _), (162, _)]) (L' := [(0, _), (400, _), (500, _), (600, _), (601, _), (701, _), (702, _), (800, _)]) ?_ ⟨rfl, ⟨rfl, ⟨rfl, ⟨rfl, ⟨rfl, ⟨rfl, ⟨rfl, trivial⟩⟩⟩⟩⟩⟩⟩ ⟨rfl, ⟨rfl, ⟨rfl, ⟨rfl, ⟨rfl, ⟨rfl, ⟨rfl, ⟨rfl, trivial⟩⟩⟩⟩⟩⟩⟩⟩
                refine W_regL (WL_pure rfl rfl (by decide) (Pu_move rfl rfl) (WL_cons rfl rfl (by decide) (OpT_buildOnes (r := 801) (bs [0]) rfl rfl Try.runUnderlying28 Try.sizeOf5 Try.zeroValue5 rfl rfl (by decide) rfl (bs_cells _) (fun v195 => (WL_cons rfl rfl (by decide) (OpT_append (r := 600) (r2 := 801) rfl Try.underlying28 TI.hi5 TI.hz5 TI.hs5 TI.hby5 TI.hzs5 (by decide) rfl rfl rfl rfl (fun _ h => rowP_rd h) (bs_one _) (by unfold maxLen; omega) (by omega) (fun v196 => ?_)))))))
                refine (WL_cons rfl rfl (by decide) (OpT_call 900 [0, 400, 500, 600, 601, 701, 702, 800, 801] [] rfl Try.call21 rfl rfl rfl (by decide) (by decide) (parseRoot_spec _ ((rootR pl 7 (l.getD 0 []) raw) ++ [0]) (by rw [List.length_append]; show _ + 1 ≤ _; omega) _ (rd_star 3 rfl (fun h hp => rdP_cast (rowP_rd hp) (bs_append (rootR pl 7 (l.getD 0 []) raw) [0]).symm (by simp)))) (fun v197 Ps197 hR197 => ?_)))
                obtain ⟨pv, tv, rfl, rfl⟩ := hR197
                refine WL_fact (r := 900) rfl (fun h hp => rd_one (rowB_rd h hp)) (fun hop => WL_fact (r := 901) rfl (fun h hp => rd_one (rowB_rd h hp)) (fun hot => ?_))
                have htp := pRoot_top ((rootR pl 7 (l.getD 0 []) raw) ++ [0])
                refine (WL_pure rfl rfl (by decide) (Pu_move rfl rfl) (WL_pure rfl rfl (by decide) (Pu_extract rfl rfl rfl) (WL_pure rfl rfl (by decide) (Pu_extract rfl rfl rfl) (WL_cons rfl rfl (by decide) (OpT_alloc (r := 901) rfl (zero_run (by kernel_rfl : (Try.prog.info? 56).bind (·.zero) = some (.agg (rootC (.slice none 0 0) 0 zeroId (.slice none 0 0)).toArray))) rfl (fun g901 => (WL_cons0 rfl rfl (OpT_storeAll (r := 901) rfl Try.sizeOf56 rfl rfl rfl rfl (rootC_length htp) (one_root hop hot) ?_))))))))
                refine (WL_pure rfl rfl (by decide) (Pu_assign rfl rfl) (WL_nil (X_then ?_)))
                refine W_seq ?_
                refine W.pre (K' := [(11, _), (13, _), (15, _), (23, _), (27, _), (29, _), (31, _), (162, _)]) (L' := [(0, _), (400, _), (500, _), (600, _), (601, _), (701, _), (702, _), (800, _), (801, _), (900, _), (901, _)]) ?_ ⟨rfl, ⟨rfl, ⟨rfl, ⟨rfl, ⟨rfl, ⟨rfl, ⟨rfl, ⟨rfl, trivial⟩⟩⟩⟩⟩⟩⟩⟩ ⟨rfl, ⟨rfl, ⟨rfl, ⟨rfl, ⟨rfl, ⟨rfl, ⟨rfl, ⟨rfl, ⟨rfl, ⟨rfl, ⟨rfl, trivial⟩⟩⟩⟩⟩⟩⟩⟩⟩⟩⟩
                refine W_regL (WL_pure rfl rfl (by decide) (Pu_move rfl rfl) (WL_pure rfl rfl (by decide) (Pu_bin rfl rfl rfl (run_eql _ _ _ _ _ _)) (WL_pure rfl rfl (by decide) (Pu_move rfl rfl) (WL_guardP rfl rfl rfl rfl (by decide) (fun hb => (Pu_move rfl rfl)) (WL_guardP rfl rfl rfl rfl (by decide) (fun hb => (Pu_bin rfl (ev_gv rfl hb) rfl (run_eql _ _ _ _ _ _))) (WL_pure rfl rfl (by decide) (Pu_and rfl rfl rfl) (WL_pure rfl rfl (by decide) (Pu_move rfl rfl) (WL_guardP rfl rfl rfl rfl (by decide) (fun hb => (Pu_move rfl rfl)) (WL_guardP rfl rfl rfl rfl (by decide) (fun hb => (Pu_bin rfl (ev_gv rfl hb) rfl (run_eql _ _ _ _ _ _))) (WL_pure rfl rfl (by decide) (Pu_and rfl rfl rfl) (WL_pure rfl rfl (by decide) (Pu_assign rfl rfl) (WL_nil (X_then ?_)))))))))))))
                refine W_ret ?_
                exact X_ret [] (Ps := []) (res1 Try.results6 rfl) rfl (by decide) (bool_val (by rw [longI hlI hpI, longN hpN, longR hpR]; rfl))
        exact AHs_nil

theorem blobCuts_any (W : World) (a0 : Int) (lo0 : -9223372036854775808 ≤ a0) (hi0 : a0 ≤ 9223372036854775807) (v1 : Value) (l1 : List (List UInt8)) (hr1 : Rd W 32 v1 l1.length (idsC l1)) (hz1 : Ids l1) (hl1 : l1.length ≤ maxLen) (pl : List UInt8) (hpl : pl.length = 56) (v3 : Value) (l3 : List UInt8) (hr3 : RdB W v3 l3) (hl3 : l3.length ≤ maxLen) :
    Calls Try.prog 6 #[.int .i64 a0, v1, .agg (bs pl).toArray, v3] W fun e W' => e = .returned (.bool true) ∧ Chg [] W W' := calls_law (blobCuts_law W a0 v1 l1 hr1 hz1 pl hpl v3 l3 hr3)

section
open Go.Deep
variable {H : Type} {enc : TypeId × Value → H} {w : World} {base b0 : Nat} {spare : Nat → Bool} {held : Bool} {r : Reach} {v : Value} {d : DataW H} {ps : List MemPlace}
theorem op_b56 (hv : Value.okWide Try.prog w r b0 53 v) (h : DataW.Trod enc Try.prog w base spare held 53 v d ps) : ∃ l : List UInt8, v = .agg (bs l).toArray ∧ l.length = 56 := by
  obtain ⟨cs, rfl, hc⟩ := op_array Try.underlying53 hv h
  obtain ⟨l, rfl, hl⟩ := hc.bytes Try.underlying53 Try.underlying5 (by kernel_rfl) (by kernel_rfl)
  exact ⟨l, rfl, hl⟩
end
end Go.Proofs.Ytnhidehpacidnaa
