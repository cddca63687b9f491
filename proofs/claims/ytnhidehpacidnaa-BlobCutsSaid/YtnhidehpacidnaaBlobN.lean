/- Blocks: the law of inodes. -/
import Derived.Test.YtnhidehpacidnaaBlobM
import Derived.Test.YtnhidehpacidnaaOpen2
import Derived.Test.YtnhidehpacidnaaBlobD
import Derived.Test.YtnhidehpacidnaaBlob4
namespace Go.Proofs.Ytnhidehpacidnaa
open Go.RowKit
set_option linter.unusedVariables false

theorem blobInodes_law (Wo : World) (k s l : Int) (top : List UInt8) (ht : top.length = 32) (how : Int) (vat : Value) (at_ : List Int) (hrat : Rd Wo 1 vat at_.length (is at_)) (vby : Value) (by_ : List UInt8) (hrby : RdB Wo vby by_) (cut : Int) (hcut : -9223372036854775808 ≤ cut ∧ cut ≤ 9223372036854775807) (vr : Value) (raw : List UInt8) (hrr : RdB Wo vr raw) :
    CallsS Try.prog 5 #[nodeV k s l top, .int .i64 how, vat, vby, .int .i64 cut, vr] (orig Wo) [] (fun v Ps => v = .bool true) := by
  refine callsS_enter Try.func5 rfl Try.ntmps5 (by simp) (fun E => ?_)
  refine W_seq ?_
  refine W.pre (K' := [(0, _), (1, _), (2, _), (3, _), (4, _), (5, _)]) (L' := [(0, _)]) ?_ ⟨rfl, ⟨rfl, ⟨rfl, ⟨rfl, ⟨rfl, ⟨rfl, trivial⟩⟩⟩⟩⟩⟩ ⟨rfl, trivial⟩
  refine W_regL (WL_cons rfl rfl (by decide) (OpT_box (r := 101) rfl rfl rfl (fun g101 => (WL_pure rfl rfl (by decide) (Pu_assign rfl rfl) (WL_nil (X_then ?_))))))
  refine W_seq ?_
  refine W_seq ?_
  refine W.pre (K' := [(0, _), (1, _), (2, _), (3, _), (4, _), (5, _), (6, _), (12, _)]) (L' := [(0, _), (101, _)]) ?_ ⟨rfl, ⟨rfl, ⟨rfl, ⟨rfl, ⟨rfl, ⟨rfl, ⟨rfl, ⟨rfl, trivial⟩⟩⟩⟩⟩⟩⟩⟩ ⟨rfl, ⟨rfl, trivial⟩⟩
  refine W_regL (WL_cons rfl rfl (by decide) (OpT_call 200 [0, 101] [] rfl Try.call7 rfl rfl rfl (by decide) (by decide) (known_spec _) (fun v23 Ps23 hR23 => ?_)))
  obtain ⟨rfl, rfl⟩ := hR23
  refine (WL_pure rfl rfl (by decide) (Pu_un rfl rfl (run_not _)) (WL_nil (X_then ?_)))
  refine W_false rfl (rfl) ?_
  refine W_skip (X_then ?_)
  refine W_seq ?_
  refine W_seq ?_
  refine W.pre (K' := [(0, _), (1, _), (2, _), (3, _), (4, _), (5, _), (6, _), (12, _), (24, _)]) (L' := [(0, _), (101, _)]) ?_ ⟨rfl, ⟨rfl, ⟨rfl, ⟨rfl, ⟨rfl, ⟨rfl, ⟨rfl, ⟨rfl, ⟨rfl, trivial⟩⟩⟩⟩⟩⟩⟩⟩⟩ ⟨rfl, ⟨rfl, trivial⟩⟩
  refine W_regL (WL_pure rfl rfl (by decide) (Pu_move rfl rfl) (WL_pure rfl rfl (by decide) (Pu_len (r := 0) rfl Try.runUnderlying28 rfl rfl (fun h hp => Rd.orig hrr h hp)) (WL_pure rfl rfl (by decide) (Pu_bin rfl rfl rfl (run_gtr _ _ _ _ _ _)) (WL_nil (X_then ?_)))))
  refine W_cond rfl (fun hc27 => ?_) (fun hc27 => ?_)
  ·
    refine W_seq ?_
    refine W.pre (K' := [(0, _), (1, _), (2, _), (3, _), (4, _), (5, _), (6, _), (12, _), (24, _), (27, _)]) (L' := [(0, _), (101, _)]) ?_ ⟨rfl, ⟨rfl, ⟨rfl, ⟨rfl, ⟨rfl, ⟨rfl, ⟨rfl, ⟨rfl, ⟨rfl, ⟨rfl, trivial⟩⟩⟩⟩⟩⟩⟩⟩⟩⟩ ⟨rfl, ⟨rfl, trivial⟩⟩
    refine W_regL (WL_pure rfl rfl (by decide) (Pu_assign rfl rfl) (WL_nil (X_then ?_)))
    refine W_ret (X_then_ret ?_)
    exact X_ret [] (Ps := []) (res1 Try.results5 rfl) rfl (by decide) rfl
  ·
    have hsz : raw.length ≤ 200 := by have := of_decide_eq_false hc27; omega
    refine W_skip (X_then ?_)
    refine W_seq ?_
    refine W.pre (K' := [(0, _), (1, _), (2, _), (3, _), (4, _), (5, _), (6, _), (12, _), (24, _), (27, _)]) (L' := [(0, _), (101, _)]) ?_ ⟨rfl, ⟨rfl, ⟨rfl, ⟨rfl, ⟨rfl, ⟨rfl, ⟨rfl, ⟨rfl, ⟨rfl, ⟨rfl, trivial⟩⟩⟩⟩⟩⟩⟩⟩⟩⟩ ⟨rfl, ⟨rfl, trivial⟩⟩
    refine W_regL (WL_pure rfl rfl (by decide) (Pu_loadBN (r := 101) rfl Try.isAgg27 Try.sizeOf27 rfl rfl (nodeC_length ht) (load_all (nodeC_length ht))) (WL_pure rfl rfl (by decide) (Pu_move rfl rfl) (WL_cons rfl rfl (by decide) (OpT_call 300 [0, 101] [] rfl Try.call16 rfl rfl rfl (by decide) (by decide) (nodeM_spec k s l top ht how _) (fun v30 Ps30 hR30 => ?_)))))
    obtain ⟨rfl, rfl⟩ := hR30
    obtain ⟨k1, s1, l1, t1, hM⟩ : ∃ a b c d, nodeM k s l top how = (a, b, c, d) := ⟨_, _, _, _, rfl⟩
    have ht1 : t1.length = 32 := by have := nodeM_top (k := k) (s := s) (l := l) how ht; rw [hM] at this; exact this
    simp only [hM]
    have hRl := inodeR_le k1 s1 l1 t1 ht1
    refine (WL_cons0 rfl rfl (OpT_storeAll (r := 101) rfl Try.sizeOf27 rfl rfl rfl (nodeC_length ht) (nodeC_length ht1) (one_node _ _ _ _) ?_))
    refine (WL_nil (X_then ?_))
    refine W_seq ?_
    refine W.pre (K' := [(0, _), (1, _), (2, _), (3, _), (4, _), (5, _), (6, _), (12, _), (24, _), (27, _)]) (L' := [(0, _), (101, _)]) ?_ ⟨rfl, ⟨rfl, ⟨rfl, ⟨rfl, ⟨rfl, ⟨rfl, ⟨rfl, ⟨rfl, ⟨rfl, ⟨rfl, trivial⟩⟩⟩⟩⟩⟩⟩⟩⟩⟩ ⟨rfl, ⟨rfl, trivial⟩⟩
    refine W_regL (WL_pure rfl rfl (by decide) (Pu_loadBN (r := 101) rfl Try.isAgg27 Try.sizeOf27 rfl rfl (nodeC_length ht1) (load_all (nodeC_length ht1))) (WL_cons rfl rfl (by decide) (OpT_call 400 [0, 101] [] rfl Try.call9 rfl rfl rfl (by decide) (by decide) (inode_spec _ _ _ _ ht1 _) (fun v33 Ps33 hR33 => ?_))))
    obtain ⟨va, rfl, rfl⟩ := hR33
    refine (WL_pure rfl rfl (by decide) (Pu_move rfl rfl) (WL_pure rfl rfl (by decide) (Pu_extract rfl rfl rfl) (WL_pure rfl rfl (by decide) (Pu_extract rfl rfl rfl) (WL_pure rfl rfl (by decide) (Pu_assign rfl rfl) (WL_pure rfl rfl (by decide) (Pu_assign rfl rfl) (WL_nil (X_then ?_)))))))
    refine W_seq ?_
    refine W.pre (K' := [(0, _), (1, _), (2, _), (3, _), (4, _), (5, _), (6, _), (12, _), (13, _), (14, _), (24, _), (27, _)]) (L' := [(0, _), (101, _), (400, _)]) ?_ ⟨rfl, ⟨rfl, ⟨rfl, ⟨rfl, ⟨rfl, ⟨rfl, ⟨rfl, ⟨rfl, ⟨rfl, ⟨rfl, ⟨rfl, ⟨rfl, trivial⟩⟩⟩⟩⟩⟩⟩⟩⟩⟩⟩⟩ ⟨rfl, ⟨rfl, ⟨rfl, trivial⟩⟩⟩
    refine W_regL (WL_pure rfl rfl (by decide) (Pu_loadBN (r := 101) rfl Try.isAgg27 Try.sizeOf27 rfl rfl (nodeC_length ht1) (load_all (nodeC_length ht1))) (WL_cons rfl rfl (by decide) (OpT_call 500 [0, 101, 400] [] rfl Try.call17 rfl rfl rfl (by decide) (by decide) (refInode_spec _ _ _ _ ht1 _) (fun v38 Ps38 hR38 => ?_))))
    obtain ⟨vb, rfl, rfl⟩ := hR38
    refine (WL_pure rfl rfl (by decide) (Pu_move rfl rfl) (WL_pure rfl rfl (by decide) (Pu_extract rfl rfl rfl) (WL_pure rfl rfl (by decide) (Pu_extract rfl rfl rfl) (WL_pure rfl rfl (by decide) (Pu_assign rfl rfl) (WL_pure rfl rfl (by decide) (Pu_assign rfl rfl) (WL_nil (X_then ?_)))))))
    refine W_seq ?_
    refine W_seq ?_
    refine W.pre (K' := [(0, _), (1, _), (2, _), (3, _), (4, _), (5, _), (6, _), (12, _), (13, _), (14, _), (15, _), (16, _), (24, _), (27, _)]) (L' := [(0, _), (101, _), (400, _), (500, _)]) ?_ ⟨rfl, ⟨rfl, ⟨rfl, ⟨rfl, ⟨rfl, ⟨rfl, ⟨rfl, ⟨rfl, ⟨rfl, ⟨rfl, ⟨rfl, ⟨rfl, ⟨rfl, ⟨rfl, trivial⟩⟩⟩⟩⟩⟩⟩⟩⟩⟩⟩⟩⟩⟩ ⟨rfl, ⟨rfl, ⟨rfl, ⟨rfl, trivial⟩⟩⟩⟩
    refine W_regL (WL_pure rfl rfl (by decide) (Pu_move rfl rfl) (WL_pure rfl rfl (by decide) (Pu_convBS (r := 400) rfl Try.underlying28 Try.underlying5 Try.underlying9 rfl rfl rowB_rd) (WL_pure rfl rfl (by decide) (Pu_move rfl rfl) (WL_pure rfl rfl (by decide) (Pu_convBS (r := 500) rfl Try.underlying28 Try.underlying5 Try.underlying9 rfl rfl rowB_rd) (WL_pure rfl rfl (by decide) (Pu_bin rfl rfl rfl (run_strNe _ _ _ _ _)) (WL_pure rfl rfl (by decide) (Pu_move rfl rfl) (WL_guardP rfl rfl rfl rfl (by decide) (fun hb => (Pu_move rfl rfl)) (WL_guardP rfl rfl rfl rfl (by decide) (fun hb => (Pu_move rfl rfl)) (WL_guardP rfl rfl rfl rfl (by decide) (fun hb => (Pu_bin rfl (ev_gv rfl hb) (ev_gv rfl hb) (run_neq _ _ _ _ _ _))) (WL_pure rfl rfl (by decide) (Pu_or rfl rfl rfl) (WL_nil (X_then ?_))))))))))))
    refine W_false rfl (by simp) ?_
    refine W_skip (X_then ?_)
    refine W_seq ?_
    refine W.pre (K' := [(0, _), (1, _), (2, _), (3, _), (4, _), (5, _), (6, _), (12, _), (13, _), (14, _), (15, _), (16, _), (24, _), (27, _), (50, _)]) (L' := [(0, _), (101, _), (400, _), (500, _)]) ?_ ⟨rfl, ⟨rfl, ⟨rfl, ⟨rfl, ⟨rfl, ⟨rfl, ⟨rfl, ⟨rfl, ⟨rfl, ⟨rfl, ⟨rfl, ⟨rfl, ⟨rfl, ⟨rfl, ⟨rfl, trivial⟩⟩⟩⟩⟩⟩⟩⟩⟩⟩⟩⟩⟩⟩⟩ ⟨rfl, ⟨rfl, ⟨rfl, ⟨rfl, trivial⟩⟩⟩⟩
    refine W_regL (WL_pure rfl rfl (by decide) (Pu_move rfl rfl) (WL_pure rfl rfl (by decide) (Pu_move rfl rfl) (WL_pure rfl rfl (by decide) (Pu_move rfl rfl) (WL_pure rfl rfl (by decide) (Pu_move rfl rfl) (WL_pure rfl rfl (by decide) (Pu_move rfl rfl) (WL_cons rfl rfl (by decide) (OpT_call 600 [0, 101, 400, 500] [] rfl Try.call12 rfl rfl rfl (by decide) (by decide) (bend_spec _ _ _ _ (inodeR k1 s1 l1 t1) at_ by_ cut raw _ (rd_star 3 rfl rowB_rd) (rd_star 0 rfl (fun h hp => Rd.orig hrat h hp)) (rd_star 0 rfl (fun h hp => Rd.orig hrby h hp)) (rd_star 0 rfl (fun h hp => Rd.orig hrr h hp)) (by omega) (by omega) hcut) (fun v56 Ps56 hR56 => ?_))))))))
    obtain ⟨vx, vy, PX, rfl, hPX⟩ := hR56
    refine (WL_pure rfl rfl (by decide) (Pu_assign rfl rfl) (WL_nil (X_then ?_)))
    refine W_seq ?_
    refine W_seq ?_
    refine W.pre (K' := [(0, _), (1, _), (2, _), (3, _), (4, _), (5, _), (6, _), (12, _), (13, _), (14, _), (15, _), (16, _), (17, _), (24, _), (27, _), (50, _)]) (L' := [(0, _), (101, _), (400, _), (500, _), (600, _), (601, _), (602, _)]) ?_ ⟨rfl, ⟨rfl, ⟨rfl, ⟨rfl, ⟨rfl, ⟨rfl, ⟨rfl, ⟨rfl, ⟨rfl, ⟨rfl, ⟨rfl, ⟨rfl, ⟨rfl, ⟨rfl, ⟨rfl, ⟨rfl, trivial⟩⟩⟩⟩⟩⟩⟩⟩⟩⟩⟩⟩⟩⟩⟩⟩ ⟨rfl, ⟨rfl, ⟨rfl, ⟨rfl, ⟨rfl, ⟨rfl, ⟨rfl, trivial⟩⟩⟩⟩⟩⟩⟩
    refine W_regL (WL_pure rfl rfl (by decide) (Pu_assign rfl rfl) (WL_nil (X_then ?_)))
    refine W_block ?_
    refine W_packC [0, 400, 500, 600, 601, 602] [101] rfl rfl (by decide) (fun G hG => ?_)
    have hG1 : ∀ h, G h → rdP 1 v56 4 [vx, vy, vr, vb] h := hG.rd 3 rfl (fun _ h => rowP_rd h)
    have hGo := hG.orig 0 rfl
    have hG2 : ∀ i, i < 4 → ∀ h, G h → rdB ([vx, vy, vr, vb].getD i undef) ([bentX (inodeR k1 s1 l1 t1) at_ by_ cut, bentX (inodeR k1 s1 l1 t1) at_ by_ cut ++ raw, raw, inodeR k1 s1 l1 t1].getD i []) h := by
      intro i hi
      have : i = 0 ∨ i = 1 ∨ i = 2 ∨ i = 3 := by omega
      rcases this with rfl | rfl | rfl | rfl
      · exact hG.rd 4 rfl hPX
      · exact hG.rd 5 rfl rowB_rd
      · exact fun h hg => Rd.orig hrr h (hGo h hg)
      · exact hG.rd 2 rfl rowB_rd
    refine W_loop (α := Nat) (fun i => [(6, .pointer (some ⟨g101, 0, none⟩)), (14, .int .i64 (wrongN k1 s1 l1 t1)), (17, v56), (18, .int .i64 (i : Int))]) (fun i => [(0, G), (1, blk g101 27 (nodeC k1 s1 l1 t1))]) (fun i => i ≤ 4) (fun i => 4 - i) (0) (by omega) ⟨rfl, ⟨rfl, ⟨rfl, ⟨rfl, trivial⟩⟩⟩⟩ ⟨rfl, ⟨rfl, trivial⟩⟩ (fun x hx => ?_)
    refine W_seq ?_
    refine W_seq ?_
    refine W.pre (K' := [(6, _), (14, _), (17, _), (18, _)]) (L' := [(0, _), (1, _)]) ?_ ⟨rfl, ⟨rfl, ⟨rfl, ⟨rfl, trivial⟩⟩⟩⟩ ⟨rfl, ⟨rfl, trivial⟩⟩
    refine W_regL (WL_pure rfl rfl (by decide) (Pu_move rfl rfl) (WL_pure rfl rfl (by decide) (Pu_move rfl rfl) (WL_pure rfl rfl (by decide) (Pu_len (r := 0) rfl Try.runUnderlying38 rfl rfl hG1) (WL_pure rfl rfl (by decide) (Pu_bin rfl rfl rfl (run_lss _ _ _ _ _ _)) (WL_nil (X_then ?_))))))
    refine W_cond rfl (fun hc60 => ?_) (fun hc60 => ?_)
    ·
      have hlt : x < 4 := by have := of_decide_eq_true hc60; omega
      refine W_skip (X_then ?_)
      refine W_seq ?_
      refine W_block ?_
      refine W_seq ?_
      refine W.pre (K' := [(6, _), (14, _), (17, _), (18, _), (60, _)]) (L' := [(0, _), (1, _)]) ?_ ⟨rfl, ⟨rfl, ⟨rfl, ⟨rfl, ⟨rfl, trivial⟩⟩⟩⟩⟩ ⟨rfl, ⟨rfl, trivial⟩⟩
      refine W_regL (WL_pure rfl rfl (by decide) (Pu_move rfl rfl) (WL_pure rfl rfl (by decide) (Pu_move rfl rfl) (WL_pure rfl rfl (by decide) (Pu_idxS1 (r := 0) rfl Try.runUnderlying38 Try.sizeOf28 rfl rfl rfl hG1 (by omega)) (WL_pure rfl rfl (by decide) (Pu_loadS (r := 0) rfl Try.isAgg28 rfl rfl hG1 (four_at (k := x) hlt)) (WL_cons rfl rfl (by decide) (OpT_call 700 [0, 1] [] rfl Try.call18 rfl rfl rfl (by decide) (by decide) (parseInode_spec _ ([bentX (inodeR k1 s1 l1 t1) at_ by_ cut, bentX (inodeR k1 s1 l1 t1) at_ by_ cut ++ raw, raw, inodeR k1 s1 l1 t1].getD x []) _ (rd_star 0 rfl (hG2 x hlt))) (fun v68 Ps68 hR68 => ?_)))))))
      obtain ⟨rfl, rfl⟩ := hR68
      refine (WL_pure rfl rfl (by decide) (Pu_move rfl rfl) (WL_pure rfl rfl (by decide) (Pu_extract rfl rfl rfl) (WL_pure rfl rfl (by decide) (Pu_extract rfl rfl rfl) (WL_cons rfl rfl (by decide) (OpT_alloc (r := 701) rfl (zero_run (by kernel_rfl : (Try.prog.info? 27).bind (·.zero) = some (.agg (nodeC 0 0 0 zeroId).toArray))) rfl (fun g701 => (WL_cons0 rfl rfl (OpT_storeAll (r := 701) rfl Try.sizeOf27 rfl rfl rfl rfl (nodeC_length (parseI_top ([bentX (inodeR k1 s1 l1 t1) at_ by_ cut, bentX (inodeR k1 s1 l1 t1) at_ by_ cut ++ raw, raw, inodeR k1 s1 l1 t1].getD x []))) (one_node _ _ _ _) ?_))))))))
      refine (WL_pure rfl rfl (by decide) (Pu_assign rfl rfl) (WL_nil (X_then ?_)))
      refine W_seq ?_
      refine W.pre (K' := [(6, _), (14, _), (17, _), (18, _), (19, _), (20, _), (60, _)]) (L' := [(0, _), (1, _), (701, _)]) ?_ ⟨rfl, ⟨rfl, ⟨rfl, ⟨rfl, ⟨rfl, ⟨rfl, ⟨rfl, trivial⟩⟩⟩⟩⟩⟩⟩ ⟨rfl, ⟨rfl, ⟨rfl, trivial⟩⟩⟩
      refine W_regL (WL_pure rfl rfl (by decide) (Pu_move rfl rfl) (WL_pure rfl rfl (by decide) (Pu_move rfl rfl) (WL_pure rfl rfl (by decide) (Pu_idxS1 (r := 0) rfl Try.runUnderlying38 Try.sizeOf28 rfl rfl rfl hG1 (by omega)) (WL_pure rfl rfl (by decide) (Pu_loadS (r := 0) rfl Try.isAgg28 rfl rfl hG1 (four_at (k := x) hlt)) (WL_cons rfl rfl (by decide) (OpT_call 800 [0, 1, 701] [] rfl Try.call19 rfl rfl rfl (by decide) (by decide) (refParseInode_spec _ ([bentX (inodeR k1 s1 l1 t1) at_ by_ cut, bentX (inodeR k1 s1 l1 t1) at_ by_ cut ++ raw, raw, inodeR k1 s1 l1 t1].getD x []) _ (rd_star 0 rfl (hG2 x hlt))) (fun v76 Ps76 hR76 => ?_)))))))
      obtain ⟨rfl, rfl⟩ := hR76
      refine (WL_pure rfl rfl (by decide) (Pu_move rfl rfl) (WL_pure rfl rfl (by decide) (Pu_extract rfl rfl rfl) (WL_pure rfl rfl (by decide) (Pu_extract rfl rfl rfl) (WL_cons rfl rfl (by decide) (OpT_alloc (r := 801) rfl (zero_run (by kernel_rfl : (Try.prog.info? 27).bind (·.zero) = some (.agg (nodeC 0 0 0 zeroId).toArray))) rfl (fun g801 => (WL_cons0 rfl rfl (OpT_storeAll (r := 801) rfl Try.sizeOf27 rfl rfl rfl rfl (nodeC_length (parseI_top ([bentX (inodeR k1 s1 l1 t1) at_ by_ cut, bentX (inodeR k1 s1 l1 t1) at_ by_ cut ++ raw, raw, inodeR k1 s1 l1 t1].getD x []))) (one_node _ _ _ _) ?_))))))))
      refine (WL_pure rfl rfl (by decide) (Pu_assign rfl rfl) (WL_nil (X_then ?_)))
      refine W_seq ?_
      refine W.pre (K' := [(6, _), (14, _), (17, _), (18, _), (19, _), (20, _), (21, _), (22, _), (60, _)]) (L' := [(0, _), (1, _), (701, _), (801, _)]) ?_ ⟨rfl, ⟨rfl, ⟨rfl, ⟨rfl, ⟨rfl, ⟨rfl, ⟨rfl, ⟨rfl, ⟨rfl, trivial⟩⟩⟩⟩⟩⟩⟩⟩⟩ ⟨rfl, ⟨rfl, ⟨rfl, ⟨rfl, trivial⟩⟩⟩⟩
      refine W_regL (WL_pure rfl rfl (by decide) (Pu_loadBN (r := 701) rfl Try.isAgg27 Try.sizeOf27 rfl rfl (nodeC_length (parseI_top ([bentX (inodeR k1 s1 l1 t1) at_ by_ cut, bentX (inodeR k1 s1 l1 t1) at_ by_ cut ++ raw, raw, inodeR k1 s1 l1 t1].getD x []))) (load_all (nodeC_length (parseI_top ([bentX (inodeR k1 s1 l1 t1) at_ by_ cut, bentX (inodeR k1 s1 l1 t1) at_ by_ cut ++ raw, raw, inodeR k1 s1 l1 t1].getD x []))))) (WL_pure rfl rfl (by decide) (Pu_loadBN (r := 801) rfl Try.isAgg27 Try.sizeOf27 rfl rfl (nodeC_length (parseI_top ([bentX (inodeR k1 s1 l1 t1) at_ by_ cut, bentX (inodeR k1 s1 l1 t1) at_ by_ cut ++ raw, raw, inodeR k1 s1 l1 t1].getD x []))) (load_all (nodeC_length (parseI_top ([bentX (inodeR k1 s1 l1 t1) at_ by_ cut, bentX (inodeR k1 s1 l1 t1) at_ by_ cut ++ raw, raw, inodeR k1 s1 l1 t1].getD x []))))) (WL_pure rfl rfl (by decide) (Pu_bin rfl rfl rfl (run_nodeNe _ _ _ _ _ _ _ _ (parseI_top ([bentX (inodeR k1 s1 l1 t1) at_ by_ cut, bentX (inodeR k1 s1 l1 t1) at_ by_ cut ++ raw, raw, inodeR k1 s1 l1 t1].getD x [])) (parseI_top ([bentX (inodeR k1 s1 l1 t1) at_ by_ cut, bentX (inodeR k1 s1 l1 t1) at_ by_ cut ++ raw, raw, inodeR k1 s1 l1 t1].getD x [])) _ _)) (WL_pure rfl rfl (by decide) (Pu_move rfl rfl) (WL_guardP rfl rfl rfl rfl (by decide) (fun hb => (Pu_move rfl rfl)) (WL_guardP rfl rfl rfl rfl (by decide) (fun hb => (Pu_move rfl rfl)) (WL_guardP rfl rfl rfl rfl (by decide) (fun hb => (Pu_bin rfl (ev_gv rfl hb) (ev_gv rfl hb) (run_neq _ _ _ _ _ _))) (WL_pure rfl rfl (by decide) (Pu_or rfl rfl rfl) (WL_pure rfl rfl (by decide) (Pu_move rfl rfl) (WL_guardP rfl rfl rfl rfl (by decide) (fun hb => (Pu_move rfl rfl)) (WL_guardP rfl rfl rfl rfl (by decide) (fun hb => (Pu_bin rfl (ev_gv rfl hb) rfl (run_eql _ _ _ _ _ _))) (WL_guardP rfl rfl rfl rfl (by decide) (fun hb => (Pu_move rfl (ev_gv rfl hb))) (WL_guardP2 rfl rfl rfl rfl (by decide) (fun hb => (Pu_move rfl rfl)) (WL_guardP2 rfl rfl rfl rfl (by decide) (fun hb => (Pu_bin rfl (ev_gv rfl hb) rfl (run_eql _ _ _ _ _ _))) (WL_guardP rfl rfl rfl rfl (by decide) (fun hb => (Pu_and2 hb rfl (ev_gv rfl hb) rfl)) (WL_guardP rfl rfl rfl rfl (by decide) (fun hb => (Pu_move rfl (ev_gv rfl hb))) (WL_guardP2 rfl rfl rfl rfl (by decide) (fun hb => (Pu_loadBN (r := 701) rfl Try.isAgg27 Try.sizeOf27 rfl rfl (nodeC_length (parseI_top ([bentX (inodeR k1 s1 l1 t1) at_ by_ cut, bentX (inodeR k1 s1 l1 t1) at_ by_ cut ++ raw, raw, inodeR k1 s1 l1 t1].getD x []))) (load_all (nodeC_length (parseI_top ([bentX (inodeR k1 s1 l1 t1) at_ by_ cut, bentX (inodeR k1 s1 l1 t1) at_ by_ cut ++ raw, raw, inodeR k1 s1 l1 t1].getD x [])))))) (WL_guardP2 rfl rfl rfl rfl (by decide) (fun hb => (Pu_loadBN (r := 1) rfl Try.isAgg27 Try.sizeOf27 rfl rfl (nodeC_length ht1) (load_all (nodeC_length ht1)))) (WL_guardP2 rfl rfl rfl rfl (by decide) (fun hb => (Pu_bin rfl (ev_gv rfl hb) (ev_gv rfl hb) (run_nodeNe _ _ _ _ _ _ _ _ (parseI_top ([bentX (inodeR k1 s1 l1 t1) at_ by_ cut, bentX (inodeR k1 s1 l1 t1) at_ by_ cut ++ raw, raw, inodeR k1 s1 l1 t1].getD x [])) ht1 _ _))) (WL_guardP rfl rfl rfl rfl (by decide) (fun hb => (Pu_and2 hb rfl (ev_gv rfl hb) rfl)) (WL_pure rfl rfl (by decide) (Pu_or rfl rfl rfl) (WL_nil (X_then ?_)))))))))))))))))))))))
      refine W_false rfl (nodes_end ht1 (rows := [bentX (inodeR k1 s1 l1 t1) at_ by_ cut, bentX (inodeR k1 s1 l1 t1) at_ by_ cut ++ raw, raw, inodeR k1 s1 l1 t1]) rfl rfl _ rfl) ?_
      refine W_skip (X_block (X_then ?_))
      refine W.pre (K' := [(6, _), (14, _), (17, _), (18, _), (19, _), (20, _), (21, _), (22, _), (60, _), (99, _)]) (L' := [(0, _), (1, _), (701, _), (801, _)]) ?_ ⟨rfl, ⟨rfl, ⟨rfl, ⟨rfl, ⟨rfl, ⟨rfl, ⟨rfl, ⟨rfl, ⟨rfl, ⟨rfl, trivial⟩⟩⟩⟩⟩⟩⟩⟩⟩⟩ ⟨rfl, ⟨rfl, ⟨rfl, ⟨rfl, trivial⟩⟩⟩⟩
      refine W_regL (WL_pure rfl rfl (by decide) (Pu_move rfl rfl) (WL_pure rfl rfl (by decide) (Pu_bin rfl rfl rfl (run_add _ _ _ _ _ (by omega))) (WL_pure rfl rfl (by decide) (Pu_assign rfl rfl) (WL_nil ?_))))
      exact X_round (x + 1) (by omega) (by omega) ⟨rfl, rfl, rfl, rfl, trivial⟩ ⟨rfl, rfl, trivial⟩
    ·
      refine W_exit (X_then_exit (X_then_exit (X_block_exit (X_then ?_))))
      refine W_seq ?_
      refine W.pre (K' := [(6, _), (14, _), (17, _), (18, _), (60, _)]) (L' := [(0, _), (1, _)]) ?_ ⟨rfl, ⟨rfl, ⟨rfl, ⟨rfl, ⟨rfl, trivial⟩⟩⟩⟩⟩ ⟨rfl, ⟨rfl, trivial⟩⟩
      refine W_regL (WL_pure rfl rfl (by decide) (Pu_assign rfl rfl) (WL_nil (X_then ?_)))
      refine W_ret ?_
      refine X_turn 0 rfl hGo ?_
      exact X_ret [] (Ps := []) (res1 Try.results5 rfl) rfl (by decide) rfl

theorem blobInodes_any (W : World) (k s l : Int) (top : List UInt8) (ht : top.length = 32) (a1 : Int) (lo1 : -9223372036854775808 ≤ a1) (hi1 : a1 ≤ 9223372036854775807) (v2 : Value) (l2 : List Int) (hr2 : RdI W v2 l2) (hz2 : I64 l2) (hl2 : l2.length ≤ maxLen) (v3 : Value) (l3 : List UInt8) (hr3 : RdB W v3 l3) (hl3 : l3.length ≤ maxLen)
    (a4 : Int) (lo4 : -9223372036854775808 ≤ a4) (hi4 : a4 ≤ 9223372036854775807) (v5 : Value) (l5 : List UInt8) (hr5 : RdB W v5 l5) (hl5 : l5.length ≤ maxLen) :
    Calls Try.prog 5 #[nodeV k s l top, .int .i64 a1, v2, v3, .int .i64 a4, v5] W fun e W' => e = .returned (.bool true) ∧ Chg [] W W' := calls_law (blobInodes_law W k s l top ht a1 v2 l2 hr2 v3 l3 hr3 a4 ⟨lo4, hi4⟩ v5 l5 hr5)

section
open Go.Deep
variable {H : Type} {enc : TypeId × Value → H} {w : World} {base b0 : Nat} {spare : Nat → Bool} {held : Bool} {r : Reach} {v : Value} {d : DataW H} {ps : List MemPlace}
theorem tr_node {cs : List Value} (hc : Tr enc Try.prog w base spare held 27 cs) : ∃ (k s l : Int) (top : List UInt8), cs = nodeC k s l top ∧ top.length = 32 := by
  obtain ⟨hl, hf⟩ := hc.struct Try.underlying27
  rw [show (Try.prog).cellsOf 27 = 35 by kernel_rfl] at hl
  obtain ⟨k, hk, _, _⟩ := (hf 0 _ rfl).int Try.underlying3
  obtain ⟨s, hs, _, _⟩ := (hf 1 _ rfl).int Try.underlying3
  obtain ⟨l, hl2, _, _⟩ := (hf 2 _ rfl).int Try.underlying3
  obtain ⟨top, ht, htl⟩ := (hf 3 _ rfl).bytes Try.underlying25 Try.underlying5 (by kernel_rfl) (by kernel_rfl)
  replace hk : (cs.drop 0).take ((Try.prog).cellsOf 3) = [.int .i64 k] := hk
  replace hs : (cs.drop 1).take ((Try.prog).cellsOf 3) = [.int .i64 s] := hs
  replace hl2 : (cs.drop 2).take ((Try.prog).cellsOf 3) = [.int .i64 l] := hl2
  replace ht : (cs.drop 3).take ((Try.prog).cellsOf 25) = bs top := ht
  rw [show (Try.prog).cellsOf 3 = 1 by kernel_rfl] at hk hs hl2
  rw [show (Try.prog).cellsOf 25 = 32 by kernel_rfl, List.take_of_length_le (by rw [List.length_drop]; omega)] at ht
  refine ⟨k, s, l, top, ?_, htl⟩
  match cs, hl with
  | a :: b :: c :: rest, hl =>
    simp at hk hs hl2 ht
    rw [hk, hs, hl2, ht]
    rfl
theorem op_node (hv : Value.okWide Try.prog w r b0 27 v) (h : DataW.Trod enc Try.prog w base spare held 27 v d ps) : ∃ (k s l : Int) (top : List UInt8), v = nodeV k s l top ∧ top.length = 32 := by
  obtain ⟨cs, rfl, hc⟩ := op_struct Try.underlying27 hv h
  obtain ⟨k, s, l, top, rfl, ht⟩ := tr_node hc
  exact ⟨k, s, l, top, rfl, ht⟩
end
end Go.Proofs.Ytnhidehpacidnaa
