/- Blocks: inner blocks read by the document; rows of ids compared. -/
import Derived.Test.YtnhidehpacidnaaBlobH
import Derived.Test.YtnhidehpacidnaaBlob1
namespace Go.Proofs.Ytnhidehpacidnaa
open Go.RowKit
set_option linter.unusedVariables false

theorem refParseInner_spec (v : Value) (l : List UInt8) (F : HP) (hF : ∀ h, F h → rdB v l h) : CallsS Try.prog 14 #[v] F [] (fun r Ps => ∃ v', r = .tuple #[v', .int .i64 (parseNE l)] ∧ Ps = [rowI 25 v' (parseNL l)]) := by
  refine callsS_enter Try.func14 rfl Try.ntmps14 (by simp) (fun E => ?_)
  refine W_seq ?_
  refine W.pre (K' := [(0, _)]) (L' := [(0, _)]) ?_ ⟨rfl, trivial⟩ ⟨rfl, trivial⟩
  refine W_regL (WL_pure rfl rfl (by decide) (Pu_assign rfl rfl) (WL_pure rfl rfl (by decide) (Pu_assign rfl rfl) (WL_nil (X_then ?_))))
  refine W_seq ?_
  refine W_seq ?_
  refine W.pre (K' := [(0, _), (2, _), (3, _)]) (L' := [(0, _)]) ?_ ⟨rfl, ⟨rfl, ⟨rfl, trivial⟩⟩⟩ ⟨rfl, trivial⟩
  refine W_regL (WL_pure rfl rfl (by decide) (Pu_move rfl rfl) (WL_pure rfl rfl (by decide) (Pu_len (r := 0) rfl Try.runUnderlying28 rfl rfl hF) (WL_pure rfl rfl (by decide) (Pu_bin rfl rfl rfl (run_lss _ _ _ _ _ _)) (WL_nil (X_then ?_)))))
  refine W_cond rfl (fun hc9 => ?_) (fun hc9 => ?_)
  ·
    refine W_seq ?_
    refine W.pre (K' := [(0, _), (2, _), (3, _), (9, _)]) (L' := [(0, _)]) ?_ ⟨rfl, ⟨rfl, ⟨rfl, ⟨rfl, trivial⟩⟩⟩⟩ ⟨rfl, trivial⟩
    refine W_regL (WL_pure rfl rfl (by decide) (Pu_assign rfl rfl) (WL_pure rfl rfl (by decide) (Pu_assign rfl rfl) (WL_nil (X_then ?_))))
    refine W_ret (X_then_ret ?_)
    have hE := parseNE_cut hc9
    refine X_nilRow 9900 25 32 ?_
    exact X_ret [9900] (Ps := [_]) (res2 Try.results14 rfl rfl) rfl (by decide) ⟨_, by rw [hE], by rw [parseNL_err hE (by decide)]; rfl⟩
  ·
    have h2 : 2 ≤ l.length := by have := of_decide_eq_false hc9; omega
    have hx1 := (at0 l 1).toNat_lt
    refine W_skip (X_then ?_)
    refine W_seq ?_
    refine W.pre (K' := [(0, _), (2, _), (3, _), (9, _)]) (L' := [(0, _)]) ?_ ⟨rfl, ⟨rfl, ⟨rfl, ⟨rfl, trivial⟩⟩⟩⟩ ⟨rfl, trivial⟩
    refine W_regL (WL_pure rfl rfl (by decide) (Pu_move rfl rfl) (WL_pure rfl rfl (by decide) (Pu_idxS1 (r := 0) rfl Try.runUnderlying28 Try.sizeOf5 rfl rfl rfl hF (by omega)) (WL_pure rfl rfl (by decide) (Pu_loadS (r := 0) rfl Try.isAgg5 rfl rfl hF (bs_at1 (k := 1) (by omega))) (WL_pure rfl rfl (by decide) (Pu_conv rfl rfl (conv_u8 _ Try.runUnderlying5 Try.runUnderlying3)) (WL_pure rfl rfl (by decide) (Pu_assign rfl rfl) (WL_nil (X_then ?_)))))))
    refine W_seq ?_
    refine W_seq ?_
    refine W.pre (K' := [(0, _), (2, _), (3, _), (4, _), (9, _)]) (L' := [(0, _)]) ?_ ⟨rfl, ⟨rfl, ⟨rfl, ⟨rfl, ⟨rfl, trivial⟩⟩⟩⟩⟩ ⟨rfl, trivial⟩
    refine W_regL (WL_pure rfl rfl (by decide) (Pu_move rfl rfl) (WL_pure rfl rfl (by decide) (Pu_idxS1 (r := 0) rfl Try.runUnderlying28 Try.sizeOf5 rfl rfl rfl hF (by omega)) (WL_pure rfl rfl (by decide) (Pu_loadS (r := 0) rfl Try.isAgg5 rfl rfl hF (bs_at1 (k := 0) (by omega))) (WL_pure rfl rfl (by decide) (Pu_bin rfl rfl rfl (run_neq _ _ _ _ _ _)) (WL_pure rfl rfl (by decide) (Pu_move rfl rfl) (WL_guardP rfl rfl rfl rfl (by decide) (fun hb => (Pu_move rfl rfl)) (WL_guardP rfl rfl rfl rfl (by decide) (fun hb => (Pu_bin rfl (ev_gv rfl hb) rfl (run_lss _ _ _ _ _ _))) (WL_pure rfl rfl (by decide) (Pu_or rfl rfl rfl) (WL_pure rfl rfl (by decide) (Pu_move rfl rfl) (WL_guardP rfl rfl rfl rfl (by decide) (fun hb => (Pu_move rfl rfl)) (WL_guardP rfl rfl rfl rfl (by decide) (fun hb => (Pu_bin rfl (ev_gv rfl hb) rfl (run_gtr _ _ _ _ _ _))) (WL_pure rfl rfl (by decide) (Pu_or rfl rfl rfl) (WL_nil (X_then ?_))))))))))))))
    refine W_cond rfl (fun hc25 => ?_) (fun hc25 => ?_)
    ·
      refine W_seq ?_
      refine W.pre (K' := [(0, _), (2, _), (3, _), (4, _), (9, _), (25, _)]) (L' := [(0, _)]) ?_ ⟨rfl, ⟨rfl, ⟨rfl, ⟨rfl, ⟨rfl, ⟨rfl, trivial⟩⟩⟩⟩⟩⟩ ⟨rfl, trivial⟩
      refine W_regL (WL_pure rfl rfl (by decide) (Pu_assign rfl rfl) (WL_pure rfl rfl (by decide) (Pu_assign rfl rfl) (WL_nil (X_then ?_))))
      refine W_ret (X_then_ret ?_)
      have hE := parseNE_bad hc9 hc25
      refine X_nilRow 9900 25 32 ?_
      exact X_ret [9900] (Ps := [_]) (res2 Try.results14 rfl rfl) rfl (by decide) ⟨_, by rw [hE], by rw [parseNL_err hE (by decide)]; rfl⟩
    ·
      obtain ⟨g0, g1, g8⟩ := parseN_good hc25
      refine W_skip (X_then ?_)
      refine W_seq ?_
      refine W_seq ?_
      refine W.pre (K' := [(0, _), (2, _), (3, _), (4, _), (9, _), (25, _)]) (L' := [(0, _)]) ?_ ⟨rfl, ⟨rfl, ⟨rfl, ⟨rfl, ⟨rfl, ⟨rfl, trivial⟩⟩⟩⟩⟩⟩ ⟨rfl, trivial⟩
      refine W_regL (WL_pure rfl rfl (by decide) (Pu_move rfl rfl) (WL_pure rfl rfl (by decide) (Pu_len (r := 0) rfl Try.runUnderlying28 rfl rfl hF) (WL_pure rfl rfl (by decide) (Pu_move rfl rfl) (WL_pure rfl rfl (by decide) (Pu_bin rfl rfl rfl (run_mul _ _ _ _ _ (by omega))) (WL_pure rfl rfl (by decide) (Pu_bin rfl rfl rfl (run_add _ _ _ _ _ (by omega))) (WL_pure rfl rfl (by decide) (Pu_bin rfl rfl rfl (run_lss _ _ _ _ _ _)) (WL_nil (X_then ?_))))))))
      refine W_cond rfl (fun hc31 => ?_) (fun hc31 => ?_)
      ·
        have hlt := of_decide_eq_true hc31
        refine W_seq ?_
        refine W.pre (K' := [(0, _), (2, _), (3, _), (4, _), (9, _), (25, _), (31, _)]) (L' := [(0, _)]) ?_ ⟨rfl, ⟨rfl, ⟨rfl, ⟨rfl, ⟨rfl, ⟨rfl, ⟨rfl, trivial⟩⟩⟩⟩⟩⟩⟩ ⟨rfl, trivial⟩
        refine W_regL (WL_pure rfl rfl (by decide) (Pu_assign rfl rfl) (WL_pure rfl rfl (by decide) (Pu_assign rfl rfl) (WL_nil (X_then ?_))))
        refine W_ret (X_then_ret ?_)
        have hE := (parseNE_later hc9 hc25).trans (if_pos (by omega))
        refine X_nilRow 9900 25 32 ?_
        exact X_ret [9900] (Ps := [_]) (res2 Try.results14 rfl rfl) rfl (by decide) ⟨_, by rw [hE], by rw [parseNL_err hE (by decide)]; rfl⟩
      ·
        have hge := of_decide_eq_false hc31
        refine W_skip (X_then ?_)
        refine W_seq ?_
        refine W_seq ?_
        refine W.pre (K' := [(0, _), (2, _), (3, _), (4, _), (9, _), (25, _), (31, _)]) (L' := [(0, _)]) ?_ ⟨rfl, ⟨rfl, ⟨rfl, ⟨rfl, ⟨rfl, ⟨rfl, ⟨rfl, trivial⟩⟩⟩⟩⟩⟩⟩ ⟨rfl, trivial⟩
        refine W_regL (WL_pure rfl rfl (by decide) (Pu_move rfl rfl) (WL_pure rfl rfl (by decide) (Pu_len (r := 0) rfl Try.runUnderlying28 rfl rfl hF) (WL_pure rfl rfl (by decide) (Pu_move rfl rfl) (WL_pure rfl rfl (by decide) (Pu_bin rfl rfl rfl (run_mul _ _ _ _ _ (by omega))) (WL_pure rfl rfl (by decide) (Pu_bin rfl rfl rfl (run_add _ _ _ _ _ (by omega))) (WL_pure rfl rfl (by decide) (Pu_bin rfl rfl rfl (run_gtr _ _ _ _ _ _)) (WL_nil (X_then ?_))))))))
        refine W_cond rfl (fun hc37 => ?_) (fun hc37 => ?_)
        ·
          have hgt := of_decide_eq_true hc37
          refine W_seq ?_
          refine W.pre (K' := [(0, _), (2, _), (3, _), (4, _), (9, _), (25, _), (31, _), (37, _)]) (L' := [(0, _)]) ?_ ⟨rfl, ⟨rfl, ⟨rfl, ⟨rfl, ⟨rfl, ⟨rfl, ⟨rfl, ⟨rfl, trivial⟩⟩⟩⟩⟩⟩⟩⟩ ⟨rfl, trivial⟩
          refine W_regL (WL_pure rfl rfl (by decide) (Pu_assign rfl rfl) (WL_pure rfl rfl (by decide) (Pu_assign rfl rfl) (WL_nil (X_then ?_))))
          refine W_ret (X_then_ret ?_)
          have hE := (parseNE_later hc9 hc25).trans ((if_neg (by omega)).trans (if_pos (by omega)))
          refine X_nilRow 9900 25 32 ?_
          exact X_ret [9900] (Ps := [_]) (res2 Try.results14 rfl rfl) rfl (by decide) ⟨_, by rw [hE], by rw [parseNL_err hE (by decide)]; rfl⟩
        ·
          have hle := of_decide_eq_false hc37
          have hlen : l.length = 2 + (at0 l 1).toNat * 32 := by omega
          refine W_skip (X_then ?_)
          refine W_seq ?_
          refine W.pre (K' := [(0, _), (2, _), (3, _), (4, _), (9, _), (25, _), (31, _), (37, _)]) (L' := [(0, _)]) ?_ ⟨rfl, ⟨rfl, ⟨rfl, ⟨rfl, ⟨rfl, ⟨rfl, ⟨rfl, ⟨rfl, trivial⟩⟩⟩⟩⟩⟩⟩⟩ ⟨rfl, trivial⟩
          refine W_regL (WL_pure rfl rfl (by decide) (Pu_assign rfl rfl) (WL_nil (X_then ?_)))
          refine W_seq ?_
          refine W_seq ?_
          refine W.pre (K' := [(0, _), (2, _), (3, _), (4, _), (5, _), (9, _), (25, _), (31, _), (37, _)]) (L' := [(0, _)]) ?_ ⟨rfl, ⟨rfl, ⟨rfl, ⟨rfl, ⟨rfl, ⟨rfl, ⟨rfl, ⟨rfl, ⟨rfl, trivial⟩⟩⟩⟩⟩⟩⟩⟩⟩ ⟨rfl, trivial⟩
          refine W_regL (WL_pure rfl rfl (by decide) (Pu_assign rfl rfl) (WL_nil (X_then ?_)))
          refine W_block ?_
          refine W_nilRow 101 25 32 ?_
          refine W_loop (α := Nat × Value) (fun k => [(0, v), (4, .int .i64 ((at0 l 1).toNat : Int)), (5, k.2), (6, .int .i64 (k.1 : Int))]) (fun k => [(0, F), (101, rowI 25 k.2 (idsOf l k.1))]) (fun k => k.1 ≤ (at0 l 1).toNat) (fun k => (at0 l 1).toNat - k.1) ((0, .slice none 0 0)) (Nat.zero_le _) ⟨rfl, ⟨rfl, ⟨rfl, ⟨rfl, trivial⟩⟩⟩⟩ ⟨rfl, ⟨rfl, trivial⟩⟩ (fun x hx => ?_)
          unfold rowI
          refine W_seq ?_
          refine W_seq ?_
          refine W.pre (K' := [(0, _), (4, _), (5, _), (6, _)]) (L' := [(0, _), (101, _)]) ?_ ⟨rfl, ⟨rfl, ⟨rfl, ⟨rfl, trivial⟩⟩⟩⟩ ⟨rfl, ⟨rfl, trivial⟩⟩
          refine W_regL (WL_pure rfl rfl (by decide) (Pu_move rfl rfl) (WL_pure rfl rfl (by decide) (Pu_move rfl rfl) (WL_pure rfl rfl (by decide) (Pu_bin rfl rfl rfl (run_lss _ _ _ _ _ _)) (WL_nil (X_then ?_)))))
          refine W_cond rfl (fun hc40 => ?_) (fun hc40 => ?_)
          ·
            have hlt : x.1 < (at0 l 1).toNat := by have := of_decide_eq_true hc40; omega
            have hx32 : ((l.drop (2 + x.1 * 32)).take 32).length = 32 := by simp; omega
            refine W_skip (X_then ?_)
            refine W_seq ?_
            refine W_block ?_
            refine W.pre (K' := [(0, _), (4, _), (5, _), (6, _), (40, _)]) (L' := [(0, _), (101, _)]) ?_ ⟨rfl, ⟨rfl, ⟨rfl, ⟨rfl, ⟨rfl, trivial⟩⟩⟩⟩⟩ ⟨rfl, ⟨rfl, trivial⟩⟩
            refine W_regL (WL_pure rfl rfl (by decide) (Pu_move rfl rfl) (WL_pure rfl rfl (by decide) (Pu_move rfl rfl) (WL_pure rfl rfl (by decide) (Pu_move rfl rfl) (WL_pure rfl rfl (by decide) (Pu_bin rfl rfl rfl (run_mul _ _ _ _ _ (by omega))) (WL_pure rfl rfl (by decide) (Pu_bin rfl rfl rfl (run_add _ _ _ _ _ (by omega))) (WL_pure rfl rfl (by decide) (Pu_slice (r := 0) (a := 2 + x.1 * 32) (b := l.length) rfl Try.runUnderlying28 Try.sizeOf5 rfl rfl hF (.inr ⟨_, _, _, rfl, rfl, (by omega)⟩) (.inl ⟨rfl, rfl⟩) (by omega) (Nat.le_refl _)) (WL_cons rfl rfl (by decide) (OpT_call 200 [0, 101] [] rfl Try.call24 rfl rfl rfl (by decide) (by decide) (refId_spec _ (l.drop (2 + x.1 * 32)) _ (rd_star 0 rfl (fun h hp => rdB_tail (hF h hp) (by omega))) (by simp; omega)) (fun v49 Ps49 hR49 => ?_)))))))))
            obtain ⟨rfl, rfl⟩ := hR49
            refine (WL_cons rfl rfl (by decide) (OpT_buildRows (r := 201) [bs ((l.drop (2 + x.1 * 32)).take 32)] rfl rfl Try.runUnderlying33 Try.sizeOf25 Try.zeroValue25 rfl (by decide) rfl (by decide) (by intro r hr; simp at hr; rw [hr, bs_length]; simp; omega) rfl (fun v50 => (WL_cons rfl rfl (by decide) (OpT_append (r := 101) (r2 := 201) rfl Try.underlying33 TI.hi25 TI.hz25 TI.hs25 TI.hby25 TI.hzs25 (by decide) rfl rfl rfl rfl (fun _ h => rowP_rd h) (by rw [List.flatten_cons, List.flatten_nil, List.append_nil]; exact bs_one _) (by rw [idsOf_length]; unfold maxLen; omega) (by rw [idsOf_length]; omega) (fun v51 => ?_))))))
            refine (WL_pure rfl rfl (by decide) (Pu_assign rfl rfl) (WL_nil (X_block (X_then ?_))))
            refine W.pre (K' := [(0, _), (4, _), (5, _), (6, _), (40, _)]) (L' := [(0, _), (101, _), (201, _)]) ?_ ⟨rfl, ⟨rfl, ⟨rfl, ⟨rfl, ⟨rfl, trivial⟩⟩⟩⟩⟩ ⟨rfl, ⟨rfl, ⟨rfl, trivial⟩⟩⟩
            refine W_regL (WL_pure rfl rfl (by decide) (Pu_move rfl rfl) (WL_pure rfl rfl (by decide) (Pu_bin rfl rfl rfl (run_add _ _ _ _ _ (by omega))) (WL_pure rfl rfl (by decide) (Pu_assign rfl rfl) (WL_nil ?_))))
            exact X_round (x.1 + 1, v51) (by show x.1 + 1 ≤ _; omega) (by show _ - (x.1 + 1) < _; omega) ⟨rfl, rfl, rfl, rfl, trivial⟩ ⟨rfl, look_eq rfl (rowI_of (idsOf l (x.1 + 1)) (by rw [idsOf_length, idsOf_length]) (by rw [idsOf_succ, idsC_append, idsC_one, List.flatten_cons, List.flatten_nil, List.append_nil])), trivial⟩
          ·
            obtain hfin : x.1 = (at0 l 1).toNat := by have := of_decide_eq_false hc40; have : x.1 ≤ (at0 l 1).toNat := hx; omega
            refine W_exit (X_then_exit (X_then_exit (X_block_exit (X_then ?_))))
            refine W_seq ?_
            refine W.pre (K' := [(0, _), (4, _), (5, _), (6, _), (40, _)]) (L' := [(0, _), (101, _)]) ?_ ⟨rfl, ⟨rfl, ⟨rfl, ⟨rfl, ⟨rfl, trivial⟩⟩⟩⟩⟩ ⟨rfl, ⟨rfl, trivial⟩⟩
            refine W_regL (WL_pure rfl rfl (by decide) (Pu_move rfl rfl) (WL_pure rfl rfl (by decide) (Pu_assign rfl rfl) (WL_pure rfl rfl (by decide) (Pu_assign rfl rfl) (WL_nil (X_then ?_)))))
            refine W_ret ?_
            have hE := (parseNE_later hc9 hc25).trans ((if_neg (by omega)).trans (if_neg (by omega)))
            exact X_ret [101] (Ps := [_]) (res2 Try.results14 rfl rfl) rfl (by decide) ⟨_, by rw [hE], by rw [parseNL, if_pos hE, ← hfin]⟩
theorem ids_spec (va vb : Value) (a b : List (List UInt8)) (ha : Ids a) (hb : Ids b) (hm : a.length ≤ 9223372036854775807) (F : HP) (hFa : ∀ h, F h → rdI va a h) (hFb : ∀ h, F h → rdI vb b h) : CallsS Try.prog 15 #[va, vb] F [] (fun r Ps => r = .bool (a == b) ∧ Ps = []) := by
  refine callsS_enter Try.func15 rfl Try.ntmps15 (by simp) (fun E => ?_)
  refine W_seq ?_
  refine W.pre (K' := [(0, _), (1, _)]) (L' := [(0, _)]) ?_ ⟨rfl, ⟨rfl, trivial⟩⟩ ⟨rfl, trivial⟩
  refine W_regL (WL_pure rfl rfl (by decide) (Pu_assign rfl rfl) (WL_nil (X_then ?_)))
  refine W_seq ?_
  refine W_seq ?_
  refine W.pre (K' := [(0, _), (1, _), (4, _)]) (L' := [(0, _)]) ?_ ⟨rfl, ⟨rfl, ⟨rfl, trivial⟩⟩⟩ ⟨rfl, trivial⟩
  refine W_regL (WL_pure rfl rfl (by decide) (Pu_move rfl rfl) (WL_pure rfl rfl (by decide) (Pu_len (r := 0) rfl Try.runUnderlying33 rfl rfl hFa) (WL_pure rfl rfl (by decide) (Pu_move rfl rfl) (WL_pure rfl rfl (by decide) (Pu_len (r := 0) rfl Try.runUnderlying33 rfl rfl hFb) (WL_pure rfl rfl (by decide) (Pu_bin rfl rfl rfl (run_neq _ _ _ _ _ _)) (WL_nil (X_then ?_)))))))
  refine W_cond rfl (fun hc10 => ?_) (fun hc10 => ?_)
  ·
    have hne := hc10
    refine W_seq ?_
    refine W.pre (K' := [(0, _), (1, _), (4, _), (10, _)]) (L' := [(0, _)]) ?_ ⟨rfl, ⟨rfl, ⟨rfl, ⟨rfl, trivial⟩⟩⟩⟩ ⟨rfl, trivial⟩
    refine W_regL (WL_pure rfl rfl (by decide) (Pu_assign rfl rfl) (WL_nil (X_then ?_)))
    refine W_ret (X_then_ret ?_)
    exact X_ret [] (Ps := []) (res1 Try.results15 rfl) rfl (by decide) ⟨bool_val (beq_lens hc10), rfl⟩
  ·
    have hlen : a.length = b.length := by simp at hc10; omega
    refine W_skip (X_then ?_)
    refine W_seq ?_
    refine W_seq ?_
    refine W.pre (K' := [(0, _), (1, _), (4, _), (10, _)]) (L' := [(0, _)]) ?_ ⟨rfl, ⟨rfl, ⟨rfl, ⟨rfl, trivial⟩⟩⟩⟩ ⟨rfl, trivial⟩
    refine W_regL (WL_pure rfl rfl (by decide) (Pu_assign rfl rfl) (WL_nil (X_then ?_)))
    refine W_block ?_
    refine W_loop (α := Nat) (fun k => [(0, va), (1, vb), (5, .int .i64 (k : Int))]) (fun k => [(0, F)]) (fun k => k ≤ a.length ∧ a.take k = b.take k) (fun k => a.length - k) (0) ⟨Nat.zero_le _, rfl⟩ ⟨rfl, ⟨rfl, ⟨rfl, trivial⟩⟩⟩ ⟨rfl, trivial⟩ (fun x hx => ?_)
    obtain ⟨hk, heq⟩ := hx
    refine W_seq ?_
    refine W_seq ?_
    refine W.pre (K' := [(0, _), (1, _), (5, _)]) (L' := [(0, _)]) ?_ ⟨rfl, ⟨rfl, ⟨rfl, trivial⟩⟩⟩ ⟨rfl, trivial⟩
    refine W_regL (WL_pure rfl rfl (by decide) (Pu_move rfl rfl) (WL_pure rfl rfl (by decide) (Pu_move rfl rfl) (WL_pure rfl rfl (by decide) (Pu_len (r := 0) rfl Try.runUnderlying33 rfl rfl hFa) (WL_pure rfl rfl (by decide) (Pu_bin rfl rfl rfl (run_lss _ _ _ _ _ _)) (WL_nil (X_then ?_))))))
    refine W_cond rfl (fun hc14 => ?_) (fun hc14 => ?_)
    ·
      have hlt : x < a.length := by have := of_decide_eq_true hc14; omega
      refine W_skip (X_then ?_)
      refine W_seq ?_
      refine W_block ?_
      refine W_seq ?_
      refine W.pre (K' := [(0, _), (1, _), (5, _), (14, _)]) (L' := [(0, _)]) ?_ ⟨rfl, ⟨rfl, ⟨rfl, ⟨rfl, trivial⟩⟩⟩⟩ ⟨rfl, trivial⟩
      refine W_draw (N := 9) (by kernel_rfl) rfl [(0, _)] ⟨rfl, trivial⟩ ?_
      refine (AH_take 0 rfl (by kernel_rfl) (by kernel_rfl) (by kernel_rfl) rfl rfl (by decide) (Pu_move rfl rfl) (AH_take 1 rfl (by kernel_rfl) (by kernel_rfl) (by kernel_rfl) rfl rfl (by decide) (Pu_move rfl rfl) (AH_take 2 rfl (by kernel_rfl) (by kernel_rfl) (by kernel_rfl) rfl rfl (by decide) (Pu_idxS (r := 0) rfl Try.runUnderlying33 Try.sizeOf25 rfl rfl rfl hFa (by omega)) (AH_take 3 rfl (by kernel_rfl) (by kernel_rfl) (by kernel_rfl) rfl rfl (by decide) (Pu_loadSN (r := 0) rfl Try.isAgg25 Try.sizeOf25 rfl rfl hFa ((bs_length _).trans (ha.get hlt)) (by decide) (idsC_get (k := x) ha hlt)) (AH_take 4 rfl (by kernel_rfl) (by kernel_rfl) (by kernel_rfl) rfl rfl (by decide) (Pu_move rfl rfl) (AH_take 5 rfl (by kernel_rfl) (by kernel_rfl) (by kernel_rfl) rfl rfl (by decide) (Pu_move rfl rfl) (AH_take 6 rfl (by kernel_rfl) (by kernel_rfl) (by kernel_rfl) rfl rfl (by decide) (Pu_idxS (r := 0) rfl Try.runUnderlying33 Try.sizeOf25 rfl rfl rfl hFb (by omega)) (AH_take 7 rfl (by kernel_rfl) (by kernel_rfl) (by kernel_rfl) rfl rfl (by decide) (Pu_loadSN (r := 0) rfl Try.isAgg25 Try.sizeOf25 rfl rfl hFb ((bs_length _).trans (hb.get (hlen ▸ hlt))) (by decide) (idsC_get (k := x) hb (hlen ▸ hlt))) (AH_take 8 rfl (by kernel_rfl) (by kernel_rfl) (by kernel_rfl) rfl rfl (by decide) (Pu_bin rfl rfl rfl (run_idNe _ _ (ha.get hlt) (hb.get (hlen ▸ hlt)) _ _)) (AH_done (by kernel_rfl) (X_then ?_)))))))))))
      refine W_cond rfl (fun hc25 => ?_) (fun hc25 => ?_)
      ·
        refine W_seq ?_
        refine W.pre (K' := [(0, _), (1, _), (5, _), (14, _), (25, _)]) (L' := [(0, _)]) ?_ ⟨rfl, ⟨rfl, ⟨rfl, ⟨rfl, ⟨rfl, trivial⟩⟩⟩⟩⟩ ⟨rfl, trivial⟩
        refine W_regL (WL_pure rfl rfl (by decide) (Pu_assign rfl rfl) (WL_nil (X_then ?_)))
        refine W_ret (X_block_ret (X_then_ret (X_then_ret (X_block_ret (X_then_ret ?_)))))
        exact X_ret [] (Ps := []) (res1 Try.results15 rfl) rfl (by decide) ⟨bool_val (beq_at hlt (by simpa using hc25)), rfl⟩
      ·
        refine W_skip (X_block (X_then ?_))
        refine W.pre (K' := [(0, _), (1, _), (5, _), (14, _), (25, _)]) (L' := [(0, _)]) ?_ ⟨rfl, ⟨rfl, ⟨rfl, ⟨rfl, ⟨rfl, trivial⟩⟩⟩⟩⟩ ⟨rfl, trivial⟩
        refine W_regL (WL_pure rfl rfl (by decide) (Pu_move rfl rfl) (WL_pure rfl rfl (by decide) (Pu_bin rfl rfl rfl (run_add _ _ _ _ _ (by omega))) (WL_pure rfl rfl (by decide) (Pu_assign rfl rfl) (WL_nil ?_))))
        exact X_round (x + 1) ⟨by omega, take_next hlt hlen heq (by simpa using hc25)⟩ (by omega) ⟨rfl, rfl, rfl, trivial⟩ ⟨rfl, trivial⟩
    ·
      obtain rfl : x = a.length := by have := of_decide_eq_false hc14; omega
      refine W_exit (X_then_exit (X_then_exit (X_block_exit (X_then ?_))))
      refine W_seq ?_
      refine W.pre (K' := [(0, _), (1, _), (5, _), (14, _)]) (L' := [(0, _)]) ?_ ⟨rfl, ⟨rfl, ⟨rfl, ⟨rfl, trivial⟩⟩⟩⟩ ⟨rfl, trivial⟩
      refine W_regL (WL_pure rfl rfl (by decide) (Pu_assign rfl rfl) (WL_nil (X_then ?_)))
      refine W_ret ?_
      exact X_ret [] (Ps := []) (res1 Try.results15 rfl) rfl (by decide) ⟨bool_val (beq_all hlen heq), rfl⟩
end Go.Proofs.Ytnhidehpacidnaa
