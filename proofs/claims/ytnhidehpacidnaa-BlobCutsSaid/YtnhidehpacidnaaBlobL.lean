/- Blocks: the law of inner blocks. -/
import Derived.Test.YtnhidehpacidnaaBlobK
import Derived.Test.YtnhidehpacidnaaOpen2
import Derived.Test.YtnhidehpacidnaaBlob4
namespace Go.Proofs.Ytnhidehpacidnaa
open Go.RowKit
set_option linter.unusedVariables false

theorem blobInners_law (Wo : World) (vl : Value) (l : List (List UInt8)) (hrl : Rd Wo 32 vl l.length (idsC l)) (hl : Ids l) (vat : Value) (at_ : List Int) (hrat : Rd Wo 1 vat at_.length (is at_)) (vby : Value) (by_ : List UInt8) (hrby : RdB Wo vby by_) (cut : Int) (hcut : -9223372036854775808 ≤ cut ∧ cut ≤ 9223372036854775807) (vr : Value) (raw : List UInt8) (hrr : RdB Wo vr raw) :
    CallsS Try.prog 4 #[vl, vat, vby, .int .i64 cut, vr] (orig Wo) [] (fun v Ps => v = .bool true) := by
  refine callsS_enter Try.func4 rfl Try.ntmps4 (by simp) (fun E => ?_)
  refine W_seq ?_
  refine W.pre (K' := [(0, _), (1, _), (2, _), (3, _), (4, _)]) (L' := [(0, _)]) ?_ ⟨rfl, ⟨rfl, ⟨rfl, ⟨rfl, ⟨rfl, trivial⟩⟩⟩⟩⟩ ⟨rfl, trivial⟩
  refine W_regL (WL_pure rfl rfl (by decide) (Pu_assign rfl rfl) (WL_nil (X_then ?_)))
  refine W_seq ?_
  refine W_seq ?_
  refine W.pre (K' := [(0, _), (1, _), (2, _), (3, _), (4, _), (10, _)]) (L' := [(0, _)]) ?_ ⟨rfl, ⟨rfl, ⟨rfl, ⟨rfl, ⟨rfl, ⟨rfl, trivial⟩⟩⟩⟩⟩⟩ ⟨rfl, trivial⟩
  refine W_regL (WL_cons rfl rfl (by decide) (OpT_call 200 [0] [] rfl Try.call7 rfl rfl rfl (by decide) (by decide) (known_spec _) (fun v21 Ps21 hR21 => ?_)))
  obtain ⟨rfl, rfl⟩ := hR21
  refine (WL_pure rfl rfl (by decide) (Pu_un rfl rfl (run_not _)) (WL_nil (X_then ?_)))
  refine W_false rfl (rfl) ?_
  refine W_skip (X_then ?_)
  refine W_seq ?_
  refine W_seq ?_
  refine W.pre (K' := [(0, _), (1, _), (2, _), (3, _), (4, _), (10, _), (22, _)]) (L' := [(0, _)]) ?_ ⟨rfl, ⟨rfl, ⟨rfl, ⟨rfl, ⟨rfl, ⟨rfl, ⟨rfl, trivial⟩⟩⟩⟩⟩⟩⟩ ⟨rfl, trivial⟩
  refine W_regL (WL_pure rfl rfl (by decide) (Pu_move rfl rfl) (WL_pure rfl rfl (by decide) (Pu_len (r := 0) rfl Try.runUnderlying33 rfl rfl (fun h hp => Rd.orig hrl h hp)) (WL_pure rfl rfl (by decide) (Pu_bin rfl rfl rfl (run_gtr _ _ _ _ _ _)) (WL_pure rfl rfl (by decide) (Pu_move rfl rfl) (WL_guardP rfl rfl rfl rfl (by decide) (fun hb => (Pu_move rfl rfl)) (WL_guardP rfl rfl rfl rfl (by decide) (fun hb => (Pu_len (r := 0) rfl Try.runUnderlying28 (ev_gv rfl hb) rfl (fun h hp => Rd.orig hrr h hp))) (WL_guardP rfl rfl rfl rfl (by decide) (fun hb => (Pu_bin rfl (ev_gv rfl hb) rfl (run_gtr _ _ _ _ _ _))) (WL_pure rfl rfl (by decide) (Pu_or rfl rfl rfl) (WL_nil (X_then ?_))))))))))
  refine W_cond rfl (fun hc30 => ?_) (fun hc30 => ?_)
  ·
    refine W_seq ?_
    refine W.pre (K' := [(0, _), (1, _), (2, _), (3, _), (4, _), (10, _), (22, _), (30, _)]) (L' := [(0, _)]) ?_ ⟨rfl, ⟨rfl, ⟨rfl, ⟨rfl, ⟨rfl, ⟨rfl, ⟨rfl, ⟨rfl, trivial⟩⟩⟩⟩⟩⟩⟩⟩ ⟨rfl, trivial⟩
    refine W_regL (WL_pure rfl rfl (by decide) (Pu_assign rfl rfl) (WL_nil (X_then ?_)))
    refine W_ret (X_then_ret ?_)
    exact X_ret [] (Ps := []) (res1 Try.results4 rfl) rfl (by decide) rfl
  ·
    have hsz : l.length ≤ 20 ∧ raw.length ≤ 400 := by simp at hc30; omega
    have hRl := innerR_le l hl
    refine W_skip (X_then ?_)
    refine W_seq ?_
    refine W.pre (K' := [(0, _), (1, _), (2, _), (3, _), (4, _), (10, _), (22, _), (30, _)]) (L' := [(0, _)]) ?_ ⟨rfl, ⟨rfl, ⟨rfl, ⟨rfl, ⟨rfl, ⟨rfl, ⟨rfl, ⟨rfl, trivial⟩⟩⟩⟩⟩⟩⟩⟩ ⟨rfl, trivial⟩
    refine W_regL (WL_pure rfl rfl (by decide) (Pu_move rfl rfl) (WL_cons rfl rfl (by decide) (OpT_call 300 [0] [] rfl Try.call10 rfl rfl rfl (by decide) (by decide) (inner_spec _ l hl _ (rd_star 0 rfl (fun h hp => Rd.orig hrl h hp))) (fun v33 Ps33 hR33 => ?_))))
    obtain ⟨va, rfl, rfl⟩ := hR33
    refine (WL_pure rfl rfl (by decide) (Pu_move rfl rfl) (WL_pure rfl rfl (by decide) (Pu_extract rfl rfl rfl) (WL_pure rfl rfl (by decide) (Pu_extract rfl rfl rfl) (WL_pure rfl rfl (by decide) (Pu_assign rfl rfl) (WL_pure rfl rfl (by decide) (Pu_assign rfl rfl) (WL_nil (X_then ?_)))))))
    refine W_seq ?_
    refine W.pre (K' := [(0, _), (1, _), (2, _), (3, _), (4, _), (10, _), (11, _), (12, _), (22, _), (30, _)]) (L' := [(0, _), (300, _)]) ?_ ⟨rfl, ⟨rfl, ⟨rfl, ⟨rfl, ⟨rfl, ⟨rfl, ⟨rfl, ⟨rfl, ⟨rfl, ⟨rfl, trivial⟩⟩⟩⟩⟩⟩⟩⟩⟩⟩ ⟨rfl, ⟨rfl, trivial⟩⟩
    refine W_regL (WL_pure rfl rfl (by decide) (Pu_move rfl rfl) (WL_cons rfl rfl (by decide) (OpT_call 400 [0, 300] [] rfl Try.call11 rfl rfl rfl (by decide) (by decide) (refInner_spec _ l hl _ (rd_star 0 rfl (fun h hp => Rd.orig hrl h hp))) (fun v38 Ps38 hR38 => ?_))))
    obtain ⟨vb, rfl, rfl⟩ := hR38
    refine (WL_pure rfl rfl (by decide) (Pu_move rfl rfl) (WL_pure rfl rfl (by decide) (Pu_extract rfl rfl rfl) (WL_pure rfl rfl (by decide) (Pu_extract rfl rfl rfl) (WL_pure rfl rfl (by decide) (Pu_assign rfl rfl) (WL_pure rfl rfl (by decide) (Pu_assign rfl rfl) (WL_nil (X_then ?_)))))))
    refine W_seq ?_
    refine W_seq ?_
    refine W.pre (K' := [(0, _), (1, _), (2, _), (3, _), (4, _), (10, _), (11, _), (12, _), (13, _), (14, _), (22, _), (30, _)]) (L' := [(0, _), (300, _), (400, _)]) ?_ ⟨rfl, ⟨rfl, ⟨rfl, ⟨rfl, ⟨rfl, ⟨rfl, ⟨rfl, ⟨rfl, ⟨rfl, ⟨rfl, ⟨rfl, ⟨rfl, trivial⟩⟩⟩⟩⟩⟩⟩⟩⟩⟩⟩⟩ ⟨rfl, ⟨rfl, ⟨rfl, trivial⟩⟩⟩
    refine W_regL (WL_pure rfl rfl (by decide) (Pu_move rfl rfl) (WL_pure rfl rfl (by decide) (Pu_convBS (r := 300) rfl Try.underlying28 Try.underlying5 Try.underlying9 rfl rfl rowB_rd) (WL_pure rfl rfl (by decide) (Pu_move rfl rfl) (WL_pure rfl rfl (by decide) (Pu_convBS (r := 400) rfl Try.underlying28 Try.underlying5 Try.underlying9 rfl rfl rowB_rd) (WL_pure rfl rfl (by decide) (Pu_bin rfl rfl rfl (run_strNe _ _ _ _ _)) (WL_pure rfl rfl (by decide) (Pu_move rfl rfl) (WL_guardP rfl rfl rfl rfl (by decide) (fun hb => (Pu_move rfl rfl)) (WL_guardP rfl rfl rfl rfl (by decide) (fun hb => (Pu_move rfl rfl)) (WL_guardP rfl rfl rfl rfl (by decide) (fun hb => (Pu_bin rfl (ev_gv rfl hb) (ev_gv rfl hb) (run_neq _ _ _ _ _ _))) (WL_pure rfl rfl (by decide) (Pu_or rfl rfl rfl) (WL_nil (X_then ?_))))))))))))
    refine W_false rfl (by simp) ?_
    refine W_skip (X_then ?_)
    refine W_seq ?_
    refine W.pre (K' := [(0, _), (1, _), (2, _), (3, _), (4, _), (10, _), (11, _), (12, _), (13, _), (14, _), (22, _), (30, _), (50, _)]) (L' := [(0, _), (300, _), (400, _)]) ?_ ⟨rfl, ⟨rfl, ⟨rfl, ⟨rfl, ⟨rfl, ⟨rfl, ⟨rfl, ⟨rfl, ⟨rfl, ⟨rfl, ⟨rfl, ⟨rfl, ⟨rfl, trivial⟩⟩⟩⟩⟩⟩⟩⟩⟩⟩⟩⟩⟩ ⟨rfl, ⟨rfl, ⟨rfl, trivial⟩⟩⟩
    refine W_regL (WL_pure rfl rfl (by decide) (Pu_move rfl rfl) (WL_pure rfl rfl (by decide) (Pu_move rfl rfl) (WL_pure rfl rfl (by decide) (Pu_move rfl rfl) (WL_pure rfl rfl (by decide) (Pu_move rfl rfl) (WL_pure rfl rfl (by decide) (Pu_move rfl rfl) (WL_cons rfl rfl (by decide) (OpT_call 500 [0, 300, 400] [] rfl Try.call12 rfl rfl rfl (by decide) (by decide) (bend_spec _ _ _ _ (innerR l) at_ by_ cut raw _ (rd_star 2 rfl rowB_rd) (rd_star 0 rfl (fun h hp => Rd.orig hrat h hp)) (rd_star 0 rfl (fun h hp => Rd.orig hrby h hp)) (rd_star 0 rfl (fun h hp => Rd.orig hrr h hp)) (by omega) (by omega) hcut) (fun v56 Ps56 hR56 => ?_))))))))
    obtain ⟨vx, vy, PX, rfl, hPX⟩ := hR56
    refine (WL_pure rfl rfl (by decide) (Pu_assign rfl rfl) (WL_nil (X_then ?_)))
    refine W_seq ?_
    refine W_seq ?_
    refine W.pre (K' := [(0, _), (1, _), (2, _), (3, _), (4, _), (10, _), (11, _), (12, _), (13, _), (14, _), (15, _), (22, _), (30, _), (50, _)]) (L' := [(0, _), (300, _), (400, _), (500, _), (501, _), (502, _)]) ?_ ⟨rfl, ⟨rfl, ⟨rfl, ⟨rfl, ⟨rfl, ⟨rfl, ⟨rfl, ⟨rfl, ⟨rfl, ⟨rfl, ⟨rfl, ⟨rfl, ⟨rfl, ⟨rfl, trivial⟩⟩⟩⟩⟩⟩⟩⟩⟩⟩⟩⟩⟩⟩ ⟨rfl, ⟨rfl, ⟨rfl, ⟨rfl, ⟨rfl, ⟨rfl, trivial⟩⟩⟩⟩⟩⟩
    refine W_regL (WL_pure rfl rfl (by decide) (Pu_assign rfl rfl) (WL_nil (X_then ?_)))
    refine W_block ?_
    refine W_pack [0, 300, 400, 500, 501, 502] rfl (by decide) (fun G hG => ?_)
    have hG1 : ∀ h, G h → rdP 1 v56 4 [vx, vy, vr, vb] h := hG.rd 3 rfl (fun _ h => rowP_rd h)
    have hGo := hG.orig 0 rfl
    have hG2 : ∀ i, i < 4 → ∀ h, G h → rdB ([vx, vy, vr, vb].getD i undef) ([bentX (innerR l) at_ by_ cut, bentX (innerR l) at_ by_ cut ++ raw, raw, innerR l].getD i []) h := by
      intro i hi
      have : i = 0 ∨ i = 1 ∨ i = 2 ∨ i = 3 := by omega
      rcases this with rfl | rfl | rfl | rfl
      · exact hG.rd 4 rfl hPX
      · exact hG.rd 5 rfl rowB_rd
      · exact fun h hg => Rd.orig hrr h (hGo h hg)
      · exact hG.rd 2 rfl rowB_rd
    have hGl : ∀ h, G h → rdI vl l h := fun h hg => Rd.orig hrl h (hGo h hg)
    refine W_loop (α := Nat) (fun k => [(0, vl), (12, .int .i64 (innerE l)), (15, v56), (16, .int .i64 (k : Int))]) (fun k => [(0, G)]) (fun k => k ≤ 4) (fun k => 4 - k) (0) (by omega) ⟨rfl, ⟨rfl, ⟨rfl, ⟨rfl, trivial⟩⟩⟩⟩ ⟨rfl, trivial⟩ (fun x hx => ?_)
    refine W_seq ?_
    refine W_seq ?_
    refine W.pre (K' := [(0, _), (12, _), (15, _), (16, _)]) (L' := [(0, _)]) ?_ ⟨rfl, ⟨rfl, ⟨rfl, ⟨rfl, trivial⟩⟩⟩⟩ ⟨rfl, trivial⟩
    refine W_regL (WL_pure rfl rfl (by decide) (Pu_move rfl rfl) (WL_pure rfl rfl (by decide) (Pu_move rfl rfl) (WL_pure rfl rfl (by decide) (Pu_len (r := 0) rfl Try.runUnderlying38 rfl rfl hG1) (WL_pure rfl rfl (by decide) (Pu_bin rfl rfl rfl (run_lss _ _ _ _ _ _)) (WL_nil (X_then ?_))))))
    refine W_cond rfl (fun hc60 => ?_) (fun hc60 => ?_)
    ·
      have hlt : x < 4 := by have := of_decide_eq_true hc60; omega
      refine W_skip (X_then ?_)
      refine W_seq ?_
      refine W_block ?_
      refine W_seq ?_
      refine W.pre (K' := [(0, _), (12, _), (15, _), (16, _), (60, _)]) (L' := [(0, _)]) ?_ ⟨rfl, ⟨rfl, ⟨rfl, ⟨rfl, ⟨rfl, trivial⟩⟩⟩⟩⟩ ⟨rfl, trivial⟩
      refine W_regL (WL_pure rfl rfl (by decide) (Pu_move rfl rfl) (WL_pure rfl rfl (by decide) (Pu_move rfl rfl) (WL_pure rfl rfl (by decide) (Pu_idxS1 (r := 0) rfl Try.runUnderlying38 Try.sizeOf28 rfl rfl rfl hG1 (by omega)) (WL_pure rfl rfl (by decide) (Pu_loadS (r := 0) rfl Try.isAgg28 rfl rfl hG1 (four_at (k := x) hlt)) (WL_cons rfl rfl (by decide) (OpT_call 600 [0] [] rfl Try.call13 rfl rfl rfl (by decide) (by decide) (parseInner_spec _ ([bentX (innerR l) at_ by_ cut, bentX (innerR l) at_ by_ cut ++ raw, raw, innerR l].getD x []) _ (rd_star 0 rfl (hG2 x hlt))) (fun v68 Ps68 hR68 => ?_)))))))
      obtain ⟨w13, rfl, rfl⟩ := hR68
      refine (WL_pure rfl rfl (by decide) (Pu_move rfl rfl) (WL_pure rfl rfl (by decide) (Pu_extract rfl rfl rfl) (WL_pure rfl rfl (by decide) (Pu_extract rfl rfl rfl) (WL_pure rfl rfl (by decide) (Pu_assign rfl rfl) (WL_pure rfl rfl (by decide) (Pu_assign rfl rfl) (WL_nil (X_then ?_)))))))
      refine W_seq ?_
      refine W.pre (K' := [(0, _), (12, _), (15, _), (16, _), (17, _), (18, _), (60, _)]) (L' := [(0, _), (600, _)]) ?_ ⟨rfl, ⟨rfl, ⟨rfl, ⟨rfl, ⟨rfl, ⟨rfl, ⟨rfl, trivial⟩⟩⟩⟩⟩⟩⟩ ⟨rfl, ⟨rfl, trivial⟩⟩
      refine W_regL (WL_pure rfl rfl (by decide) (Pu_move rfl rfl) (WL_pure rfl rfl (by decide) (Pu_move rfl rfl) (WL_pure rfl rfl (by decide) (Pu_idxS1 (r := 0) rfl Try.runUnderlying38 Try.sizeOf28 rfl rfl rfl hG1 (by omega)) (WL_pure rfl rfl (by decide) (Pu_loadS (r := 0) rfl Try.isAgg28 rfl rfl hG1 (four_at (k := x) hlt)) (WL_cons rfl rfl (by decide) (OpT_call 700 [0, 600] [] rfl Try.call14 rfl rfl rfl (by decide) (by decide) (refParseInner_spec _ ([bentX (innerR l) at_ by_ cut, bentX (innerR l) at_ by_ cut ++ raw, raw, innerR l].getD x []) _ (rd_star 0 rfl (hG2 x hlt))) (fun v76 Ps76 hR76 => ?_)))))))
      obtain ⟨w14, rfl, rfl⟩ := hR76
      refine (WL_pure rfl rfl (by decide) (Pu_move rfl rfl) (WL_pure rfl rfl (by decide) (Pu_extract rfl rfl rfl) (WL_pure rfl rfl (by decide) (Pu_extract rfl rfl rfl) (WL_pure rfl rfl (by decide) (Pu_assign rfl rfl) (WL_pure rfl rfl (by decide) (Pu_assign rfl rfl) (WL_nil (X_then ?_)))))))
      refine W_seq ?_
      refine W.pre (K' := [(0, _), (12, _), (15, _), (16, _), (17, _), (18, _), (19, _), (20, _), (60, _)]) (L' := [(0, _), (600, _), (700, _)]) ?_ ⟨rfl, ⟨rfl, ⟨rfl, ⟨rfl, ⟨rfl, ⟨rfl, ⟨rfl, ⟨rfl, ⟨rfl, trivial⟩⟩⟩⟩⟩⟩⟩⟩⟩ ⟨rfl, ⟨rfl, ⟨rfl, trivial⟩⟩⟩
      refine W_regL (WL_pure rfl rfl (by decide) (Pu_move rfl rfl) (WL_pure rfl rfl (by decide) (Pu_move rfl rfl) (WL_cons rfl rfl (by decide) (OpT_call 800 [0, 600, 700] [] rfl Try.call15 rfl rfl rfl (by decide) (by decide) (ids_spec _ _ _ _ (parseNL_ids _).1 (parseNL_ids _).1 (by have := (parseNL_ids ([bentX (innerR l) at_ by_ cut, bentX (innerR l) at_ by_ cut ++ raw, raw, innerR l].getD x [])).2; omega) _ (rd_star 1 rfl rowI_rd) (rd_star 2 rfl rowI_rd)) (fun v81 Ps81 hR81 => ?_)))))
      obtain ⟨rfl, rfl⟩ := hR81
      refine (WL_pure rfl rfl (by decide) (Pu_un rfl rfl (run_not _)) (WL_pure rfl rfl (by decide) (Pu_move rfl rfl) (WL_guardP rfl rfl rfl rfl (by decide) (fun hb => (Pu_move rfl rfl)) (WL_guardP rfl rfl rfl rfl (by decide) (fun hb => (Pu_move rfl rfl)) (WL_guardP rfl rfl rfl rfl (by decide) (fun hb => (Pu_bin rfl (ev_gv rfl hb) (ev_gv rfl hb) (run_neq _ _ _ _ _ _))) (WL_pure rfl rfl (by decide) (Pu_or rfl rfl rfl) (WL_pure rfl rfl (by decide) (Pu_move rfl rfl) (WL_guardP rfl rfl rfl rfl (by decide) (fun hb => (Pu_move rfl rfl)) (WL_guardP rfl rfl rfl rfl (by decide) (fun hb => (Pu_bin rfl (ev_gv rfl hb) rfl (run_eql _ _ _ _ _ _))) (WL_guardP rfl rfl rfl rfl (by decide) (fun hb => (Pu_move rfl (ev_gv rfl hb))) (WL_guardP2 rfl rfl rfl rfl (by decide) (fun hb => (Pu_move rfl rfl)) (WL_guardP2 rfl rfl rfl rfl (by decide) (fun hb => (Pu_bin rfl (ev_gv rfl hb) rfl (run_eql _ _ _ _ _ _))) (WL_guardP rfl rfl rfl rfl (by decide) (fun hb => (Pu_and2 hb rfl (ev_gv rfl hb) rfl)) (WL_guardP rfl rfl rfl rfl (by decide) (fun hb => (Pu_move rfl (ev_gv rfl hb))) (WL_guardP2 rfl rfl rfl rfl (by decide) (fun hb => (Pu_move rfl rfl)) (WL_guardP2 rfl rfl rfl rfl (by decide) (fun hb => (Pu_move rfl rfl)) (WL_guard2 (V := .bool (parseNL ([bentX (innerR l) at_ by_ cut, bentX (innerR l) at_ by_ cut ++ raw, raw, innerR l].getD x []) == l)) rfl rfl rfl rfl (by decide) (fun hb => (OpT_call 900 [0, 600, 700] [] rfl Try.call15 (evL_cons (ev_gv rfl hb) (evL_cons (ev_gv rfl hb) evL_nil)) rfl rfl (by decide) (by decide) (ids_spec _ _ _ l (parseNL_ids _).1 hl (by have := (parseNL_ids ([bentX (innerR l) at_ by_ cut, bentX (innerR l) at_ by_ cut ++ raw, raw, innerR l].getD x [])).2; omega) _ (rd_star 1 rfl rowI_rd) (rd_star 0 rfl hGl)) (fun v98 Ps98 hR98 => ⟨hR98.1, fun w hw => by rw [hR98.2] at hw; exact hw.sub (AllIn.look ⟨rfl, rfl, rfl, trivial⟩)⟩))) ?_)))))))))))))))))
      refine (WL_guardP2 rfl rfl rfl rfl (by decide) (fun hb => (Pu_un rfl (ev_gv rfl hb) (run_not _))) (WL_guardP rfl rfl rfl rfl (by decide) (fun hb => (Pu_and2 hb rfl (ev_gv rfl hb) rfl)) (WL_pure rfl rfl (by decide) (Pu_or rfl rfl rfl) (WL_nil (X_then ?_)))))
      refine W_false rfl (inners_end (e := innerE l) hl rfl _ rfl) ?_
      refine W_skip (X_block (X_then ?_))
      refine W.pre (K' := [(0, _), (12, _), (15, _), (16, _), (17, _), (18, _), (19, _), (20, _), (60, _), (101, _)]) (L' := [(0, _), (600, _), (700, _)]) ?_ ⟨rfl, ⟨rfl, ⟨rfl, ⟨rfl, ⟨rfl, ⟨rfl, ⟨rfl, ⟨rfl, ⟨rfl, ⟨rfl, trivial⟩⟩⟩⟩⟩⟩⟩⟩⟩⟩ ⟨rfl, ⟨rfl, ⟨rfl, trivial⟩⟩⟩
      refine W_regL (WL_pure rfl rfl (by decide) (Pu_move rfl rfl) (WL_pure rfl rfl (by decide) (Pu_bin rfl rfl rfl (run_add _ _ _ _ _ (by omega))) (WL_pure rfl rfl (by decide) (Pu_assign rfl rfl) (WL_nil ?_))))
      exact X_round (x + 1) (by omega) (by omega) ⟨rfl, rfl, rfl, rfl, trivial⟩ ⟨rfl, trivial⟩
    ·
      refine W_exit (X_then_exit (X_then_exit (X_block_exit (X_then ?_))))
      refine W_seq ?_
      refine W.pre (K' := [(0, _), (12, _), (15, _), (16, _), (60, _)]) (L' := [(0, _)]) ?_ ⟨rfl, ⟨rfl, ⟨rfl, ⟨rfl, ⟨rfl, trivial⟩⟩⟩⟩⟩ ⟨rfl, trivial⟩
      refine W_regL (WL_pure rfl rfl (by decide) (Pu_assign rfl rfl) (WL_nil (X_then ?_)))
      refine W_ret ?_
      refine X_turn 0 rfl hGo ?_
      exact X_ret [] (Ps := []) (res1 Try.results4 rfl) rfl (by decide) rfl

theorem blobInners_any (W : World) (v0 : Value) (l0 : List (List UInt8)) (hr0 : Rd W 32 v0 l0.length (idsC l0)) (hz0 : Ids l0) (hl0 : l0.length ≤ maxLen) (v1 : Value) (l1 : List Int) (hr1 : RdI W v1 l1) (hz1 : I64 l1) (hl1 : l1.length ≤ maxLen) (v2 : Value) (l2 : List UInt8) (hr2 : RdB W v2 l2) (hl2 : l2.length ≤ maxLen)
    (a3 : Int) (lo3 : -9223372036854775808 ≤ a3) (hi3 : a3 ≤ 9223372036854775807) (v4 : Value) (l4 : List UInt8) (hr4 : RdB W v4 l4) (hl4 : l4.length ≤ maxLen) :
    Calls Try.prog 4 #[v0, v1, v2, .int .i64 a3, v4] W fun e W' => e = .returned (.bool true) ∧ Chg [] W W' := calls_law (blobInners_law W v0 l0 hr0 hz0 v1 l1 hr1 v2 l2 hr2 a3 ⟨lo3, hi3⟩ v4 l4 hr4)
end Go.Proofs.Ytnhidehpacidnaa
