/- Texts of this proof, one behind the other: AreaC, Area4, AreaD, IdL, IdT, AreaE0, Open, Open2, AreaE, AreaN1, AreaP1, AreaJ. -/
import Derived.Test.YtjopgnkffhfhkaaK2
import Derived.Stop.BytesEq
import Derived.Test.YtjopgnkffhfhkaaK1
import Derived.ProofKit
import Derived.Deep.Slices
import Derived.Deep.Fields
import Derived.ChangeOld
import Derived.OpenShut
/- Areas: made, dropped, swept, put, asked. -/
namespace Go.Proofs.Ytjopgnkffhfhkaa
open Go.RowKit
set_option linter.unusedVariables false
set_option linter.unusedSimpArgs false
set_option maxRecDepth 8000
theorem ents_add (es : List EB) (p : EB) : entsOf (es ++ [p]) = entsOf es ++ [(p.1.key, encB p.1)] := by unfold entsOf mbs; rw [List.map_append, List.map_append]; rfl
theorem drop_spec (g : Nat) (room quota : Int) (B : List Bk) (k : List UInt8) (hk : k.length = 32) (F : HP) : CallsS Try.prog 18 #[.pointer (some ⟨g, 0, none⟩), idV k] F [areaP g room quota B] (fun r Ps => r = .bool (findA k B).isSome ∧ Ps = [areaP g room quota (dropA k B)]) :=
  callsS_openA fun es soon hok => (drop_raw g room quota soon es none k hk (fun i hi => by cases hi) F).imp fun v Ps ⟨h1, h2⟩ => ⟨_, _, _, hok.del k, h2, (by rw [h1, ← hok.find k]; cases findE k es <;> rfl), rfl⟩
theorem sweep_spec (g : Nat) (room quota now : Int) (B : List Bk) (hl : B.length ≤ 1000000000000) (F : HP) : CallsS Try.prog 11 #[.pointer (some ⟨g, 0, none⟩), .int .i64 now] F [areaP g room quota B] (fun r Ps => r = .int .i64 ((B.length : Int) - ((sweepA now B).length : Int)) ∧ Ps = [areaP g room quota (sweepA now B)]) :=
  callsS_openA fun es soon hok => (sweep_raw g room quota soon now es hok.soon (by rw [hok.len]; exact hl) F).imp fun v Ps ⟨es2, soon2, h1, h2, h3, h4⟩ => ⟨_, _, _, hok.sweep h2 h3, h4, (by rw [h1, hok.len, (hok.sweep h2 h3).len]), rfl⟩
theorem used_spec (g : Nat) (room quota src : Int) (B : List Bk) (F : HP) : CallsS Try.prog 16 #[.pointer (some ⟨g, 0, none⟩), .int .i64 src] F [areaP g room quota B] (fun r Ps => r = .int .i64 (usedA src B : Int) ∧ Ps = [areaP g room quota B]) :=
  callsS_openA fun es soon hok => (used_raw g room quota soon src es F).imp fun v Ps ⟨h1, h2⟩ => ⟨_, _, _, hok, h2, (by rw [h1, usedE_eq, usedA_perm src hok.perm]), rfl⟩
theorem total_spec (g : Nat) (room quota : Int) (B : List Bk) (F : HP) : CallsS Try.prog 17 #[.pointer (some ⟨g, 0, none⟩)] F [areaP g room quota B] (fun r Ps => r = .int .i64 (totA B : Int) ∧ Ps = [areaP g room quota B]) :=
  callsS_openA fun es soon hok => (total_raw g room quota soon es F).imp fun v Ps ⟨h1, h2⟩ => ⟨_, _, _, hok, h2, (by rw [h1, totE_eq, totA_perm hok.perm]), rfl⟩
theorem new_bad (room quota : Int) (hbad : (((decide (room < 1) || decide (1073741824 < room)) || decide (quota < 1)) || decide (1073741824 < quota)) = true) (F : HP) : CallsS Try.prog 10 #[.int .i64 room, .int .i64 quota] F [] (fun r Ps => r = .tuple #[.pointer none, .int .i64 1] ∧ Ps = []) := by
  refine callsS_enter Try.func10 rfl Try.ntmps10 (by simp) (fun E => ?_)
  refine W_seq ?_
  refine W.pre (K' := [(0, _), (1, _)]) (L' := [(0, _)]) ?_ ⟨rfl, ⟨rfl, trivial⟩⟩ ⟨rfl, trivial⟩
  refine W_regL (WL_pure rfl rfl (by decide) (Pu_assign rfl rfl) (WL_pure rfl rfl (by decide) (Pu_assign rfl rfl) (WL_nil (X_then ?_))))
  refine W_seq ?_
  refine W_seq ?_
  refine W.pre (K' := [(0, _), (1, _), (4, _), (5, _)]) (L' := [(0, _)]) ?_ ⟨rfl, ⟨rfl, ⟨rfl, ⟨rfl, trivial⟩⟩⟩⟩ ⟨rfl, trivial⟩
  refine W_regL (WL_pure rfl rfl (by decide) (Pu_move rfl rfl) (WL_pure rfl rfl (by decide) (Pu_bin rfl rfl rfl (run_lss _ _ _ _ _ _)) (WL_pure rfl rfl (by decide) (Pu_move rfl rfl) (WL_guardP rfl rfl rfl rfl (by decide) (fun hb => (Pu_move rfl rfl)) (WL_guardP rfl rfl rfl rfl (by decide) (fun hb => (Pu_bin rfl (ev_gv rfl hb) rfl (run_gtr _ _ _ _ _ _))) (WL_pure rfl rfl (by decide) (Pu_or rfl rfl rfl) (WL_pure rfl rfl (by decide) (Pu_move rfl rfl) (WL_guardP rfl rfl rfl rfl (by decide) (fun hb => (Pu_move rfl rfl)) (WL_guardP rfl rfl rfl rfl (by decide) (fun hb => (Pu_bin rfl (ev_gv rfl hb) rfl (run_lss _ _ _ _ _ _))) (WL_pure rfl rfl (by decide) (Pu_or rfl rfl rfl) (WL_pure rfl rfl (by decide) (Pu_move rfl rfl) (WL_guardP rfl rfl rfl rfl (by decide) (fun hb => (Pu_move rfl rfl)) (WL_guardP rfl rfl rfl rfl (by decide) (fun hb => (Pu_bin rfl (ev_gv rfl hb) rfl (run_gtr _ _ _ _ _ _))) (WL_pure rfl rfl (by decide) (Pu_or rfl rfl rfl) (WL_nil (X_then ?_))))))))))))))))
  refine W_true rfl (hbad) ?_
  refine W_seq ?_
  refine W.pre (K' := [(0, _), (1, _), (4, _), (5, _), (19, _)]) (L' := [(0, _)]) ?_ ⟨rfl, ⟨rfl, ⟨rfl, ⟨rfl, ⟨rfl, trivial⟩⟩⟩⟩⟩ ⟨rfl, trivial⟩
  refine W_regL (WL_pure rfl rfl (by decide) (Pu_assign rfl rfl) (WL_pure rfl rfl (by decide) (Pu_assign rfl rfl) (WL_nil (X_then ?_))))
  refine W_ret (X_then_ret ?_)
  exact X_ret [] (Ps := []) (res2 Try.results10 rfl rfl) rfl (by decide) ⟨rfl, rfl⟩
theorem new_good (room quota : Int) (hr : 1 ≤ room ∧ room ≤ 1073741824) (hq : 1 ≤ quota ∧ quota ≤ 1073741824) (F : HP) : CallsS Try.prog 10 #[.int .i64 room, .int .i64 quota] F [] (fun r Ps => ∃ g, r = .tuple #[.pointer (some ⟨g, 0, none⟩), .int .i64 0] ∧ Ps = [areaP g room quota []]) := by
  refine callsS_enter Try.func10 rfl Try.ntmps10 (by simp) (fun E => ?_)
  refine W_seq ?_
  refine W.pre (K' := [(0, _), (1, _)]) (L' := [(0, _)]) ?_ ⟨rfl, ⟨rfl, trivial⟩⟩ ⟨rfl, trivial⟩
  refine W_regL (WL_pure rfl rfl (by decide) (Pu_assign rfl rfl) (WL_pure rfl rfl (by decide) (Pu_assign rfl rfl) (WL_nil (X_then ?_))))
  refine W_seq ?_
  refine W_seq ?_
  refine W.pre (K' := [(0, _), (1, _), (4, _), (5, _)]) (L' := [(0, _)]) ?_ ⟨rfl, ⟨rfl, ⟨rfl, ⟨rfl, trivial⟩⟩⟩⟩ ⟨rfl, trivial⟩
  refine W_regL (WL_pure rfl rfl (by decide) (Pu_move rfl rfl) (WL_pure rfl rfl (by decide) (Pu_bin rfl rfl rfl (run_lss _ _ _ _ _ _)) (WL_pure rfl rfl (by decide) (Pu_move rfl rfl) (WL_guardP rfl rfl rfl rfl (by decide) (fun hb => (Pu_move rfl rfl)) (WL_guardP rfl rfl rfl rfl (by decide) (fun hb => (Pu_bin rfl (ev_gv rfl hb) rfl (run_gtr _ _ _ _ _ _))) (WL_pure rfl rfl (by decide) (Pu_or rfl rfl rfl) (WL_pure rfl rfl (by decide) (Pu_move rfl rfl) (WL_guardP rfl rfl rfl rfl (by decide) (fun hb => (Pu_move rfl rfl)) (WL_guardP rfl rfl rfl rfl (by decide) (fun hb => (Pu_bin rfl (ev_gv rfl hb) rfl (run_lss _ _ _ _ _ _))) (WL_pure rfl rfl (by decide) (Pu_or rfl rfl rfl) (WL_pure rfl rfl (by decide) (Pu_move rfl rfl) (WL_guardP rfl rfl rfl rfl (by decide) (fun hb => (Pu_move rfl rfl)) (WL_guardP rfl rfl rfl rfl (by decide) (fun hb => (Pu_bin rfl (ev_gv rfl hb) rfl (run_gtr _ _ _ _ _ _))) (WL_pure rfl rfl (by decide) (Pu_or rfl rfl rfl) (WL_nil (X_then ?_))))))))))))))))
  refine W_false rfl (by simp; omega) ?_
  refine W_skip (X_then ?_)
  refine W_seq ?_
  refine W.pre (K' := [(0, _), (1, _), (4, _), (5, _), (19, _)]) (L' := [(0, _)]) ?_ ⟨rfl, ⟨rfl, ⟨rfl, ⟨rfl, ⟨rfl, trivial⟩⟩⟩⟩⟩ ⟨rfl, trivial⟩
  refine W_regL (WL_pure rfl rfl (by decide) (Pu_move rfl rfl) (WL_pure rfl rfl (by decide) (Pu_move rfl rfl) (WL_cons rfl rfl (by decide) (OpT_makeMapQ (r := 150) (enc := idV) (ok := ok32) rfl (fun gm => ?_)))))
  skip
  refine (WL_cons rfl rfl (by decide) (OpT_makeMapQ (r := 151) (enc := intV) (ok := fun _ => True) rfl (fun gu => ?_)))
  skip
  refine (WL_pure rfl rfl (by decide) (Pu_build (V := .agg #[.int .i64 0, .int .i64 room, .int .i64 quota, .map (some gm), .map (some gu), .int .i64 0]) [(0, 1), (1, 1), (2, 1), (3, 1), (4, 1), (5, 1)] ([.int .i64 0, .int .i64 0, .int .i64 0, .map none, .map none, .int .i64 0]) rfl rfl (by kernel_rfl) (by kernel_rfl) (.one rfl rfl (by simp []) rfl (.one rfl rfl (by simp []) rfl (.one rfl rfl (by simp []) rfl (.one rfl rfl (by simp []) rfl (.nil _))))) rfl) (WL_cons rfl rfl (by decide) (OpT_box (r := 101) rfl rfl rfl (fun g101 => (WL_pure rfl rfl (by decide) (Pu_assign rfl rfl) (WL_pure rfl rfl (by decide) (Pu_assign rfl rfl) (WL_nil (X_then ?_))))))))
  refine W_ret ?_
  refine X_nilRow 9901 36 32 ?_
  refine X_turn (P' := datP []) 9901 rfl (fun h hp p hm => by simp at hm) ?_
  refine X_join [101, 150, 151, 9901] 160 (rawP g101 room quota 0 [] none) rfl (by decide) (fun h hs => closeRaw ⟨by simp, by simp [totE]; omega, by omega, by omega, by omega⟩ (fun s => rfl) hs) ?_
  refine X_turn 160 rfl (closeA (B := []) ⟨List.Perm.refl _, List.Pairwise.nil, fun p hp => by simp at hp⟩) ?_
  exact X_ret [160] (Ps := [_]) (res2 Try.results10 rfl rfl) rfl (by decide) ⟨_, rfl, rfl⟩
theorem put_spec (g : Nat) (room quota now : Int) (B : List Bk) (hl : B.length ≤ 1000000000000) (b : BV) (d : List UInt8) (F : HP) (hF : ∀ h, F h → rdB b.sl d h) : CallsS Try.prog 13 #[.pointer (some ⟨g, 0, none⟩), encB b, .int .i64 now] F [areaP g room quota B] (fun r Ps => r = .int .i64 (putA room quota B (toBk (b, d)) now).1 ∧ Ps = [areaP g room quota (putA room quota B (toBk (b, d)) now).2]) := by
  refine callsS_enter Try.func13 rfl Try.ntmps13 (by simp) (fun E => ?_)
  refine W_seq ?_
  refine W.pre (K' := [(0, _), (1, _), (2, _)]) (L' := [(0, _), (1, _)]) ?_ ⟨rfl, ⟨rfl, ⟨rfl, trivial⟩⟩⟩ ⟨rfl, ⟨rfl, trivial⟩⟩
  refine W_regL (WL_cons rfl rfl (by decide) (OpT_box (r := 101) rfl rfl rfl (fun g101 => (WL_pure rfl rfl (by decide) (Pu_assign rfl rfl) (WL_nil (X_then ?_))))))
  refine W_seq ?_
  refine W_block ?_
  refine W_seq ?_
  refine W.pre (K' := [(0, _), (1, _), (2, _), (4, _), (6, _)]) (L' := [(0, _), (1, _), (101, _)]) ?_ ⟨rfl, ⟨rfl, ⟨rfl, ⟨rfl, ⟨rfl, trivial⟩⟩⟩⟩⟩ ⟨rfl, ⟨rfl, ⟨rfl, trivial⟩⟩⟩
  refine W_regL (WL_pure rfl rfl (by decide) (Pu_fieldAddrB (off := 33) rfl rfl (by kernel_rfl)) (WL_pure rfl rfl (by decide) (Pu_loadB (r := 101) rfl Try.isAgg3 rfl rfl (bk_src b.len)) (WL_pure rfl rfl (by decide) (Pu_bin rfl rfl rfl (run_lss _ _ _ _ _ _)) (WL_pure rfl rfl (by decide) (Pu_move rfl rfl) (WL_guardP rfl rfl rfl rfl (by decide) (fun hb => (Pu_fieldAddrB (off := 34) rfl rfl (by kernel_rfl))) (WL_guardP rfl rfl rfl rfl (by decide) (fun hb => (Pu_loadB (r := 101) rfl Try.isAgg3 (ev_gv rfl hb) rfl (bk_exp b.len))) (WL_guardP rfl rfl rfl rfl (by decide) (fun hb => (Pu_move rfl rfl)) (WL_guardP rfl rfl rfl rfl (by decide) (fun hb => (Pu_bin rfl (ev_gv rfl hb) (ev_gv rfl hb) (run_leq _ _ _ _ _ _))) (WL_pure rfl rfl (by decide) (Pu_or rfl rfl rfl) (WL_pure rfl rfl (by decide) (Pu_assign rfl rfl) (WL_nil (X_then ?_))))))))))))
  refine W_cond rfl (fun hc9 => ?_) (fun hc9 => ?_)
  ·
    have hP : putA room quota B (toBk (b, d)) now = (1, B) := by unfold putA; rw [if_pos]; exact hc9
    refine W_seq ?_
    refine W.pre (K' := [(0, _), (1, _), (2, _), (4, _), (6, _), (9, _)]) (L' := [(0, _), (1, _), (101, _)]) ?_ ⟨rfl, ⟨rfl, ⟨rfl, ⟨rfl, ⟨rfl, ⟨rfl, trivial⟩⟩⟩⟩⟩⟩ ⟨rfl, ⟨rfl, ⟨rfl, trivial⟩⟩⟩
    refine W_regL (WL_pure rfl rfl (by decide) (Pu_assign rfl rfl) (WL_nil (X_then ?_)))
    refine W_ret (X_block_ret (X_then_ret ?_))
    exact X_ret [1] (Ps := [_]) (res1 Try.results13 rfl) rfl (by decide) ⟨by rw [hP], by rw [hP]⟩
  ·
    have hq1 : ¬ (decide ((toBk (b, d)).src < 0) || decide ((toBk (b, d)).exp ≤ now)) = true := by rw [Bool.not_eq_true]; exact hc9
    refine W_seq ?_
    refine W.pre (K' := [(0, _), (1, _), (2, _), (4, _), (6, _), (9, _)]) (L' := [(0, _), (1, _), (101, _)]) ?_ ⟨rfl, ⟨rfl, ⟨rfl, ⟨rfl, ⟨rfl, ⟨rfl, trivial⟩⟩⟩⟩⟩⟩ ⟨rfl, ⟨rfl, ⟨rfl, trivial⟩⟩⟩
    refine W_regL (WL_pure rfl rfl (by decide) (Pu_fieldAddrB (off := 32) rfl rfl (by kernel_rfl)) (WL_pure rfl rfl (by decide) (Pu_loadB (r := 101) rfl Try.isAgg38 rfl rfl (bk_data b.len)) (WL_pure rfl rfl (by decide) (Pu_len (r := 0) rfl Try.runUnderlying38 rfl rfl hF) (WL_pure rfl rfl (by decide) (Pu_bin rfl rfl rfl (run_gtr _ _ _ _ _ _)) (WL_pure rfl rfl (by decide) (Pu_assign rfl rfl) (WL_nil (X_then ?_)))))))
    refine W_cond rfl (fun hc19 => ?_) (fun hc19 => ?_)
    ·
      have hlen : 6000 < ((toBk (b, d)).data.length : Int) := of_decide_eq_true hc19
      have hP : putA room quota B (toBk (b, d)) now = (5, B) := by unfold putA; rw [if_neg hq1, if_pos hlen]
      refine W_seq ?_
      refine W.pre (K' := [(0, _), (1, _), (2, _), (4, _), (6, _), (9, _), (19, _)]) (L' := [(0, _), (1, _), (101, _)]) ?_ ⟨rfl, ⟨rfl, ⟨rfl, ⟨rfl, ⟨rfl, ⟨rfl, ⟨rfl, trivial⟩⟩⟩⟩⟩⟩⟩ ⟨rfl, ⟨rfl, ⟨rfl, trivial⟩⟩⟩
      refine W_regL (WL_pure rfl rfl (by decide) (Pu_assign rfl rfl) (WL_nil (X_then ?_)))
      refine W_ret (X_block_ret (X_then_ret ?_))
      exact X_ret [1] (Ps := [_]) (res1 Try.results13 rfl) rfl (by decide) ⟨by rw [hP], by rw [hP]⟩
    ·
      have hlen : ¬ 6000 < ((toBk (b, d)).data.length : Int) := of_decide_eq_false hc19
      refine W_skip (X_block (X_then ?_))
      refine W_seq ?_
      refine W.pre (K' := [(0, _), (1, _), (2, _), (4, _), (6, _), (9, _), (19, _)]) (L' := [(0, _), (1, _), (101, _)]) ?_ ⟨rfl, ⟨rfl, ⟨rfl, ⟨rfl, ⟨rfl, ⟨rfl, ⟨rfl, trivial⟩⟩⟩⟩⟩⟩⟩ ⟨rfl, ⟨rfl, ⟨rfl, trivial⟩⟩⟩
      refine W_openA 1 rfl (fun es soon hok => ?_)
      have hesl := hok.len
      refine W_regL (WL_pure rfl rfl (by decide) (Pu_move rfl rfl) (WL_pure rfl rfl (by decide) (Pu_move rfl rfl) (WL_cons rfl rfl (by decide) (OpT_call 200 [0, 101] [1] rfl Try.call11 rfl rfl rfl (by decide) (by decide) (sweep_raw g room quota soon now es hok.soon (by omega) _) (fun v26 Ps26 hR26 => ?_)))))
      obtain ⟨es2, soon2, rfl, hp2, hs2, rfl⟩ := hR26
      have hok2 := hok.sweep hp2 hs2
      refine (WL_nil (X_then ?_))
      refine W_seq ?_
      refine W.pre (K' := [(0, _), (1, _), (2, _), (4, _), (6, _), (9, _), (19, _)]) (L' := [(0, _), (101, _), (200, _)]) ?_ ⟨rfl, ⟨rfl, ⟨rfl, ⟨rfl, ⟨rfl, ⟨rfl, ⟨rfl, trivial⟩⟩⟩⟩⟩⟩⟩ ⟨rfl, ⟨rfl, ⟨rfl, trivial⟩⟩⟩
      generalize hB2 : sweepA now B = B2 at hok2
      refine W_openRaw 200 500 rfl (fun gm gu us hg hu => ?_)
      have hfit := hg.fits
      have hmost := hg.most
      have hmq := hg.mostq
      have hpq := hg.posq
      refine W_draw (N := 13) (by kernel_rfl) rfl [(0, _), (101, _), (500, _)] ⟨rfl, ⟨rfl, ⟨rfl, trivial⟩⟩⟩ ?_
      refine (AH_take 0 rfl (by kernel_rfl) (by kernel_rfl) (by kernel_rfl) rfl rfl (by decide) (Pu_move rfl rfl) (AH_take 1 rfl (by kernel_rfl) (by kernel_rfl) (by kernel_rfl) rfl rfl (by decide) (Pu_nilCheck rfl rfl) (AH_take 2 rfl (by kernel_rfl) (by kernel_rfl) (by kernel_rfl) rfl rfl (by decide) (Pu_fieldAddrB (off := 3) rfl rfl (by kernel_rfl)) (AH_take 3 rfl (by kernel_rfl) (by kernel_rfl) (by kernel_rfl) rfl rfl (by decide) (Pu_loadB (r := 500) rfl Try.isAgg58 rfl rfl rfl) (AH_take 4 rfl (by kernel_rfl) (by kernel_rfl) (by kernel_rfl) rfl rfl (by decide) (Pu_fieldAddrB (off := 0) rfl rfl (by kernel_rfl)) (AH_take 5 rfl (by kernel_rfl) (by kernel_rfl) (by kernel_rfl) rfl rfl (by decide) (Pu_loadBN (r := 101) rfl Try.isAgg36 Try.sizeOf36 rfl rfl ((bs_length _).trans b.len) (bk_key b.len)) (AH_ready [6, 10] (by kernel_rfl) (by decide) ?_)))))))
      refine AHs_cons rfl rfl rfl (by decide) (OpT_run (Pu_look (r := 501) rfl rfl rfl b.len rfl) ⟨⟨rfl, ⟨rfl, ⟨rfl, trivial⟩⟩⟩, ?_⟩) ?_
      ·
        refine (AH_take 7 rfl (by kernel_rfl) (by kernel_rfl) (by kernel_rfl) rfl rfl (by decide) (Pu_move rfl rfl) (AH_take 8 rfl (by kernel_rfl) (by kernel_rfl) (by kernel_rfl) rfl rfl (by decide) (Pu_extract rfl rfl rfl) (AH_take 9 rfl (by kernel_rfl) (by kernel_rfl) (by kernel_rfl) rfl rfl (by decide) (Pu_extract rfl rfl rfl) (AH_ready [10] (by kernel_rfl) (by decide) ?_))))
        refine AHs_cons rfl rfl rfl (by decide) (OpT_alloc (r := 561) rfl (zero_run (by kernel_rfl : (Try.prog.info? 40).bind (·.zero) = some (.agg (bkC zeroId (.slice none 0 0) 0 0).toArray))) rfl (fun g561 => ⟨⟨rfl, ⟨rfl, ⟨rfl, trivial⟩⟩⟩, ?_⟩)) ?_
        ·
          refine (AH_ready [11] (by kernel_rfl) (by decide) ?_)
          refine AHs_cons0 rfl rfl rfl (OpT_storeAll (r := 561) rfl Try.sizeOf40 rfl rfl rfl (bkC_length rfl) (bvC_length _) (bvC_one _) ?_) ?_
          ·
            refine ⟨⟨rfl, ⟨rfl, ⟨rfl, trivial⟩⟩⟩, ?_⟩
            refine (AH_take 12 rfl (by kernel_rfl) (by kernel_rfl) (by kernel_rfl) rfl rfl (by decide) (Pu_assign rfl rfl) (AH_done (by kernel_rfl) (X_then ?_)))
            refine W_seq ?_
            refine W_block ?_
            refine W_seq ?_
            refine W.pre (K' := [(0, _), (1, _), (2, _), (4, _), (6, _), (7, _), (8, _), (9, _), (19, _)]) (L' := [(0, _), (101, _), (500, _), (501, _), (502, _), (503, _), (561, _)]) ?_ ⟨rfl, ⟨rfl, ⟨rfl, ⟨rfl, ⟨rfl, ⟨rfl, ⟨rfl, ⟨rfl, ⟨rfl, trivial⟩⟩⟩⟩⟩⟩⟩⟩⟩ ⟨rfl, ⟨rfl, ⟨rfl, ⟨rfl, ⟨rfl, ⟨rfl, ⟨rfl, trivial⟩⟩⟩⟩⟩⟩⟩
            refine W_regL (WL_pure rfl rfl (by decide) (Pu_move rfl rfl) (WL_pure rfl rfl (by decide) (Pu_assign rfl rfl) (WL_nil (X_then ?_))))
            refine W_cond rfl (fun hc37 => ?_) (fun hc37 => ?_)
            ·
              obtain ⟨p, hf⟩ := Option.isSome_iff_exists.1 hc37
              have hpk := (findE_some hf).2
              have hfa := hok2.find b.key
              rw [hf] at hfa
              have hB : getB b.key es2 = p.1 := by unfold getB; rw [hf]; rfl
              rw [hB]
              have hP : putA room quota B (toBk (b, d)) now = (0, renewA b.key b.exp B2) := by
                unfold putA
                rw [if_neg hq1, if_neg hlen, hB2, toBk_key]
                simp only [← hfa, Option.map_some]
                rfl
              refine W_seq ?_
              refine W.pre (K' := [(0, _), (1, _), (2, _), (4, _), (6, _), (7, _), (8, _), (9, _), (19, _), (37, _)]) (L' := [(0, _), (101, _), (500, _), (501, _), (502, _), (503, _), (561, _)]) ?_ ⟨rfl, ⟨rfl, ⟨rfl, ⟨rfl, ⟨rfl, ⟨rfl, ⟨rfl, ⟨rfl, ⟨rfl, ⟨rfl, trivial⟩⟩⟩⟩⟩⟩⟩⟩⟩⟩ ⟨rfl, ⟨rfl, ⟨rfl, ⟨rfl, ⟨rfl, ⟨rfl, ⟨rfl, trivial⟩⟩⟩⟩⟩⟩⟩
              refine W_regL (WL_pure rfl rfl (by decide) (Pu_fieldAddrB (off := 34) rfl rfl (by kernel_rfl)) (WL_pure rfl rfl (by decide) (Pu_loadB (r := 561) rfl Try.isAgg3 rfl rfl (bk_exp p.1.len)) (WL_pure rfl rfl (by decide) (Pu_fieldAddrB (off := 34) rfl rfl (by kernel_rfl)) (WL_pure rfl rfl (by decide) (Pu_loadB (r := 101) rfl Try.isAgg3 rfl rfl (bk_exp b.len)) (WL_pure rfl rfl (by decide) (Pu_max rfl rfl rfl) (WL_pure rfl rfl (by decide) (Pu_fieldAddrB (off := 34) rfl rfl (by kernel_rfl)) (WL_cons0 rfl rfl (OpT_storeB1 (r := 561) rfl Try.sizeOf3 rfl rfl rfl rfl (by rw [bvC_length]; decide) (bk_set_exp p.1.len _) ?_))))))))
              refine (WL_nil (X_then ?_))
              refine W_seq ?_
              refine W.pre (K' := [(0, _), (1, _), (2, _), (4, _), (6, _), (7, _), (8, _), (9, _), (19, _), (37, _)]) (L' := [(0, _), (101, _), (500, _), (501, _), (502, _), (503, _), (561, _)]) ?_ ⟨rfl, ⟨rfl, ⟨rfl, ⟨rfl, ⟨rfl, ⟨rfl, ⟨rfl, ⟨rfl, ⟨rfl, ⟨rfl, trivial⟩⟩⟩⟩⟩⟩⟩⟩⟩⟩ ⟨rfl, ⟨rfl, ⟨rfl, ⟨rfl, ⟨rfl, ⟨rfl, ⟨rfl, trivial⟩⟩⟩⟩⟩⟩⟩
              refine W_draw (N := 8) (by kernel_rfl) rfl [(0, _), (101, _), (500, _), (561, _)] ⟨rfl, ⟨rfl, ⟨rfl, ⟨rfl, trivial⟩⟩⟩⟩ ?_
              refine (AH_take 0 rfl (by kernel_rfl) (by kernel_rfl) (by kernel_rfl) rfl rfl (by decide) (Pu_move rfl rfl) (AH_take 1 rfl (by kernel_rfl) (by kernel_rfl) (by kernel_rfl) rfl rfl (by decide) (Pu_nilCheck rfl rfl) (AH_take 2 rfl (by kernel_rfl) (by kernel_rfl) (by kernel_rfl) rfl rfl (by decide) (Pu_fieldAddrB (off := 3) rfl rfl (by kernel_rfl)) (AH_take 3 rfl (by kernel_rfl) (by kernel_rfl) (by kernel_rfl) rfl rfl (by decide) (Pu_loadB (r := 500) rfl Try.isAgg58 rfl rfl rfl) (AH_take 4 rfl (by kernel_rfl) (by kernel_rfl) (by kernel_rfl) rfl rfl (by decide) (Pu_fieldAddrB (off := 0) rfl rfl (by kernel_rfl)) (AH_take 5 rfl (by kernel_rfl) (by kernel_rfl) (by kernel_rfl) rfl rfl (by decide) (Pu_loadBN (r := 101) rfl Try.isAgg36 Try.sizeOf36 rfl rfl ((bs_length _).trans b.len) (bk_key b.len)) (AH_take 6 rfl (by kernel_rfl) (by kernel_rfl) (by kernel_rfl) rfl rfl (by decide) (Pu_loadBN (r := 561) rfl Try.isAgg40 Try.sizeOf40 rfl rfl (bkC_length p.1.len) (load_all (bkC_length p.1.len))) (AH_ready [7] (by kernel_rfl) (by decide) ?_))))))))
              refine AHs_cons0 rfl rfl rfl (OpT_mapSetQ (r := 501) (k := b.key) (v := encB (upV b.exp p.1)) keyB rfl Try.underlying58 rfl rfl b.len rfl rfl (by rw [ents_is, hf]; rfl) ?_) ?_
              ·
                refine ⟨⟨rfl, ⟨rfl, ⟨rfl, ⟨rfl, trivial⟩⟩⟩⟩, ?_⟩
                refine (AH_done (by kernel_rfl) (X_then ?_))
                refine W_seq ?_
                refine W.pre (K' := [(0, _), (1, _), (2, _), (4, _), (6, _), (7, _), (8, _), (9, _), (19, _), (37, _)]) (L' := [(0, _), (101, _), (500, _), (501, _), (502, _), (503, _), (561, _)]) ?_ ⟨rfl, ⟨rfl, ⟨rfl, ⟨rfl, ⟨rfl, ⟨rfl, ⟨rfl, ⟨rfl, ⟨rfl, ⟨rfl, trivial⟩⟩⟩⟩⟩⟩⟩⟩⟩⟩ ⟨rfl, ⟨rfl, ⟨rfl, ⟨rfl, ⟨rfl, ⟨rfl, ⟨rfl, trivial⟩⟩⟩⟩⟩⟩⟩
                refine W_regL (WL_pure rfl rfl (by decide) (Pu_assign rfl rfl) (WL_nil (X_then ?_)))
                refine W_ret (X_block_ret (X_then_ret ?_))
                refine X_turn 503 rfl (fun h hp => setE_dat (k := b.key) (e := b.exp) hp) ?_
                refine X_turn (P' := mapB gm (entsOf (setE b.key b.exp es2)) none) 501 rfl (fun h hp => by rw [← setE_ents hg.nodup hf]; exact hp) ?_
                refine X_turn (P' := areaB g soon2 room quota gm gu (totE (setE b.key b.exp es2) : Int)) 500 rfl (fun h hp => by rw [setE_tot]; exact hp) ?_
                refine X_join [500, 501, 502, 503] 1 (rawP g room quota soon2 (setE b.key b.exp es2) none) rfl (by decide) (fun h hs => closeRaw (hg.set _ _) (fun s => by rw [setE_used]; exact hu s) hs) ?_
                refine X_turn 1 rfl (closeA (hok2.renew b.key b.exp)) ?_
                exact X_ret [1] (Ps := [_]) (res1 Try.results13 rfl) rfl (by decide) ⟨by rw [hP], by rw [hP]⟩
              exact AHs_nil
            ·
              have hf : findE b.key es2 = none := Option.not_isSome_iff_eq_none.1 (by simpa using hc37)
              have hfa := hok2.find b.key
              rw [hf] at hfa
              have hus := hu b.src
              have hle := usedE_le b.src es2
              have hue : usedE b.src es2 = usedA b.src B2 := by rw [usedE_eq, usedA_perm b.src hok2.perm]
              have hte : totE es2 = totA B2 := by rw [totE_eq, totA_perm hok2.perm]
              refine W_seq ?_
              refine W.pre (K' := [(0, _), (1, _), (2, _), (4, _), (6, _), (7, _), (8, _), (9, _), (19, _), (37, _)]) (L' := [(0, _), (101, _), (500, _), (501, _), (502, _), (503, _), (561, _)]) ?_ ⟨rfl, ⟨rfl, ⟨rfl, ⟨rfl, ⟨rfl, ⟨rfl, ⟨rfl, ⟨rfl, ⟨rfl, ⟨rfl, trivial⟩⟩⟩⟩⟩⟩⟩⟩⟩⟩ ⟨rfl, ⟨rfl, ⟨rfl, ⟨rfl, ⟨rfl, ⟨rfl, ⟨rfl, trivial⟩⟩⟩⟩⟩⟩⟩
              refine W_draw (N := 17) (by kernel_rfl) rfl [(0, _), (101, _), (500, _), (561, _)] ⟨rfl, ⟨rfl, ⟨rfl, ⟨rfl, trivial⟩⟩⟩⟩ ?_
              refine (AH_take 0 rfl (by kernel_rfl) (by kernel_rfl) (by kernel_rfl) rfl rfl (by decide) (Pu_fieldAddrB (off := 32) rfl rfl (by kernel_rfl)) (AH_take 1 rfl (by kernel_rfl) (by kernel_rfl) (by kernel_rfl) rfl rfl (by decide) (Pu_loadB (r := 101) rfl Try.isAgg38 rfl rfl (bk_data b.len)) (AH_take 2 rfl (by kernel_rfl) (by kernel_rfl) (by kernel_rfl) rfl rfl (by decide) (Pu_len (r := 0) rfl Try.runUnderlying38 rfl rfl hF) (AH_take 3 rfl (by kernel_rfl) (by kernel_rfl) (by kernel_rfl) rfl rfl (by decide) (Pu_move rfl rfl) (AH_take 4 rfl (by kernel_rfl) (by kernel_rfl) (by kernel_rfl) rfl rfl (by decide) (Pu_nilCheck rfl rfl) (AH_take 5 rfl (by kernel_rfl) (by kernel_rfl) (by kernel_rfl) rfl rfl (by decide) (Pu_fieldAddrB (off := 2) rfl rfl (by kernel_rfl)) (AH_take 6 rfl (by kernel_rfl) (by kernel_rfl) (by kernel_rfl) rfl rfl (by decide) (Pu_loadB (r := 500) rfl Try.isAgg3 rfl rfl rfl) (AH_take 7 rfl (by kernel_rfl) (by kernel_rfl) (by kernel_rfl) rfl rfl (by decide) (Pu_move rfl rfl) (AH_take 8 rfl (by kernel_rfl) (by kernel_rfl) (by kernel_rfl) rfl rfl (by decide) (Pu_nilCheck rfl rfl) (AH_take 9 rfl (by kernel_rfl) (by kernel_rfl) (by kernel_rfl) rfl rfl (by decide) (Pu_fieldAddrB (off := 4) rfl rfl (by kernel_rfl)) (AH_take 10 rfl (by kernel_rfl) (by kernel_rfl) (by kernel_rfl) rfl rfl (by decide) (Pu_loadB (r := 500) rfl Try.isAgg59 rfl rfl rfl) (AH_take 11 rfl (by kernel_rfl) (by kernel_rfl) (by kernel_rfl) rfl rfl (by decide) (Pu_fieldAddrB (off := 33) rfl rfl (by kernel_rfl)) (AH_take 12 rfl (by kernel_rfl) (by kernel_rfl) (by kernel_rfl) rfl rfl (by decide) (Pu_loadB (r := 101) rfl Try.isAgg3 rfl rfl (bk_src b.len)) (AH_ready [13] (by kernel_rfl) (by decide) ?_))))))))))))))
              refine AHs_cons rfl rfl rfl (by decide) (OpT_run (Pu_lookU (r := 502) rfl rfl rfl rfl hus) ⟨⟨rfl, ⟨rfl, ⟨rfl, ⟨rfl, trivial⟩⟩⟩⟩, ?_⟩) ?_
              ·
                refine (AH_take 14 rfl (by kernel_rfl) (by kernel_rfl) (by kernel_rfl) rfl rfl (by decide) (Pu_bin rfl rfl rfl (run_sub _ _ _ _ _ (by omega))) (AH_take 15 rfl (by kernel_rfl) (by kernel_rfl) (by kernel_rfl) rfl rfl (by decide) (Pu_bin rfl rfl rfl (run_gtr _ _ _ _ _ _)) (AH_take 16 rfl (by kernel_rfl) (by kernel_rfl) (by kernel_rfl) rfl rfl (by decide) (Pu_assign rfl rfl) (AH_done (by kernel_rfl) (X_then ?_)))))
                refine W_cond rfl (fun hc52 => ?_) (fun hc52 => ?_)
                ·
                  have hgt := of_decide_eq_true hc52
                  have hP : putA room quota B (toBk (b, d)) now = (15, B2) := by
                    unfold putA
                    rw [if_neg hq1, if_neg hlen, hB2, toBk_key]
                    simp only [← hfa, Option.map_none]
                    rw [if_pos (by show quota - (usedA b.src B2 : Int) < (d.length : Int); omega)]
                  refine W_seq ?_
                  refine W.pre (K' := [(0, _), (1, _), (2, _), (4, _), (6, _), (7, _), (8, _), (9, _), (19, _), (37, _), (52, _)]) (L' := [(0, _), (101, _), (500, _), (501, _), (502, _), (503, _), (561, _)]) ?_ ⟨rfl, ⟨rfl, ⟨rfl, ⟨rfl, ⟨rfl, ⟨rfl, ⟨rfl, ⟨rfl, ⟨rfl, ⟨rfl, ⟨rfl, trivial⟩⟩⟩⟩⟩⟩⟩⟩⟩⟩⟩ ⟨rfl, ⟨rfl, ⟨rfl, ⟨rfl, ⟨rfl, ⟨rfl, ⟨rfl, trivial⟩⟩⟩⟩⟩⟩⟩
                  refine W_regL (WL_pure rfl rfl (by decide) (Pu_assign rfl rfl) (WL_nil (X_then ?_)))
                  refine W_ret (X_block_ret (X_then_ret ?_))
                  refine X_join [500, 501, 502, 503] 1 (rawP g room quota soon2 es2 none) rfl (by decide) (fun h hs => closeRaw hg hu hs) ?_
                  refine X_turn 1 rfl (closeA hok2) ?_
                  exact X_ret [1] (Ps := [_]) (res1 Try.results13 rfl) rfl (by decide) ⟨by rw [hP], by rw [hP]⟩
                ·
                  have hge := of_decide_eq_false hc52
                  refine W_seq ?_
                  refine W.pre (K' := [(0, _), (1, _), (2, _), (4, _), (6, _), (7, _), (8, _), (9, _), (19, _), (37, _), (52, _)]) (L' := [(0, _), (101, _), (500, _), (501, _), (502, _), (503, _), (561, _)]) ?_ ⟨rfl, ⟨rfl, ⟨rfl, ⟨rfl, ⟨rfl, ⟨rfl, ⟨rfl, ⟨rfl, ⟨rfl, ⟨rfl, ⟨rfl, trivial⟩⟩⟩⟩⟩⟩⟩⟩⟩⟩⟩ ⟨rfl, ⟨rfl, ⟨rfl, ⟨rfl, ⟨rfl, ⟨rfl, ⟨rfl, trivial⟩⟩⟩⟩⟩⟩⟩
                  refine W_draw (N := 14) (by kernel_rfl) rfl [(0, _), (101, _), (500, _), (561, _)] ⟨rfl, ⟨rfl, ⟨rfl, ⟨rfl, trivial⟩⟩⟩⟩ ?_
                  refine (AH_take 0 rfl (by kernel_rfl) (by kernel_rfl) (by kernel_rfl) rfl rfl (by decide) (Pu_fieldAddrB (off := 32) rfl rfl (by kernel_rfl)) (AH_take 1 rfl (by kernel_rfl) (by kernel_rfl) (by kernel_rfl) rfl rfl (by decide) (Pu_loadB (r := 101) rfl Try.isAgg38 rfl rfl (bk_data b.len)) (AH_take 2 rfl (by kernel_rfl) (by kernel_rfl) (by kernel_rfl) rfl rfl (by decide) (Pu_len (r := 0) rfl Try.runUnderlying38 rfl rfl hF) (AH_take 3 rfl (by kernel_rfl) (by kernel_rfl) (by kernel_rfl) rfl rfl (by decide) (Pu_move rfl rfl) (AH_take 4 rfl (by kernel_rfl) (by kernel_rfl) (by kernel_rfl) rfl rfl (by decide) (Pu_nilCheck rfl rfl) (AH_take 5 rfl (by kernel_rfl) (by kernel_rfl) (by kernel_rfl) rfl rfl (by decide) (Pu_fieldAddrB (off := 1) rfl rfl (by kernel_rfl)) (AH_take 6 rfl (by kernel_rfl) (by kernel_rfl) (by kernel_rfl) rfl rfl (by decide) (Pu_loadB (r := 500) rfl Try.isAgg3 rfl rfl rfl) (AH_take 7 rfl (by kernel_rfl) (by kernel_rfl) (by kernel_rfl) rfl rfl (by decide) (Pu_move rfl rfl) (AH_take 8 rfl (by kernel_rfl) (by kernel_rfl) (by kernel_rfl) rfl rfl (by decide) (Pu_nilCheck rfl rfl) (AH_take 9 rfl (by kernel_rfl) (by kernel_rfl) (by kernel_rfl) rfl rfl (by decide) (Pu_fieldAddrB (off := 5) rfl rfl (by kernel_rfl)) (AH_take 10 rfl (by kernel_rfl) (by kernel_rfl) (by kernel_rfl) rfl rfl (by decide) (Pu_loadB (r := 500) rfl Try.isAgg3 rfl rfl rfl) (AH_take 11 rfl (by kernel_rfl) (by kernel_rfl) (by kernel_rfl) rfl rfl (by decide) (Pu_bin rfl rfl rfl (run_sub _ _ _ _ _ (by omega))) (AH_take 12 rfl (by kernel_rfl) (by kernel_rfl) (by kernel_rfl) rfl rfl (by decide) (Pu_bin rfl rfl rfl (run_gtr _ _ _ _ _ _)) (AH_take 13 rfl (by kernel_rfl) (by kernel_rfl) (by kernel_rfl) rfl rfl (by decide) (Pu_assign rfl rfl) (AH_done (by kernel_rfl) (X_then ?_))))))))))))))))
                  refine W_cond rfl (fun hc69 => ?_) (fun hc69 => ?_)
                  ·
                    have hgt := of_decide_eq_true hc69
                    have hP : putA room quota B (toBk (b, d)) now = (16, B2) := by
                      unfold putA
                      rw [if_neg hq1, if_neg hlen, hB2, toBk_key]
                      simp only [← hfa, Option.map_none]
                      rw [if_neg (by show ¬ quota - (usedA b.src B2 : Int) < (d.length : Int); omega), if_pos (by show room - (totA B2 : Int) < (d.length : Int); omega)]
                    refine W_seq ?_
                    refine W.pre (K' := [(0, _), (1, _), (2, _), (4, _), (6, _), (7, _), (8, _), (9, _), (19, _), (37, _), (52, _), (69, _)]) (L' := [(0, _), (101, _), (500, _), (501, _), (502, _), (503, _), (561, _)]) ?_ ⟨rfl, ⟨rfl, ⟨rfl, ⟨rfl, ⟨rfl, ⟨rfl, ⟨rfl, ⟨rfl, ⟨rfl, ⟨rfl, ⟨rfl, ⟨rfl, trivial⟩⟩⟩⟩⟩⟩⟩⟩⟩⟩⟩⟩ ⟨rfl, ⟨rfl, ⟨rfl, ⟨rfl, ⟨rfl, ⟨rfl, ⟨rfl, trivial⟩⟩⟩⟩⟩⟩⟩
                    refine W_regL (WL_pure rfl rfl (by decide) (Pu_assign rfl rfl) (WL_nil (X_then ?_)))
                    refine W_ret (X_block_ret (X_then_ret ?_))
                    refine X_join [500, 501, 502, 503] 1 (rawP g room quota soon2 es2 none) rfl (by decide) (fun h hs => closeRaw hg hu hs) ?_
                    refine X_turn 1 rfl (closeA hok2) ?_
                    exact X_ret [1] (Ps := [_]) (res1 Try.results13 rfl) rfl (by decide) ⟨by rw [hP], by rw [hP]⟩
                  ·
                    have hge2 := of_decide_eq_false hc69
                    have hP : putA room quota B (toBk (b, d)) now = (0, insA (toBk (b, d)) B2) := by
                      unfold putA
                      rw [if_neg hq1, if_neg hlen, hB2, toBk_key]
                      simp only [← hfa, Option.map_none]
                      rw [if_neg (by show ¬ quota - (usedA b.src B2 : Int) < (d.length : Int); omega), if_neg (by show ¬ room - (totA B2 : Int) < (d.length : Int); omega)]
                    refine W_skip (X_block (X_then ?_))
                    refine W_seq ?_
                    refine W.pre (K' := [(0, _), (1, _), (2, _), (4, _), (6, _), (7, _), (8, _), (9, _), (19, _), (37, _), (52, _), (69, _)]) (L' := [(0, _), (101, _), (500, _), (501, _), (502, _), (503, _), (561, _)]) ?_ ⟨rfl, ⟨rfl, ⟨rfl, ⟨rfl, ⟨rfl, ⟨rfl, ⟨rfl, ⟨rfl, ⟨rfl, ⟨rfl, ⟨rfl, ⟨rfl, trivial⟩⟩⟩⟩⟩⟩⟩⟩⟩⟩⟩⟩ ⟨rfl, ⟨rfl, ⟨rfl, ⟨rfl, ⟨rfl, ⟨rfl, ⟨rfl, trivial⟩⟩⟩⟩⟩⟩⟩
                    refine W_regL (WL_pure rfl rfl (by decide) (Pu_fieldAddrB (off := 32) rfl rfl (by kernel_rfl)) (WL_pure rfl rfl (by decide) (Pu_loadB (r := 101) rfl Try.isAgg38 rfl rfl (bk_data b.len)) (WL_cons rfl rfl (by decide) (OpT_call 600 [0, 101, 500, 501, 502, 503, 561] [] rfl Try.call31 rfl rfl rfl (by decide) (by decide) (clone_spec b.sl d (by omega) _ (rd_star 0 rfl hF)) (fun v85 Ps85 hR85 => ?_)))))
                    obtain ⟨ho85, rfl⟩ := hR85
                    skip
                    refine (WL_pure rfl rfl (by decide) (Pu_fieldAddrB (off := 32) rfl rfl (by kernel_rfl)) (WL_cons0 rfl rfl (OpT_storeB1 (r := 101) rfl Try.sizeOf38 rfl rfl rfl ho85 (by rw [bvC_length]; decide) (bk_set_data b.len _) ?_)))
                    refine (WL_nil (X_then ?_))
                    refine W_seq ?_
                    refine W.pre (K' := [(0, _), (1, _), (2, _), (4, _), (6, _), (7, _), (8, _), (9, _), (19, _), (37, _), (52, _), (69, _)]) (L' := [(0, _), (101, _), (500, _), (501, _), (502, _), (503, _), (561, _), (600, _)]) ?_ ⟨rfl, ⟨rfl, ⟨rfl, ⟨rfl, ⟨rfl, ⟨rfl, ⟨rfl, ⟨rfl, ⟨rfl, ⟨rfl, ⟨rfl, ⟨rfl, trivial⟩⟩⟩⟩⟩⟩⟩⟩⟩⟩⟩⟩ ⟨rfl, ⟨rfl, ⟨rfl, ⟨rfl, ⟨rfl, ⟨rfl, ⟨rfl, ⟨rfl, trivial⟩⟩⟩⟩⟩⟩⟩⟩
                    refine W_draw (N := 8) (by kernel_rfl) rfl [(0, _), (101, _), (500, _), (561, _)] ⟨rfl, ⟨rfl, ⟨rfl, ⟨rfl, trivial⟩⟩⟩⟩ ?_
                    refine (AH_take 0 rfl (by kernel_rfl) (by kernel_rfl) (by kernel_rfl) rfl rfl (by decide) (Pu_move rfl rfl) (AH_take 1 rfl (by kernel_rfl) (by kernel_rfl) (by kernel_rfl) rfl rfl (by decide) (Pu_nilCheck rfl rfl) (AH_take 2 rfl (by kernel_rfl) (by kernel_rfl) (by kernel_rfl) rfl rfl (by decide) (Pu_fieldAddrB (off := 3) rfl rfl (by kernel_rfl)) (AH_take 3 rfl (by kernel_rfl) (by kernel_rfl) (by kernel_rfl) rfl rfl (by decide) (Pu_loadB (r := 500) rfl Try.isAgg58 rfl rfl rfl) (AH_take 4 rfl (by kernel_rfl) (by kernel_rfl) (by kernel_rfl) rfl rfl (by decide) (Pu_fieldAddrB (off := 0) rfl rfl (by kernel_rfl)) (AH_take 5 rfl (by kernel_rfl) (by kernel_rfl) (by kernel_rfl) rfl rfl (by decide) (Pu_loadBN (r := 101) rfl Try.isAgg36 Try.sizeOf36 rfl rfl ((bs_length _).trans b.len) (bk_key b.len)) (AH_take 6 rfl (by kernel_rfl) (by kernel_rfl) (by kernel_rfl) rfl rfl (by decide) (Pu_loadBN (r := 101) rfl Try.isAgg40 Try.sizeOf40 rfl rfl (bkC_length b.len) (load_all (bkC_length b.len))) (AH_ready [7] (by kernel_rfl) (by decide) ?_))))))))
                    refine AHs_cons0 rfl rfl rfl (OpT_mapAddQ (r := 501) (k := b.key) (v := encB ⟨(b.key, v85, b.src, b.exp), b.len, ho85⟩) keyB rfl Try.underlying58 rfl rfl b.len rfl rfl (by rw [lookQ_ents, hf]; rfl) ?_) ?_
                    ·
                      refine ⟨⟨rfl, ⟨rfl, ⟨rfl, ⟨rfl, trivial⟩⟩⟩⟩, ?_⟩
                      refine (AH_done (by kernel_rfl) (X_then ?_))
                      refine W_seq ?_
                      refine W.pre (K' := [(0, _), (1, _), (2, _), (4, _), (6, _), (7, _), (8, _), (9, _), (19, _), (37, _), (52, _), (69, _)]) (L' := [(0, _), (101, _), (500, _), (501, _), (502, _), (503, _), (561, _), (600, _)]) ?_ ⟨rfl, ⟨rfl, ⟨rfl, ⟨rfl, ⟨rfl, ⟨rfl, ⟨rfl, ⟨rfl, ⟨rfl, ⟨rfl, ⟨rfl, ⟨rfl, trivial⟩⟩⟩⟩⟩⟩⟩⟩⟩⟩⟩⟩ ⟨rfl, ⟨rfl, ⟨rfl, ⟨rfl, ⟨rfl, ⟨rfl, ⟨rfl, ⟨rfl, trivial⟩⟩⟩⟩⟩⟩⟩⟩
                      refine W_draw (N := 11) (by kernel_rfl) rfl [(0, _), (101, _), (561, _)] ⟨rfl, ⟨rfl, ⟨rfl, trivial⟩⟩⟩ ?_
                      refine (AH_take 0 rfl (by kernel_rfl) (by kernel_rfl) (by kernel_rfl) rfl rfl (by decide) (Pu_move rfl rfl) (AH_take 1 rfl (by kernel_rfl) (by kernel_rfl) (by kernel_rfl) rfl rfl (by decide) (Pu_move rfl rfl) (AH_take 2 rfl (by kernel_rfl) (by kernel_rfl) (by kernel_rfl) rfl rfl (by decide) (Pu_nilCheck rfl rfl) (AH_take 3 rfl (by kernel_rfl) (by kernel_rfl) (by kernel_rfl) rfl rfl (by decide) (Pu_fieldAddrB (off := 0) rfl rfl (by kernel_rfl)) (AH_take 5 rfl (by kernel_rfl) (by kernel_rfl) (by kernel_rfl) rfl rfl (by decide) (Pu_fieldAddrB (off := 34) rfl rfl (by kernel_rfl)) (AH_take 6 rfl (by kernel_rfl) (by kernel_rfl) (by kernel_rfl) rfl rfl (by decide) (Pu_loadB (r := 101) rfl Try.isAgg3 rfl rfl (bk_exp b.len)) (AH_ready [4] (by kernel_rfl) (by decide) ?_)))))))
                      refine AHs_cons rfl rfl rfl (by decide) (OpT_run (Pu_loadB (r := 500) rfl Try.isAgg3 rfl rfl rfl) ⟨⟨rfl, ⟨rfl, ⟨rfl, trivial⟩⟩⟩, ?_⟩) ?_
                      ·
                        refine (AH_take 7 rfl (by kernel_rfl) (by kernel_rfl) (by kernel_rfl) rfl rfl (by decide) (Pu_min rfl rfl rfl) (AH_take 8 rfl (by kernel_rfl) (by kernel_rfl) (by kernel_rfl) rfl rfl (by decide) (Pu_nilCheck rfl rfl) (AH_take 9 rfl (by kernel_rfl) (by kernel_rfl) (by kernel_rfl) rfl rfl (by decide) (Pu_fieldAddrB (off := 0) rfl rfl (by kernel_rfl)) (AH_ready [10] (by kernel_rfl) (by decide) ?_))))
                        refine AHs_cons0 rfl rfl rfl (OpT_storeB1 (r := 500) rfl Try.sizeOf3 rfl rfl rfl rfl (by simp) rfl ?_) ?_
                        ·
                          refine ⟨⟨rfl, ⟨rfl, ⟨rfl, trivial⟩⟩⟩, ?_⟩
                          refine (AH_done (by kernel_rfl) (X_then ?_))
                          refine W_seq ?_
                          refine W.pre (K' := [(0, _), (1, _), (2, _), (4, _), (6, _), (7, _), (8, _), (9, _), (19, _), (37, _), (52, _), (69, _)]) (L' := [(0, _), (101, _), (500, _), (501, _), (502, _), (503, _), (561, _), (600, _)]) ?_ ⟨rfl, ⟨rfl, ⟨rfl, ⟨rfl, ⟨rfl, ⟨rfl, ⟨rfl, ⟨rfl, ⟨rfl, ⟨rfl, ⟨rfl, ⟨rfl, trivial⟩⟩⟩⟩⟩⟩⟩⟩⟩⟩⟩⟩ ⟨rfl, ⟨rfl, ⟨rfl, ⟨rfl, ⟨rfl, ⟨rfl, ⟨rfl, ⟨rfl, trivial⟩⟩⟩⟩⟩⟩⟩⟩
                          refine W_regL (WL_pure rfl rfl (by decide) (Pu_move rfl rfl) (WL_pure rfl rfl (by decide) (Pu_fieldAddrB (off := 33) rfl rfl (by kernel_rfl)) (WL_pure rfl rfl (by decide) (Pu_loadB (r := 101) rfl Try.isAgg3 rfl rfl (bk_src b.len)) (WL_pure rfl rfl (by decide) (Pu_fieldAddrB (off := 32) rfl rfl (by kernel_rfl)) (WL_pure rfl rfl (by decide) (Pu_loadB (r := 101) rfl Try.isAgg38 rfl rfl (bk_data b.len)) (WL_pure rfl rfl (by decide) (Pu_len (r := 600) rfl Try.runUnderlying38 rfl rfl rowB_rd) (WL_cons rfl rfl (by decide) (OpT_call 700 [0, 101, 501, 503, 561, 600] [500, 502] rfl Try.call32 rfl rfl rfl (by decide) (by decide) (count_spec g gm gu (min soon2 b.exp) room quota (totE es2 : Int) (usedE b.src es2 : Int) b.src (d.length : Int) us hus (by omega) (by omega) (by omega) _) (fun v110 Ps110 hR110 => ?_)))))))))
                          obtain ⟨rfl, rfl⟩ := hR110
                          skip
                          refine (WL_nil (X_then ?_))
                          refine W_seq ?_
                          refine W.pre (K' := [(0, _), (1, _), (2, _), (4, _), (6, _), (7, _), (8, _), (9, _), (19, _), (37, _), (52, _), (69, _)]) (L' := [(0, _), (101, _), (501, _), (503, _), (561, _), (600, _), (700, _), (701, _)]) ?_ ⟨rfl, ⟨rfl, ⟨rfl, ⟨rfl, ⟨rfl, ⟨rfl, ⟨rfl, ⟨rfl, ⟨rfl, ⟨rfl, ⟨rfl, ⟨rfl, trivial⟩⟩⟩⟩⟩⟩⟩⟩⟩⟩⟩⟩ ⟨rfl, ⟨rfl, ⟨rfl, ⟨rfl, ⟨rfl, ⟨rfl, ⟨rfl, ⟨rfl, trivial⟩⟩⟩⟩⟩⟩⟩⟩
                          refine W_regL (WL_pure rfl rfl (by decide) (Pu_assign rfl rfl) (WL_nil (X_then ?_)))
                          refine W_ret ?_
                          have ⟨nb, hnb⟩ : ∃ x : EB, x = (⟨(b.key, v85, b.src, b.exp), b.len, ho85⟩, d) := ⟨_, rfl⟩
                          refine X_join [503, 600] 503 (datP (es2 ++ [((⟨(b.key, v85, b.src, b.exp), b.len, ho85⟩, d) : EB)])) rfl (by decide) (fun h hs => datP_add hs) ?_
                          refine X_turn (P' := mapB gm (entsOf (es2 ++ [((⟨(b.key, v85, b.src, b.exp), b.len, ho85⟩, d) : EB)])) none) 501 rfl (fun h hp => by rw [ents_add]; exact hp) ?_
                          refine X_turn (P' := areaB g (min soon2 b.exp) room quota gm gu (totE (es2 ++ [((⟨(b.key, v85, b.src, b.exp), b.len, ho85⟩, d) : EB)]) : Int)) 700 rfl (fun h hp => by rw [show ((totE (es2 ++ [((⟨(b.key, v85, b.src, b.exp), b.len, ho85⟩, d) : EB)]) : Nat) : Int) = (totE es2 : Int) + (d.length : Int) by rw [totE_app, totE_cons]; simp [totE]]; exact hp) ?_
                          refine X_join [700, 501, 701, 503] 1 (rawP g room quota (min soon2 b.exp) (es2 ++ [((⟨(b.key, v85, b.src, b.exp), b.len, ho85⟩, d) : EB)]) none) rfl (by decide) (fun h hs => closeRaw (hg.add hf (by dsimp only; omega)) (used_add (p := ((⟨(b.key, v85, b.src, b.exp), b.len, ho85⟩, d) : EB)) hu) hs) ?_
                          refine X_turn 1 rfl (closeA (hok2.ins (p := ((⟨(b.key, v85, b.src, b.exp), b.len, ho85⟩, d) : EB)) hf)) ?_
                          exact X_ret [1] (Ps := [_]) (res1 Try.results13 rfl) rfl (by decide) ⟨by rw [hP], by rw [hP]; rfl⟩
                        exact AHs_nil
                      exact AHs_nil
                    exact AHs_nil
              exact AHs_nil
          exact AHs_nil
        exact AHs_nil
      refine AHs_cons rfl rfl rfl (by decide) (OpT_alloc (r := 561) rfl (zero_run (by kernel_rfl : (Try.prog.info? 40).bind (·.zero) = some (.agg (bkC zeroId (.slice none 0 0) 0 0).toArray))) rfl (fun g561 => ⟨⟨rfl, ⟨rfl, ⟨rfl, trivial⟩⟩⟩, ?_⟩)) ?_
      ·
        refine (AH_ready [6] (by kernel_rfl) (by decide) ?_)
        refine AHs_cons rfl rfl rfl (by decide) (OpT_run (Pu_look (r := 501) rfl rfl rfl b.len rfl) ⟨⟨rfl, ⟨rfl, ⟨rfl, trivial⟩⟩⟩, ?_⟩) ?_
        ·
          refine (AH_take 7 rfl (by kernel_rfl) (by kernel_rfl) (by kernel_rfl) rfl rfl (by decide) (Pu_move rfl rfl) (AH_take 8 rfl (by kernel_rfl) (by kernel_rfl) (by kernel_rfl) rfl rfl (by decide) (Pu_extract rfl rfl rfl) (AH_take 9 rfl (by kernel_rfl) (by kernel_rfl) (by kernel_rfl) rfl rfl (by decide) (Pu_extract rfl rfl rfl) (AH_ready [11] (by kernel_rfl) (by decide) ?_))))
          refine AHs_cons0 rfl rfl rfl (OpT_storeAll (r := 561) rfl Try.sizeOf40 rfl rfl rfl (bkC_length rfl) (bvC_length _) (bvC_one _) ?_) ?_
          ·
            refine ⟨⟨rfl, ⟨rfl, ⟨rfl, trivial⟩⟩⟩, ?_⟩
            refine (AH_take 12 rfl (by kernel_rfl) (by kernel_rfl) (by kernel_rfl) rfl rfl (by decide) (Pu_assign rfl rfl) (AH_done (by kernel_rfl) (X_then ?_)))
            refine W_seq ?_
            refine W_block ?_
            refine W_seq ?_
            refine W.pre (K' := [(0, _), (1, _), (2, _), (4, _), (6, _), (7, _), (8, _), (9, _), (19, _)]) (L' := [(0, _), (101, _), (500, _), (501, _), (502, _), (503, _), (561, _)]) ?_ ⟨rfl, ⟨rfl, ⟨rfl, ⟨rfl, ⟨rfl, ⟨rfl, ⟨rfl, ⟨rfl, ⟨rfl, trivial⟩⟩⟩⟩⟩⟩⟩⟩⟩ ⟨rfl, ⟨rfl, ⟨rfl, ⟨rfl, ⟨rfl, ⟨rfl, ⟨rfl, trivial⟩⟩⟩⟩⟩⟩⟩
            refine W_regL (WL_pure rfl rfl (by decide) (Pu_move rfl rfl) (WL_pure rfl rfl (by decide) (Pu_assign rfl rfl) (WL_nil (X_then ?_))))
            refine W_cond rfl (fun hc37 => ?_) (fun hc37 => ?_)
            ·
              obtain ⟨p, hf⟩ := Option.isSome_iff_exists.1 hc37
              have hpk := (findE_some hf).2
              have hfa := hok2.find b.key
              rw [hf] at hfa
              have hB : getB b.key es2 = p.1 := by unfold getB; rw [hf]; rfl
              rw [hB]
              have hP : putA room quota B (toBk (b, d)) now = (0, renewA b.key b.exp B2) := by
                unfold putA
                rw [if_neg hq1, if_neg hlen, hB2, toBk_key]
                simp only [← hfa, Option.map_some]
                rfl
              refine W_seq ?_
              refine W.pre (K' := [(0, _), (1, _), (2, _), (4, _), (6, _), (7, _), (8, _), (9, _), (19, _), (37, _)]) (L' := [(0, _), (101, _), (500, _), (501, _), (502, _), (503, _), (561, _)]) ?_ ⟨rfl, ⟨rfl, ⟨rfl, ⟨rfl, ⟨rfl, ⟨rfl, ⟨rfl, ⟨rfl, ⟨rfl, ⟨rfl, trivial⟩⟩⟩⟩⟩⟩⟩⟩⟩⟩ ⟨rfl, ⟨rfl, ⟨rfl, ⟨rfl, ⟨rfl, ⟨rfl, ⟨rfl, trivial⟩⟩⟩⟩⟩⟩⟩
              refine W_regL (WL_pure rfl rfl (by decide) (Pu_fieldAddrB (off := 34) rfl rfl (by kernel_rfl)) (WL_pure rfl rfl (by decide) (Pu_loadB (r := 561) rfl Try.isAgg3 rfl rfl (bk_exp p.1.len)) (WL_pure rfl rfl (by decide) (Pu_fieldAddrB (off := 34) rfl rfl (by kernel_rfl)) (WL_pure rfl rfl (by decide) (Pu_loadB (r := 101) rfl Try.isAgg3 rfl rfl (bk_exp b.len)) (WL_pure rfl rfl (by decide) (Pu_max rfl rfl rfl) (WL_pure rfl rfl (by decide) (Pu_fieldAddrB (off := 34) rfl rfl (by kernel_rfl)) (WL_cons0 rfl rfl (OpT_storeB1 (r := 561) rfl Try.sizeOf3 rfl rfl rfl rfl (by rw [bvC_length]; decide) (bk_set_exp p.1.len _) ?_))))))))
              refine (WL_nil (X_then ?_))
              refine W_seq ?_
              refine W.pre (K' := [(0, _), (1, _), (2, _), (4, _), (6, _), (7, _), (8, _), (9, _), (19, _), (37, _)]) (L' := [(0, _), (101, _), (500, _), (501, _), (502, _), (503, _), (561, _)]) ?_ ⟨rfl, ⟨rfl, ⟨rfl, ⟨rfl, ⟨rfl, ⟨rfl, ⟨rfl, ⟨rfl, ⟨rfl, ⟨rfl, trivial⟩⟩⟩⟩⟩⟩⟩⟩⟩⟩ ⟨rfl, ⟨rfl, ⟨rfl, ⟨rfl, ⟨rfl, ⟨rfl, ⟨rfl, trivial⟩⟩⟩⟩⟩⟩⟩
              refine W_draw (N := 8) (by kernel_rfl) rfl [(0, _), (101, _), (500, _), (561, _)] ⟨rfl, ⟨rfl, ⟨rfl, ⟨rfl, trivial⟩⟩⟩⟩ ?_
              refine (AH_take 0 rfl (by kernel_rfl) (by kernel_rfl) (by kernel_rfl) rfl rfl (by decide) (Pu_move rfl rfl) (AH_take 1 rfl (by kernel_rfl) (by kernel_rfl) (by kernel_rfl) rfl rfl (by decide) (Pu_nilCheck rfl rfl) (AH_take 2 rfl (by kernel_rfl) (by kernel_rfl) (by kernel_rfl) rfl rfl (by decide) (Pu_fieldAddrB (off := 3) rfl rfl (by kernel_rfl)) (AH_take 3 rfl (by kernel_rfl) (by kernel_rfl) (by kernel_rfl) rfl rfl (by decide) (Pu_loadB (r := 500) rfl Try.isAgg58 rfl rfl rfl) (AH_take 4 rfl (by kernel_rfl) (by kernel_rfl) (by kernel_rfl) rfl rfl (by decide) (Pu_fieldAddrB (off := 0) rfl rfl (by kernel_rfl)) (AH_take 5 rfl (by kernel_rfl) (by kernel_rfl) (by kernel_rfl) rfl rfl (by decide) (Pu_loadBN (r := 101) rfl Try.isAgg36 Try.sizeOf36 rfl rfl ((bs_length _).trans b.len) (bk_key b.len)) (AH_take 6 rfl (by kernel_rfl) (by kernel_rfl) (by kernel_rfl) rfl rfl (by decide) (Pu_loadBN (r := 561) rfl Try.isAgg40 Try.sizeOf40 rfl rfl (bkC_length p.1.len) (load_all (bkC_length p.1.len))) (AH_ready [7] (by kernel_rfl) (by decide) ?_))))))))
              refine AHs_cons0 rfl rfl rfl (OpT_mapSetQ (r := 501) (k := b.key) (v := encB (upV b.exp p.1)) keyB rfl Try.underlying58 rfl rfl b.len rfl rfl (by rw [ents_is, hf]; rfl) ?_) ?_
              ·
                refine ⟨⟨rfl, ⟨rfl, ⟨rfl, ⟨rfl, trivial⟩⟩⟩⟩, ?_⟩
                refine (AH_done (by kernel_rfl) (X_then ?_))
                refine W_seq ?_
                refine W.pre (K' := [(0, _), (1, _), (2, _), (4, _), (6, _), (7, _), (8, _), (9, _), (19, _), (37, _)]) (L' := [(0, _), (101, _), (500, _), (501, _), (502, _), (503, _), (561, _)]) ?_ ⟨rfl, ⟨rfl, ⟨rfl, ⟨rfl, ⟨rfl, ⟨rfl, ⟨rfl, ⟨rfl, ⟨rfl, ⟨rfl, trivial⟩⟩⟩⟩⟩⟩⟩⟩⟩⟩ ⟨rfl, ⟨rfl, ⟨rfl, ⟨rfl, ⟨rfl, ⟨rfl, ⟨rfl, trivial⟩⟩⟩⟩⟩⟩⟩
                refine W_regL (WL_pure rfl rfl (by decide) (Pu_assign rfl rfl) (WL_nil (X_then ?_)))
                refine W_ret (X_block_ret (X_then_ret ?_))
                refine X_turn 503 rfl (fun h hp => setE_dat (k := b.key) (e := b.exp) hp) ?_
                refine X_turn (P' := mapB gm (entsOf (setE b.key b.exp es2)) none) 501 rfl (fun h hp => by rw [← setE_ents hg.nodup hf]; exact hp) ?_
                refine X_turn (P' := areaB g soon2 room quota gm gu (totE (setE b.key b.exp es2) : Int)) 500 rfl (fun h hp => by rw [setE_tot]; exact hp) ?_
                refine X_join [500, 501, 502, 503] 1 (rawP g room quota soon2 (setE b.key b.exp es2) none) rfl (by decide) (fun h hs => closeRaw (hg.set _ _) (fun s => by rw [setE_used]; exact hu s) hs) ?_
                refine X_turn 1 rfl (closeA (hok2.renew b.key b.exp)) ?_
                exact X_ret [1] (Ps := [_]) (res1 Try.results13 rfl) rfl (by decide) ⟨by rw [hP], by rw [hP]⟩
              exact AHs_nil
            ·
              have hf : findE b.key es2 = none := Option.not_isSome_iff_eq_none.1 (by simpa using hc37)
              have hfa := hok2.find b.key
              rw [hf] at hfa
              have hus := hu b.src
              have hle := usedE_le b.src es2
              have hue : usedE b.src es2 = usedA b.src B2 := by rw [usedE_eq, usedA_perm b.src hok2.perm]
              have hte : totE es2 = totA B2 := by rw [totE_eq, totA_perm hok2.perm]
              refine W_seq ?_
              refine W.pre (K' := [(0, _), (1, _), (2, _), (4, _), (6, _), (7, _), (8, _), (9, _), (19, _), (37, _)]) (L' := [(0, _), (101, _), (500, _), (501, _), (502, _), (503, _), (561, _)]) ?_ ⟨rfl, ⟨rfl, ⟨rfl, ⟨rfl, ⟨rfl, ⟨rfl, ⟨rfl, ⟨rfl, ⟨rfl, ⟨rfl, trivial⟩⟩⟩⟩⟩⟩⟩⟩⟩⟩ ⟨rfl, ⟨rfl, ⟨rfl, ⟨rfl, ⟨rfl, ⟨rfl, ⟨rfl, trivial⟩⟩⟩⟩⟩⟩⟩
              refine W_draw (N := 17) (by kernel_rfl) rfl [(0, _), (101, _), (500, _), (561, _)] ⟨rfl, ⟨rfl, ⟨rfl, ⟨rfl, trivial⟩⟩⟩⟩ ?_
              refine (AH_take 0 rfl (by kernel_rfl) (by kernel_rfl) (by kernel_rfl) rfl rfl (by decide) (Pu_fieldAddrB (off := 32) rfl rfl (by kernel_rfl)) (AH_take 1 rfl (by kernel_rfl) (by kernel_rfl) (by kernel_rfl) rfl rfl (by decide) (Pu_loadB (r := 101) rfl Try.isAgg38 rfl rfl (bk_data b.len)) (AH_take 2 rfl (by kernel_rfl) (by kernel_rfl) (by kernel_rfl) rfl rfl (by decide) (Pu_len (r := 0) rfl Try.runUnderlying38 rfl rfl hF) (AH_take 3 rfl (by kernel_rfl) (by kernel_rfl) (by kernel_rfl) rfl rfl (by decide) (Pu_move rfl rfl) (AH_take 4 rfl (by kernel_rfl) (by kernel_rfl) (by kernel_rfl) rfl rfl (by decide) (Pu_nilCheck rfl rfl) (AH_take 5 rfl (by kernel_rfl) (by kernel_rfl) (by kernel_rfl) rfl rfl (by decide) (Pu_fieldAddrB (off := 2) rfl rfl (by kernel_rfl)) (AH_take 6 rfl (by kernel_rfl) (by kernel_rfl) (by kernel_rfl) rfl rfl (by decide) (Pu_loadB (r := 500) rfl Try.isAgg3 rfl rfl rfl) (AH_take 7 rfl (by kernel_rfl) (by kernel_rfl) (by kernel_rfl) rfl rfl (by decide) (Pu_move rfl rfl) (AH_take 8 rfl (by kernel_rfl) (by kernel_rfl) (by kernel_rfl) rfl rfl (by decide) (Pu_nilCheck rfl rfl) (AH_take 9 rfl (by kernel_rfl) (by kernel_rfl) (by kernel_rfl) rfl rfl (by decide) (Pu_fieldAddrB (off := 4) rfl rfl (by kernel_rfl)) (AH_take 10 rfl (by kernel_rfl) (by kernel_rfl) (by kernel_rfl) rfl rfl (by decide) (Pu_loadB (r := 500) rfl Try.isAgg59 rfl rfl rfl) (AH_take 11 rfl (by kernel_rfl) (by kernel_rfl) (by kernel_rfl) rfl rfl (by decide) (Pu_fieldAddrB (off := 33) rfl rfl (by kernel_rfl)) (AH_take 12 rfl (by kernel_rfl) (by kernel_rfl) (by kernel_rfl) rfl rfl (by decide) (Pu_loadB (r := 101) rfl Try.isAgg3 rfl rfl (bk_src b.len)) (AH_ready [13] (by kernel_rfl) (by decide) ?_))))))))))))))
              refine AHs_cons rfl rfl rfl (by decide) (OpT_run (Pu_lookU (r := 502) rfl rfl rfl rfl hus) ⟨⟨rfl, ⟨rfl, ⟨rfl, ⟨rfl, trivial⟩⟩⟩⟩, ?_⟩) ?_
              ·
                refine (AH_take 14 rfl (by kernel_rfl) (by kernel_rfl) (by kernel_rfl) rfl rfl (by decide) (Pu_bin rfl rfl rfl (run_sub _ _ _ _ _ (by omega))) (AH_take 15 rfl (by kernel_rfl) (by kernel_rfl) (by kernel_rfl) rfl rfl (by decide) (Pu_bin rfl rfl rfl (run_gtr _ _ _ _ _ _)) (AH_take 16 rfl (by kernel_rfl) (by kernel_rfl) (by kernel_rfl) rfl rfl (by decide) (Pu_assign rfl rfl) (AH_done (by kernel_rfl) (X_then ?_)))))
                refine W_cond rfl (fun hc52 => ?_) (fun hc52 => ?_)
                ·
                  have hgt := of_decide_eq_true hc52
                  have hP : putA room quota B (toBk (b, d)) now = (15, B2) := by
                    unfold putA
                    rw [if_neg hq1, if_neg hlen, hB2, toBk_key]
                    simp only [← hfa, Option.map_none]
                    rw [if_pos (by show quota - (usedA b.src B2 : Int) < (d.length : Int); omega)]
                  refine W_seq ?_
                  refine W.pre (K' := [(0, _), (1, _), (2, _), (4, _), (6, _), (7, _), (8, _), (9, _), (19, _), (37, _), (52, _)]) (L' := [(0, _), (101, _), (500, _), (501, _), (502, _), (503, _), (561, _)]) ?_ ⟨rfl, ⟨rfl, ⟨rfl, ⟨rfl, ⟨rfl, ⟨rfl, ⟨rfl, ⟨rfl, ⟨rfl, ⟨rfl, ⟨rfl, trivial⟩⟩⟩⟩⟩⟩⟩⟩⟩⟩⟩ ⟨rfl, ⟨rfl, ⟨rfl, ⟨rfl, ⟨rfl, ⟨rfl, ⟨rfl, trivial⟩⟩⟩⟩⟩⟩⟩
                  refine W_regL (WL_pure rfl rfl (by decide) (Pu_assign rfl rfl) (WL_nil (X_then ?_)))
                  refine W_ret (X_block_ret (X_then_ret ?_))
                  refine X_join [500, 501, 502, 503] 1 (rawP g room quota soon2 es2 none) rfl (by decide) (fun h hs => closeRaw hg hu hs) ?_
                  refine X_turn 1 rfl (closeA hok2) ?_
                  exact X_ret [1] (Ps := [_]) (res1 Try.results13 rfl) rfl (by decide) ⟨by rw [hP], by rw [hP]⟩
                ·
                  have hge := of_decide_eq_false hc52
                  refine W_seq ?_
                  refine W.pre (K' := [(0, _), (1, _), (2, _), (4, _), (6, _), (7, _), (8, _), (9, _), (19, _), (37, _), (52, _)]) (L' := [(0, _), (101, _), (500, _), (501, _), (502, _), (503, _), (561, _)]) ?_ ⟨rfl, ⟨rfl, ⟨rfl, ⟨rfl, ⟨rfl, ⟨rfl, ⟨rfl, ⟨rfl, ⟨rfl, ⟨rfl, ⟨rfl, trivial⟩⟩⟩⟩⟩⟩⟩⟩⟩⟩⟩ ⟨rfl, ⟨rfl, ⟨rfl, ⟨rfl, ⟨rfl, ⟨rfl, ⟨rfl, trivial⟩⟩⟩⟩⟩⟩⟩
                  refine W_draw (N := 14) (by kernel_rfl) rfl [(0, _), (101, _), (500, _), (561, _)] ⟨rfl, ⟨rfl, ⟨rfl, ⟨rfl, trivial⟩⟩⟩⟩ ?_
                  refine (AH_take 0 rfl (by kernel_rfl) (by kernel_rfl) (by kernel_rfl) rfl rfl (by decide) (Pu_fieldAddrB (off := 32) rfl rfl (by kernel_rfl)) (AH_take 1 rfl (by kernel_rfl) (by kernel_rfl) (by kernel_rfl) rfl rfl (by decide) (Pu_loadB (r := 101) rfl Try.isAgg38 rfl rfl (bk_data b.len)) (AH_take 2 rfl (by kernel_rfl) (by kernel_rfl) (by kernel_rfl) rfl rfl (by decide) (Pu_len (r := 0) rfl Try.runUnderlying38 rfl rfl hF) (AH_take 3 rfl (by kernel_rfl) (by kernel_rfl) (by kernel_rfl) rfl rfl (by decide) (Pu_move rfl rfl) (AH_take 4 rfl (by kernel_rfl) (by kernel_rfl) (by kernel_rfl) rfl rfl (by decide) (Pu_nilCheck rfl rfl) (AH_take 5 rfl (by kernel_rfl) (by kernel_rfl) (by kernel_rfl) rfl rfl (by decide) (Pu_fieldAddrB (off := 1) rfl rfl (by kernel_rfl)) (AH_take 6 rfl (by kernel_rfl) (by kernel_rfl) (by kernel_rfl) rfl rfl (by decide) (Pu_loadB (r := 500) rfl Try.isAgg3 rfl rfl rfl) (AH_take 7 rfl (by kernel_rfl) (by kernel_rfl) (by kernel_rfl) rfl rfl (by decide) (Pu_move rfl rfl) (AH_take 8 rfl (by kernel_rfl) (by kernel_rfl) (by kernel_rfl) rfl rfl (by decide) (Pu_nilCheck rfl rfl) (AH_take 9 rfl (by kernel_rfl) (by kernel_rfl) (by kernel_rfl) rfl rfl (by decide) (Pu_fieldAddrB (off := 5) rfl rfl (by kernel_rfl)) (AH_take 10 rfl (by kernel_rfl) (by kernel_rfl) (by kernel_rfl) rfl rfl (by decide) (Pu_loadB (r := 500) rfl Try.isAgg3 rfl rfl rfl) (AH_take 11 rfl (by kernel_rfl) (by kernel_rfl) (by kernel_rfl) rfl rfl (by decide) (Pu_bin rfl rfl rfl (run_sub _ _ _ _ _ (by omega))) (AH_take 12 rfl (by kernel_rfl) (by kernel_rfl) (by kernel_rfl) rfl rfl (by decide) (Pu_bin rfl rfl rfl (run_gtr _ _ _ _ _ _)) (AH_take 13 rfl (by kernel_rfl) (by kernel_rfl) (by kernel_rfl) rfl rfl (by decide) (Pu_assign rfl rfl) (AH_done (by kernel_rfl) (X_then ?_))))))))))))))))
                  refine W_cond rfl (fun hc69 => ?_) (fun hc69 => ?_)
                  ·
                    have hgt := of_decide_eq_true hc69
                    have hP : putA room quota B (toBk (b, d)) now = (16, B2) := by
                      unfold putA
                      rw [if_neg hq1, if_neg hlen, hB2, toBk_key]
                      simp only [← hfa, Option.map_none]
                      rw [if_neg (by show ¬ quota - (usedA b.src B2 : Int) < (d.length : Int); omega), if_pos (by show room - (totA B2 : Int) < (d.length : Int); omega)]
                    refine W_seq ?_
                    refine W.pre (K' := [(0, _), (1, _), (2, _), (4, _), (6, _), (7, _), (8, _), (9, _), (19, _), (37, _), (52, _), (69, _)]) (L' := [(0, _), (101, _), (500, _), (501, _), (502, _), (503, _), (561, _)]) ?_ ⟨rfl, ⟨rfl, ⟨rfl, ⟨rfl, ⟨rfl, ⟨rfl, ⟨rfl, ⟨rfl, ⟨rfl, ⟨rfl, ⟨rfl, ⟨rfl, trivial⟩⟩⟩⟩⟩⟩⟩⟩⟩⟩⟩⟩ ⟨rfl, ⟨rfl, ⟨rfl, ⟨rfl, ⟨rfl, ⟨rfl, ⟨rfl, trivial⟩⟩⟩⟩⟩⟩⟩
                    refine W_regL (WL_pure rfl rfl (by decide) (Pu_assign rfl rfl) (WL_nil (X_then ?_)))
                    refine W_ret (X_block_ret (X_then_ret ?_))
                    refine X_join [500, 501, 502, 503] 1 (rawP g room quota soon2 es2 none) rfl (by decide) (fun h hs => closeRaw hg hu hs) ?_
                    refine X_turn 1 rfl (closeA hok2) ?_
                    exact X_ret [1] (Ps := [_]) (res1 Try.results13 rfl) rfl (by decide) ⟨by rw [hP], by rw [hP]⟩
                  ·
                    have hge2 := of_decide_eq_false hc69
                    have hP : putA room quota B (toBk (b, d)) now = (0, insA (toBk (b, d)) B2) := by
                      unfold putA
                      rw [if_neg hq1, if_neg hlen, hB2, toBk_key]
                      simp only [← hfa, Option.map_none]
                      rw [if_neg (by show ¬ quota - (usedA b.src B2 : Int) < (d.length : Int); omega), if_neg (by show ¬ room - (totA B2 : Int) < (d.length : Int); omega)]
                    refine W_skip (X_block (X_then ?_))
                    refine W_seq ?_
                    refine W.pre (K' := [(0, _), (1, _), (2, _), (4, _), (6, _), (7, _), (8, _), (9, _), (19, _), (37, _), (52, _), (69, _)]) (L' := [(0, _), (101, _), (500, _), (501, _), (502, _), (503, _), (561, _)]) ?_ ⟨rfl, ⟨rfl, ⟨rfl, ⟨rfl, ⟨rfl, ⟨rfl, ⟨rfl, ⟨rfl, ⟨rfl, ⟨rfl, ⟨rfl, ⟨rfl, trivial⟩⟩⟩⟩⟩⟩⟩⟩⟩⟩⟩⟩ ⟨rfl, ⟨rfl, ⟨rfl, ⟨rfl, ⟨rfl, ⟨rfl, ⟨rfl, trivial⟩⟩⟩⟩⟩⟩⟩
                    refine W_regL (WL_pure rfl rfl (by decide) (Pu_fieldAddrB (off := 32) rfl rfl (by kernel_rfl)) (WL_pure rfl rfl (by decide) (Pu_loadB (r := 101) rfl Try.isAgg38 rfl rfl (bk_data b.len)) (WL_cons rfl rfl (by decide) (OpT_call 600 [0, 101, 500, 501, 502, 503, 561] [] rfl Try.call31 rfl rfl rfl (by decide) (by decide) (clone_spec b.sl d (by omega) _ (rd_star 0 rfl hF)) (fun v85 Ps85 hR85 => ?_)))))
                    obtain ⟨ho85, rfl⟩ := hR85
                    skip
                    refine (WL_pure rfl rfl (by decide) (Pu_fieldAddrB (off := 32) rfl rfl (by kernel_rfl)) (WL_cons0 rfl rfl (OpT_storeB1 (r := 101) rfl Try.sizeOf38 rfl rfl rfl ho85 (by rw [bvC_length]; decide) (bk_set_data b.len _) ?_)))
                    refine (WL_nil (X_then ?_))
                    refine W_seq ?_
                    refine W.pre (K' := [(0, _), (1, _), (2, _), (4, _), (6, _), (7, _), (8, _), (9, _), (19, _), (37, _), (52, _), (69, _)]) (L' := [(0, _), (101, _), (500, _), (501, _), (502, _), (503, _), (561, _), (600, _)]) ?_ ⟨rfl, ⟨rfl, ⟨rfl, ⟨rfl, ⟨rfl, ⟨rfl, ⟨rfl, ⟨rfl, ⟨rfl, ⟨rfl, ⟨rfl, ⟨rfl, trivial⟩⟩⟩⟩⟩⟩⟩⟩⟩⟩⟩⟩ ⟨rfl, ⟨rfl, ⟨rfl, ⟨rfl, ⟨rfl, ⟨rfl, ⟨rfl, ⟨rfl, trivial⟩⟩⟩⟩⟩⟩⟩⟩
                    refine W_draw (N := 8) (by kernel_rfl) rfl [(0, _), (101, _), (500, _), (561, _)] ⟨rfl, ⟨rfl, ⟨rfl, ⟨rfl, trivial⟩⟩⟩⟩ ?_
                    refine (AH_take 0 rfl (by kernel_rfl) (by kernel_rfl) (by kernel_rfl) rfl rfl (by decide) (Pu_move rfl rfl) (AH_take 1 rfl (by kernel_rfl) (by kernel_rfl) (by kernel_rfl) rfl rfl (by decide) (Pu_nilCheck rfl rfl) (AH_take 2 rfl (by kernel_rfl) (by kernel_rfl) (by kernel_rfl) rfl rfl (by decide) (Pu_fieldAddrB (off := 3) rfl rfl (by kernel_rfl)) (AH_take 3 rfl (by kernel_rfl) (by kernel_rfl) (by kernel_rfl) rfl rfl (by decide) (Pu_loadB (r := 500) rfl Try.isAgg58 rfl rfl rfl) (AH_take 4 rfl (by kernel_rfl) (by kernel_rfl) (by kernel_rfl) rfl rfl (by decide) (Pu_fieldAddrB (off := 0) rfl rfl (by kernel_rfl)) (AH_take 5 rfl (by kernel_rfl) (by kernel_rfl) (by kernel_rfl) rfl rfl (by decide) (Pu_loadBN (r := 101) rfl Try.isAgg36 Try.sizeOf36 rfl rfl ((bs_length _).trans b.len) (bk_key b.len)) (AH_take 6 rfl (by kernel_rfl) (by kernel_rfl) (by kernel_rfl) rfl rfl (by decide) (Pu_loadBN (r := 101) rfl Try.isAgg40 Try.sizeOf40 rfl rfl (bkC_length b.len) (load_all (bkC_length b.len))) (AH_ready [7] (by kernel_rfl) (by decide) ?_))))))))
                    refine AHs_cons0 rfl rfl rfl (OpT_mapAddQ (r := 501) (k := b.key) (v := encB ⟨(b.key, v85, b.src, b.exp), b.len, ho85⟩) keyB rfl Try.underlying58 rfl rfl b.len rfl rfl (by rw [lookQ_ents, hf]; rfl) ?_) ?_
                    ·
                      refine ⟨⟨rfl, ⟨rfl, ⟨rfl, ⟨rfl, trivial⟩⟩⟩⟩, ?_⟩
                      refine (AH_done (by kernel_rfl) (X_then ?_))
                      refine W_seq ?_
                      refine W.pre (K' := [(0, _), (1, _), (2, _), (4, _), (6, _), (7, _), (8, _), (9, _), (19, _), (37, _), (52, _), (69, _)]) (L' := [(0, _), (101, _), (500, _), (501, _), (502, _), (503, _), (561, _), (600, _)]) ?_ ⟨rfl, ⟨rfl, ⟨rfl, ⟨rfl, ⟨rfl, ⟨rfl, ⟨rfl, ⟨rfl, ⟨rfl, ⟨rfl, ⟨rfl, ⟨rfl, trivial⟩⟩⟩⟩⟩⟩⟩⟩⟩⟩⟩⟩ ⟨rfl, ⟨rfl, ⟨rfl, ⟨rfl, ⟨rfl, ⟨rfl, ⟨rfl, ⟨rfl, trivial⟩⟩⟩⟩⟩⟩⟩⟩
                      refine W_draw (N := 11) (by kernel_rfl) rfl [(0, _), (101, _), (561, _)] ⟨rfl, ⟨rfl, ⟨rfl, trivial⟩⟩⟩ ?_
                      refine (AH_take 0 rfl (by kernel_rfl) (by kernel_rfl) (by kernel_rfl) rfl rfl (by decide) (Pu_move rfl rfl) (AH_take 1 rfl (by kernel_rfl) (by kernel_rfl) (by kernel_rfl) rfl rfl (by decide) (Pu_move rfl rfl) (AH_take 2 rfl (by kernel_rfl) (by kernel_rfl) (by kernel_rfl) rfl rfl (by decide) (Pu_nilCheck rfl rfl) (AH_take 3 rfl (by kernel_rfl) (by kernel_rfl) (by kernel_rfl) rfl rfl (by decide) (Pu_fieldAddrB (off := 0) rfl rfl (by kernel_rfl)) (AH_take 5 rfl (by kernel_rfl) (by kernel_rfl) (by kernel_rfl) rfl rfl (by decide) (Pu_fieldAddrB (off := 34) rfl rfl (by kernel_rfl)) (AH_take 6 rfl (by kernel_rfl) (by kernel_rfl) (by kernel_rfl) rfl rfl (by decide) (Pu_loadB (r := 101) rfl Try.isAgg3 rfl rfl (bk_exp b.len)) (AH_ready [4] (by kernel_rfl) (by decide) ?_)))))))
                      refine AHs_cons rfl rfl rfl (by decide) (OpT_run (Pu_loadB (r := 500) rfl Try.isAgg3 rfl rfl rfl) ⟨⟨rfl, ⟨rfl, ⟨rfl, trivial⟩⟩⟩, ?_⟩) ?_
                      ·
                        refine (AH_take 7 rfl (by kernel_rfl) (by kernel_rfl) (by kernel_rfl) rfl rfl (by decide) (Pu_min rfl rfl rfl) (AH_take 8 rfl (by kernel_rfl) (by kernel_rfl) (by kernel_rfl) rfl rfl (by decide) (Pu_nilCheck rfl rfl) (AH_take 9 rfl (by kernel_rfl) (by kernel_rfl) (by kernel_rfl) rfl rfl (by decide) (Pu_fieldAddrB (off := 0) rfl rfl (by kernel_rfl)) (AH_ready [10] (by kernel_rfl) (by decide) ?_))))
                        refine AHs_cons0 rfl rfl rfl (OpT_storeB1 (r := 500) rfl Try.sizeOf3 rfl rfl rfl rfl (by simp) rfl ?_) ?_
                        ·
                          refine ⟨⟨rfl, ⟨rfl, ⟨rfl, trivial⟩⟩⟩, ?_⟩
                          refine (AH_done (by kernel_rfl) (X_then ?_))
                          refine W_seq ?_
                          refine W.pre (K' := [(0, _), (1, _), (2, _), (4, _), (6, _), (7, _), (8, _), (9, _), (19, _), (37, _), (52, _), (69, _)]) (L' := [(0, _), (101, _), (500, _), (501, _), (502, _), (503, _), (561, _), (600, _)]) ?_ ⟨rfl, ⟨rfl, ⟨rfl, ⟨rfl, ⟨rfl, ⟨rfl, ⟨rfl, ⟨rfl, ⟨rfl, ⟨rfl, ⟨rfl, ⟨rfl, trivial⟩⟩⟩⟩⟩⟩⟩⟩⟩⟩⟩⟩ ⟨rfl, ⟨rfl, ⟨rfl, ⟨rfl, ⟨rfl, ⟨rfl, ⟨rfl, ⟨rfl, trivial⟩⟩⟩⟩⟩⟩⟩⟩
                          refine W_regL (WL_pure rfl rfl (by decide) (Pu_move rfl rfl) (WL_pure rfl rfl (by decide) (Pu_fieldAddrB (off := 33) rfl rfl (by kernel_rfl)) (WL_pure rfl rfl (by decide) (Pu_loadB (r := 101) rfl Try.isAgg3 rfl rfl (bk_src b.len)) (WL_pure rfl rfl (by decide) (Pu_fieldAddrB (off := 32) rfl rfl (by kernel_rfl)) (WL_pure rfl rfl (by decide) (Pu_loadB (r := 101) rfl Try.isAgg38 rfl rfl (bk_data b.len)) (WL_pure rfl rfl (by decide) (Pu_len (r := 600) rfl Try.runUnderlying38 rfl rfl rowB_rd) (WL_cons rfl rfl (by decide) (OpT_call 700 [0, 101, 501, 503, 561, 600] [500, 502] rfl Try.call32 rfl rfl rfl (by decide) (by decide) (count_spec g gm gu (min soon2 b.exp) room quota (totE es2 : Int) (usedE b.src es2 : Int) b.src (d.length : Int) us hus (by omega) (by omega) (by omega) _) (fun v110 Ps110 hR110 => ?_)))))))))
                          obtain ⟨rfl, rfl⟩ := hR110
                          skip
                          refine (WL_nil (X_then ?_))
                          refine W_seq ?_
                          refine W.pre (K' := [(0, _), (1, _), (2, _), (4, _), (6, _), (7, _), (8, _), (9, _), (19, _), (37, _), (52, _), (69, _)]) (L' := [(0, _), (101, _), (501, _), (503, _), (561, _), (600, _), (700, _), (701, _)]) ?_ ⟨rfl, ⟨rfl, ⟨rfl, ⟨rfl, ⟨rfl, ⟨rfl, ⟨rfl, ⟨rfl, ⟨rfl, ⟨rfl, ⟨rfl, ⟨rfl, trivial⟩⟩⟩⟩⟩⟩⟩⟩⟩⟩⟩⟩ ⟨rfl, ⟨rfl, ⟨rfl, ⟨rfl, ⟨rfl, ⟨rfl, ⟨rfl, ⟨rfl, trivial⟩⟩⟩⟩⟩⟩⟩⟩
                          refine W_regL (WL_pure rfl rfl (by decide) (Pu_assign rfl rfl) (WL_nil (X_then ?_)))
                          refine W_ret ?_
                          have ⟨nb, hnb⟩ : ∃ x : EB, x = (⟨(b.key, v85, b.src, b.exp), b.len, ho85⟩, d) := ⟨_, rfl⟩
                          refine X_join [503, 600] 503 (datP (es2 ++ [((⟨(b.key, v85, b.src, b.exp), b.len, ho85⟩, d) : EB)])) rfl (by decide) (fun h hs => datP_add hs) ?_
                          refine X_turn (P' := mapB gm (entsOf (es2 ++ [((⟨(b.key, v85, b.src, b.exp), b.len, ho85⟩, d) : EB)])) none) 501 rfl (fun h hp => by rw [ents_add]; exact hp) ?_
                          refine X_turn (P' := areaB g (min soon2 b.exp) room quota gm gu (totE (es2 ++ [((⟨(b.key, v85, b.src, b.exp), b.len, ho85⟩, d) : EB)]) : Int)) 700 rfl (fun h hp => by rw [show ((totE (es2 ++ [((⟨(b.key, v85, b.src, b.exp), b.len, ho85⟩, d) : EB)]) : Nat) : Int) = (totE es2 : Int) + (d.length : Int) by rw [totE_app, totE_cons]; simp [totE]]; exact hp) ?_
                          refine X_join [700, 501, 701, 503] 1 (rawP g room quota (min soon2 b.exp) (es2 ++ [((⟨(b.key, v85, b.src, b.exp), b.len, ho85⟩, d) : EB)]) none) rfl (by decide) (fun h hs => closeRaw (hg.add hf (by dsimp only; omega)) (used_add (p := ((⟨(b.key, v85, b.src, b.exp), b.len, ho85⟩, d) : EB)) hu) hs) ?_
                          refine X_turn 1 rfl (closeA (hok2.ins (p := ((⟨(b.key, v85, b.src, b.exp), b.len, ho85⟩, d) : EB)) hf)) ?_
                          exact X_ret [1] (Ps := [_]) (res1 Try.results13 rfl) rfl (by decide) ⟨by rw [hP], by rw [hP]; rfl⟩
                        exact AHs_nil
                      exact AHs_nil
                    exact AHs_nil
              exact AHs_nil
          exact AHs_nil
        exact AHs_nil
      exact AHs_nil
theorem get_spec (g : Nat) (room quota now : Int) (B : List Bk) (k : List UInt8) (hk : k.length = 32) (F : HP) : CallsS Try.prog 21 #[.pointer (some ⟨g, 0, none⟩), idV k, .int .i64 now] F [areaP g room quota B] (fun r Ps => ∃ v', r = .tuple #[v', .bool (getA B k now).isSome] ∧ Ps = [areaP g room quota B, rowB 5 v' (((getA B k now).map (·.data)).getD [])]) := by
  refine callsS_enter Try.func21 rfl Try.ntmps21 (by simp) (fun E => ?_)
  refine W_seq ?_
  refine W.pre (K' := [(0, _), (1, _), (2, _)]) (L' := [(0, _), (1, _)]) ?_ ⟨rfl, ⟨rfl, ⟨rfl, trivial⟩⟩⟩ ⟨rfl, ⟨rfl, trivial⟩⟩
  refine W_regL (WL_cons rfl rfl (by decide) (OpT_box (r := 101) rfl rfl rfl (fun g101 => (WL_pure rfl rfl (by decide) (Pu_assign rfl rfl) (WL_pure rfl rfl (by decide) (Pu_assign rfl rfl) (WL_nil (X_then ?_)))))))
  refine W_seq ?_
  refine W.pre (K' := [(0, _), (1, _), (2, _), (4, _), (6, _), (7, _)]) (L' := [(0, _), (1, _), (101, _)]) ?_ ⟨rfl, ⟨rfl, ⟨rfl, ⟨rfl, ⟨rfl, ⟨rfl, trivial⟩⟩⟩⟩⟩⟩ ⟨rfl, ⟨rfl, ⟨rfl, trivial⟩⟩⟩
  refine W_openA 1 rfl (fun es soon hok => ?_)
  have hesl := hok.len
  refine W_openRaw 1 200 rfl (fun gm gu us hg hu => ?_)
  have hfit := hg.fits
  have hmost := hg.most
  have hmq := hg.mostq
  have hfa := hok.find k
  have hdl := datB_len hg k
  refine W_draw (N := 12) (by kernel_rfl) rfl [(0, _), (101, _), (200, _)] ⟨rfl, ⟨rfl, ⟨rfl, trivial⟩⟩⟩ ?_
  refine (AH_take 0 rfl (by kernel_rfl) (by kernel_rfl) (by kernel_rfl) rfl rfl (by decide) (Pu_move rfl rfl) (AH_take 1 rfl (by kernel_rfl) (by kernel_rfl) (by kernel_rfl) rfl rfl (by decide) (Pu_nilCheck rfl rfl) (AH_take 2 rfl (by kernel_rfl) (by kernel_rfl) (by kernel_rfl) rfl rfl (by decide) (Pu_fieldAddrB (off := 3) rfl rfl (by kernel_rfl)) (AH_take 3 rfl (by kernel_rfl) (by kernel_rfl) (by kernel_rfl) rfl rfl (by decide) (Pu_loadB (r := 200) rfl Try.isAgg58 rfl rfl rfl) (AH_take 4 rfl (by kernel_rfl) (by kernel_rfl) (by kernel_rfl) rfl rfl (by decide) (Pu_loadBN (r := 101) rfl Try.isAgg36 Try.sizeOf36 rfl rfl ((bs_length _).trans hk) (load_all ((bs_length _).trans hk))) (AH_ready [5, 9] (by kernel_rfl) (by decide) ?_))))))
  refine AHs_cons rfl rfl rfl (by decide) (OpT_run (Pu_look (r := 201) rfl rfl rfl hk rfl) ⟨⟨rfl, ⟨rfl, ⟨rfl, trivial⟩⟩⟩, ?_⟩) ?_
  ·
    refine (AH_take 6 rfl (by kernel_rfl) (by kernel_rfl) (by kernel_rfl) rfl rfl (by decide) (Pu_move rfl rfl) (AH_take 7 rfl (by kernel_rfl) (by kernel_rfl) (by kernel_rfl) rfl rfl (by decide) (Pu_extract rfl rfl rfl) (AH_take 8 rfl (by kernel_rfl) (by kernel_rfl) (by kernel_rfl) rfl rfl (by decide) (Pu_extract rfl rfl rfl) (AH_ready [9] (by kernel_rfl) (by decide) ?_))))
    refine AHs_cons rfl rfl rfl (by decide) (OpT_alloc (r := 251) rfl (zero_run (by kernel_rfl : (Try.prog.info? 40).bind (·.zero) = some (.agg (bkC zeroId (.slice none 0 0) 0 0).toArray))) rfl (fun g251 => ⟨⟨rfl, ⟨rfl, ⟨rfl, trivial⟩⟩⟩, ?_⟩)) ?_
    ·
      refine (AH_ready [10] (by kernel_rfl) (by decide) ?_)
      refine AHs_cons0 rfl rfl rfl (OpT_storeAll (r := 251) rfl Try.sizeOf40 rfl rfl rfl (bkC_length rfl) (bvC_length _) (bvC_one _) ?_) ?_
      ·
        refine ⟨⟨rfl, ⟨rfl, ⟨rfl, trivial⟩⟩⟩, ?_⟩
        refine (AH_take 11 rfl (by kernel_rfl) (by kernel_rfl) (by kernel_rfl) rfl rfl (by decide) (Pu_assign rfl rfl) (AH_done (by kernel_rfl) (X_then ?_)))
        refine W_seq ?_
        refine W_seq ?_
        refine W.pre (K' := [(0, _), (1, _), (2, _), (4, _), (6, _), (7, _), (8, _), (9, _)]) (L' := [(0, _), (101, _), (200, _), (201, _), (202, _), (203, _), (251, _)]) ?_ ⟨rfl, ⟨rfl, ⟨rfl, ⟨rfl, ⟨rfl, ⟨rfl, ⟨rfl, ⟨rfl, trivial⟩⟩⟩⟩⟩⟩⟩⟩ ⟨rfl, ⟨rfl, ⟨rfl, ⟨rfl, ⟨rfl, ⟨rfl, ⟨rfl, trivial⟩⟩⟩⟩⟩⟩⟩
        refine W_regL (WL_pure rfl rfl (by decide) (Pu_move rfl rfl) (WL_pure rfl rfl (by decide) (Pu_un rfl rfl (run_not _)) (WL_pure rfl rfl (by decide) (Pu_move rfl rfl) (WL_guardP rfl rfl rfl rfl (by decide) (fun hb => (Pu_fieldAddrB (off := 34) rfl rfl (by kernel_rfl))) (WL_guardP rfl rfl rfl rfl (by decide) (fun hb => (Pu_loadB (r := 251) rfl Try.isAgg3 (ev_gv rfl hb) rfl (bk_exp (getB k es).len))) (WL_guardP rfl rfl rfl rfl (by decide) (fun hb => (Pu_move rfl rfl)) (WL_guardP rfl rfl rfl rfl (by decide) (fun hb => (Pu_bin rfl (ev_gv rfl hb) (ev_gv rfl hb) (run_leq _ _ _ _ _ _))) (WL_pure rfl rfl (by decide) (Pu_or rfl rfl rfl) (WL_nil (X_then ?_))))))))))
        refine W_cond rfl (fun hc26 => ?_) (fun hc26 => ?_)
        ·
          have hG : getA B k now = none := by
            unfold getA
            rw [← hfa]
            cases hf : findE k es with
            | none => rfl
            | some p =>
              have hB : getB k es = p.1 := by unfold getB; rw [hf]; rfl
              rw [hf, hB] at hc26
              have : p.1.exp ≤ now := by simpa using hc26
              show (if decide (now < p.1.exp) = true then _ else _) = _
              rw [if_neg (by simpa using this)]
          refine W_seq ?_
          refine W.pre (K' := [(0, _), (1, _), (2, _), (4, _), (6, _), (7, _), (8, _), (9, _), (26, _)]) (L' := [(0, _), (101, _), (200, _), (201, _), (202, _), (203, _), (251, _)]) ?_ ⟨rfl, ⟨rfl, ⟨rfl, ⟨rfl, ⟨rfl, ⟨rfl, ⟨rfl, ⟨rfl, ⟨rfl, trivial⟩⟩⟩⟩⟩⟩⟩⟩⟩ ⟨rfl, ⟨rfl, ⟨rfl, ⟨rfl, ⟨rfl, ⟨rfl, ⟨rfl, trivial⟩⟩⟩⟩⟩⟩⟩
          refine W_regL (WL_pure rfl rfl (by decide) (Pu_assign rfl rfl) (WL_pure rfl rfl (by decide) (Pu_assign rfl rfl) (WL_nil (X_then ?_))))
          refine W_ret (X_then_ret ?_)
          refine X_join [200, 201, 202, 203] 1 (rawP g room quota soon es none) rfl (by decide) (fun h hs => closeRaw hg hu hs) ?_
          refine X_turn 1 rfl (closeA hok) ?_
          refine X_nilRow 9900 5 1 ?_
          exact X_ret [1, 9900] (Ps := [_, _]) (res2 Try.results21 rfl rfl) rfl (by decide) ⟨_, by rw [hG]; rfl, by rw [hG]; rfl⟩
        ·
          obtain ⟨p, hf⟩ : ∃ p, findE k es = some p := by
            cases hf : findE k es with
            | none => rw [hf] at hc26; simp at hc26
            | some p => exact ⟨p, rfl⟩
          have hB : getB k es = p.1 := by unfold getB; rw [hf]; rfl
          have hD : datB k es = p.2 := by unfold datB; rw [hf]; rfl
          have hG : getA B k now = some (toBk p) := by
            unfold getA
            rw [← hfa, hf]
            rw [hf, hB] at hc26
            have : now < p.1.exp := by simpa using hc26
            show (if decide (now < p.1.exp) = true then _ else _) = _
            rw [if_pos (by simpa using this)]
          refine W_skip (X_then ?_)
          refine W_seq ?_
          refine W.pre (K' := [(0, _), (1, _), (2, _), (4, _), (6, _), (7, _), (8, _), (9, _), (26, _)]) (L' := [(0, _), (101, _), (200, _), (201, _), (202, _), (203, _), (251, _)]) ?_ ⟨rfl, ⟨rfl, ⟨rfl, ⟨rfl, ⟨rfl, ⟨rfl, ⟨rfl, ⟨rfl, ⟨rfl, trivial⟩⟩⟩⟩⟩⟩⟩⟩⟩ ⟨rfl, ⟨rfl, ⟨rfl, ⟨rfl, ⟨rfl, ⟨rfl, ⟨rfl, trivial⟩⟩⟩⟩⟩⟩⟩
          refine W_regL (WL_pure rfl rfl (by decide) (Pu_fieldAddrB (off := 32) rfl rfl (by kernel_rfl)) (WL_pure rfl rfl (by decide) (Pu_loadB (r := 251) rfl Try.isAgg38 rfl rfl (bk_data (getB k es).len)) (WL_cons rfl rfl (by decide) (OpT_call 300 [0, 101, 200, 201, 202, 203, 251] [] rfl Try.call31 rfl rfl rfl (by decide) (by decide) (clone_spec _ (datB k es) (by omega) _ (rd_star 5 rfl (fun h hp => datP_get k hp))) (fun v29 Ps29 hR29 => ?_)))))
          obtain ⟨ho29, rfl⟩ := hR29
          skip
          refine (WL_pure rfl rfl (by decide) (Pu_assign rfl rfl) (WL_pure rfl rfl (by decide) (Pu_assign rfl rfl) (WL_nil (X_then ?_))))
          refine W_ret ?_
          refine X_join [200, 201, 202, 203] 1 (rawP g room quota soon es none) rfl (by decide) (fun h hs => closeRaw hg hu hs) ?_
          refine X_turn 1 rfl (closeA hok) ?_
          exact X_ret [1, 300] (Ps := [_, _]) (res2 Try.results21 rfl rfl) rfl (by decide) ⟨_, by rw [hG]; rfl, by rw [hG, hD]; rfl⟩
      exact AHs_nil
    exact AHs_nil
  refine AHs_cons rfl rfl rfl (by decide) (OpT_alloc (r := 251) rfl (zero_run (by kernel_rfl : (Try.prog.info? 40).bind (·.zero) = some (.agg (bkC zeroId (.slice none 0 0) 0 0).toArray))) rfl (fun g251 => ⟨⟨rfl, ⟨rfl, ⟨rfl, trivial⟩⟩⟩, ?_⟩)) ?_
  ·
    refine (AH_ready [5] (by kernel_rfl) (by decide) ?_)
    refine AHs_cons rfl rfl rfl (by decide) (OpT_run (Pu_look (r := 201) rfl rfl rfl hk rfl) ⟨⟨rfl, ⟨rfl, ⟨rfl, trivial⟩⟩⟩, ?_⟩) ?_
    ·
      refine (AH_take 6 rfl (by kernel_rfl) (by kernel_rfl) (by kernel_rfl) rfl rfl (by decide) (Pu_move rfl rfl) (AH_take 7 rfl (by kernel_rfl) (by kernel_rfl) (by kernel_rfl) rfl rfl (by decide) (Pu_extract rfl rfl rfl) (AH_take 8 rfl (by kernel_rfl) (by kernel_rfl) (by kernel_rfl) rfl rfl (by decide) (Pu_extract rfl rfl rfl) (AH_ready [10] (by kernel_rfl) (by decide) ?_))))
      refine AHs_cons0 rfl rfl rfl (OpT_storeAll (r := 251) rfl Try.sizeOf40 rfl rfl rfl (bkC_length rfl) (bvC_length _) (bvC_one _) ?_) ?_
      ·
        refine ⟨⟨rfl, ⟨rfl, ⟨rfl, trivial⟩⟩⟩, ?_⟩
        refine (AH_take 11 rfl (by kernel_rfl) (by kernel_rfl) (by kernel_rfl) rfl rfl (by decide) (Pu_assign rfl rfl) (AH_done (by kernel_rfl) (X_then ?_)))
        refine W_seq ?_
        refine W_seq ?_
        refine W.pre (K' := [(0, _), (1, _), (2, _), (4, _), (6, _), (7, _), (8, _), (9, _)]) (L' := [(0, _), (101, _), (200, _), (201, _), (202, _), (203, _), (251, _)]) ?_ ⟨rfl, ⟨rfl, ⟨rfl, ⟨rfl, ⟨rfl, ⟨rfl, ⟨rfl, ⟨rfl, trivial⟩⟩⟩⟩⟩⟩⟩⟩ ⟨rfl, ⟨rfl, ⟨rfl, ⟨rfl, ⟨rfl, ⟨rfl, ⟨rfl, trivial⟩⟩⟩⟩⟩⟩⟩
        refine W_regL (WL_pure rfl rfl (by decide) (Pu_move rfl rfl) (WL_pure rfl rfl (by decide) (Pu_un rfl rfl (run_not _)) (WL_pure rfl rfl (by decide) (Pu_move rfl rfl) (WL_guardP rfl rfl rfl rfl (by decide) (fun hb => (Pu_fieldAddrB (off := 34) rfl rfl (by kernel_rfl))) (WL_guardP rfl rfl rfl rfl (by decide) (fun hb => (Pu_loadB (r := 251) rfl Try.isAgg3 (ev_gv rfl hb) rfl (bk_exp (getB k es).len))) (WL_guardP rfl rfl rfl rfl (by decide) (fun hb => (Pu_move rfl rfl)) (WL_guardP rfl rfl rfl rfl (by decide) (fun hb => (Pu_bin rfl (ev_gv rfl hb) (ev_gv rfl hb) (run_leq _ _ _ _ _ _))) (WL_pure rfl rfl (by decide) (Pu_or rfl rfl rfl) (WL_nil (X_then ?_))))))))))
        refine W_cond rfl (fun hc26 => ?_) (fun hc26 => ?_)
        ·
          have hG : getA B k now = none := by
            unfold getA
            rw [← hfa]
            cases hf : findE k es with
            | none => rfl
            | some p =>
              have hB : getB k es = p.1 := by unfold getB; rw [hf]; rfl
              rw [hf, hB] at hc26
              have : p.1.exp ≤ now := by simpa using hc26
              show (if decide (now < p.1.exp) = true then _ else _) = _
              rw [if_neg (by simpa using this)]
          refine W_seq ?_
          refine W.pre (K' := [(0, _), (1, _), (2, _), (4, _), (6, _), (7, _), (8, _), (9, _), (26, _)]) (L' := [(0, _), (101, _), (200, _), (201, _), (202, _), (203, _), (251, _)]) ?_ ⟨rfl, ⟨rfl, ⟨rfl, ⟨rfl, ⟨rfl, ⟨rfl, ⟨rfl, ⟨rfl, ⟨rfl, trivial⟩⟩⟩⟩⟩⟩⟩⟩⟩ ⟨rfl, ⟨rfl, ⟨rfl, ⟨rfl, ⟨rfl, ⟨rfl, ⟨rfl, trivial⟩⟩⟩⟩⟩⟩⟩
          refine W_regL (WL_pure rfl rfl (by decide) (Pu_assign rfl rfl) (WL_pure rfl rfl (by decide) (Pu_assign rfl rfl) (WL_nil (X_then ?_))))
          refine W_ret (X_then_ret ?_)
          refine X_join [200, 201, 202, 203] 1 (rawP g room quota soon es none) rfl (by decide) (fun h hs => closeRaw hg hu hs) ?_
          refine X_turn 1 rfl (closeA hok) ?_
          refine X_nilRow 9900 5 1 ?_
          exact X_ret [1, 9900] (Ps := [_, _]) (res2 Try.results21 rfl rfl) rfl (by decide) ⟨_, by rw [hG]; rfl, by rw [hG]; rfl⟩
        ·
          obtain ⟨p, hf⟩ : ∃ p, findE k es = some p := by
            cases hf : findE k es with
            | none => rw [hf] at hc26; simp at hc26
            | some p => exact ⟨p, rfl⟩
          have hB : getB k es = p.1 := by unfold getB; rw [hf]; rfl
          have hD : datB k es = p.2 := by unfold datB; rw [hf]; rfl
          have hG : getA B k now = some (toBk p) := by
            unfold getA
            rw [← hfa, hf]
            rw [hf, hB] at hc26
            have : now < p.1.exp := by simpa using hc26
            show (if decide (now < p.1.exp) = true then _ else _) = _
            rw [if_pos (by simpa using this)]
          refine W_skip (X_then ?_)
          refine W_seq ?_
          refine W.pre (K' := [(0, _), (1, _), (2, _), (4, _), (6, _), (7, _), (8, _), (9, _), (26, _)]) (L' := [(0, _), (101, _), (200, _), (201, _), (202, _), (203, _), (251, _)]) ?_ ⟨rfl, ⟨rfl, ⟨rfl, ⟨rfl, ⟨rfl, ⟨rfl, ⟨rfl, ⟨rfl, ⟨rfl, trivial⟩⟩⟩⟩⟩⟩⟩⟩⟩ ⟨rfl, ⟨rfl, ⟨rfl, ⟨rfl, ⟨rfl, ⟨rfl, ⟨rfl, trivial⟩⟩⟩⟩⟩⟩⟩
          refine W_regL (WL_pure rfl rfl (by decide) (Pu_fieldAddrB (off := 32) rfl rfl (by kernel_rfl)) (WL_pure rfl rfl (by decide) (Pu_loadB (r := 251) rfl Try.isAgg38 rfl rfl (bk_data (getB k es).len)) (WL_cons rfl rfl (by decide) (OpT_call 300 [0, 101, 200, 201, 202, 203, 251] [] rfl Try.call31 rfl rfl rfl (by decide) (by decide) (clone_spec _ (datB k es) (by omega) _ (rd_star 5 rfl (fun h hp => datP_get k hp))) (fun v29 Ps29 hR29 => ?_)))))
          obtain ⟨ho29, rfl⟩ := hR29
          skip
          refine (WL_pure rfl rfl (by decide) (Pu_assign rfl rfl) (WL_pure rfl rfl (by decide) (Pu_assign rfl rfl) (WL_nil (X_then ?_))))
          refine W_ret ?_
          refine X_join [200, 201, 202, 203] 1 (rawP g room quota soon es none) rfl (by decide) (fun h hs => closeRaw hg hu hs) ?_
          refine X_turn 1 rfl (closeA hok) ?_
          exact X_ret [1, 300] (Ps := [_, _]) (res2 Try.results21 rfl rfl) rfl (by decide) ⟨_, by rw [hG]; rfl, by rw [hG, hD]; rfl⟩
      exact AHs_nil
    exact AHs_nil
  exact AHs_nil
end Go.Proofs.Ytjopgnkffhfhkaa
/- Areas: rows of blocks, in words. -/
namespace Go.Proofs.Ytjopgnkffhfhkaa
open Go.RowKit
set_option linter.unusedVariables false
set_option linter.unusedSimpArgs false
theorem perm_lift {α β : Type} {f : α → β} : ∀ {xs : List β} {es : List α}, xs.Perm (es.map f) → ∃ ys : List α, ys.Perm es ∧ ys.map f = xs
  | [], es, h => ⟨[], by have h1 := h.length_eq; simp only [List.length_nil, List.length_map] at h1; rw [List.length_eq_zero_iff.1 h1.symm], rfl⟩
  | x :: xs, es, h => by
    obtain ⟨e, he, rfl⟩ := List.mem_map.1 (h.mem_iff.1 (List.mem_cons_self))
    obtain ⟨a, c, rfl⟩ := List.append_of_mem he
    have h2 : (f e :: xs).Perm (f e :: (a ++ c).map f) := h.trans (List.Perm.map f List.perm_middle)
    obtain ⟨ys, h3, h4⟩ := perm_lift h2.cons_inv
    exact ⟨e :: ys, (h3.cons e).trans List.perm_middle.symm, by rw [List.map_cons, h4]⟩
theorem bvs_len (xs : List BV) : ∀ x ∈ xs, (bvC x).length = 35 := fun x _ => bvC_length x
theorem bvs_all {xs : List BV} {k : Nat} (hk : k < xs.length) : ((recC bvC xs).drop (k * 35)).take 35 = bvC (xs.getD k default) := recC_get (d := default) (bvs_len xs) hk
def setSl (v : Value) (hv : v.oneCell' = true) (x : BV) : BV := ⟨(x.key, v, x.src, x.exp), x.len, hv⟩
theorem bvs_setData {xs : List BV} {k : Nat} (hk : k < xs.length) (v : Value) (hv : v.oneCell' = true) : (recC bvC xs).set (k * 35 + 32) v = recC bvC (xs.set k (setSl v hv (xs.getD k default))) := by
  have hl := recC_length (bvs_len xs)
  rw [show (recC bvC xs).set (k * 35 + 32) v = over (recC bvC xs) (k * 35 + 32) [v] from (over_one _ _ _ (by rw [hl]; omega)).symm]
  refine recC_setF (d := default) (bvs_len xs) hk (by simp) ?_
  have : over (bvC (xs.getD k default)) 32 [v] = (bvC (xs.getD k default)).set 32 v := over_one _ _ _ (by rw [bvC_length]; decide)
  rw [this]
  exact bk_set_data (xs.getD k default).len v
/-- What is told in order, the bytes being elsewhere. -/
structure Told (B : List Bk) (ys : List EB) : Prop where
  all : ys.map toBk = B
theorem sorted_told {B : List Bk} {es : List EB} {soon : Int} (h : AOk B es soon) {xs : List BV} (hp : xs.Perm (es.map (·.1))) (hs : xs.Pairwise fun a b => ltK b.key a.key = false) : ∃ ys : List EB, ys.Perm es ∧ ys.map (·.1) = xs ∧ ys.map toBk = B := by
  obtain ⟨ys, h1, h2⟩ := perm_lift hp
  refine ⟨ys, h1, h2, ?_⟩
  have hn : (ys.map (·.1.key)).Nodup := ((h1.map _).nodup_iff).2 h.nodup
  refine sort_uniq ?_ h.sort ((h1.map toBk).trans h.perm)
  unfold SortA
  rw [List.pairwise_map]
  rw [← h2, List.pairwise_map] at hs
  unfold List.Nodup at hn
  rw [List.pairwise_map] at hn
  refine (hs.and hn).imp fun {a b} hab => ?_
  show ltK a.1.key b.1.key = true
  cases hc : ltK a.1.key b.1.key with
  | true => rfl
  | false => exact absurd (ltK_tri _ _ (a.1.len.trans b.1.len.symm) hc hab.1) hab.2
/-- One block's bytes put elsewhere. -/
def moveE (k : Nat) (v : Value) (hv : v.oneCell' = true) (ys : List EB) : List EB := ys.set k (setSl v hv (ys.getD k default).1, (ys.getD k default).2)
theorem moveE_len (k : Nat) (v : Value) (hv : v.oneCell' = true) (ys : List EB) : (moveE k v hv ys).length = ys.length := by simp [moveE]
theorem moveE_told {k : Nat} {v : Value} {hv : v.oneCell' = true} {ys : List EB} (hk : k < ys.length) : (moveE k v hv ys).map toBk = ys.map toBk := by
  unfold moveE
  apply List.ext_getElem?
  intro j
  rw [List.getElem?_map, List.getElem?_map, List.getElem?_set]
  by_cases h : k = j
  · subst h
    rw [if_pos rfl, if_pos hk, show ys.getD k default = ys[k] by simp [hk], List.getElem?_eq_getElem hk]
    rfl
  · rw [if_neg h]
theorem moveE_sl {k : Nat} {v : Value} {hv : v.oneCell' = true} {ys : List EB} (hk : k < ys.length) : (moveE k v hv ys).map (·.1) = (ys.map (·.1)).set k (setSl v hv ((ys.map (·.1)).getD k default)) := by
  unfold moveE
  rw [List.map_set]
  congr 2
  simp [hk]
theorem moveE_drop {k : Nat} {v : Value} {hv : v.oneCell' = true} {ys : List EB} : (moveE k v hv ys).drop (k + 1) = ys.drop (k + 1) := by
  unfold moveE
  rw [List.drop_set]
  simp
theorem moveE_take {k : Nat} {v : Value} {hv : v.oneCell' = true} {ys : List EB} (hk : k < ys.length) : (moveE k v hv ys).take (k + 1) = ys.take k ++ [(setSl v hv (ys.getD k default).1, (ys.getD k default).2)] := by
  have hl : k < (moveE k v hv ys).length := by rw [moveE_len]; exact hk
  rw [List.take_succ_eq_append_getElem hl]
  congr 1
  · unfold moveE; rw [List.take_set, List.set_eq_of_length_le (by rw [List.length_take]; omega)]
  · unfold moveE; simp
theorem getD_map1 {ys : List EB} {k : Nat} (hk : k < ys.length) : (ys.map (·.1)).getD k default = (ys.getD k default).1 := by simp [hk]
theorem getD_of_drop {ys zs : List EB} {k : Nat} (h : zs.drop k = ys.drop k) (hk : k < zs.length) : zs.getD k default = ys.getD k default ∧ k < ys.length := by
  have h0 := congrArg List.length h
  simp only [List.length_drop] at h0
  have h1 : zs[k]? = ys[k]? := by have := congrArg (fun l => l[0]?) h; simpa using this
  have h2 : k < ys.length := by omega
  refine ⟨by simp [List.getD_eq_getElem?_getD, h1], h2⟩
theorem drop_next {ys zs : List EB} {k : Nat} (h : zs.drop k = ys.drop k) : zs.drop (k + 1) = ys.drop (k + 1) := by
  have := congrArg (List.drop 1) h
  simpa [List.drop_drop] using this
end Go.Proofs.Ytjopgnkffhfhkaa
/- Areas: all told. -/
namespace Go.Proofs.Ytjopgnkffhfhkaa
open Go.RowKit
set_option linter.unusedVariables false
set_option linter.unusedSimpArgs false
set_option maxRecDepth 8000
theorem all_spec (g : Nat) (room quota : Int) (B : List Bk) (hl : B.length ≤ 1000000000000) (F : HP) : CallsS Try.prog 12 #[.pointer (some ⟨g, 0, none⟩)] F [areaP g room quota B] (fun r Ps => ∃ zs : List EB, zs.map toBk = B ∧ Ps = [areaP g room quota B, rowB2 r (zs.map (·.1)), datP zs]) := by
  refine callsS_enter Try.func12 rfl Try.ntmps12 (by simp) (fun E => ?_)
  refine W_seq ?_
  refine W.pre (K' := [(0, _)]) (L' := [(0, _), (1, _)]) ?_ ⟨rfl, trivial⟩ ⟨rfl, ⟨rfl, trivial⟩⟩
  refine W_regL (WL_pure rfl rfl (by decide) (Pu_assign rfl rfl) (WL_nil (X_then ?_)))
  refine W_seq ?_
  refine W.pre (K' := [(0, _), (2, _)]) (L' := [(0, _), (1, _)]) ?_ ⟨rfl, ⟨rfl, trivial⟩⟩ ⟨rfl, ⟨rfl, trivial⟩⟩
  refine W_openA 1 rfl (fun es soon hok => ?_)
  have hesl := hok.len
  refine W_openRaw 1 200 rfl (fun gm gu us hg hu => ?_)
  have hfit := hg.fits
  have hmost := hg.most
  have hmq := hg.mostq
  have hel : (es.map (·.1)).length = es.length := List.length_map _
  refine W_regL (WL_pure rfl rfl (by decide) (Pu_move rfl rfl) (WL_pure rfl rfl (by decide) (Pu_nilCheck rfl rfl) (WL_pure rfl rfl (by decide) (Pu_fieldAddrB (off := 3) rfl rfl (by kernel_rfl)) (WL_pure rfl rfl (by decide) (Pu_loadB (r := 200) rfl Try.isAgg58 rfl rfl rfl) (WL_cons rfl rfl (by decide) (OpT_call 300 [0, 200, 202, 203] [201] rfl Try.call28 rfl rfl rfl (by decide) (by decide) (values_spec gm (es.map (·.1)) _) (fun v10 Ps10 hR10 => ?_)))))))
  obtain ⟨bx, rfl, rfl⟩ := hR10
  skip
  refine (WL_cons rfl rfl (by decide) (OpT_call 400 [0, 200, 202, 203] [300, 301] rfl Try.call27 rfl rfl rfl (by decide) (by decide) (sortedFunc_spec bx gm (es.map (·.1)) (by omega) _) (fun v11 Ps11 hR11 => ?_)))
  obtain ⟨xs, hxp, hxs, rfl⟩ := hR11
  skip
  refine (WL_pure rfl rfl (by decide) (Pu_assign rfl rfl) (WL_nil (X_then ?_)))
  refine W_seq ?_
  refine W_seq ?_
  refine W.pre (K' := [(0, _), (2, _), (3, _)]) (L' := [(0, _), (200, _), (202, _), (203, _), (400, _), (401, _), (402, _)]) ?_ ⟨rfl, ⟨rfl, ⟨rfl, trivial⟩⟩⟩ ⟨rfl, ⟨rfl, ⟨rfl, ⟨rfl, ⟨rfl, ⟨rfl, ⟨rfl, trivial⟩⟩⟩⟩⟩⟩⟩
  obtain ⟨ys, hyp, rfl, hyB⟩ := sorted_told hok hxp hxs
  have hyl := hyp.length_eq
  have hyl2 : (ys.map (·.1)).length = ys.length := List.length_map _
  refine W_regL (WL_pure rfl rfl (by decide) (Pu_move rfl rfl) (WL_pure rfl rfl (by decide) (Pu_len (r := 400) rfl Try.runUnderlying32 rfl rfl (fun h hp => rowP_rd hp)) (WL_pure rfl rfl (by decide) (Pu_move rfl rfl) (WL_nil (X_then ?_)))))
  refine W_block ?_
  refine W_nilRow 290 36 32 ?_
  refine W_turn (P' := datP (ys.take 0)) 290 rfl (fun h hp p hm => by simp at hm) ?_
  refine W_loop (α := Nat × List EB) (fun x => [(3, v11), (12, v11), (13, .int .i64 (ys.length : Int)), (14, .int .i64 (x.1 : Int))]) (fun x => [(0, F), (200, areaB g soon room quota gm gu (totE es : Int)), (401, mapB gm (entsOf es) none), (202, mapU gu us), (203, datP es), (400, rowB2 v11 (x.2.map (fun p : EB => p.1))), (290, datP (x.2.take x.1))]) (fun x => x.2.map toBk = B ∧ x.2.drop x.1 = ys.drop x.1 ∧ x.2.length = ys.length ∧ x.1 ≤ ys.length) (fun x => ys.length - x.1) ((0, ys)) ⟨hyB, rfl, rfl, Nat.zero_le _⟩ ⟨rfl, rfl, (by show look _ 13 = some (Value.int .i64 (ys.length : Int)); rw [← hyl2]; rfl), rfl, trivial⟩ ⟨rfl, ⟨rfl, ⟨rfl, ⟨rfl, ⟨rfl, ⟨rfl, ⟨rfl, trivial⟩⟩⟩⟩⟩⟩⟩ (fun x hx => ?_)
  obtain ⟨hx1, hx2, hx3, hx4⟩ := hx
  have hxl : (x.2.map (fun p : EB => p.1)).length = x.2.length := List.length_map _
  refine W_seq ?_
  refine W.pre (K' := [(3, _), (12, _), (13, _), (14, _)]) (L' := [(0, _), (200, _), (202, _), (203, _), (290, _), (400, _), (401, _)]) ?_ ⟨rfl, ⟨rfl, ⟨rfl, ⟨rfl, trivial⟩⟩⟩⟩ ⟨rfl, ⟨rfl, ⟨rfl, ⟨rfl, ⟨rfl, ⟨rfl, ⟨rfl, trivial⟩⟩⟩⟩⟩⟩⟩
  refine W_regL (WL_pure rfl rfl (by decide) (Pu_bin rfl rfl rfl (run_lss _ _ _ _ _ _)) (WL_nil (X_then ?_)))
  refine W_seq ?_
  refine W_cond rfl (fun hc15 => ?_) (fun hc15 => ?_)
  ·
    have hlt : x.1 < x.2.length := by have := of_decide_eq_true hc15; omega
    obtain ⟨hgd, hlt2⟩ := getD_of_drop hx2 hlt
    have hmm : x.2.getD x.1 default ∈ es := hyp.mem_iff.1 (by rw [hgd]; simp [hlt2])
    have hdl : (x.2.getD x.1 default).2.length ≤ totE es := by obtain ⟨a, c, hac⟩ := List.append_of_mem hmm; rw [hac, totE_app, totE_cons]; omega
    refine W_skip (X_then ?_)
    refine W_seq ?_
    refine W_block ?_
    refine W_seq ?_
    refine W.pre (K' := [(3, _), (12, _), (13, _), (14, _), (15, _)]) (L' := [(0, _), (200, _), (202, _), (203, _), (290, _), (400, _), (401, _)]) ?_ ⟨rfl, ⟨rfl, ⟨rfl, ⟨rfl, ⟨rfl, trivial⟩⟩⟩⟩⟩ ⟨rfl, ⟨rfl, ⟨rfl, ⟨rfl, ⟨rfl, ⟨rfl, ⟨rfl, trivial⟩⟩⟩⟩⟩⟩⟩
    refine W_regL (WL_pure rfl rfl (by decide) (Pu_move rfl rfl) (WL_pure rfl rfl (by decide) (Pu_idxS (r := 400) rfl Try.runUnderlying32 Try.sizeOf40 rfl rfl rfl (fun h hp => rowP_rd hp) (by omega)) (WL_pure rfl rfl (by decide) (Pu_loadSN (r := 400) rfl Try.isAgg40 Try.sizeOf40 rfl rfl (fun h hp => rowP_rd hp) (bvC_length ((x.2.map (fun p : EB => p.1)).getD x.1 default)) (by decide) (bvs_all (xs := x.2.map (fun p : EB => p.1)) (k := x.1) (by omega))) (WL_cons rfl rfl (by decide) (OpT_alloc (r := 404) rfl (zero_run (by kernel_rfl : (Try.prog.info? 40).bind (·.zero) = some (.agg (bkC zeroId (.slice none 0 0) 0 0).toArray))) rfl (fun g404 => (WL_pure rfl rfl (by decide) (Pu_assign rfl rfl) (WL_cons0 rfl rfl (OpT_storeAll (r := 404) rfl Try.sizeOf40 rfl rfl rfl (bkC_length rfl) (bvC_length _) (bvC_one _) ?_)))))))))
    refine (WL_nil (X_then ?_))
    refine W.pre (K' := [(3, _), (4, _), (5, _), (12, _), (13, _), (14, _), (15, _)]) (L' := [(0, _), (200, _), (202, _), (203, _), (290, _), (400, _), (401, _), (404, _)]) ?_ ⟨rfl, ⟨rfl, ⟨rfl, ⟨rfl, ⟨rfl, ⟨rfl, ⟨rfl, trivial⟩⟩⟩⟩⟩⟩⟩ ⟨rfl, ⟨rfl, ⟨rfl, ⟨rfl, ⟨rfl, ⟨rfl, ⟨rfl, ⟨rfl, trivial⟩⟩⟩⟩⟩⟩⟩⟩
    rw [getD_map1 hlt]
    refine W_regL (WL_pure rfl rfl (by decide) (Pu_move rfl rfl) (WL_pure rfl rfl (by decide) (Pu_move rfl rfl) (WL_pure rfl rfl (by decide) (Pu_fieldAddrB (off := 32) rfl rfl (by kernel_rfl)) (WL_pure rfl rfl (by decide) (Pu_loadB (r := 404) rfl Try.isAgg38 rfl rfl (bk_data (x.2.getD x.1 default).1.len)) (WL_cons rfl rfl (by decide) (OpT_call 500 [0, 200, 202, 203, 290, 400, 401, 404] [] rfl Try.call31 rfl rfl rfl (by decide) (by decide) (clone_spec _ (x.2.getD x.1 default).2 (by omega) _ (rd_star 3 rfl (fun h hp => hp _ hmm))) (fun v23 Ps23 hR23 => ?_)))))))
    obtain ⟨ho23, rfl⟩ := hR23
    skip
    refine (WL_pure rfl rfl (by decide) (Pu_idxS (r := 400) rfl Try.runUnderlying32 Try.sizeOf40 rfl rfl rfl (fun h hp => rowP_rd hp) (by omega)) (WL_pure rfl rfl (by decide) (Pu_fieldAddrE (off := 32) rfl rfl (by kernel_rfl)) (WL_cons0 rfl rfl (OpT_storeS1 (r := 400) rfl Try.sizeOf38 rfl rfl rfl ho23 (by rw [recC_length (bvs_len _)]; omega) (bvs_setData (xs := x.2.map (fun p : EB => p.1)) (k := x.1) (by omega) v23 ho23) ?_))))
    refine (WL_nil (X_block (X_then ?_)))
    refine W.pre (K' := [(3, _), (4, _), (5, _), (12, _), (13, _), (14, _), (15, _)]) (L' := [(0, _), (200, _), (202, _), (203, _), (290, _), (400, _), (401, _), (404, _), (500, _)]) ?_ ⟨rfl, ⟨rfl, ⟨rfl, ⟨rfl, ⟨rfl, ⟨rfl, ⟨rfl, trivial⟩⟩⟩⟩⟩⟩⟩ ⟨rfl, ⟨rfl, ⟨rfl, ⟨rfl, ⟨rfl, ⟨rfl, ⟨rfl, ⟨rfl, ⟨rfl, trivial⟩⟩⟩⟩⟩⟩⟩⟩⟩
    refine W_regL (WL_pure rfl rfl (by decide) (Pu_bin rfl rfl rfl (run_add _ _ _ _ _ (by omega))) (WL_pure rfl rfl (by decide) (Pu_move rfl rfl) (WL_nil ?_)))
    have hmt := moveE_told (v := v23) (hv := ho23) hlt
    refine X_join [290, 500] 290 (datP ((moveE x.1 v23 ho23 x.2).take (x.1 + 1))) rfl (by decide) (fun h hs => by rw [moveE_take hlt]; exact datP_add (p := (setSl v23 ho23 (x.2.getD x.1 default).1, (x.2.getD x.1 default).2)) hs) ?_
    refine X_turn (P' := rowB2 v11 ((moveE x.1 v23 ho23 x.2).map (fun p : EB => p.1))) 400 rfl (fun h hp => by rw [moveE_sl hlt]; unfold rowB2; rw [List.length_set]; exact hp) ?_
    exact X_round (x.1 + 1, moveE x.1 v23 ho23 x.2) ⟨by rw [hmt]; exact hx1, by rw [moveE_drop]; exact drop_next hx2, by rw [moveE_len]; exact hx3, by dsimp only; omega⟩ (by show ys.length - (x.1 + 1) < ys.length - x.1; omega) ⟨rfl, rfl, rfl, rfl, trivial⟩ ⟨rfl, rfl, rfl, rfl, rfl, rfl, rfl, trivial⟩
  ·
    have hnl : x.1 = ys.length := by have := of_decide_eq_false hc15; omega
    refine W_exit (X_then_exit (X_then_exit (X_block_exit (X_then ?_))))
    refine W_seq ?_
    refine W.pre (K' := [(3, _), (12, _), (13, _), (14, _), (15, _)]) (L' := [(0, _), (200, _), (202, _), (203, _), (290, _), (400, _), (401, _)]) ?_ ⟨rfl, ⟨rfl, ⟨rfl, ⟨rfl, ⟨rfl, trivial⟩⟩⟩⟩⟩ ⟨rfl, ⟨rfl, ⟨rfl, ⟨rfl, ⟨rfl, ⟨rfl, ⟨rfl, trivial⟩⟩⟩⟩⟩⟩⟩
    refine W_regL (WL_pure rfl rfl (by decide) (Pu_move rfl rfl) (WL_pure rfl rfl (by decide) (Pu_assign rfl rfl) (WL_nil (X_then ?_))))
    refine W_ret ?_
    rw [hnl, show x.2.take ys.length = x.2 from List.take_of_length_le (by omega)]
    refine X_join [200, 401, 202, 203] 1 (rawP g room quota soon es none) rfl (by decide) (fun h hs => closeRaw hg hu hs) ?_
    refine X_turn 1 rfl (closeA hok) ?_
    exact X_ret [1, 400, 290] (Ps := [_, _, _]) (res1 Try.results12 rfl) rfl (by decide) ⟨x.2, hx1, rfl⟩
end Go.Proofs.Ytjopgnkffhfhkaa
/- Lists of ids: plain words. -/
namespace Go.Proofs.Ytjopgnkffhfhkaa
set_option linter.unusedVariables false
set_option linter.unusedSimpArgs false
theorem idsC_take {l : List (List UInt8)} (h : Ids l) (i : Nat) : (idsC l).take (i * 32) = idsC (l.take i) := by
  rcases Nat.lt_or_ge l.length i with hi | hi
  · rw [List.take_of_length_le (by rw [idsC_length h]; omega), List.take_of_length_le (by omega)]
  · have hl : (idsC (l.take i)).length = i * 32 := by rw [idsC_length (h.take i), List.length_take, Nat.min_eq_left hi]
    have e : idsC l = idsC (l.take i) ++ idsC (l.drop i) := by rw [← idsC_append, List.take_append_drop]
    rw [e, ← hl, List.take_left]
theorem idsC_drop {l : List (List UInt8)} (h : Ids l) (i : Nat) : (idsC l).drop (i * 32) = idsC (l.drop i) := by
  rcases Nat.lt_or_ge l.length i with hi | hi
  · rw [List.drop_of_length_le (by rw [idsC_length h]; omega), List.drop_of_length_le (by omega)]; rfl
  · have hl : (idsC (l.take i)).length = i * 32 := by rw [idsC_length (h.take i), List.length_take, Nat.min_eq_left hi]
    have e : idsC l = idsC (l.take i) ++ idsC (l.drop i) := by rw [← idsC_append, List.take_append_drop]
    rw [e, ← hl, List.drop_left]
theorem Ids.drop {l : List (List UInt8)} (h : Ids l) (i : Nat) : Ids (l.drop i) := fun x hx => h x (List.mem_of_mem_drop hx)
theorem Ids.erase {l : List (List UInt8)} (h : Ids l) (i : Nat) : Ids (l.eraseIdx i) := fun x hx => h x (List.mem_of_mem_eraseIdx hx)
theorem int_eq {k : IntKind} {a b : Int} (h : a = b) : Value.int k a = Value.int k b := by rw [h]
theorem evK_eq {K : Slots} {x : Operand} {v v' : Value} (h : evK K x = some v) (e : v = v') : evK K x = some v' := e ▸ h
theorem Ids.set {l : List (List UInt8)} (h : Ids l) {i : Nat} {x : List UInt8} (hx : x.length = 32) : Ids (l.set i x) := fun y hy => by
  rcases List.mem_or_eq_of_mem_set hy with h' | rfl
  · exact h y h'
  · exact hx
theorem zeroId_length : zeroId.length = 32 := rfl
/-- Where a key stands. -/
def idxI (k : List UInt8) (l : List (List UInt8)) : Int := match l.findIdx? (fun y => k == y) with
  | some i => i
  | none => -1
theorem idx_found {k : List UInt8} {l : List (List UInt8)} {x : Nat} (hx : x < l.length) (hno : ∀ j, j < x → (k == l.getD j []) = false) (h : (k == l.getD x []) = true) : idxI k l = x := by
  have : l.findIdx? (fun y => k == y) = some x := by
    rw [List.findIdx?_eq_some_iff_getElem]
    refine ⟨hx, by simpa [List.getElem?_eq_getElem hx] using h, fun j hj => ?_⟩
    have := hno j hj
    simpa [List.getElem?_eq_getElem (show j < l.length by omega)] using this
  simp [idxI, this]
theorem idx_none {k : List UInt8} {l : List (List UInt8)} (hno : ∀ j, j < l.length → (k == l.getD j []) = false) : idxI k l = -1 := by
  have : l.findIdx? (fun y => k == y) = none := by
    rw [List.findIdx?_eq_none_iff]
    intro y hy
    obtain ⟨j, hj, rfl⟩ := List.mem_iff_getElem.1 hy
    have := hno j hj
    simpa [List.getElem?_eq_getElem hj] using this
  simp [idxI, this]
/-- What delete leaves. -/
theorem del_cells {l : List (List UInt8)} (hl : Ids l) {i : Nat} (hi : i < l.length) {cs zs : List Value} {cap : Nat} (hcs : cs.length = cap * 32) (hnc : l.length ≤ cap) (htk : cs.take (l.length * 32) = idsC l) :
    (over (over cs (i * 32) (((idsC l).drop ((i + 1) * 32)).take ((l.length - (i + 1)) * 32))) ((i + (l.length - (i + 1))) * 32) zs).take ((i + (l.length - (i + 1))) * 32) = idsC (l.eraseIdx i) := by
  have hN : ((idsC l).drop ((i + 1) * 32)).take ((l.length - (i + 1)) * 32) = idsC (l.drop (i + 1)) := by
    rw [idsC_drop hl, List.take_of_length_le (by rw [idsC_length (hl.drop _), List.length_drop]; omega)]
  have hNl : (idsC (l.drop (i + 1))).length = (l.length - (i + 1)) * 32 := by rw [idsC_length (hl.drop _), List.length_drop]
  have hle : l.length * 32 ≤ cs.length := by rw [hcs]; exact Nat.mul_le_mul_right _ hnc
  have h1 : cs.take (i * 32) = idsC (l.take i) := by
    rw [← idsC_take hl, ← htk, List.take_take, Nat.min_eq_left (by omega)]
  have h1l : (cs.take (i * 32)).length = i * 32 := by rw [List.length_take]; omega
  have hol : (over cs (i * 32) (idsC (l.drop (i + 1)))).length = cs.length := over_length _ _ _ (by rw [hNl]; omega)
  rw [hN]
  have e : (over cs (i * 32) (idsC (l.drop (i + 1)))).take ((i + (l.length - (i + 1))) * 32) = idsC (l.eraseIdx i) := by
    unfold over
    rw [← List.append_assoc, List.take_append_of_le_length (by rw [List.length_append, h1l, hNl]; omega), List.take_of_length_le (by rw [List.length_append, h1l, hNl]; omega), h1, ← idsC_append, List.eraseIdx_eq_take_drop_succ]
  rw [← e]
  show (over (over cs (i * 32) (idsC (l.drop (i + 1)))) _ zs).take _ = _
  generalize over cs (i * 32) (idsC (l.drop (i + 1))) = ds at hol ⊢
  unfold over
  rw [List.take_append_of_le_length (by rw [List.length_take]; omega), List.take_of_length_le (by rw [List.length_take]; omega)]
/-- The first i and the last i changed. -/
def revTo (l : List (List UInt8)) (i : Nat) : List (List UInt8) := (List.range l.length).map fun k => if k < i ∨ l.length ≤ k + i then l.getD (l.length - 1 - k) [] else l.getD k []
theorem revTo_length (l : List (List UInt8)) (i : Nat) : (revTo l i).length = l.length := by simp [revTo]
theorem revTo_get (l : List (List UInt8)) (i : Nat) {k : Nat} (hk : k < l.length) : (revTo l i).getD k [] = if k < i ∨ l.length ≤ k + i then l.getD (l.length - 1 - k) [] else l.getD k [] := by
  simp [revTo, List.getElem?_range hk]
theorem revTo_zero (l : List (List UInt8)) : revTo l 0 = l := by
  apply List.ext_getElem?
  intro k
  rcases Nat.lt_or_ge k l.length with hk | hk
  · simp [revTo, List.getElem?_range hk, hk, show ¬ l.length ≤ k by omega]
  · rw [List.getElem?_eq_none (by rw [revTo_length]; exact hk), List.getElem?_eq_none hk]
theorem revTo_all (l : List (List UInt8)) {i : Nat} (h : l.length ≤ 2 * i + 1) : revTo l i = l.reverse := by
  apply List.ext_getElem?
  intro k
  rcases Nat.lt_or_ge k l.length with hk | hk
  · rw [List.getElem?_reverse hk]
    simp only [revTo, List.getElem?_map, List.getElem?_range hk, Option.map_some]
    have h2 : l.length - 1 - k < l.length := by omega
    split
    · simp [h2]
    · have : l.length - 1 - k = k := by omega
      simp [this, hk]
  · rw [List.getElem?_eq_none (by rw [revTo_length]; exact hk), List.getElem?_eq_none (by simpa using hk)]
theorem revTo_swap (l : List (List UInt8)) {i : Nat} (h : 2 * i + 1 < l.length) : ((revTo l i).set i ((revTo l i).getD (l.length - 1 - i) [])).set (l.length - 1 - i) ((revTo l i).getD i []) = revTo l (i + 1) := by
  rw [revTo_get l i (by omega), revTo_get l i (by omega)]
  rw [if_neg (by omega), if_neg (by omega)]
  apply List.ext_getElem?
  intro k
  rcases Nat.lt_or_ge k l.length with hk | hk
  · have hr : ∀ i, (revTo l i)[k]? = some (if k < i ∨ l.length ≤ k + i then l.getD (l.length - 1 - k) [] else l.getD k []) := fun i => by simp [revTo, List.getElem?_range hk]
    rw [hr (i + 1)]
    by_cases h1 : k = l.length - 1 - i
    · subst h1
      rw [List.getElem?_set_self (by rw [List.length_set, revTo_length]; omega), if_pos (by omega)]
      congr 2
      omega
    · rw [List.getElem?_set_ne (Ne.symm h1)]
      by_cases h2 : k = i
      · subst h2
        rw [List.getElem?_set_self (by rw [revTo_length]; omega), if_pos (by omega)]
      · rw [List.getElem?_set_ne (Ne.symm h2), hr i]
        have : (k < i ∨ l.length ≤ k + i) ↔ (k < i + 1 ∨ l.length ≤ k + (i + 1)) := by omega
        simp only [this]
  · rw [List.getElem?_eq_none (by simp [revTo_length]; exact hk), List.getElem?_eq_none (by rw [revTo_length]; exact hk)]
theorem revTo_ids {l : List (List UInt8)} (h : Ids l) (i : Nat) : Ids (revTo l i) := fun x hx => by
  simp only [revTo, List.mem_map, List.mem_range] at hx
  obtain ⟨k, hk, rfl⟩ := hx
  split
  · exact h.get (by omega)
  · exact h.get hk
section
variable {P : Program} {E : Env} {n : Nat} {K : Slots} {L : Res} {o : Oper}
theorem Pu_lenK {t e : TypeId} {x : Operand} {A : Option Addr} {m c : Nat} (ho : o.op = .call { callee := .builtin .len, args := #[x], argTypes := #[t] }) (hu : ∀ w, (underlying t).run P w = .ok (.slice e) w) (hx : evK K x = some (.slice A m c)) : Pure P E n o K L (.int .i64 (m : Int)) := fun a w hA hS => by
  simp [execOp, ho, resolve, invoke, builtin, hA.eval hx, Builtin.len_, hu, goInt]
end
end Go.Proofs.Ytjopgnkffhfhkaa
/- Ids of the program: compared, made. -/
namespace Go.Proofs.Ytjopgnkffhfhkaa
open Go.RowKit
set_option linter.unusedVariables false
/-- Ids compared. -/
theorem run_idEq (xs ys : List UInt8) (hx : xs.length = 32) (hy : ys.length = 32) (x y : Operand) (w : World) : ((do eqGuard .eql 36 x y (.agg (bs xs).toArray) (.agg (bs ys).toArray); binOp .eql 36 (.agg (bs xs).toArray) (.agg (bs ys).toArray) : Sem Value)).run Try.prog w = .ok (.bool (xs == ys)) w := by
  have h := run_equalIn_bytes w 9998 36 5 32 Try.underlying36 Try.underlying5 (fun w => by kernel_rfl) xs ys hx hy
  have hg : Try.prog.eqGuardType Try.prog.depth 36 = false := Try.eqGuardType36
  rw [show List.map Extern.Stop.cell xs = bs xs from rfl, show List.map Extern.Stop.cell ys = bs ys from rfl] at h
  simp only [Nat.reduceAdd] at h
  simp [eqGuard, binOp, Op.equal, Op.maxDepth, h, hg, program, Sem.run]
theorem run_idNe (xs ys : List UInt8) (hx : xs.length = 32) (hy : ys.length = 32) (x y : Operand) (w : World) : ((do eqGuard .neq 36 x y (.agg (bs xs).toArray) (.agg (bs ys).toArray); binOp .neq 36 (.agg (bs xs).toArray) (.agg (bs ys).toArray) : Sem Value)).run Try.prog w = .ok (.bool (!(xs == ys))) w := by
  have h := run_equalIn_bytes w 9998 36 5 32 Try.underlying36 Try.underlying5 (fun w => by kernel_rfl) xs ys hx hy
  have hg : Try.prog.eqGuardType Try.prog.depth 36 = false := Try.eqGuardType36
  rw [show List.map Extern.Stop.cell xs = bs xs from rfl, show List.map Extern.Stop.cell ys = bs ys from rfl] at h
  simp only [Nat.reduceAdd] at h
  simp [eqGuard, binOp, Op.equal, Op.maxDepth, h, hg, program, Sem.run]
section
variable {E : Env} {n : Nat} {K : Slots} {L : Res} {o : Oper}
theorem Pu_idZero (ho : o.op = .build 36 #[]) : Pure Try.prog E n o K L (.agg (bs zeroId).toArray) := fun a w hA hS => by
  have h := run_build (P := Try.prog) w 36 #[] (bs zeroId).toArray (by kernel_rfl)
  simp [execOp, ho, h]
end
end Go.Proofs.Ytjopgnkffhfhkaa
/- Areas: blocks built, plain words of the laws. -/
namespace Go.Proofs.Ytjopgnkffhfhkaa
open Go.RowKit
set_option linter.unusedVariables false
set_option linter.unusedSimpArgs false
set_option linter.unusedSectionVars false
theorem run_tdiv {P : Program} (a b : Int) (t : TypeId) (x y : Operand) (h : 1 < b ∧ b < 9223372036854775808 ∧ -9223372036854775808 ≤ a ∧ a ≤ 9223372036854775807) (w : World) : ((do eqGuard .quo t x y (.int .i64 a) (.int .i64 b); binOp .quo t (.int .i64 a) (.int .i64 b) : Sem Value)).run P w = .ok (.int .i64 (a.tdiv b)) w := by
  have h4 : b ≠ 0 := by omega
  have h1 : (a.tdiv b).natAbs ≤ a.natAbs := by rw [Int.natAbs_tdiv]; exact Nat.div_le_self _ _
  have h5 : ¬ a.tdiv b = 9223372036854775808 := by
    intro he
    have h6 : (a.tdiv b).natAbs = a.natAbs / b.natAbs := Int.natAbs_tdiv a b
    rw [he] at h6
    have h7 : a.natAbs / b.natAbs ≤ a.natAbs / 2 := Nat.div_le_div_left (by omega) (by omega)
    omega
  have h3 := IntWalk.i64_in (a.tdiv b) (by omega)
  simp [eqGuard, binOp, Op.intDiv, h4, h3]
inductive BFill : List UInt8 × Value × Int × Int → List (Nat × Value) → List UInt8 × Value × Int × Int → Prop
  | nil (x) : BFill x [] x
  | k {k k' v s e vs y} (h : k'.length = 32) (r : BFill (k', v, s, e) vs y) : BFill (k, v, s, e) ((0, idV k') :: vs) y
  | d {k v v' s e vs y} (h : v'.oneCell' = true) (r : BFill (k, v', s, e) vs y) : BFill (k, v, s, e) ((1, v') :: vs) y
  | s {k v s s' e vs y} (r : BFill (k, v, s', e) vs y) : BFill (k, v, s, e) ((2, .int .i64 s') :: vs) y
  | e {k v s e e' vs y} (r : BFill (k, v, s, e') vs y) : BFill (k, v, s, e) ((3, .int .i64 e') :: vs) y
theorem over_bk {k k' : List UInt8} {v : Value} {s e : Int} (h : k.length = 32) (h' : k'.length = 32) : over (bkC k v s e) 0 (bs k') = bkC k' v s e := by
  unfold over bkC
  rw [List.take_zero, List.nil_append, bs_length, h', Nat.zero_add, List.drop_append_of_le_length (by rw [bs_length]; omega), List.drop_of_length_le (by rw [bs_length]; omega), List.nil_append]
theorem bk_set_src {k : List UInt8} {v : Value} {s e : Int} (h : k.length = 32) (s' : Int) : (bkC k v s e).set 33 (.int .i64 s') = bkC k v s' e := by
  unfold bkC; rw [List.set_append_right _ _ (by rw [bs_length]; omega), bs_length, h]; rfl
abbrev bkPl : List (Nat × Nat) := [(0, 32), (32, 1), (33, 1), (34, 1)]
theorem BFill.len {x y : List UInt8 × Value × Int × Int} {vs : List (Nat × Value)} (h : BFill x vs y) : x.1.length = 32 → y.1.length = 32 := by
  induction h with
  | nil => exact id
  | k h _ ih => exact fun _ => ih h
  | d _ _ ih => exact ih
  | s _ ih => exact ih
  | e _ ih => exact ih
theorem BFill.fills {x y : List UInt8 × Value × Int × Int} {vs : List (Nat × Value)} (h : BFill x vs y) : x.1.length = 32 → Fills bkPl (bkC x.1 x.2.1 x.2.2.1 x.2.2.2) vs (bkC y.1 y.2.1 y.2.2.1 y.2.2.2) := by
  induction h with
  | nil => exact fun _ => .nil _
  | k h _ ih => exact fun hx => .many rfl ((bs_length _).trans h) (by rw [bkC_length hx]; decide) (over_bk hx h) (ih h)
  | d h _ ih => exact fun hx => .one rfl h (by rw [bkC_length hx]; decide) (bk_set_data hx _) (ih hx)
  | s _ ih => exact fun hx => .one rfl rfl (by rw [bkC_length hx]; decide) (bk_set_src hx _) (ih hx)
  | e _ ih => exact fun hx => .one rfl rfl (by rw [bkC_length hx]; decide) (bk_set_exp hx _) (ih hx)
def mkB (k : List UInt8) (v : Value) (s e : Int) (hk : k.length = 32) (hv : v.oneCell' = true) : BV := ⟨(k, v, s, e), hk, hv⟩
theorem toBk_mk (k : List UInt8) (v : Value) (s e : Int) (hk : k.length = 32) (hv : v.oneCell' = true) (d : List UInt8) : toBk (mkB k v s e hk hv, d) = ⟨k, d, s, e⟩ := rfl
section
variable {E : Env} {n : Nat} {K : Slots} {L : Res} {o : Oper}
theorem Pu_bk {ps : List (Nat × Operand)} {vs : List (Nat × Value)} {k : List UInt8} {v : Value} {s e : Int} (hk : k.length = 32) (hv : v.oneCell' = true) (ho : o.op = .build 40 ps.toArray) (hp : evP K ps = some vs) (hf : BFill (zeroId, .slice none 0 0, 0, 0) vs (k, v, s, e)) :
    Pure Try.prog E n o K L (encB (mkB k v s e hk hv)) :=
  Pu_build (V := encB (mkB k v s e hk hv)) bkPl (bkC zeroId (.slice none 0 0) 0 0) ho hp (by kernel_rfl) (by kernel_rfl) (hf.fills zeroId_length) rfl
end
section
variable {P : Program} {E : Env} {n : Nat} {K : Slots} {L : Res} {o : Oper}
theorem Pu_idxAE {t e k0 m : Nat} {A : Addr} {x y : Operand} {kd : IntKind} {ix : Int} (ho : o.op = .indexAddr t x y) (hu : ∀ w, (underlying t).run P w = .ok (.array m e) w) (hs : ∀ w, (sizeOf e).run P w = .ok 1 w)
    (hx : evK K x = some (.pointer (some (A.add k0)))) (hy : evK K y = some (.int kd ix)) (hi : 0 ≤ ix ∧ ix < (m : Int)) : Pure P E n o K L (.pointer (some (A.add (k0 + ix.toNat)))) := fun ac w hA hS => by
  simp [execOp, ho, hA.eval hx, hA.eval hy, Instr.indexAt, asIntOf, hu, hs, hi, Instr.sureAddr, add_of_add]
end
theorem totA_cons (b : Bk) (B : List Bk) : totA (b :: B) = b.data.length + totA B := by simp [totA]
theorem usedA_cons (s : Int) (b : Bk) (B : List Bk) : usedA s (b :: B) = (if b.src = s then b.data.length else 0) + usedA s B := by
  unfold usedA
  by_cases h : b.src = s <;> simp [h]
theorem totA_ins (b : Bk) (B : List Bk) : totA (insA b B) = b.data.length + totA B := by rw [totA_perm (insA_perm b B), totA_cons]
theorem usedA_ins (s : Int) (b : Bk) (B : List Bk) : usedA s (insA b B) = (if b.src = s then b.data.length else 0) + usedA s B := by rw [usedA_perm s (insA_perm b B), usedA_cons]
theorem insA_len (b : Bk) (B : List Bk) : (insA b B).length = B.length + 1 := (insA_perm b B).length_eq
theorem insA_mem {b x : Bk} {B : List Bk} : x ∈ insA b B ↔ x = b ∨ x ∈ B := by rw [(insA_perm b B).mem_iff, List.mem_cons]
theorem renewA_len (k : List UInt8) (e : Int) (B : List Bk) : (renewA k e B).length = B.length := by simp [renewA]
theorem sweepA_len (now : Int) (B : List Bk) : (sweepA now B).length ≤ B.length := List.length_filter_le _ _
theorem sweepA_all {now : Int} {B : List Bk} (h : ∀ x ∈ B, now < x.exp) : sweepA now B = B := List.filter_eq_self.2 fun x hx => by simpa using h x hx
theorem sweepA_two (now : Int) (B : List Bk) : sweepA now (sweepA now B) = sweepA now B := by unfold sweepA; rw [List.filter_filter]; simp
theorem findA_none {k : List UInt8} {B : List Bk} (h : ∀ x ∈ B, x.key ≠ k) : findA k B = none := List.find?_eq_none.2 fun x hx => by simpa using h x hx
theorem putA_cases {room quota now : Int} {B : List Bk} {b : Bk} (h0 : 0 ≤ b.src) (h1 : now < b.exp) (h2 : b.data.length ≤ 6000) :
    (∃ x, findA b.key (sweepA now B) = some x ∧ putA room quota B b now = (0, renewA b.key b.exp (sweepA now B))) ∨
    (findA b.key (sweepA now B) = none ∧ quota - (usedA b.src (sweepA now B) : Int) < (b.data.length : Int) ∧ putA room quota B b now = (15, sweepA now B)) ∨
    (findA b.key (sweepA now B) = none ∧ (b.data.length : Int) ≤ quota - (usedA b.src (sweepA now B) : Int) ∧ room - (totA (sweepA now B) : Int) < (b.data.length : Int) ∧ putA room quota B b now = (16, sweepA now B)) ∨
    (findA b.key (sweepA now B) = none ∧ (b.data.length : Int) ≤ quota - (usedA b.src (sweepA now B) : Int) ∧ (b.data.length : Int) ≤ room - (totA (sweepA now B) : Int) ∧ putA room quota B b now = (0, insA b (sweepA now B))) := by
  have hq : ¬ (decide (b.src < 0) || decide (b.exp ≤ now)) = true := by simp; omega
  have hl : ¬ 6000 < (b.data.length : Int) := by omega
  unfold putA
  rw [if_neg hq, if_neg hl]
  cases hf : findA b.key (sweepA now B) with
  | some x => exact .inl ⟨x, rfl, rfl⟩
  | none =>
    refine .inr ?_
    by_cases h3 : quota - (usedA b.src (sweepA now B) : Int) < (b.data.length : Int)
    · exact .inl ⟨rfl, h3, if_pos h3⟩
    · by_cases h4 : room - (totA (sweepA now B) : Int) < (b.data.length : Int)
      · exact .inr (.inl ⟨rfl, by omega, h4, by simp only [if_neg h3, if_pos h4]⟩)
      · exact .inr (.inr ⟨rfl, by omega, by omega, by simp only [if_neg h3, if_neg h4]⟩)
/-- The laws' keys. -/
def keyA (n : Int) : List UInt8 := (zeroId.set 0 (byte (n % 3))).set 31 (byte (n.tdiv 3 % 4))
theorem keyA_length (n : Int) : (keyA n).length = 32 := by simp [keyA, zeroId_length]
theorem bs_set (l : List UInt8) (i : Nat) (x : UInt8) : (bs l).set i (bv x) = bs (l.set i x) := by simp [bs, List.map_set]
theorem known_a : (putA 10 4 [] ⟨zeroId, List.replicate 5 0, 0, 9⟩ 0) = (15, []) ∧ putA 10 4 [] ⟨zeroId, List.replicate 4 0, 0, 9⟩ 0 = (0, [⟨zeroId, List.replicate 4 0, 0, 9⟩]) := by decide
end Go.Proofs.Ytjopgnkffhfhkaa
/- From a reading of an argument to plain facts: ints, bools, strings, slices of bytes, of ints, of rows of bytes, of structs. -/
namespace Go.Proofs.Ytjopgnkffhfhkaa
open Go.RowKit Go.ChangeShapes Go.WideShapes Go.Deep

theorem wf_i64 {n : Int} (h : (Lit.int .i64 n).wf = true) : -9223372036854775808 ≤ n ∧ n ≤ 9223372036854775807 := by
  simp only [Lit.wf, Bool.and_eq_true, decide_eq_true_eq] at h
  have h1 : IntKind.min .i64 = -9223372036854775808 := by decide
  have h2 : IntKind.max .i64 = 9223372036854775807 := by decide
  rw [h1, h2] at h
  exact h
theorem wf_u8 {n : Int} (h : (Lit.int .u8 n).wf = true) : 0 ≤ n ∧ n ≤ 255 := by
  simp only [Lit.wf, Bool.and_eq_true, decide_eq_true_eq] at h
  have h1 : IntKind.min .u8 = 0 := by decide
  have h2 : IntKind.max .u8 = 255 := by decide
  rw [h1, h2] at h
  exact h

/-- A slice of ints that reads as zs. -/
def RdI (w : World) (v : Value) (zs : List Int) : Prop := Rd w 1 v zs.length (zs.map (Value.int .i64))
def I64 (zs : List Int) : Prop := ∀ z ∈ zs, -9223372036854775808 ≤ z ∧ z ≤ 9223372036854775807
/-- A slice of bools that reads as l. -/
def RdT (w : World) (v : Value) (l : List Bool) : Prop := Rd w 1 v l.length (l.map Value.bool)
/-- A slice of rows of bytes: each with its value and its bytes. -/
def RdR (w : World) (v : Value) (ps : List (Value × List UInt8)) : Prop := Rd w 1 v ps.length (ps.map (·.1)) ∧ ∀ p ∈ ps, RdB w p.1 p.2

theorem bytes_of (vs : List Value) (h : ∀ u ∈ vs, ∃ n, u = .int .u8 n ∧ (Lit.int .u8 n).wf = true) : ∃ l : List UInt8, vs = bs l := by
  induction vs with
  | nil => exact ⟨[], rfl⟩
  | cons u vs ih =>
    obtain ⟨l, rfl⟩ := ih fun x hx => h x (List.mem_cons_of_mem _ hx)
    obtain ⟨n, rfl, hw⟩ := h u (List.mem_cons_self ..)
    have := wf_u8 hw
    refine ⟨UInt8.ofNat n.toNat :: l, ?_⟩
    simp only [bs, List.map_cons, bv]
    congr 2
    rw [UInt8.toNat_ofNat']
    omega
theorem ints_of (vs : List Value) (h : ∀ u ∈ vs, ∃ n, u = .int .i64 n ∧ (Lit.int .i64 n).wf = true) : ∃ zs : List Int, vs = zs.map (Value.int .i64) ∧ I64 zs := by
  induction vs with
  | nil => exact ⟨[], rfl, by simp [I64]⟩
  | cons u vs ih =>
    obtain ⟨zs, rfl, hz⟩ := ih fun x hx => h x (List.mem_cons_of_mem _ hx)
    obtain ⟨n, rfl, hw⟩ := h u (List.mem_cons_self ..)
    refine ⟨n :: zs, rfl, fun z hm => ?_⟩
    rcases List.mem_cons.1 hm with rfl | hm
    · exact wf_i64 hw
    · exact hz z hm
theorem bools_of (vs : List Value) (h : ∀ u ∈ vs, ∃ b, u = Value.bool b) : ∃ l : List Bool, vs = l.map Value.bool := by
  induction vs with
  | nil => exact ⟨[], rfl⟩
  | cons u vs ih =>
    obtain ⟨l, rfl⟩ := ih fun x hx => h x (List.mem_cons_of_mem _ hx)
    obtain ⟨b, rfl⟩ := h u (List.mem_cons_self ..)
    exact ⟨b :: l, rfl⟩
/-- Each of a list stands to something: the list with these. -/
theorem pairs_of {α β : Type} {R : α → β → Prop} (vs : List α) (h : ∀ u ∈ vs, ∃ y, R u y) : ∃ ps : List (α × β), vs = ps.map (·.1) ∧ ∀ p ∈ ps, R p.1 p.2 := by
  induction vs with
  | nil => exact ⟨[], rfl, by simp⟩
  | cons u vs ih =>
    obtain ⟨ps, rfl, hp⟩ := ih fun x hx => h x (List.mem_cons_of_mem _ hx)
    obtain ⟨y, hy⟩ := h u (List.mem_cons_self ..)
    refine ⟨(u, y) :: ps, rfl, fun p hm => ?_⟩
    rcases List.mem_cons.1 hm with rfl | hm
    · exact hy
    · exact hp p hm

section
variable {H : Type} {enc : TypeId × Value → H} {P : Program} {w : World} {base : Nat} {spare : Nat → Bool} {held : Bool}

/-- A slice, an element one cell. -/
theorem slice1_of {t e : TypeId} {fuel : Nat} {v : Value} {x : DataW H × List MemPlace} (ht : P.underlying t = some (.slice e)) (hc : P.cellsOf e = 1) (h : DataW.trod enc P w base spare held fuel t [v] = some x) :
    ∃ vs : List Value, Rd w 1 v vs.length vs ∧ vs.length ≤ maxLen ∧ ∀ u ∈ vs, ∃ n y, DataW.trod enc P w base spare held n e [u] = some y := by
  rcases open_slice1 ht hc h with ⟨h1, _⟩ | ⟨a, len, cap, m, n, V, D, Pl, h1, hb, hl, hm, hmm, hx, hV⟩
  · injection h1 with h1; subst h1
    exact ⟨[], ⟨rfl, none, 0, rfl, Nat.le_refl _, fun _ => rfl, fun ad h => by cases h⟩, by unfold maxLen; simp, by simp⟩
  · injection h1 with h1; subst h1
    have hle : len ≤ m := by rw [hmm]; split <;> omega
    refine ⟨(List.range len).map V, ⟨by simp, some a, cap, by simp, by simpa using hl, (fun h => by cases h), fun ad had => ?_⟩, by simp; omega, fun u hu => ?_⟩
    · injection had with had; subst had
      refine ⟨fun hp => ?_, fun j u hu => ?_⟩
      · have := (hV 0 (by simp at hp; omega)).1
        have := World.block_lt_of_cell? _ _ this
        rwa [block_of_add] at this
      · simp only [List.getElem?_map] at hu
        have hj : j < len := by
          rcases Nat.lt_or_ge j len with h | h
          · exact h
          · simp [List.getElem?_eq_none (show (List.range len).length ≤ j by simpa using h)] at hu
        simp [List.getElem?_range hj] at hu
        subst hu
        exact (hV j (by omega)).1
    · simp only [List.mem_map, List.mem_range] at hu
      obtain ⟨i, hi, rfl⟩ := hu
      exact ⟨n, _, (hV i (by omega)).2⟩

theorem rdB_of {t e : TypeId} {fuel : Nat} {v : Value} {x : DataW H × List MemPlace} (ht : P.underlying t = some (.slice e)) (he : P.underlying e = some (.int .u8)) (hc : P.cellsOf e = 1) (h : DataW.trod enc P w base spare held fuel t [v] = some x) :
    ∃ l, RdB w v l ∧ l.length ≤ maxLen := by
  obtain ⟨vs, hr, hm, hu⟩ := slice1_of ht hc h
  obtain ⟨l, rfl⟩ := bytes_of vs fun u hmem => by
    obtain ⟨n, y, hy⟩ := hu u hmem
    obtain ⟨k, h1, _, h3⟩ := DataW.trod_int he hy
    injection h1 with h1
    exact ⟨k, h1, h3⟩
  rw [bs_length] at hr hm
  exact ⟨l, hr, hm⟩
theorem rdI_of {t e : TypeId} {fuel : Nat} {v : Value} {x : DataW H × List MemPlace} (ht : P.underlying t = some (.slice e)) (he : P.underlying e = some (.int .i64)) (hc : P.cellsOf e = 1) (h : DataW.trod enc P w base spare held fuel t [v] = some x) :
    ∃ l, RdI w v l ∧ I64 l ∧ l.length ≤ maxLen := by
  obtain ⟨vs, hr, hm, hu⟩ := slice1_of ht hc h
  obtain ⟨l, rfl, hl⟩ := ints_of vs fun u hmem => by
    obtain ⟨n, y, hy⟩ := hu u hmem
    obtain ⟨k, h1, _, h3⟩ := DataW.trod_int he hy
    injection h1 with h1
    exact ⟨k, h1, h3⟩
  rw [List.length_map] at hr hm
  exact ⟨l, hr, hl, hm⟩
theorem rdT_of {t e : TypeId} {fuel : Nat} {v : Value} {x : DataW H × List MemPlace} (ht : P.underlying t = some (.slice e)) (he : P.underlying e = some .bool) (hc : P.cellsOf e = 1) (h : DataW.trod enc P w base spare held fuel t [v] = some x) :
    ∃ l, RdT w v l ∧ l.length ≤ maxLen := by
  obtain ⟨vs, hr, hm, hu⟩ := slice1_of ht hc h
  obtain ⟨l, rfl⟩ := bools_of vs fun u hmem => by
    obtain ⟨n, y, hy⟩ := hu u hmem
    obtain ⟨k, h1, _⟩ := DataW.trod_bool he hy
    injection h1 with h1
    exact ⟨k, h1⟩
  rw [List.length_map] at hr hm
  exact ⟨l, hr, hm⟩
theorem rdR_of {t e b : TypeId} {fuel : Nat} {v : Value} {x : DataW H × List MemPlace} (ht : P.underlying t = some (.slice e)) (he : P.underlying e = some (.slice b)) (hb : P.underlying b = some (.int .u8)) (hc : P.cellsOf e = 1) (hcb : P.cellsOf b = 1) (h : DataW.trod enc P w base spare held fuel t [v] = some x) :
    ∃ ps, RdR w v ps ∧ ps.length ≤ maxLen := by
  obtain ⟨vs, hr, hm, hu⟩ := slice1_of ht hc h
  obtain ⟨ps, rfl, hp⟩ := pairs_of (R := RdB w) vs fun u hmem => by
    obtain ⟨n, y, hy⟩ := hu u hmem
    obtain ⟨l, hl, _⟩ := rdB_of he hb hcb hy
    exact ⟨l, hl⟩
  rw [List.length_map] at hr hm
  exact ⟨ps, ⟨hr, hp⟩, hm⟩

/-- A slice of structs, each field one cell: for each element its cells, and each field's reading. -/
theorem rows_of {t e : TypeId} {fs : Array Field} {fuel : Nat} {v : Value} {x : DataW H × List MemPlace} (ht : P.underlying t = some (.slice e)) (he : P.underlying e = some (.struct fs))
    (hone : oneCellFields P fs = true) (hS : 0 < fs.size) (hC : P.cellsOf e = fs.size) (h : DataW.trod enc P w base spare held fuel t [v] = some x) :
    ∃ rs : List (List Value), Rd w fs.size v rs.length rs.flatten ∧ rs.length ≤ maxLen ∧ ∀ r ∈ rs, r.length = fs.size ∧
      ∀ (j : Nat) (f : Field), fs[j]? = some f → ∃ u n y, r[j]? = some u ∧ DataW.trod enc P w base spare held n f.type [u] = some y := by
  rcases open_slice ht h with ⟨h1, _⟩ | ⟨a, len, cap, m, n, D, Pl, h1, hb, hl, hm, hmm, hx, hi⟩
  · injection h1 with h1; subst h1
    exact ⟨[], ⟨by simp, none, 0, rfl, Nat.le_refl _, fun _ => rfl, fun ad h => by cases h⟩, by unfold maxLen; simp, by simp⟩
  · injection h1 with h1; subst h1
    have hle : len ≤ m := by rw [hmm]; split <;> omega
    rw [hC] at hi
    obtain ⟨V, hV⟩ := choose_lt (α := List Value) (p := fun i cs' => w.cells? base (a.add (i * fs.size)) fs.size = some cs' ∧ DataW.trod enc P w base spare held n e cs' = some (D i, Pl i)) (n := m) (fun i him => hi i him)
    have hfl : ∀ i, i < len → (V i).length = fs.size := fun i h => (World.cells?_some (hV i (by omega)).1).2.1
    have hlen : ∀ k, k ≤ len → ((List.range k).map V).flatten.length = k * fs.size := by
      intro k hk
      induction k with
      | zero => simp
      | succ k ih =>
        rw [List.range_succ, List.map_append, List.flatten_append, List.length_append, ih (by omega)]
        simp [hfl k (by omega), Nat.add_mul]
    have hget : ∀ k, k ≤ len → ∀ (j : Nat) (u : Value), ((List.range k).map V).flatten[j]? = some u → w.cell? (a.add j) = some u := by
      intro k hk
      induction k with
      | zero => intro j u hu; simp at hu
      | succ k ih =>
        intro j u hu
        rw [List.range_succ, List.map_append, List.flatten_append, List.getElem?_append, hlen k (by omega)] at hu
        split at hu
        · exact ih (by omega) j u hu
        · simp only [List.map_cons, List.map_nil, List.flatten_cons, List.flatten_nil, List.append_nil] at hu
          have hj : j - k * fs.size < fs.size := by
            have := (List.getElem?_eq_some_iff.1 hu).1
            rw [hfl k (by omega)] at this
            exact this
          have h2 := (World.cells?_some (hV k (by omega)).1).2.2 (j - k * fs.size) hj
          rw [add_of_add, show k * fs.size + (j - k * fs.size) = j by omega] at h2
          rw [h2, hu]
    refine ⟨(List.range len).map V, ⟨by rw [hlen len (Nat.le_refl _)]; simp, some a, cap, by simp, by simpa using hl, (fun h => by cases h), fun ad had => ?_⟩, by simp; omega, fun r hr => ?_⟩
    · injection had with had; subst had
      refine ⟨fun hp => ?_, hget len (Nat.le_refl _)⟩
      have hp' : 0 < len := by simpa using hp
      have h0 := (hV 0 (by omega)).1
      have h1 := (World.cells?_some h0).2.2 0 hS
      rw [List.getElem?_eq_getElem (by rw [hfl 0 hp']; exact hS)] at h1
      have := World.block_lt_of_cell? _ _ h1
      rwa [block_of_add, block_of_add] at this
    · simp only [List.mem_map, List.mem_range] at hr
      obtain ⟨i, hil, rfl⟩ := hr
      obtain ⟨hc, htd⟩ := hV i (by omega)
      obtain ⟨ys, n', hn', hy, hlen', hyl, hf⟩ := DataW.trod_struct he htd
      refine ⟨hfl i hil, fun j f hj => ?_⟩
      obtain ⟨ho, hk⟩ := hone_of hone j f hj
      have hjl : j < fs.size := (Array.getElem?_eq_some_iff.1 hj).1
      have h1 := hf j f hj
      rw [ho, hk] at h1
      have hvl := hfl i hil
      have hone' : ((V i).drop j).take 1 = [(V i)[j]'(by omega)] := by
        rw [List.drop_eq_getElem_cons (by omega)]
        rfl
      rw [hone', List.getElem?_eq_getElem (by omega)] at h1
      exact ⟨_, n', _, List.getElem?_eq_getElem (by omega), h1⟩
end

section
variable {H : Type} {enc : TypeId × Value → H} {P : Program} {w : World} {base b0 : Nat} {spare : Nat → Bool} {held : Bool} {r : Reach} {t : TypeId} {v : Value} {d : DataW H} {ps : List MemPlace}
theorem op_int (ht : P.underlying t = some (.int .i64)) (hv : Value.okWide P w r b0 t v) (h : DataW.Trod enc P w base spare held t v d ps) : ∃ n, v = .int .i64 n ∧ -9223372036854775808 ≤ n ∧ n ≤ 9223372036854775807 := by
  obtain ⟨n, rfl, _, _, hw⟩ := open_int ht hv h
  exact ⟨n, rfl, (wf_i64 hw).1, (wf_i64 hw).2⟩
theorem op_slice {e : TypeId} (ht : P.underlying t = some (.slice e)) (hv : Value.okWide P w r b0 t v) (h : DataW.Trod enc P w base spare held t v d ps) : ∃ fuel, DataW.trod enc P w base spare held fuel t [v] = some (d, ps) := by
  obtain ⟨a, len, cap, rfl⟩ := okWide_slice ht hv
  obtain ⟨fuel, hf⟩ := h
  exact ⟨fuel, by simpa [Value.cells] using hf⟩
end
end Go.Proofs.Ytjopgnkffhfhkaa
/- From a reading of an argument to plain facts: structs and arrays by value, slices of them. -/
namespace Go.Proofs.Ytjopgnkffhfhkaa
open Go.RowKit Go.ChangeShapes Go.WideShapes Go.Deep
set_option linter.unusedVariables false
section
variable {H : Type} {enc : TypeId × Value → H} {P : Program} {w : World} {base : Nat} {spare : Nat → Bool} {held : Bool}
/-- These cells read as a value of the type. -/
def Tr (enc : TypeId × Value → H) (P : Program) (w : World) (base : Nat) (spare : Nat → Bool) (held : Bool) (t : TypeId) (cs : List Value) : Prop := ∃ fuel x, DataW.trod enc P w base spare held fuel t cs = some x
theorem Tr.int {t : TypeId} {cs : List Value} (ht : P.underlying t = some (.int .i64)) (h : Tr enc P w base spare held t cs) : ∃ n, cs = [.int .i64 n] ∧ -9223372036854775808 ≤ n ∧ n ≤ 9223372036854775807 := by
  obtain ⟨f, x, h⟩ := h
  obtain ⟨n, rfl, _, hw⟩ := DataW.trod_int ht h
  exact ⟨n, rfl, wf_i64 hw⟩
theorem Tr.bool {t : TypeId} {cs : List Value} (ht : P.underlying t = some .bool) (h : Tr enc P w base spare held t cs) : ∃ b, cs = [Value.bool b] := by
  obtain ⟨f, x, h⟩ := h
  obtain ⟨b, rfl, _⟩ := DataW.trod_bool ht h
  exact ⟨b, rfl⟩
theorem Tr.u8 {t : TypeId} {cs : List Value} (ht : P.underlying t = some (.int .u8)) (h : Tr enc P w base spare held t cs) : ∃ x, cs = [bv x] := by
  obtain ⟨f, x, h⟩ := h
  obtain ⟨n, rfl, _, hw⟩ := DataW.trod_int ht h
  have := wf_u8 hw
  refine ⟨UInt8.ofNat n.toNat, ?_⟩
  simp only [bv]
  congr 2
  rw [UInt8.toNat_ofNat']
  omega
theorem Tr.struct {t : TypeId} {cs : List Value} {fs : Array Field} (ht : P.underlying t = some (.struct fs)) (h : Tr enc P w base spare held t cs) : cs.length = P.cellsOf t ∧ ∀ (i : Nat) (f : Field), fs[i]? = some f → Tr enc P w base spare held f.type ((cs.drop f.offset).take (P.cellsOf f.type)) := by
  obtain ⟨f, x, h⟩ := h
  obtain ⟨xs, n, _, _, hl, hx, hf⟩ := DataW.trod_struct ht h
  refine ⟨hl, fun i f hi => ?_⟩
  have h1 := hf i f hi
  have hlt : i < xs.length := by rw [hx]; exact (Array.getElem?_eq_some_iff.1 hi).1
  rw [List.getElem?_eq_getElem hlt] at h1
  exact ⟨n, _, h1⟩
theorem Tr.array {t e : TypeId} {n : Nat} {cs : List Value} (ht : P.underlying t = some (.array n e)) (h : Tr enc P w base spare held t cs) : cs.length = P.cellsOf t ∧ ∀ i, i < n → Tr enc P w base spare held e ((cs.drop (i * P.cellsOf e)).take (P.cellsOf e)) := by
  obtain ⟨f, x, h⟩ := h
  obtain ⟨xs, m, _, _, hl, hx, hf⟩ := DataW.trod_array ht h
  refine ⟨hl, fun i hi => ?_⟩
  have h1 := hf i hi
  rw [List.getElem?_eq_getElem (by omega)] at h1
  exact ⟨m, _, h1⟩
/-- An array of bytes. -/
theorem Tr.bytes {t e : TypeId} {n : Nat} {cs : List Value} (ht : P.underlying t = some (.array n e)) (he : P.underlying e = some (.int .u8)) (hc : P.cellsOf e = 1) (hn : P.cellsOf t = n) (h : Tr enc P w base spare held t cs) : ∃ l, cs = bs l ∧ l.length = n := by
  obtain ⟨hl, hf⟩ := h.array ht
  rw [hn] at hl
  rw [hc] at hf
  have key : ∀ (cs : List Value), (∀ i, i < cs.length → Tr enc P w base spare held e ((cs.drop (i * 1)).take 1)) → ∃ l, cs = bs l := by
    intro cs
    induction cs with
    | nil => intro _; exact ⟨[], rfl⟩
    | cons u cs ih =>
      intro h
      obtain ⟨l, rfl⟩ := ih (fun i hi => by
        have := h (i + 1) (by simpa using hi)
        simpa using this)
      obtain ⟨x, hx⟩ := (h 0 (by simp)).u8 he
      simp at hx
      exact ⟨x :: l, by simp [bs, hx]⟩
  obtain ⟨l, rfl⟩ := key cs (fun i hi => hf i (by omega))
  exact ⟨l, rfl, by rw [← hl, bs_length]⟩
/-- A slice, an element of any kind. -/
theorem rowsT_of {t e : TypeId} {fuel S : Nat} {v : Value} {x : DataW H × List MemPlace} (ht : P.underlying t = some (.slice e)) (hC : P.cellsOf e = S) (hS : 0 < S) (h : DataW.trod enc P w base spare held fuel t [v] = some x) :
    ∃ rs : List (List Value), Rd w S v rs.length rs.flatten ∧ rs.length ≤ maxLen ∧ ∀ r ∈ rs, r.length = S ∧ Tr enc P w base spare held e r := by
  rcases open_slice ht h with ⟨h1, _⟩ | ⟨a, len, cap, m, n, D, Pl, h1, hb, hl, hm, hmm, hx, hi⟩
  · injection h1 with h1; subst h1
    exact ⟨[], ⟨by simp, none, 0, rfl, Nat.le_refl _, fun _ => rfl, fun ad h => by cases h⟩, by unfold maxLen; simp, by simp⟩
  · injection h1 with h1; subst h1
    have hle : len ≤ m := by rw [hmm]; split <;> omega
    rw [hC] at hi
    obtain ⟨V, hV⟩ := choose_lt (α := List Value) (p := fun i cs' => w.cells? base (a.add (i * S)) S = some cs' ∧ DataW.trod enc P w base spare held n e cs' = some (D i, Pl i)) (n := m) (fun i him => hi i him)
    have hfl : ∀ i, i < len → (V i).length = S := fun i h => (World.cells?_some (hV i (by omega)).1).2.1
    have hlen : ∀ k, k ≤ len → ((List.range k).map V).flatten.length = k * S := by
      intro k hk
      induction k with
      | zero => simp
      | succ k ih =>
        rw [List.range_succ, List.map_append, List.flatten_append, List.length_append, ih (by omega)]
        simp [hfl k (by omega), Nat.add_mul]
    have hget : ∀ k, k ≤ len → ∀ (j : Nat) (u : Value), ((List.range k).map V).flatten[j]? = some u → w.cell? (a.add j) = some u := by
      intro k hk
      induction k with
      | zero => intro j u hu; simp at hu
      | succ k ih =>
        intro j u hu
        rw [List.range_succ, List.map_append, List.flatten_append, List.getElem?_append, hlen k (by omega)] at hu
        split at hu
        · exact ih (by omega) j u hu
        · simp only [List.map_cons, List.map_nil, List.flatten_cons, List.flatten_nil, List.append_nil] at hu
          have hj : j - k * S < S := by
            have := (List.getElem?_eq_some_iff.1 hu).1
            rw [hfl k (by omega)] at this
            exact this
          have h2 := (World.cells?_some (hV k (by omega)).1).2.2 (j - k * S) hj
          rw [add_of_add, show k * S + (j - k * S) = j by omega] at h2
          rw [h2, hu]
    refine ⟨(List.range len).map V, ⟨by rw [hlen len (Nat.le_refl _)]; simp, some a, cap, by simp, by simpa using hl, (fun h => by cases h), fun ad had => ?_⟩, by simp; omega, fun r hr => ?_⟩
    · injection had with had; subst had
      refine ⟨fun hp => ?_, hget len (Nat.le_refl _)⟩
      have hp' : 0 < len := by simpa using hp
      have h0 := (hV 0 (by omega)).1
      have h1 := (World.cells?_some h0).2.2 0 hS
      rw [List.getElem?_eq_getElem (by rw [hfl 0 hp']; exact hS)] at h1
      have := World.block_lt_of_cell? _ _ h1
      rwa [block_of_add, block_of_add] at this
    · simp only [List.mem_map, List.mem_range] at hr
      obtain ⟨i, hil, rfl⟩ := hr
      exact ⟨hfl i hil, _, _, (hV i (by omega)).2⟩
/-- A slice of ids. -/
theorem rdIds_of {t e b : TypeId} {fuel : Nat} {v : Value} {x : DataW H × List MemPlace} (ht : P.underlying t = some (.slice e)) (he : P.underlying e = some (.array 32 b)) (hb : P.underlying b = some (.int .u8)) (hc : P.cellsOf b = 1) (hC : P.cellsOf e = 32) (h : DataW.trod enc P w base spare held fuel t [v] = some x) :
    ∃ l : List (List UInt8), Rd w 32 v l.length (idsC l) ∧ Ids l ∧ l.length ≤ maxLen := by
  obtain ⟨rs, h1, h2, h3⟩ := rowsT_of ht hC (by decide) h
  obtain ⟨l, hl⟩ : ∃ l : List (List UInt8), rs = l.map bs ∧ Ids l := by
    clear h1 h2 h
    induction rs with
    | nil => exact ⟨[], rfl, fun x hx => by simp at hx⟩
    | cons r rs ih =>
      obtain ⟨l, rfl, hi⟩ := ih fun r hr => h3 r (by simp [hr])
      obtain ⟨y, hy, hy2⟩ := (h3 r (by simp)).2.bytes he hb hc hC
      exact ⟨y :: l, by rw [hy]; rfl, fun z hz => by rcases List.mem_cons.1 hz with rfl | hz; exact hy2; exact hi z hz⟩
  obtain ⟨rfl, hi⟩ := hl
  rw [List.length_map] at h1 h2
  exact ⟨l, h1, hi, h2⟩
end
section
variable {H : Type} {enc : TypeId × Value → H} {P : Program} {w : World} {base b0 : Nat} {spare : Nat → Bool} {held : Bool} {r : Reach} {t : TypeId} {v : Value} {d : DataW H} {ps : List MemPlace}
theorem op_struct {fs : Array Field} (ht : P.underlying t = some (.struct fs)) (hv : Value.okWide P w r b0 t v) (h : DataW.Trod enc P w base spare held t v d ps) : ∃ cs : List Value, v = .agg cs.toArray ∧ Tr enc P w base spare held t cs := by
  obtain ⟨cs, rfl, _⟩ := okWide_struct ht hv
  obtain ⟨f, h⟩ := h
  exact ⟨cs.toList, by simp, f, _, h⟩
theorem op_bool (ht : P.underlying t = some .bool) (hv : Value.okWide P w r b0 t v) (h : DataW.Trod enc P w base spare held t v d ps) : ∃ b, v = .bool b := by
  obtain ⟨b, h, _⟩ := open_bool ht hv h
  exact ⟨b, h⟩
theorem op_array {n : Nat} {e : TypeId} (ht : P.underlying t = some (.array n e)) (hv : Value.okWide P w r b0 t v) (h : DataW.Trod enc P w base spare held t v d ps) : ∃ cs : List Value, v = .agg cs.toArray ∧ Tr enc P w base spare held t cs := by
  simp only [Value.okWide, ht] at hv
  obtain ⟨cs, rfl, _⟩ := hv
  obtain ⟨f, h⟩ := h
  exact ⟨cs.toList, by simp, f, _, h⟩
end
end Go.Proofs.Ytjopgnkffhfhkaa
/- Areas: the laws' small functions. -/
namespace Go.Proofs.Ytjopgnkffhfhkaa
open Go.RowKit
set_option linter.unusedVariables false
set_option linter.unusedSimpArgs false
set_option maxRecDepth 8000
theorem int_val {k : IntKind} {a b : Int} (h : a = b) : Value.int k a = Value.int k b := by rw [h]
theorem bool_val {a b : Bool} (h : a = b) : Value.bool a = Value.bool b := by rw [h]
theorem within_spec (a n : Int) (hn : 0 < n) (hn2 : n < 9223372036854775808) (F : HP) : CallsS Try.prog 9 #[.int .i64 a, .int .i64 n] F [] (fun v Ps => v = .int .i64 (a % n) ∧ Ps = []) := by
  have htb := tmod_bounds a hn
  refine callsS_enter Try.func9 rfl Try.ntmps9 (by simp) (fun E => ?_)
  refine W_seq ?_
  refine W.pre (K' := [(0, _), (1, _)]) (L' := [(0, _)]) ?_ ⟨rfl, ⟨rfl, trivial⟩⟩ ⟨rfl, trivial⟩
  refine W_regL (WL_pure rfl rfl (by decide) (Pu_assign rfl rfl) (WL_nil (X_then ?_)))
  refine W_seq ?_
  refine W.pre (K' := [(0, _), (1, _), (4, _)]) (L' := [(0, _)]) ?_ ⟨rfl, ⟨rfl, ⟨rfl, trivial⟩⟩⟩ ⟨rfl, trivial⟩
  refine W_regL (WL_pure rfl rfl (by decide) (Pu_move rfl rfl) (WL_pure rfl rfl (by decide) (Pu_move rfl rfl) (WL_pure rfl rfl (by decide) (Pu_bin rfl rfl rfl (run_tmod _ _ _ _ _ (by omega))) (WL_pure rfl rfl (by decide) (Pu_assign rfl rfl) (WL_nil (X_then ?_))))))
  refine W_seq ?_
  refine W_seq ?_
  refine W.pre (K' := [(0, _), (1, _), (4, _), (5, _)]) (L' := [(0, _)]) ?_ ⟨rfl, ⟨rfl, ⟨rfl, ⟨rfl, trivial⟩⟩⟩⟩ ⟨rfl, trivial⟩
  refine W_regL (WL_pure rfl rfl (by decide) (Pu_move rfl rfl) (WL_pure rfl rfl (by decide) (Pu_bin rfl rfl rfl (run_lss _ _ _ _ _ _)) (WL_nil (X_then ?_))))
  refine W_cond rfl (fun hc10 => ?_) (fun hc10 => ?_)
  ·
    have hlt := of_decide_eq_true hc10
    refine W.pre (K' := [(0, _), (1, _), (4, _), (5, _), (10, _)]) (L' := [(0, _)]) ?_ ⟨rfl, ⟨rfl, ⟨rfl, ⟨rfl, ⟨rfl, trivial⟩⟩⟩⟩⟩ ⟨rfl, trivial⟩
    refine W_regL (WL_pure rfl rfl (by decide) (Pu_move rfl rfl) (WL_pure rfl rfl (by decide) (Pu_move rfl rfl) (WL_pure rfl rfl (by decide) (Pu_bin rfl rfl rfl (run_add _ _ _ _ _ (by omega))) (WL_pure rfl rfl (by decide) (Pu_assign rfl rfl) (WL_nil (X_then ?_))))))
    refine W_seq ?_
    refine W.pre (K' := [(0, _), (1, _), (4, _), (5, _), (10, _)]) (L' := [(0, _)]) ?_ ⟨rfl, ⟨rfl, ⟨rfl, ⟨rfl, ⟨rfl, trivial⟩⟩⟩⟩⟩ ⟨rfl, trivial⟩
    refine W_regL (WL_pure rfl rfl (by decide) (Pu_move rfl rfl) (WL_pure rfl rfl (by decide) (Pu_assign rfl rfl) (WL_nil (X_then ?_))))
    refine W_ret ?_
    exact X_ret [] (Ps := []) (res1 Try.results9 rfl) rfl (by decide) ⟨int_val (emod_neg hn (of_decide_eq_true hc10)), rfl⟩
  ·
    refine W_skip (X_then ?_)
    refine W_seq ?_
    refine W.pre (K' := [(0, _), (1, _), (4, _), (5, _), (10, _)]) (L' := [(0, _)]) ?_ ⟨rfl, ⟨rfl, ⟨rfl, ⟨rfl, ⟨rfl, trivial⟩⟩⟩⟩⟩ ⟨rfl, trivial⟩
    refine W_regL (WL_pure rfl rfl (by decide) (Pu_move rfl rfl) (WL_pure rfl rfl (by decide) (Pu_assign rfl rfl) (WL_nil (X_then ?_))))
    refine W_ret ?_
    exact X_ret [] (Ps := []) (res1 Try.results9 rfl) rfl (by decide) ⟨int_val (emod_pos hn (of_decide_eq_false hc10)), rfl⟩
theorem known_spec (F : HP) : CallsS Try.prog 8 #[] F [] (fun v Ps => v = .bool true ∧ Ps = []) := by
  refine callsS_enter Try.func8 rfl Try.ntmps8 (by simp) (fun E => ?_)
  refine W_seq ?_
  refine W_regL (WL_pure rfl rfl (by decide) (Pu_assign rfl rfl) (WL_nil (X_then ?_)))
  refine W_seq ?_
  refine W.pre (K' := [(0, _)]) (L' := [(0, _)]) ?_ ⟨rfl, trivial⟩ ⟨rfl, trivial⟩
  refine W_regL (WL_cons rfl rfl (by decide) (OpT_call 200 [0] [] rfl Try.call10 rfl rfl rfl (by decide) (by decide) (new_good 10 4 (by omega) (by omega) _) (fun v6 Ps6 hR6 => ?_)))
  obtain ⟨ga, rfl, rfl⟩ := hR6
  refine (WL_pure rfl rfl (by decide) (Pu_move rfl rfl) (WL_pure rfl rfl (by decide) (Pu_extract rfl rfl rfl) (WL_pure rfl rfl (by decide) (Pu_extract rfl rfl rfl) (WL_pure rfl rfl (by decide) (Pu_assign rfl rfl) (WL_pure rfl rfl (by decide) (Pu_assign rfl rfl) (WL_nil (X_then ?_)))))))
  refine W_seq ?_
  refine W_seq ?_
  refine W.pre (K' := [(0, _), (1, _), (2, _)]) (L' := [(0, _), (200, _)]) ?_ ⟨rfl, ⟨rfl, ⟨rfl, trivial⟩⟩⟩ ⟨rfl, ⟨rfl, trivial⟩⟩
  refine W_regL (WL_pure rfl rfl (by decide) (Pu_move rfl rfl) (WL_pure rfl rfl (by decide) (Pu_bin rfl rfl rfl (run_neq _ _ _ _ _ _)) (WL_pure rfl rfl (by decide) (Pu_move rfl rfl) (WL_guardP rfl rfl rfl rfl (by decide) (fun hb => (Pu_move rfl rfl)) (WL_guardP rfl rfl rfl rfl (by decide) (fun hb => (Pu_bin rfl (ev_gv rfl hb) rfl (run_ptrNil Try.underlying25 _ _ _))) (WL_pure rfl rfl (by decide) (Pu_or rfl rfl rfl) (WL_nil (X_then ?_))))))))
  refine W_false rfl (rfl) ?_
  refine W_skip (X_then ?_)
  refine W_seq ?_
  refine W.pre (K' := [(0, _), (1, _), (2, _), (14, _)]) (L' := [(0, _), (200, _)]) ?_ ⟨rfl, ⟨rfl, ⟨rfl, ⟨rfl, trivial⟩⟩⟩⟩ ⟨rfl, ⟨rfl, trivial⟩⟩
  refine W_regL (WL_pure rfl rfl (by decide) (Pu_move rfl rfl) (WL_cons rfl rfl (by decide) (OpT_make (r := 201) (m := 5) rfl Try.underlying38 TI.hi5 TI.hz5 TI.hs5 rfl rfl (by rw [TI.hby5]; omega) (by unfold maxLen; omega) ((made_one _ _).trans (made_bytes 5)) (fun v16 => ?_))))
  refine WL_fact (r := 201) rfl (fun h hp => rd_one (rowP_rd hp)) (fun ho16 => ?_)
  refine (WL_pure rfl rfl (by decide) (Pu_bk zeroId_length ho16 rfl rfl (.d ho16 (.e (.nil _)))) (WL_cons rfl rfl (by decide) (OpT_call 300 [0, 201] [200] rfl Try.call13 rfl rfl rfl (by decide) (by decide) (put_spec ga 10 4 0 [] (by decide) (mkB zeroId v16 0 9 zeroId_length ho16) (List.replicate 5 0) _ (rd_star 1 rfl (fun h hp => rdP_cast (rowP_rd hp) rfl (List.length_replicate).symm))) (fun v18 Ps18 hR18 => ?_))))
  obtain ⟨rfl, rfl⟩ := hR18
  rw [toBk_mk, known_a.1]
  refine (WL_pure rfl rfl (by decide) (Pu_assign rfl rfl) (WL_nil (X_then ?_)))
  refine W_seq ?_
  refine W.pre (K' := [(0, _), (1, _), (2, _), (3, _), (14, _)]) (L' := [(0, _), (201, _), (300, _)]) ?_ ⟨rfl, ⟨rfl, ⟨rfl, ⟨rfl, ⟨rfl, trivial⟩⟩⟩⟩⟩ ⟨rfl, ⟨rfl, ⟨rfl, trivial⟩⟩⟩
  refine W_regL (WL_pure rfl rfl (by decide) (Pu_move rfl rfl) (WL_cons rfl rfl (by decide) (OpT_make (r := 301) (m := 4) rfl Try.underlying38 TI.hi5 TI.hz5 TI.hs5 rfl rfl (by rw [TI.hby5]; omega) (by unfold maxLen; omega) ((made_one _ _).trans (made_bytes 4)) (fun v20 => ?_))))
  refine WL_fact (r := 301) rfl (fun h hp => rd_one (rowP_rd hp)) (fun ho20 => ?_)
  refine (WL_pure rfl rfl (by decide) (Pu_bk zeroId_length ho20 rfl rfl (.d ho20 (.e (.nil _)))) (WL_cons rfl rfl (by decide) (OpT_call 400 [0, 201, 301] [300] rfl Try.call13 rfl rfl rfl (by decide) (by decide) (put_spec ga 10 4 0 [] (by decide) (mkB zeroId v20 0 9 zeroId_length ho20) (List.replicate 4 0) _ (rd_star 2 rfl (fun h hp => rdP_cast (rowP_rd hp) rfl (List.length_replicate).symm))) (fun v22 Ps22 hR22 => ?_))))
  obtain ⟨rfl, rfl⟩ := hR22
  rw [toBk_mk, known_a.2]
  refine (WL_pure rfl rfl (by decide) (Pu_assign rfl rfl) (WL_nil (X_then ?_)))
  refine W_seq ?_
  refine W.pre (K' := [(0, _), (1, _), (2, _), (3, _), (4, _), (14, _)]) (L' := [(0, _), (201, _), (301, _), (400, _)]) ?_ ⟨rfl, ⟨rfl, ⟨rfl, ⟨rfl, ⟨rfl, ⟨rfl, trivial⟩⟩⟩⟩⟩⟩ ⟨rfl, ⟨rfl, ⟨rfl, ⟨rfl, trivial⟩⟩⟩⟩
  refine W_regL (WL_pure rfl rfl (by decide) (Pu_move rfl rfl) (WL_pure rfl rfl (by decide) (Pu_bin rfl rfl rfl (run_eql _ _ _ _ _ _)) (WL_pure rfl rfl (by decide) (Pu_move rfl rfl) (WL_gPT rfl rfl rfl rfl rfl (by decide) (Pu_move rfl rfl) (WL_gPT rfl rfl rfl rfl rfl (by decide) (Pu_bin rfl rfl rfl (run_eql _ _ _ _ _ _)) (WL_pure rfl rfl (by decide) (Pu_pickT rfl rfl rfl rfl) (WL_pure rfl rfl (by decide) (Pu_move rfl rfl) (WL_gPT rfl rfl rfl rfl rfl (by decide) (Pu_move rfl rfl) (WL_gT rfl rfl rfl rfl rfl (by decide) (OpT_call 500 [0, 201, 301] [400] rfl Try.call17 rfl rfl rfl (by decide) (by decide) (total_spec ga 10 4 _ _) (fun v31 Ps31 hR31 => ?_)))))))))))
  obtain ⟨rfl, rfl⟩ := hR31
  refine (WL_gPT rfl rfl rfl rfl rfl (by decide) (Pu_bin rfl rfl rfl (run_eql _ _ _ _ _ _)) (WL_pure rfl rfl (by decide) (Pu_pickT rfl rfl rfl rfl) (WL_pure rfl rfl (by decide) (Pu_move rfl rfl) (WL_gPT rfl rfl rfl rfl rfl (by decide) (Pu_move rfl rfl) (WL_gT rfl rfl rfl rfl rfl (by decide) (OpT_call 600 [0, 201, 301] [500] rfl Try.call16 rfl rfl rfl (by decide) (by decide) (used_spec ga 10 4 0 _ _) (fun v36 Ps36 hR36 => ?_)))))))
  obtain ⟨rfl, rfl⟩ := hR36
  refine (WL_gPT rfl rfl rfl rfl rfl (by decide) (Pu_bin rfl rfl rfl (run_eql _ _ _ _ _ _)) (WL_pure rfl rfl (by decide) (Pu_pickT rfl rfl rfl rfl) (WL_pure rfl rfl (by decide) (Pu_assign rfl rfl) (WL_nil (X_then ?_)))))
  refine W_ret ?_
  exact X_ret [] (Ps := []) (res1 Try.results8 rfl) rfl (by decide) ⟨rfl, rfl⟩
theorem key_spec (n : Int) (h1 : -9223372036854775808 ≤ n) (h2 : n ≤ 9223372036854775807) (F : HP) : CallsS Try.prog 14 #[.int .i64 n] F [] (fun v Ps => v = idV (keyA n) ∧ Ps = []) := by
  refine callsS_enter Try.func14 rfl Try.ntmps14 (by simp) (fun E => ?_)
  refine W_seq ?_
  refine W.pre (K' := [(0, _)]) (L' := [(0, _)]) ?_ ⟨rfl, trivial⟩ ⟨rfl, trivial⟩
  refine W_regL (WL_cons rfl rfl (by decide) (OpT_alloc (r := 101) (cs := (bs zeroId)) rfl (zero_run (by kernel_rfl : (Try.prog.info? 36).bind (·.zero) = some (.agg (bs zeroId).toArray))) rfl (fun g101 => (WL_nil (X_then ?_)))))
  refine W_seq ?_
  refine W.pre (K' := [(0, _), (2, _)]) (L' := [(0, _), (101, _)]) ?_ ⟨rfl, ⟨rfl, trivial⟩⟩ ⟨rfl, ⟨rfl, trivial⟩⟩
  refine W_regL (WL_cons rfl rfl (by decide) (OpT_alloc (r := 102) (cs := (bs zeroId)) rfl (zero_run (by kernel_rfl : (Try.prog.info? 36).bind (·.zero) = some (.agg (bs zeroId).toArray))) rfl (fun g102 => (WL_nil (X_then ?_)))))
  refine W_seq ?_
  refine W.pre (K' := [(0, _), (2, _), (3, _)]) (L' := [(0, _), (101, _), (102, _)]) ?_ ⟨rfl, ⟨rfl, ⟨rfl, trivial⟩⟩⟩ ⟨rfl, ⟨rfl, ⟨rfl, trivial⟩⟩⟩
  refine W_regL (WL_pure rfl rfl (by decide) (Pu_move rfl rfl) (WL_cons rfl rfl (by decide) (OpT_call 200 [0, 101, 102] [] rfl Try.call9 rfl rfl rfl (by decide) (by decide) (within_spec n 3 (by omega) (by omega) _) (fun v5 Ps5 hR5 => ?_))))
  obtain ⟨rfl, rfl⟩ := hR5
  refine (WL_pure rfl rfl (by decide) (Pu_conv rfl rfl (conv_byte _ _ Try.runUnderlying3 Try.runUnderlying5)) (WL_pure rfl rfl (by decide) (Pu_move rfl rfl) (WL_pure rfl rfl (by decide) (Pu_bin rfl rfl rfl (run_tdiv _ _ _ _ _ (by omega))) (WL_cons rfl rfl (by decide) (OpT_call 300 [0, 101, 102] [] rfl Try.call9 rfl rfl rfl (by decide) (by decide) (within_spec (n.tdiv 3) 4 (by omega) (by omega) _) (fun v9 Ps9 hR9 => ?_))))))
  obtain ⟨rfl, rfl⟩ := hR9
  refine (WL_pure rfl rfl (by decide) (Pu_conv rfl rfl (conv_byte _ _ Try.runUnderlying3 Try.runUnderlying5)) (WL_pure rfl rfl (by decide) (Pu_idxA rfl Try.runUnderlying36 Try.sizeOf5 rfl rfl (by decide)) (WL_cons0 rfl rfl (OpT_storeB1 (r := 102) rfl Try.sizeOf5 rfl rfl rfl rfl (by rw [bs_length, zeroId_length]; decide) (bs_set _ _ _) ?_))))
  refine (WL_pure rfl rfl (by decide) (Pu_idxA rfl Try.runUnderlying36 Try.sizeOf5 rfl rfl (by decide)) (WL_cons0 rfl rfl (OpT_storeB1 (r := 102) rfl Try.sizeOf5 rfl rfl rfl rfl (by rw [bs_length, List.length_set, zeroId_length]; decide) (bs_set _ _ _) ?_)))
  refine (WL_nil (X_then ?_))
  refine W_seq ?_
  refine W.pre (K' := [(0, _), (2, _), (3, _)]) (L' := [(0, _), (101, _), (102, _)]) ?_ ⟨rfl, ⟨rfl, ⟨rfl, trivial⟩⟩⟩ ⟨rfl, ⟨rfl, ⟨rfl, trivial⟩⟩⟩
  refine W_regL (WL_pure rfl rfl (by decide) (Pu_loadBN (r := 102) rfl Try.isAgg36 Try.sizeOf36 rfl rfl ((bs_length _).trans (keyA_length n)) (load_all ((bs_length _).trans (keyA_length n)))) (WL_cons0 rfl rfl (OpT_storeAll (r := 101) rfl Try.sizeOf36 rfl rfl rfl rfl ((bs_length _).trans (keyA_length n)) (bs_one _) ?_)))
  refine (WL_nil (X_then ?_))
  refine W_ret ?_
  exact X_ret [] (Ps := []) (resC1 (r := 101) Try.results14 rfl Try.isAgg36 Try.sizeOf36 rfl ((bs_length _).trans (keyA_length n))) rfl (by decide) ⟨rfl, rfl⟩
theorem bvs_key {xs : List BV} {k : Nat} (hk : k < xs.length) : ((recC bvC xs).drop (k * 35 + 0)).take 32 = bs (xs.getD k default).key := by
  have h := bvs_all hk
  have h2 : ((recC bvC xs).drop (k * 35)).take 32 = (((recC bvC xs).drop (k * 35)).take 35).take 32 := by rw [List.take_take]; rfl
  rw [Nat.add_zero, h2, h]
  exact bk_key (xs.getD k default).len
theorem bvs_get {xs : List BV} {k j : Nat} (hk : k < xs.length) (hj : j < 35) : (recC bvC xs)[k * 35 + j]? = (bvC (xs.getD k default))[j]? := recC_at (bvs_len xs) hk hj
theorem told_at {zs ys : List EB} (h : zs.map toBk = ys.map toBk) {k : Nat} (hk : k < zs.length) (hk2 : k < ys.length) : toBk (zs.getD k default) = toBk (ys.getD k default) := by
  have := congrArg (fun l => l[k]?) h
  simp only [List.getElem?_map, List.getElem?_eq_getElem hk, List.getElem?_eq_getElem hk2, Option.map_some, Option.some.injEq] at this
  simpa [hk, hk2] using this
theorem same_spec (v w : Value) (zs ys : List EB) (heq : zs.map toBk = ys.map toBk) (hzn : zs.length ≤ 1000000000000) (F : HP) (hz : ∀ h, F h → rdP 35 v (zs.map (fun p : EB => p.1)).length (recC bvC (zs.map (fun p : EB => p.1))) h) (hzd : ∀ h, F h → datP zs h) (hy : ∀ h, F h → rdP 35 w (ys.map (fun p : EB => p.1)).length (recC bvC (ys.map (fun p : EB => p.1))) h) (hyd : ∀ h, F h → datP ys h) : CallsS Try.prog 15 #[v, w] F [] (fun r Ps => r = .bool true ∧ Ps = []) := by
  have hlen : zs.length = ys.length := by have := congrArg List.length heq; simpa using this
  have hzl : (zs.map (fun p : EB => p.1)).length = zs.length := List.length_map _
  have hyl : (ys.map (fun p : EB => p.1)).length = ys.length := List.length_map _
  refine callsS_enter Try.func15 rfl Try.ntmps15 (by simp) (fun E => ?_)
  refine W_seq ?_
  refine W.pre (K' := [(0, _), (1, _)]) (L' := [(0, _)]) ?_ ⟨rfl, ⟨rfl, trivial⟩⟩ ⟨rfl, trivial⟩
  refine W_regL (WL_pure rfl rfl (by decide) (Pu_assign rfl rfl) (WL_nil (X_then ?_)))
  refine W_seq ?_
  refine W_seq ?_
  refine W.pre (K' := [(0, _), (1, _), (4, _)]) (L' := [(0, _)]) ?_ ⟨rfl, ⟨rfl, ⟨rfl, trivial⟩⟩⟩ ⟨rfl, trivial⟩
  refine W_regL (WL_pure rfl rfl (by decide) (Pu_move rfl rfl) (WL_pure rfl rfl (by decide) (Pu_len (r := 0) rfl Try.runUnderlying32 rfl rfl hz) (WL_pure rfl rfl (by decide) (Pu_move rfl rfl) (WL_pure rfl rfl (by decide) (Pu_len (r := 0) rfl Try.runUnderlying32 rfl rfl hy) (WL_pure rfl rfl (by decide) (Pu_bin rfl rfl rfl (run_neq _ _ _ _ _ _)) (WL_nil (X_then ?_)))))))
  refine W_false rfl ((by rw [hzl, hyl, hlen]; simp)) ?_
  refine W_skip (X_then ?_)
  refine W_seq ?_
  refine W_seq ?_
  refine W.pre (K' := [(0, _), (1, _), (4, _), (10, _)]) (L' := [(0, _)]) ?_ ⟨rfl, ⟨rfl, ⟨rfl, ⟨rfl, trivial⟩⟩⟩⟩ ⟨rfl, trivial⟩
  refine W_regL (WL_pure rfl rfl (by decide) (Pu_assign rfl rfl) (WL_nil (X_then ?_)))
  refine W_block ?_
  refine W_loop (α := Nat) (fun x => [(0, v), (1, w), (5, .int .i64 (x : Int))]) (fun x => [(0, F)]) (fun x => x ≤ zs.length) (fun x => zs.length - x) (0) (Nat.zero_le _) ⟨rfl, ⟨rfl, ⟨rfl, trivial⟩⟩⟩ ⟨rfl, trivial⟩ (fun x hx => ?_)
  refine W_seq ?_
  refine W_seq ?_
  refine W.pre (K' := [(0, _), (1, _), (5, _)]) (L' := [(0, _)]) ?_ ⟨rfl, ⟨rfl, ⟨rfl, trivial⟩⟩⟩ ⟨rfl, trivial⟩
  refine W_regL (WL_pure rfl rfl (by decide) (Pu_move rfl rfl) (WL_pure rfl rfl (by decide) (Pu_move rfl rfl) (WL_pure rfl rfl (by decide) (Pu_len (r := 0) rfl Try.runUnderlying32 rfl rfl hz) (WL_pure rfl rfl (by decide) (Pu_bin rfl rfl rfl (run_lss _ _ _ _ _ _)) (WL_nil (X_then ?_))))))
  refine W_cond rfl (fun hc14 => ?_) (fun hc14 => ?_)
  ·
    have hlt : x < zs.length := by have := of_decide_eq_true hc14; omega
    have hlt2 : x < ys.length := by omega
    have hT := told_at heq hlt hlt2
    have hK : (zs.getD x default).1.key = (ys.getD x default).1.key := congrArg Bk.key hT
    have hD : (zs.getD x default).2 = (ys.getD x default).2 := congrArg Bk.data hT
    have hS : (zs.getD x default).1.src = (ys.getD x default).1.src := congrArg Bk.src hT
    have hE : (zs.getD x default).1.exp = (ys.getD x default).1.exp := congrArg Bk.exp hT
    have hm1 : zs.getD x default ∈ zs := getD_mem' hlt
    have hm2 : ys.getD x default ∈ ys := getD_mem' hlt2
    have ez : (zs.map (fun p : EB => p.1)).getD x default = (zs.getD x default).1 := getD_map1 hlt
    have ey : (ys.map (fun p : EB => p.1)).getD x default = (ys.getD x default).1 := getD_map1 hlt2
    refine W_skip (X_then ?_)
    refine W_seq ?_
    refine W_block ?_
    refine W_seq ?_
    refine W.pre (K' := [(0, _), (1, _), (5, _), (14, _)]) (L' := [(0, _)]) ?_ ⟨rfl, ⟨rfl, ⟨rfl, ⟨rfl, trivial⟩⟩⟩⟩ ⟨rfl, trivial⟩
    refine W_draw (N := 52) (by kernel_rfl) rfl [(0, _)] ⟨rfl, trivial⟩ ?_
    refine (AH_take 0 rfl (by kernel_rfl) (by kernel_rfl) (by kernel_rfl) rfl rfl (by decide) (Pu_move rfl rfl) (AH_take 1 rfl (by kernel_rfl) (by kernel_rfl) (by kernel_rfl) rfl rfl (by decide) (Pu_move rfl rfl) (AH_take 2 rfl (by kernel_rfl) (by kernel_rfl) (by kernel_rfl) rfl rfl (by decide) (Pu_idxS (r := 0) rfl Try.runUnderlying32 Try.sizeOf40 rfl rfl rfl hz (by omega)) (AH_take 3 rfl (by kernel_rfl) (by kernel_rfl) (by kernel_rfl) rfl rfl (by decide) (Pu_fieldAddrE (off := 0) rfl rfl (by kernel_rfl)) (AH_take 4 rfl (by kernel_rfl) (by kernel_rfl) (by kernel_rfl) rfl rfl (by decide) (Pu_loadSN (r := 0) rfl Try.isAgg36 Try.sizeOf36 rfl rfl hz ((bs_length _).trans (zs.getD x default).1.len) (by decide) (by rw [← ez]; exact bvs_key (xs := zs.map (fun p : EB => p.1)) (k := x) (by omega))) (AH_take 5 rfl (by kernel_rfl) (by kernel_rfl) (by kernel_rfl) rfl rfl (by decide) (Pu_move rfl rfl) (AH_take 6 rfl (by kernel_rfl) (by kernel_rfl) (by kernel_rfl) rfl rfl (by decide) (Pu_move rfl rfl) (AH_take 7 rfl (by kernel_rfl) (by kernel_rfl) (by kernel_rfl) rfl rfl (by decide) (Pu_idxS (r := 0) rfl Try.runUnderlying32 Try.sizeOf40 rfl rfl rfl hy (by omega)) (AH_take 8 rfl (by kernel_rfl) (by kernel_rfl) (by kernel_rfl) rfl rfl (by decide) (Pu_fieldAddrE (off := 0) rfl rfl (by kernel_rfl)) (AH_take 9 rfl (by kernel_rfl) (by kernel_rfl) (by kernel_rfl) rfl rfl (by decide) (Pu_loadSN (r := 0) rfl Try.isAgg36 Try.sizeOf36 rfl rfl hy ((bs_length _).trans (ys.getD x default).1.len) (by decide) (by rw [← ey]; exact bvs_key (xs := ys.map (fun p : EB => p.1)) (k := x) (by omega))) (AH_take 10 rfl (by kernel_rfl) (by kernel_rfl) (by kernel_rfl) rfl rfl (by decide) (Pu_bin rfl rfl rfl (run_idNe _ _ (zs.getD x default).1.len (ys.getD x default).1.len _ _)) (AH_take 11 rfl (by kernel_rfl) (by kernel_rfl) (by kernel_rfl) rfl rfl (by decide) (Pu_move rfl rfl) (AH_takeT 12 rfl (by kernel_rfl) (by kernel_rfl) (by kernel_rfl) rfl rfl rfl (by rw [hK]; simp) rfl (by decide) (Pu_move rfl rfl) (AH_takeT 13 rfl (by kernel_rfl) (by kernel_rfl) (by kernel_rfl) rfl rfl rfl (by rw [hK]; simp) rfl (by decide) (Pu_move rfl rfl) (AH_takeT 14 rfl (by kernel_rfl) (by kernel_rfl) (by kernel_rfl) rfl rfl rfl (by rw [hK]; simp) rfl (by decide) (Pu_idxS (r := 0) rfl Try.runUnderlying32 Try.sizeOf40 rfl rfl rfl hz (by omega)) (AH_takeT 15 rfl (by kernel_rfl) (by kernel_rfl) (by kernel_rfl) rfl rfl rfl (by rw [hK]; simp) rfl (by decide) (Pu_fieldAddrE (off := 32) rfl rfl (by kernel_rfl)) (AH_takeT 16 rfl (by kernel_rfl) (by kernel_rfl) (by kernel_rfl) rfl rfl rfl (by rw [hK]; simp) rfl (by decide) (Pu_loadS (r := 0) rfl Try.isAgg38 rfl rfl hz ((bvs_get (xs := zs.map (fun p : EB => p.1)) (k := x) (j := 32) (by omega) (by omega)).trans (by rw [ez]; exact bk_data (zs.getD x default).1.len))) (AH_takeT 17 rfl (by kernel_rfl) (by kernel_rfl) (by kernel_rfl) rfl rfl rfl (by rw [hK]; simp) rfl (by decide) (Pu_convBS (r := 0) rfl Try.underlying38 Try.underlying5 Try.underlying9 rfl rfl (fun h hp => hzd h hp _ hm1)) (AH_takeT 18 rfl (by kernel_rfl) (by kernel_rfl) (by kernel_rfl) rfl rfl rfl (by rw [hK]; simp) rfl (by decide) (Pu_move rfl rfl) (AH_takeT 19 rfl (by kernel_rfl) (by kernel_rfl) (by kernel_rfl) rfl rfl rfl (by rw [hK]; simp) rfl (by decide) (Pu_move rfl rfl) (AH_takeT 20 rfl (by kernel_rfl) (by kernel_rfl) (by kernel_rfl) rfl rfl rfl (by rw [hK]; simp) rfl (by decide) (Pu_idxS (r := 0) rfl Try.runUnderlying32 Try.sizeOf40 rfl rfl rfl hy (by omega)) (AH_takeT 21 rfl (by kernel_rfl) (by kernel_rfl) (by kernel_rfl) rfl rfl rfl (by rw [hK]; simp) rfl (by decide) (Pu_fieldAddrE (off := 32) rfl rfl (by kernel_rfl)) (AH_takeT 22 rfl (by kernel_rfl) (by kernel_rfl) (by kernel_rfl) rfl rfl rfl (by rw [hK]; simp) rfl (by decide) (Pu_loadS (r := 0) rfl Try.isAgg38 rfl rfl hy ((bvs_get (xs := ys.map (fun p : EB => p.1)) (k := x) (j := 32) (by omega) (by omega)).trans (by rw [ey]; exact bk_data (ys.getD x default).1.len))) (AH_takeT 23 rfl (by kernel_rfl) (by kernel_rfl) (by kernel_rfl) rfl rfl rfl (by rw [hK]; simp) rfl (by decide) (Pu_convBS (r := 0) rfl Try.underlying38 Try.underlying5 Try.underlying9 rfl rfl (fun h hp => hyd h hp _ hm2)) (AH_takeT 24 rfl (by kernel_rfl) (by kernel_rfl) (by kernel_rfl) rfl rfl rfl (by rw [hK]; simp) rfl (by decide) (Pu_bin rfl rfl rfl (run_strNe _ _ _ _ _)) (AH_take 25 rfl (by kernel_rfl) (by kernel_rfl) (by kernel_rfl) rfl rfl (by decide) (Pu_pickF rfl rfl (by rw [hK]; simp) rfl) (AH_take 26 rfl (by kernel_rfl) (by kernel_rfl) (by kernel_rfl) rfl rfl (by decide) (Pu_move rfl rfl) (AH_takeT 27 rfl (by kernel_rfl) (by kernel_rfl) (by kernel_rfl) rfl rfl rfl (by rw [hD]; simp) rfl (by decide) (Pu_move rfl rfl) (AH_takeT 28 rfl (by kernel_rfl) (by kernel_rfl) (by kernel_rfl) rfl rfl rfl (by rw [hD]; simp) rfl (by decide) (Pu_move rfl rfl) (AH_takeT 29 rfl (by kernel_rfl) (by kernel_rfl) (by kernel_rfl) rfl rfl rfl (by rw [hD]; simp) rfl (by decide) (Pu_idxS (r := 0) rfl Try.runUnderlying32 Try.sizeOf40 rfl rfl rfl hz (by omega)) (AH_takeT 30 rfl (by kernel_rfl) (by kernel_rfl) (by kernel_rfl) rfl rfl rfl (by rw [hD]; simp) rfl (by decide) (Pu_fieldAddrE (off := 33) rfl rfl (by kernel_rfl)) (AH_takeT 31 rfl (by kernel_rfl) (by kernel_rfl) (by kernel_rfl) rfl rfl rfl (by rw [hD]; simp) rfl (by decide) (Pu_loadS (r := 0) rfl Try.isAgg3 rfl rfl hz ((bvs_get (xs := zs.map (fun p : EB => p.1)) (k := x) (j := 33) (by omega) (by omega)).trans (by rw [ez]; exact bk_src (zs.getD x default).1.len))) (AH_takeT 32 rfl (by kernel_rfl) (by kernel_rfl) (by kernel_rfl) rfl rfl rfl (by rw [hD]; simp) rfl (by decide) (Pu_move rfl rfl) (AH_takeT 33 rfl (by kernel_rfl) (by kernel_rfl) (by kernel_rfl) rfl rfl rfl (by rw [hD]; simp) rfl (by decide) (Pu_move rfl rfl) (AH_takeT 34 rfl (by kernel_rfl) (by kernel_rfl) (by kernel_rfl) rfl rfl rfl (by rw [hD]; simp) rfl (by decide) (Pu_idxS (r := 0) rfl Try.runUnderlying32 Try.sizeOf40 rfl rfl rfl hy (by omega)) (AH_takeT 35 rfl (by kernel_rfl) (by kernel_rfl) (by kernel_rfl) rfl rfl rfl (by rw [hD]; simp) rfl (by decide) (Pu_fieldAddrE (off := 33) rfl rfl (by kernel_rfl)) (AH_takeT 36 rfl (by kernel_rfl) (by kernel_rfl) (by kernel_rfl) rfl rfl rfl (by rw [hD]; simp) rfl (by decide) (Pu_loadS (r := 0) rfl Try.isAgg3 rfl rfl hy ((bvs_get (xs := ys.map (fun p : EB => p.1)) (k := x) (j := 33) (by omega) (by omega)).trans (by rw [ey]; exact bk_src (ys.getD x default).1.len))) (AH_takeT 37 rfl (by kernel_rfl) (by kernel_rfl) (by kernel_rfl) rfl rfl rfl (by rw [hD]; simp) rfl (by decide) (Pu_bin rfl rfl rfl (run_neq _ _ _ _ _ _)) (AH_take 38 rfl (by kernel_rfl) (by kernel_rfl) (by kernel_rfl) rfl rfl (by decide) (Pu_pickF rfl rfl (by rw [hD]; simp) rfl) (AH_take 39 rfl (by kernel_rfl) (by kernel_rfl) (by kernel_rfl) rfl rfl (by decide) (Pu_move rfl rfl) (AH_takeT 40 rfl (by kernel_rfl) (by kernel_rfl) (by kernel_rfl) rfl rfl rfl (by rw [hS]; simp) rfl (by decide) (Pu_move rfl rfl) (AH_takeT 41 rfl (by kernel_rfl) (by kernel_rfl) (by kernel_rfl) rfl rfl rfl (by rw [hS]; simp) rfl (by decide) (Pu_move rfl rfl) (AH_takeT 42 rfl (by kernel_rfl) (by kernel_rfl) (by kernel_rfl) rfl rfl rfl (by rw [hS]; simp) rfl (by decide) (Pu_idxS (r := 0) rfl Try.runUnderlying32 Try.sizeOf40 rfl rfl rfl hz (by omega)) (AH_takeT 43 rfl (by kernel_rfl) (by kernel_rfl) (by kernel_rfl) rfl rfl rfl (by rw [hS]; simp) rfl (by decide) (Pu_fieldAddrE (off := 34) rfl rfl (by kernel_rfl)) (AH_takeT 44 rfl (by kernel_rfl) (by kernel_rfl) (by kernel_rfl) rfl rfl rfl (by rw [hS]; simp) rfl (by decide) (Pu_loadS (r := 0) rfl Try.isAgg3 rfl rfl hz ((bvs_get (xs := zs.map (fun p : EB => p.1)) (k := x) (j := 34) (by omega) (by omega)).trans (by rw [ez]; exact bk_exp (zs.getD x default).1.len))) (AH_takeT 45 rfl (by kernel_rfl) (by kernel_rfl) (by kernel_rfl) rfl rfl rfl (by rw [hS]; simp) rfl (by decide) (Pu_move rfl rfl) (AH_takeT 46 rfl (by kernel_rfl) (by kernel_rfl) (by kernel_rfl) rfl rfl rfl (by rw [hS]; simp) rfl (by decide) (Pu_move rfl rfl) (AH_takeT 47 rfl (by kernel_rfl) (by kernel_rfl) (by kernel_rfl) rfl rfl rfl (by rw [hS]; simp) rfl (by decide) (Pu_idxS (r := 0) rfl Try.runUnderlying32 Try.sizeOf40 rfl rfl rfl hy (by omega)) (AH_takeT 48 rfl (by kernel_rfl) (by kernel_rfl) (by kernel_rfl) rfl rfl rfl (by rw [hS]; simp) rfl (by decide) (Pu_fieldAddrE (off := 34) rfl rfl (by kernel_rfl)) (AH_takeT 49 rfl (by kernel_rfl) (by kernel_rfl) (by kernel_rfl) rfl rfl rfl (by rw [hS]; simp) rfl (by decide) (Pu_loadS (r := 0) rfl Try.isAgg3 rfl rfl hy ((bvs_get (xs := ys.map (fun p : EB => p.1)) (k := x) (j := 34) (by omega) (by omega)).trans (by rw [ey]; exact bk_exp (ys.getD x default).1.len))) (AH_takeT 50 rfl (by kernel_rfl) (by kernel_rfl) (by kernel_rfl) rfl rfl rfl (by rw [hS]; simp) rfl (by decide) (Pu_bin rfl rfl rfl (run_neq _ _ _ _ _ _)) (AH_take 51 rfl (by kernel_rfl) (by kernel_rfl) (by kernel_rfl) rfl rfl (by decide) (Pu_pickF rfl rfl (by rw [hS]; simp) rfl) (AH_done (by kernel_rfl) (X_then ?_))))))))))))))))))))))))))))))))))))))))))))))))))))))
    refine W_false rfl ((by rw [hE]; simp)) ?_
    refine W_skip (X_block (X_then ?_))
    refine W.pre (K' := [(0, _), (1, _), (5, _), (14, _), (68, _)]) (L' := [(0, _)]) ?_ ⟨rfl, ⟨rfl, ⟨rfl, ⟨rfl, ⟨rfl, trivial⟩⟩⟩⟩⟩ ⟨rfl, trivial⟩
    refine W_regL (WL_pure rfl rfl (by decide) (Pu_move rfl rfl) (WL_pure rfl rfl (by decide) (Pu_bin rfl rfl rfl (run_add _ _ _ _ _ (by omega))) (WL_pure rfl rfl (by decide) (Pu_assign rfl rfl) (WL_nil ?_))))
    exact X_round (x + 1) (by omega) (by omega) ⟨rfl, rfl, rfl, trivial⟩ ⟨rfl, trivial⟩
  ·
    refine W_exit (X_then_exit (X_then_exit (X_block_exit (X_then ?_))))
    refine W_seq ?_
    refine W.pre (K' := [(0, _), (1, _), (5, _), (14, _)]) (L' := [(0, _)]) ?_ ⟨rfl, ⟨rfl, ⟨rfl, ⟨rfl, trivial⟩⟩⟩⟩ ⟨rfl, trivial⟩
    refine W_regL (WL_pure rfl rfl (by decide) (Pu_assign rfl rfl) (WL_nil (X_then ?_)))
    refine W_ret ?_
    exact X_ret [] (Ps := []) (res1 Try.results15 rfl) rfl (by decide) ⟨rfl, rfl⟩
end Go.Proofs.Ytjopgnkffhfhkaa
/- Areas: plain words of the law of bounds; the laws' calls. -/
namespace Go.Proofs.Ytjopgnkffhfhkaa
open Go.RowKit
set_option linter.unusedVariables false
set_option linter.unusedSimpArgs false
set_option linter.unusedSectionVars false
theorem usedA_sub {a b : List Bk} (s : Int) (h : a.Sublist b) : usedA s a ≤ usedA s b := by
  induction h with
  | slnil => exact Nat.le_refl _
  | cons x _ ih => rw [usedA_cons]; omega
  | cons_cons x _ ih => rw [usedA_cons, usedA_cons]; omega
theorem totA_sub {a b : List Bk} (h : a.Sublist b) : totA a ≤ totA b := by
  induction h with
  | slnil => exact Nat.le_refl _
  | cons x _ ih => rw [totA_cons]; omega
  | cons_cons x _ ih => rw [totA_cons, totA_cons]; omega
structure BndI (room quota : Int) (B : List Bk) : Prop where
  src : ∀ x ∈ B, 0 ≤ x.src ∧ x.src < 4
  used : ∀ s, (usedA s B : Int) ≤ quota
  tot : (totA B : Int) ≤ room
theorem BndI.sweep {room quota : Int} {B : List Bk} (h : BndI room quota B) (now : Int) : BndI room quota (sweepA now B) where
  src := fun x hx => h.src x (List.mem_filter.1 hx).1
  used := fun s => by have := h.used s; have := usedA_sub s (List.filter_sublist (p := fun x : Bk => decide (now < x.exp)) (l := B)); unfold sweepA; omega
  tot := by have := h.tot; have := totA_sub (List.filter_sublist (p := fun x : Bk => decide (now < x.exp)) (l := B)); unfold sweepA; omega
theorem bnd_put {room quota now : Int} {B : List Bk} {b : Bk} (h : BndI room quota B) (h0 : 0 ≤ b.src ∧ b.src < 4) (h1 : now < b.exp) (h2 : b.data.length ≤ 6000) (hs : sweepA now B = B) :
    ∃ e B2, putA room quota B b now = (e, B2) ∧ BndI room quota B2 ∧ B2.length ≤ B.length + 1 ∧ (e = 0 ∨ (e = 15 ∨ e = 16) ∧ B2 = B) := by
  have hc := putA_cases (room := room) (quota := quota) (now := now) (B := B) (b := b) h0.1 h1 h2
  rw [hs] at hc
  rcases hc with ⟨x, hf, hp⟩ | ⟨_, _, hp⟩ | ⟨_, _, _, hp⟩ | ⟨_, hq, hr, hp⟩
  · refine ⟨_, _, hp, ⟨fun y hy => ?_, fun s => by rw [renewA_used]; exact h.used s, by rw [renewA_tot]; exact h.tot⟩, by rw [renewA_len]; omega, .inl rfl⟩
    obtain ⟨z, hz, rfl⟩ := List.mem_map.1 hy
    rw [upA_src]
    exact h.src z hz
  · exact ⟨_, _, hp, h, by omega, .inr ⟨.inl rfl, rfl⟩⟩
  · exact ⟨_, _, hp, h, by omega, .inr ⟨.inr rfl, rfl⟩⟩
  · refine ⟨_, _, hp, ⟨fun y hy => ?_, fun s => ?_, ?_⟩, by rw [insA_len]; omega, .inl rfl⟩
    · rcases insA_mem.1 hy with rfl | hy
      · exact h0
      · exact h.src y hy
    · have := h.used s
      rw [usedA_ins]
      split
      · rename_i e; subst e; omega
      · omega
    · rw [totA_ins]; omega
/-- What the first sources have used. -/
def usum (B : List Bk) : Nat → Nat
  | 0 => 0
  | s + 1 => usum B s + usedA (s : Int) B
theorem usum_cons (b : Bk) (B : List Bk) : ∀ k : Nat, usum (b :: B) k = (if 0 ≤ b.src ∧ b.src < (k : Int) then b.data.length else 0) + usum B k
  | 0 => by
    show 0 = (if 0 ≤ b.src ∧ b.src < ((0 : Nat) : Int) then _ else 0) + 0
    rw [if_neg (by omega)]
  | k + 1 => by
    show usum (b :: B) k + usedA (k : Int) (b :: B) = _ + (usum B k + usedA (k : Int) B)
    rw [usum_cons b B k, usedA_cons]
    by_cases h1 : b.src = (k : Int)
    · rw [if_pos h1, if_neg (by omega), if_pos (by omega)]; omega
    · rw [if_neg h1]
      by_cases h2 : 0 ≤ b.src ∧ b.src < (k : Int)
      · rw [if_pos h2, if_pos (by omega)]; omega
      · rw [if_neg h2, if_neg (by omega)]; omega
theorem usum_all : ∀ {B : List Bk}, (∀ x ∈ B, 0 ≤ x.src ∧ x.src < 4) → usum B 4 = totA B
  | [], _ => rfl
  | b :: B, h => by
    rw [usum_cons, totA_cons, usum_all fun x hx => h x (by simp [hx]), if_pos (show 0 ≤ b.src ∧ b.src < ((4 : Nat) : Int) from h b (by simp))]
theorem usum_le (B : List Bk) : ∀ k : Nat, usum B k ≤ k * totA B
  | 0 => by simp [usum]
  | k + 1 => by
    show usum B k + usedA (k : Int) B ≤ _
    have h1 := usum_le B k
    have h2 : ∀ B : List Bk, usedA (k : Int) B ≤ totA B := by
      intro B
      induction B with
      | nil => simp [usedA, totA]
      | cons b B ih => rw [usedA_cons, totA_cons]; split <;> omega
    have := h2 B
    rw [Nat.add_mul]
    omega
/-- A call of a law: its kind, key, size, source, time. -/
structure CallA where
  kind : Int
  key : Int
  size : Int
  src : Int
  dur : Int
deriving Inhabited
def callF (c : CallA) : List Value := [.int .i64 c.kind, .int .i64 c.key, .int .i64 c.size, .int .i64 c.src, .int .i64 c.dur]
abbrev in64 (z : Int) : Prop := -9223372036854775808 ≤ z ∧ z ≤ 9223372036854775807
structure CallOk (c : CallA) : Prop where
  key : in64 c.key
theorem callF_len (l : List CallA) : ∀ x ∈ l, (callF x).length = 5 := fun _ _ => rfl
theorem callF_one (c : CallA) : ∀ u ∈ callF c, u.oneCell' = true := by intro u hu; simp [callF] at hu; rcases hu with rfl | rfl | rfl | rfl | rfl <;> rfl
theorem call_at {l : List CallA} {k : Nat} (hk : k < l.length) : ((recC callF l).drop (k * 5)).take 5 = callF (l.getD k default) := recC_get (d := default) (callF_len l) hk
end Go.Proofs.Ytjopgnkffhfhkaa
/- Areas: the document's own area, in plain words. -/
namespace Go.Proofs.Ytjopgnkffhfhkaa
open Go.RowKit
set_option linter.unusedVariables false
set_option linter.unusedSimpArgs false
section
variable {α : Type} {f : α → List Value} {S : Nat}
theorem recC_drop : ∀ {es : List α} (h : ∀ e ∈ es, (f e).length = S) (a : Nat), (recC f es).drop (a * S) = recC f (es.drop a)
  | [], _, a => by simp [recC]
  | e :: es, h, 0 => by simp
  | e :: es, h, a + 1 => by
    rw [List.drop_succ_cons, ← recC_drop (fun x hx => h x (by simp [hx])) a]
    show (f e ++ recC f es).drop _ = _
    rw [show (a + 1) * S = (f e).length + a * S by rw [h e (by simp), Nat.add_mul]; omega, ← List.drop_drop, List.drop_left]
theorem recC_take {es : List α} (h : ∀ e ∈ es, (f e).length = S) (a : Nat) : (recC f es).take (a * S) = recC f (es.take a) := by
  rcases Nat.lt_or_ge es.length a with ha | ha
  · have := Nat.mul_le_mul_right S (Nat.le_of_lt ha)
    rw [List.take_of_length_le (by rw [recC_length h]; exact this), List.take_of_length_le (by omega)]
  · have hl : (recC f (es.take a)).length = a * S := by rw [recC_length fun e he => h e (List.mem_of_mem_take he), List.length_take, Nat.min_eq_left ha]
    have e : recC f es = recC f (es.take a) ++ recC f (es.drop a) := by rw [← recC_append, List.take_append_drop]
    rw [e, ← hl, List.take_left]
theorem recC_sub {es : List α} (h : ∀ e ∈ es, (f e).length = S) (a n : Nat) : ((recC f es).drop (a * S)).take (n * S) = recC f ((es.drop a).take n) := by
  rw [recC_drop h, recC_take fun e he => h e (List.mem_of_mem_drop he)]
end
abbrev sls (zs : List EB) : List BV := zs.map (fun p : EB => p.1)
theorem sls_len (zs : List EB) : (sls zs).length = zs.length := List.length_map _
def dropZ (k : List UInt8) (zs : List EB) : List EB := zs.filter fun p => decide (p.1.key ≠ k)
theorem dropZ_A (k : List UInt8) (zs : List EB) : (dropZ k zs).map toBk = dropA k (zs.map toBk) := by unfold dropZ dropA; rw [List.filter_map]; rfl
theorem take_next {zs : List EB} {k : Nat} (h : k < zs.length) : zs.take (k + 1) = zs.take k ++ [zs.getD k default] := by
  rw [List.take_succ_eq_append_getElem h]
  simp [h]
theorem dropZ_next {zs : List EB} {x : Nat} {k : List UInt8} (h : x < zs.length) : dropZ k (zs.take (x + 1)) = if (zs.getD x default).1.key ≠ k then dropZ k (zs.take x) ++ [zs.getD x default] else dropZ k (zs.take x) := by
  rw [take_next h]
  unfold dropZ
  rw [List.filter_append, List.filter_cons, List.filter_nil]
  by_cases hk : (zs.getD x default).1.key ≠ k
  · rw [if_pos hk, if_pos (decide_eq_true hk)]
  · rw [if_neg hk, if_neg (by simpa using hk), List.append_nil]
theorem liveE_next {zs : List EB} {x : Nat} {now : Int} (h : x < zs.length) : liveE now (zs.take (x + 1)) = if now < (zs.getD x default).1.exp then liveE now (zs.take x) ++ [zs.getD x default] else liveE now (zs.take x) := by
  rw [take_next h, liveE_app, liveE_cons]
  split
  · rfl
  · show liveE now (zs.take x) ++ [] = _
    rw [List.append_nil]
theorem liveE_le (now : Int) (zs : List EB) : (liveE now zs).length ≤ zs.length := List.length_filter_le _ _
theorem dropZ_le (k : List UInt8) (zs : List EB) : (dropZ k zs).length ≤ zs.length := List.length_filter_le _ _
theorem totE_next {zs : List EB} {x : Nat} (h : x < zs.length) : totE (zs.take (x + 1)) = totE (zs.take x) + (zs.getD x default).2.length ∧ totE (zs.take (x + 1)) ≤ totE zs := by
  have h1 : totE (zs.take (x + 1)) = totE (zs.take x) + (zs.getD x default).2.length := by rw [take_next h, totE_app, totE_cons]; simp [totE]
  have h2 := totE_app (zs.take (x + 1)) (zs.drop (x + 1))
  rw [List.take_append_drop] at h2
  exact ⟨h1, by omega⟩
theorem usedE_next {zs : List EB} {x : Nat} {s : Int} (h : x < zs.length) : usedE s (zs.take (x + 1)) = usedE s (zs.take x) + (if (zs.getD x default).1.src = s then (zs.getD x default).2.length else 0) := by
  rw [take_next h, usedE_app, usedE_cons]
  simp [usedE]
theorem dropA_lt (k : List UInt8) : ∀ B : List Bk, (findA k B).isSome = decide ((dropA k B).length < B.length)
  | [] => rfl
  | b :: B => by
    have h := dropA_lt k B
    unfold findA dropA at h ⊢
    rw [List.find?_cons, List.filter_cons]
    by_cases hk : b.key = k
    · have := List.length_filter_le (fun x : Bk => decide (¬ x.key = k)) B
      simp only [hk, decide_true, Option.isSome_some, ne_eq, not_true_eq_false, decide_false, Bool.false_eq_true, if_false, List.length_cons]
      exact (decide_eq_true (by omega)).symm
    · simp only [hk, decide_false, ne_eq, not_false_eq_true, decide_true, if_true, List.length_cons, h]
      exact decide_eq_decide.2 (by omega)
theorem ltK_diff {a b : List UInt8} {i : Nat} (ha : i < a.length) (hb : i < b.length) (h : ∀ j, j < i → a[j]? = b[j]?) (hne : at0 a i ≠ at0 b i) : ltK a b = decide (at0 a i < at0 b i) := by
  have ht := split_at a b i ha hb h
  have ea : at0 a i = a[i] := by simp [at0, ha]
  have eb : at0 b i = b[i] := by simp [at0, hb]
  rw [ea, eb] at hne ⊢
  conv => lhs; rw [← List.take_append_drop i a, ← List.take_append_drop i b, List.drop_eq_getElem_cons ha, List.drop_eq_getElem_cons hb, ht]
  exact ltK_at _ _ _ _ _ hne
instance : Inhabited Bk := ⟨⟨[], [], 0, 0⟩⟩
/-- Where a key stands in what rises. -/
structure Place (B : List Bk) (k : List UInt8) (x : Nat) : Prop where
  le : x ≤ B.length
  lt : ∀ j, j < x → ltK (B.getD j default).key k = true
  stop : x < B.length → ltK (B.getD x default).key k = false
theorem Place.ins {k : List UInt8} {b : Bk} (hb : b.key = k) : ∀ {B : List Bk} {x : Nat}, Place B k x → insA b B = B.take x ++ b :: B.drop x
  | [], x, h => by
    have := h.le
    simp at this
    subst this
    rfl
  | c :: B, 0, h => by
    have := h.stop (by simp)
    rw [insA, if_neg (by rw [hb]; simpa using this)]
    rfl
  | c :: B, x + 1, h => by
    have h0 : ltK c.key k = true := by simpa using h.lt 0 (by omega)
    have hp : Place B k x := ⟨by have := h.le; simp at this; omega, fun j hj => by simpa using h.lt (j + 1) (by omega), fun hx => by simpa using h.stop (by simp; omega)⟩
    rw [insA, if_pos (by rw [hb]; exact h0), hp.ins hb]
    rfl
theorem getD_eq {B : List Bk} {x : Nat} (h : x < B.length) : B.getD x default = B[x] := by simp [h]
theorem lt_ne {a b : List UInt8} (h : ltK a b = true) : a ≠ b := fun e => by rw [e, ltK_irrefl] at h; cases h
theorem Place.rest {B : List Bk} {k : List UInt8} {x : Nat} (h : Place B k x) (hs : SortA B) (hl : ∀ y ∈ B, y.key.length = k.length) : ∀ j, j < B.length → (j ≠ x ∨ (B.getD x default).key ≠ k) → (B.getD j default).key ≠ k := fun j hj hjx => by
  rcases Nat.lt_trichotomy j x with h1 | h1 | h1
  · exact lt_ne (h.lt j h1)
  · subst h1
    rcases hjx with h2 | h2
    · exact absurd rfl h2
    · exact h2
  · have hx : x < B.length := by omega
    have h2 : KL B[x] B[j] := List.pairwise_iff_getElem.1 hs x j hx hj h1
    have h3 := h.stop hx
    rw [getD_eq hx] at h3
    rw [getD_eq hj]
    intro e
    unfold KL at h2
    rw [e, h3] at h2
    cases h2
theorem Place.find {B : List Bk} {k : List UInt8} {x : Nat} (h : Place B k x) (hs : SortA B) (hl : ∀ y ∈ B, y.key.length = k.length) : findA k B = if x < B.length ∧ (B.getD x default).key = k then some (B.getD x default) else none := by
  by_cases hc : x < B.length ∧ (B.getD x default).key = k
  · rw [if_pos hc]
    obtain ⟨hx, hk⟩ := hc
    have h1 : findA k B ≠ none := fun e => by
      have := List.find?_eq_none.1 e B[x] (List.getElem_mem hx)
      rw [getD_eq hx] at hk
      simp [hk] at this
    cases hf : findA k B with
    | none => exact absurd hf h1
    | some y =>
      have hm := List.mem_of_find?_eq_some hf
      have hy : y.key = k := by simpa using List.find?_some hf
      obtain ⟨j, hj, rfl⟩ := List.getElem_of_mem hm
      by_cases hjx : j = x
      · subst hjx; rw [getD_eq hj]
      · exact absurd hy (by rw [← getD_eq hj]; exact h.rest hs hl j hj (.inl hjx))
  · rw [if_neg hc]
    refine findA_none fun y hy => ?_
    obtain ⟨j, hj, rfl⟩ := List.getElem_of_mem hy
    rw [← getD_eq hj]
    by_cases hjx : j = x
    · subst hjx; exact fun e => hc ⟨hj, e⟩
    · exact h.rest hs hl j hj (.inl hjx)
theorem Place.renew {B : List Bk} {k : List UInt8} {x : Nat} {e : Int} (h : Place B k x) (hs : SortA B) (hl : ∀ y ∈ B, y.key.length = k.length) (hx : x < B.length) : renewA k e B = B.take x ++ upA k e (B.getD x default) :: B.drop (x + 1) := by
  have h1 : ∀ y ∈ B.take x, upA k e y = y := fun y hy => by
    obtain ⟨j, hj, rfl⟩ := List.getElem_of_mem hy
    rw [List.length_take] at hj
    rw [List.getElem_take]
    have := lt_ne (h.lt j (by omega))
    rw [getD_eq (by omega)] at this
    unfold upA
    rw [if_neg this]
  have h2 : ∀ y ∈ B.drop (x + 1), upA k e y = y := fun y hy => by
    obtain ⟨j, hj, rfl⟩ := List.getElem_of_mem hy
    rw [List.length_drop] at hj
    rw [List.getElem_drop]
    have := h.rest hs hl (x + 1 + j) (by omega) (.inl (by omega))
    rw [getD_eq (by omega)] at this
    unfold upA
    rw [if_neg this]
  unfold renewA
  conv => lhs; rw [← List.take_append_drop x B, List.drop_eq_getElem_cons hx, List.map_append, List.map_cons]
  rw [List.map_congr_left h1, List.map_congr_left h2, List.map_id', List.map_id', getD_eq hx]
/-- The first that is right, told. -/
theorem get_hit {B : List Bk} {k : List UInt8} {now : Int} {x : Nat} (hs : SortA B) (hx : x < B.length) (hk : (B.getD x default).key = k) : getA B k now = if now < (B.getD x default).exp then some (B.getD x default) else none := by
  have hf : findA k B = some (B.getD x default) := by
    have hn := sort_nodup hs
    have h1 : findA k B ≠ none := fun e => by
      have := List.find?_eq_none.1 e B[x] (List.getElem_mem hx)
      rw [getD_eq hx] at hk
      simp [hk] at this
    cases hf : findA k B with
    | none => exact absurd hf h1
    | some y =>
      have hm := List.mem_of_find?_eq_some hf
      have hy : y.key = k := by simpa using List.find?_some hf
      obtain ⟨j, hj, rfl⟩ := List.getElem_of_mem hm
      rw [getD_eq hx] at hk ⊢
      unfold keysA List.Nodup at hn
      rw [List.pairwise_map] at hn
      rcases Nat.lt_trichotomy j x with h | h | h
      · exact absurd (hy.trans hk.symm) (List.pairwise_iff_getElem.1 hn j x hj hx h)
      · subst h; rfl
      · exact absurd (hk.trans hy.symm) (List.pairwise_iff_getElem.1 hn x j hx hj h)
  unfold getA
  rw [hf]
  by_cases h : now < (B.getD x default).exp
  · rw [if_pos h]; simp [Option.filter, -List.getD_eq_getElem?_getD, h]
  · rw [if_neg h]; simp [Option.filter, -List.getD_eq_getElem?_getD, h]
theorem get_miss {B : List Bk} {k : List UInt8} {now : Int} (h : ∀ j, j < B.length → ¬ ((B.getD j default).key = k ∧ now < (B.getD j default).exp)) : getA B k now = none := by
  unfold getA
  cases hf : findA k B with
  | none => rfl
  | some y =>
    have hm := List.mem_of_find?_eq_some hf
    have hy : y.key = k := by simpa using List.find?_some hf
    obtain ⟨j, hj, rfl⟩ := List.getElem_of_mem hm
    have := h j hj
    rw [getD_eq hj] at this
    have h2 : ¬ now < B[j].exp := fun e => this ⟨hy, e⟩
    simp [Option.filter, h2]
theorem map_getD {zs : List EB} {x : Nat} (h : x < zs.length) : (zs.map toBk).getD x default = toBk (zs.getD x default) := by simp [h]
end Go.Proofs.Ytjopgnkffhfhkaa
/- Areas: the document's own area, counted and swept. -/
namespace Go.Proofs.Ytjopgnkffhfhkaa
open Go.RowKit
set_option linter.unusedVariables false
set_option linter.unusedSimpArgs false
set_option maxRecDepth 8000
abbrev refB (g : Nat) (room quota : Int) (v : Value) : HP := blk g 56 [.int .i64 room, .int .i64 quota, v]
abbrev refL (g : Nat) (room quota : Int) (v : Value) (zs : List EB) : List HP := [refB g room quota v, rowB2 v (sls zs), datP zs]
theorem refTotal_spec (g : Nat) (room quota : Int) (v : Value) (zs : List EB) (hz : zs.length ≤ 1000000000) (ht : totE zs ≤ 1000000000) (F : HP) : CallsS Try.prog 25 #[.pointer (some ⟨g, 0, none⟩)] F (refL g room quota v zs) (fun r Ps => r = .int .i64 (totE zs : Int) ∧ Ps = refL g room quota v zs) := by
  refine callsS_enter Try.func25 rfl Try.ntmps25 (by simp) (fun E => ?_)
  refine W_seq ?_
  refine W.pre (K' := [(0, _)]) (L' := [(0, _), (1, _), (2, _), (3, _)]) ?_ ⟨rfl, trivial⟩ ⟨rfl, ⟨rfl, ⟨rfl, ⟨rfl, trivial⟩⟩⟩⟩
  refine W_regL (WL_pure rfl rfl (by decide) (Pu_assign rfl rfl) (WL_nil (X_then ?_)))
  refine W_seq ?_
  refine W.pre (K' := [(0, _), (2, _)]) (L' := [(0, _), (1, _), (2, _), (3, _)]) ?_ ⟨rfl, ⟨rfl, trivial⟩⟩ ⟨rfl, ⟨rfl, ⟨rfl, ⟨rfl, trivial⟩⟩⟩⟩
  refine W_regL (WL_pure rfl rfl (by decide) (Pu_assign rfl rfl) (WL_nil (X_then ?_)))
  refine W_seq ?_
  refine W_seq ?_
  refine W.pre (K' := [(0, _), (2, _), (3, _)]) (L' := [(0, _), (1, _), (2, _), (3, _)]) ?_ ⟨rfl, ⟨rfl, ⟨rfl, trivial⟩⟩⟩ ⟨rfl, ⟨rfl, ⟨rfl, ⟨rfl, trivial⟩⟩⟩⟩
  refine W_regL (WL_pure rfl rfl (by decide) (Pu_assign rfl rfl) (WL_nil (X_then ?_)))
  refine W_block ?_
  refine W_loop (α := Nat) (fun x => [(0, .pointer (some ⟨g, 0, none⟩)), (3, .int .i64 (totE (zs.take x) : Int)), (4, .int .i64 (x : Int))]) (fun x => [(0, F), (1, refB g room quota v), (2, rowB2 v (sls zs)), (3, datP zs)]) (fun x => x ≤ zs.length) (fun x => zs.length - x) (0) (Nat.zero_le _) ⟨rfl, ⟨rfl, ⟨rfl, trivial⟩⟩⟩ ⟨rfl, ⟨rfl, ⟨rfl, ⟨rfl, trivial⟩⟩⟩⟩ (fun x hx => ?_)
  have hsl := sls_len zs
  refine W_seq ?_
  refine W_seq ?_
  refine W.pre (K' := [(0, _), (3, _), (4, _)]) (L' := [(0, _), (1, _), (2, _), (3, _)]) ?_ ⟨rfl, ⟨rfl, ⟨rfl, trivial⟩⟩⟩ ⟨rfl, ⟨rfl, ⟨rfl, ⟨rfl, trivial⟩⟩⟩⟩
  refine W_regL (WL_pure rfl rfl (by decide) (Pu_move rfl rfl) (WL_pure rfl rfl (by decide) (Pu_move rfl rfl) (WL_pure rfl rfl (by decide) (Pu_nilCheck rfl rfl) (WL_pure rfl rfl (by decide) (Pu_fieldAddrB (off := 2) rfl rfl (by kernel_rfl)) (WL_pure rfl rfl (by decide) (Pu_loadB (r := 1) rfl Try.isAgg32 rfl rfl rfl) (WL_pure rfl rfl (by decide) (Pu_len (r := 2) rfl Try.runUnderlying32 rfl rfl (fun _ h => rowP_rd h)) (WL_pure rfl rfl (by decide) (Pu_bin rfl rfl rfl (run_lss _ _ _ _ _ _)) (WL_nil (X_then ?_)))))))))
  refine W_cond rfl (fun hc11 => ?_) (fun hc11 => ?_)
  ·
    have hlt : x < zs.length := by have := of_decide_eq_true hc11; omega
    have hnx := totE_next hlt
    have hm := getD_mem' (d := default) hlt
    have eA : (sls zs).getD x default = (zs.getD x default).1 := getD_map1 hlt
    refine W_skip (X_then ?_)
    refine W_seq ?_
    refine W_block ?_
    refine W.pre (K' := [(0, _), (3, _), (4, _), (11, _)]) (L' := [(0, _), (1, _), (2, _), (3, _)]) ?_ ⟨rfl, ⟨rfl, ⟨rfl, ⟨rfl, trivial⟩⟩⟩⟩ ⟨rfl, ⟨rfl, ⟨rfl, ⟨rfl, trivial⟩⟩⟩⟩
    refine W_regL (WL_pure rfl rfl (by decide) (Pu_move rfl rfl) (WL_pure rfl rfl (by decide) (Pu_move rfl rfl) (WL_pure rfl rfl (by decide) (Pu_nilCheck rfl rfl) (WL_pure rfl rfl (by decide) (Pu_fieldAddrB (off := 2) rfl rfl (by kernel_rfl)) (WL_pure rfl rfl (by decide) (Pu_loadB (r := 1) rfl Try.isAgg32 rfl rfl rfl) (WL_pure rfl rfl (by decide) (Pu_move rfl rfl) (WL_pure rfl rfl (by decide) (Pu_idxS (r := 2) rfl Try.runUnderlying32 Try.sizeOf40 rfl rfl rfl (fun _ h => rowP_rd h) (by omega)) (WL_pure rfl rfl (by decide) (Pu_fieldAddrE (off := 32) rfl rfl (by kernel_rfl)) (WL_pure rfl rfl (by decide) (Pu_loadS (r := 2) rfl Try.isAgg38 rfl rfl (fun _ h => rowP_rd h) ((bvs_get (xs := sls zs) (k := x) (j := 32) (by omega) (by omega)).trans (by rw [eA]; exact bk_data (zs.getD x default).1.len))) (WL_pure rfl rfl (by decide) (Pu_len (r := 3) rfl Try.runUnderlying38 rfl rfl (fun h hp => hp _ hm)) (WL_pure rfl rfl (by decide) (Pu_bin rfl rfl rfl (run_add _ _ _ _ _ (by omega))) (WL_pure rfl rfl (by decide) (Pu_assign rfl rfl) (WL_nil (X_block (X_then ?_)))))))))))))))
    refine W.pre (K' := [(0, _), (3, _), (4, _), (11, _)]) (L' := [(0, _), (1, _), (2, _), (3, _)]) ?_ ⟨rfl, ⟨rfl, ⟨rfl, ⟨rfl, trivial⟩⟩⟩⟩ ⟨rfl, ⟨rfl, ⟨rfl, ⟨rfl, trivial⟩⟩⟩⟩
    refine W_regL (WL_pure rfl rfl (by decide) (Pu_move rfl rfl) (WL_pure rfl rfl (by decide) (Pu_bin rfl rfl rfl (run_add _ _ _ _ _ (by omega))) (WL_pure rfl rfl (by decide) (Pu_assign rfl rfl) (WL_nil ?_))))
    exact X_round (x + 1) (by omega) (by omega) ⟨rfl, lookV_eq rfl (int_eq (by rw [hnx.1]; omega)), rfl, trivial⟩ ⟨rfl, rfl, rfl, rfl, trivial⟩
  ·
    obtain rfl : x = zs.length := by have := of_decide_eq_false hc11; omega
    rw [List.take_length]
    refine W_exit (X_then_exit (X_then_exit (X_block_exit (X_then ?_))))
    refine W_seq ?_
    refine W.pre (K' := [(0, _), (3, _), (4, _), (11, _)]) (L' := [(0, _), (1, _), (2, _), (3, _)]) ?_ ⟨rfl, ⟨rfl, ⟨rfl, ⟨rfl, trivial⟩⟩⟩⟩ ⟨rfl, ⟨rfl, ⟨rfl, ⟨rfl, trivial⟩⟩⟩⟩
    refine W_regL (WL_pure rfl rfl (by decide) (Pu_move rfl rfl) (WL_pure rfl rfl (by decide) (Pu_assign rfl rfl) (WL_nil (X_then ?_))))
    refine W_ret ?_
    exact X_ret [1, 2, 3] (Ps := [_, _, _]) (res1 Try.results25 rfl) rfl (by decide) ⟨rfl, rfl⟩
theorem refUsed_spec (g : Nat) (room quota : Int) (v : Value) (zs : List EB) (src : Int) (hz : zs.length ≤ 1000000000) (ht : totE zs ≤ 1000000000) (F : HP) : CallsS Try.prog 26 #[.pointer (some ⟨g, 0, none⟩), .int .i64 src] F (refL g room quota v zs) (fun r Ps => r = .int .i64 (usedE src zs : Int) ∧ Ps = refL g room quota v zs) := by
  refine callsS_enter Try.func26 rfl Try.ntmps26 (by simp) (fun E => ?_)
  refine W_seq ?_
  refine W.pre (K' := [(0, _), (1, _)]) (L' := [(0, _), (1, _), (2, _), (3, _)]) ?_ ⟨rfl, ⟨rfl, trivial⟩⟩ ⟨rfl, ⟨rfl, ⟨rfl, ⟨rfl, trivial⟩⟩⟩⟩
  refine W_regL (WL_pure rfl rfl (by decide) (Pu_assign rfl rfl) (WL_nil (X_then ?_)))
  refine W_seq ?_
  refine W.pre (K' := [(0, _), (1, _), (4, _)]) (L' := [(0, _), (1, _), (2, _), (3, _)]) ?_ ⟨rfl, ⟨rfl, ⟨rfl, trivial⟩⟩⟩ ⟨rfl, ⟨rfl, ⟨rfl, ⟨rfl, trivial⟩⟩⟩⟩
  refine W_regL (WL_pure rfl rfl (by decide) (Pu_assign rfl rfl) (WL_nil (X_then ?_)))
  refine W_seq ?_
  refine W_seq ?_
  refine W.pre (K' := [(0, _), (1, _), (4, _), (5, _)]) (L' := [(0, _), (1, _), (2, _), (3, _)]) ?_ ⟨rfl, ⟨rfl, ⟨rfl, ⟨rfl, trivial⟩⟩⟩⟩ ⟨rfl, ⟨rfl, ⟨rfl, ⟨rfl, trivial⟩⟩⟩⟩
  refine W_regL (WL_pure rfl rfl (by decide) (Pu_assign rfl rfl) (WL_nil (X_then ?_)))
  refine W_block ?_
  refine W_loop (α := Nat) (fun x => [(0, .pointer (some ⟨g, 0, none⟩)), (1, .int .i64 src), (5, .int .i64 (usedE src (zs.take x) : Int)), (6, .int .i64 (x : Int))]) (fun x => [(0, F), (1, refB g room quota v), (2, rowB2 v (sls zs)), (3, datP zs)]) (fun x => x ≤ zs.length) (fun x => zs.length - x) (0) (Nat.zero_le _) ⟨rfl, ⟨rfl, ⟨rfl, ⟨rfl, trivial⟩⟩⟩⟩ ⟨rfl, ⟨rfl, ⟨rfl, ⟨rfl, trivial⟩⟩⟩⟩ (fun x hx => ?_)
  have hsl := sls_len zs
  refine W_seq ?_
  refine W_seq ?_
  refine W.pre (K' := [(0, _), (1, _), (5, _), (6, _)]) (L' := [(0, _), (1, _), (2, _), (3, _)]) ?_ ⟨rfl, ⟨rfl, ⟨rfl, ⟨rfl, trivial⟩⟩⟩⟩ ⟨rfl, ⟨rfl, ⟨rfl, ⟨rfl, trivial⟩⟩⟩⟩
  refine W_regL (WL_pure rfl rfl (by decide) (Pu_move rfl rfl) (WL_pure rfl rfl (by decide) (Pu_move rfl rfl) (WL_pure rfl rfl (by decide) (Pu_nilCheck rfl rfl) (WL_pure rfl rfl (by decide) (Pu_fieldAddrB (off := 2) rfl rfl (by kernel_rfl)) (WL_pure rfl rfl (by decide) (Pu_loadB (r := 1) rfl Try.isAgg32 rfl rfl rfl) (WL_pure rfl rfl (by decide) (Pu_len (r := 2) rfl Try.runUnderlying32 rfl rfl (fun _ h => rowP_rd h)) (WL_pure rfl rfl (by decide) (Pu_bin rfl rfl rfl (run_lss _ _ _ _ _ _)) (WL_nil (X_then ?_)))))))))
  refine W_cond rfl (fun hc13 => ?_) (fun hc13 => ?_)
  ·
    have hlt : x < zs.length := by have := of_decide_eq_true hc13; omega
    have hnx := totE_next hlt
    have hnu := usedE_next (s := src) hlt
    have hul := usedE_le src (zs.take x)
    have hm := getD_mem' (d := default) hlt
    have eA : (sls zs).getD x default = (zs.getD x default).1 := getD_map1 hlt
    refine W_skip (X_then ?_)
    refine W_seq ?_
    refine W_block ?_
    refine W_seq ?_
    refine W.pre (K' := [(0, _), (1, _), (5, _), (6, _), (13, _)]) (L' := [(0, _), (1, _), (2, _), (3, _)]) ?_ ⟨rfl, ⟨rfl, ⟨rfl, ⟨rfl, ⟨rfl, trivial⟩⟩⟩⟩⟩ ⟨rfl, ⟨rfl, ⟨rfl, ⟨rfl, trivial⟩⟩⟩⟩
    refine W_regL (WL_pure rfl rfl (by decide) (Pu_move rfl rfl) (WL_pure rfl rfl (by decide) (Pu_nilCheck rfl rfl) (WL_pure rfl rfl (by decide) (Pu_fieldAddrB (off := 2) rfl rfl (by kernel_rfl)) (WL_pure rfl rfl (by decide) (Pu_loadB (r := 1) rfl Try.isAgg32 rfl rfl rfl) (WL_pure rfl rfl (by decide) (Pu_move rfl rfl) (WL_pure rfl rfl (by decide) (Pu_idxS (r := 2) rfl Try.runUnderlying32 Try.sizeOf40 rfl rfl rfl (fun _ h => rowP_rd h) (by omega)) (WL_pure rfl rfl (by decide) (Pu_fieldAddrE (off := 33) rfl rfl (by kernel_rfl)) (WL_pure rfl rfl (by decide) (Pu_loadS (r := 2) rfl Try.isAgg3 rfl rfl (fun _ h => rowP_rd h) ((bvs_get (xs := sls zs) (k := x) (j := 33) (by omega) (by omega)).trans (by rw [eA]; exact bk_src (zs.getD x default).1.len))) (WL_pure rfl rfl (by decide) (Pu_move rfl rfl) (WL_pure rfl rfl (by decide) (Pu_bin rfl rfl rfl (run_eql _ _ _ _ _ _)) (WL_nil (X_then ?_))))))))))))
    refine W_cond rfl (fun hc25 => ?_) (fun hc25 => ?_)
    ·
      have hs := of_decide_eq_true hc25
      refine W.pre (K' := [(0, _), (1, _), (5, _), (6, _), (13, _), (25, _)]) (L' := [(0, _), (1, _), (2, _), (3, _)]) ?_ ⟨rfl, ⟨rfl, ⟨rfl, ⟨rfl, ⟨rfl, ⟨rfl, trivial⟩⟩⟩⟩⟩⟩ ⟨rfl, ⟨rfl, ⟨rfl, ⟨rfl, trivial⟩⟩⟩⟩
      refine W_regL (WL_pure rfl rfl (by decide) (Pu_move rfl rfl) (WL_pure rfl rfl (by decide) (Pu_move rfl rfl) (WL_pure rfl rfl (by decide) (Pu_nilCheck rfl rfl) (WL_pure rfl rfl (by decide) (Pu_fieldAddrB (off := 2) rfl rfl (by kernel_rfl)) (WL_pure rfl rfl (by decide) (Pu_loadB (r := 1) rfl Try.isAgg32 rfl rfl rfl) (WL_pure rfl rfl (by decide) (Pu_move rfl rfl) (WL_pure rfl rfl (by decide) (Pu_idxS (r := 2) rfl Try.runUnderlying32 Try.sizeOf40 rfl rfl rfl (fun _ h => rowP_rd h) (by omega)) (WL_pure rfl rfl (by decide) (Pu_fieldAddrE (off := 32) rfl rfl (by kernel_rfl)) (WL_pure rfl rfl (by decide) (Pu_loadS (r := 2) rfl Try.isAgg38 rfl rfl (fun _ h => rowP_rd h) ((bvs_get (xs := sls zs) (k := x) (j := 32) (by omega) (by omega)).trans (by rw [eA]; exact bk_data (zs.getD x default).1.len))) (WL_pure rfl rfl (by decide) (Pu_len (r := 3) rfl Try.runUnderlying38 rfl rfl (fun h hp => hp _ hm)) (WL_pure rfl rfl (by decide) (Pu_bin rfl rfl rfl (run_add _ _ _ _ _ (by omega))) (WL_pure rfl rfl (by decide) (Pu_assign rfl rfl) (WL_nil (X_block (X_then ?_)))))))))))))))
      refine W.pre (K' := [(0, _), (1, _), (5, _), (6, _), (13, _), (25, _)]) (L' := [(0, _), (1, _), (2, _), (3, _)]) ?_ ⟨rfl, ⟨rfl, ⟨rfl, ⟨rfl, ⟨rfl, ⟨rfl, trivial⟩⟩⟩⟩⟩⟩ ⟨rfl, ⟨rfl, ⟨rfl, ⟨rfl, trivial⟩⟩⟩⟩
      refine W_regL (WL_pure rfl rfl (by decide) (Pu_move rfl rfl) (WL_pure rfl rfl (by decide) (Pu_bin rfl rfl rfl (run_add _ _ _ _ _ (by omega))) (WL_pure rfl rfl (by decide) (Pu_assign rfl rfl) (WL_nil ?_))))
      exact X_round (x + 1) (by omega) (by omega) ⟨rfl, rfl, lookV_eq rfl (int_eq (by rw [hnu, if_pos hs]; omega)), rfl, trivial⟩ ⟨rfl, rfl, rfl, rfl, trivial⟩
    ·
      have hs := of_decide_eq_false hc25
      refine W_skip (X_block (X_then ?_))
      refine W.pre (K' := [(0, _), (1, _), (5, _), (6, _), (13, _), (25, _)]) (L' := [(0, _), (1, _), (2, _), (3, _)]) ?_ ⟨rfl, ⟨rfl, ⟨rfl, ⟨rfl, ⟨rfl, ⟨rfl, trivial⟩⟩⟩⟩⟩⟩ ⟨rfl, ⟨rfl, ⟨rfl, ⟨rfl, trivial⟩⟩⟩⟩
      refine W_regL (WL_pure rfl rfl (by decide) (Pu_move rfl rfl) (WL_pure rfl rfl (by decide) (Pu_bin rfl rfl rfl (run_add _ _ _ _ _ (by omega))) (WL_pure rfl rfl (by decide) (Pu_assign rfl rfl) (WL_nil ?_))))
      exact X_round (x + 1) (by omega) (by omega) ⟨rfl, rfl, lookV_eq rfl (int_eq (by rw [hnu, if_neg hs]; omega)), rfl, trivial⟩ ⟨rfl, rfl, rfl, rfl, trivial⟩
  ·
    obtain rfl : x = zs.length := by have := of_decide_eq_false hc13; omega
    rw [List.take_length]
    refine W_exit (X_then_exit (X_then_exit (X_block_exit (X_then ?_))))
    refine W_seq ?_
    refine W.pre (K' := [(0, _), (1, _), (5, _), (6, _), (13, _)]) (L' := [(0, _), (1, _), (2, _), (3, _)]) ?_ ⟨rfl, ⟨rfl, ⟨rfl, ⟨rfl, ⟨rfl, trivial⟩⟩⟩⟩⟩ ⟨rfl, ⟨rfl, ⟨rfl, ⟨rfl, trivial⟩⟩⟩⟩
    refine W_regL (WL_pure rfl rfl (by decide) (Pu_move rfl rfl) (WL_pure rfl rfl (by decide) (Pu_assign rfl rfl) (WL_nil (X_then ?_))))
    refine W_ret ?_
    exact X_ret [1, 2, 3] (Ps := [_, _, _]) (res1 Try.results26 rfl) rfl (by decide) ⟨rfl, rfl⟩
theorem refSweep_spec (g : Nat) (room quota : Int) (v : Value) (zs : List EB) (now : Int) (hz : zs.length ≤ 1000000000) (F : HP) : CallsS Try.prog 24 #[.pointer (some ⟨g, 0, none⟩), .int .i64 now] F (refL g room quota v zs) (fun r Ps => ∃ v2, v2.oneCell' = true ∧ r = .int .i64 ((zs.length : Int) - ((liveE now zs).length : Int)) ∧ Ps = refL g room quota v2 (liveE now zs)) := by
  refine callsS_enter Try.func24 rfl Try.ntmps24 (by simp) (fun E => ?_)
  refine W_seq ?_
  refine W.pre (K' := [(0, _), (1, _)]) (L' := [(0, _), (1, _), (2, _), (3, _)]) ?_ ⟨rfl, ⟨rfl, trivial⟩⟩ ⟨rfl, ⟨rfl, ⟨rfl, ⟨rfl, trivial⟩⟩⟩⟩
  refine W_regL (WL_pure rfl rfl (by decide) (Pu_assign rfl rfl) (WL_nil (X_then ?_)))
  refine W_seq ?_
  refine W.pre (K' := [(0, _), (1, _), (4, _)]) (L' := [(0, _), (1, _), (2, _), (3, _)]) ?_ ⟨rfl, ⟨rfl, ⟨rfl, trivial⟩⟩⟩ ⟨rfl, ⟨rfl, ⟨rfl, ⟨rfl, trivial⟩⟩⟩⟩
  refine W_regL (WL_pure rfl rfl (by decide) (Pu_assign rfl rfl) (WL_nil (X_then ?_)))
  refine W_seq ?_
  refine W_seq ?_
  refine W.pre (K' := [(0, _), (1, _), (4, _), (5, _)]) (L' := [(0, _), (1, _), (2, _), (3, _)]) ?_ ⟨rfl, ⟨rfl, ⟨rfl, ⟨rfl, trivial⟩⟩⟩⟩ ⟨rfl, ⟨rfl, ⟨rfl, ⟨rfl, trivial⟩⟩⟩⟩
  refine W_nilRow 4 40 35 ?_
  refine W_regL (WL_pure rfl rfl (by decide) (Pu_assign rfl rfl) (WL_nil (X_then ?_)))
  refine W_block ?_
  refine W_loop (α := Nat × Value) (fun x => [(0, .pointer (some ⟨g, 0, none⟩)), (1, .int .i64 now), (5, x.2), (6, .int .i64 (x.1 : Int))]) (fun x => [(0, F), (1, refB g room quota v), (2, rowB2 v (sls zs)), (3, datP zs), (4, rowB2 x.2 (sls (liveE now (zs.take x.1))))]) (fun x => x.1 ≤ zs.length) (fun x => zs.length - x.1) ((0, .slice none 0 0)) (Nat.zero_le _) ⟨rfl, ⟨rfl, ⟨rfl, ⟨rfl, trivial⟩⟩⟩⟩ ⟨rfl, ⟨rfl, ⟨rfl, ⟨rfl, ⟨rfl, trivial⟩⟩⟩⟩⟩ (fun x hx => ?_)
  have hsl := sls_len zs
  have hol := sls_len (liveE now (zs.take x.1))
  have hoz := liveE_le now (zs.take x.1)
  rw [List.length_take] at hoz
  refine W_seq ?_
  refine W_seq ?_
  refine W.pre (K' := [(0, _), (1, _), (5, _), (6, _)]) (L' := [(0, _), (1, _), (2, _), (3, _), (4, _)]) ?_ ⟨rfl, ⟨rfl, ⟨rfl, ⟨rfl, trivial⟩⟩⟩⟩ ⟨rfl, ⟨rfl, ⟨rfl, ⟨rfl, ⟨rfl, trivial⟩⟩⟩⟩⟩
  refine W_regL (WL_pure rfl rfl (by decide) (Pu_move rfl rfl) (WL_pure rfl rfl (by decide) (Pu_move rfl rfl) (WL_pure rfl rfl (by decide) (Pu_nilCheck rfl rfl) (WL_pure rfl rfl (by decide) (Pu_fieldAddrB (off := 2) rfl rfl (by kernel_rfl)) (WL_pure rfl rfl (by decide) (Pu_loadB (r := 1) rfl Try.isAgg32 rfl rfl rfl) (WL_pure rfl rfl (by decide) (Pu_len (r := 2) rfl Try.runUnderlying32 rfl rfl (fun _ h => rowP_rd h)) (WL_pure rfl rfl (by decide) (Pu_bin rfl rfl rfl (run_lss _ _ _ _ _ _)) (WL_nil (X_then ?_)))))))))
  refine W_cond rfl (fun hc14 => ?_) (fun hc14 => ?_)
  ·
    have hlt : x.1 < zs.length := by have := of_decide_eq_true hc14; omega
    have hm := getD_mem' (d := default) hlt
    have eA : (sls zs).getD x.1 default = (zs.getD x.1 default).1 := getD_map1 hlt
    refine W_skip (X_then ?_)
    refine W_seq ?_
    refine W_block ?_
    refine W_seq ?_
    refine W.pre (K' := [(0, _), (1, _), (5, _), (6, _), (14, _)]) (L' := [(0, _), (1, _), (2, _), (3, _), (4, _)]) ?_ ⟨rfl, ⟨rfl, ⟨rfl, ⟨rfl, ⟨rfl, trivial⟩⟩⟩⟩⟩ ⟨rfl, ⟨rfl, ⟨rfl, ⟨rfl, ⟨rfl, trivial⟩⟩⟩⟩⟩
    refine W_regL (WL_pure rfl rfl (by decide) (Pu_move rfl rfl) (WL_pure rfl rfl (by decide) (Pu_nilCheck rfl rfl) (WL_pure rfl rfl (by decide) (Pu_fieldAddrB (off := 2) rfl rfl (by kernel_rfl)) (WL_pure rfl rfl (by decide) (Pu_loadB (r := 1) rfl Try.isAgg32 rfl rfl rfl) (WL_pure rfl rfl (by decide) (Pu_move rfl rfl) (WL_pure rfl rfl (by decide) (Pu_idxS (r := 2) rfl Try.runUnderlying32 Try.sizeOf40 rfl rfl rfl (fun _ h => rowP_rd h) (by omega)) (WL_pure rfl rfl (by decide) (Pu_fieldAddrE (off := 34) rfl rfl (by kernel_rfl)) (WL_pure rfl rfl (by decide) (Pu_loadS (r := 2) rfl Try.isAgg3 rfl rfl (fun _ h => rowP_rd h) ((bvs_get (xs := sls zs) (k := x.1) (j := 34) (by omega) (by omega)).trans (by rw [eA]; exact bk_exp (zs.getD x.1 default).1.len))) (WL_pure rfl rfl (by decide) (Pu_move rfl rfl) (WL_pure rfl rfl (by decide) (Pu_bin rfl rfl rfl (run_gtr _ _ _ _ _ _)) (WL_nil (X_then ?_))))))))))))
    refine W_cond rfl (fun hc26 => ?_) (fun hc26 => ?_)
    ·
      have hk : now < (zs.getD x.1 default).1.exp := of_decide_eq_true hc26
      refine W.pre (K' := [(0, _), (1, _), (5, _), (6, _), (14, _), (26, _)]) (L' := [(0, _), (1, _), (2, _), (3, _), (4, _)]) ?_ ⟨rfl, ⟨rfl, ⟨rfl, ⟨rfl, ⟨rfl, ⟨rfl, trivial⟩⟩⟩⟩⟩⟩ ⟨rfl, ⟨rfl, ⟨rfl, ⟨rfl, ⟨rfl, trivial⟩⟩⟩⟩⟩
      refine W_regL (WL_pure rfl rfl (by decide) (Pu_move rfl rfl) (WL_pure rfl rfl (by decide) (Pu_move rfl rfl) (WL_pure rfl rfl (by decide) (Pu_nilCheck rfl rfl) (WL_pure rfl rfl (by decide) (Pu_fieldAddrB (off := 2) rfl rfl (by kernel_rfl)) (WL_pure rfl rfl (by decide) (Pu_loadB (r := 1) rfl Try.isAgg32 rfl rfl rfl) (WL_pure rfl rfl (by decide) (Pu_move rfl rfl) (WL_pure rfl rfl (by decide) (Pu_idxS (r := 2) rfl Try.runUnderlying32 Try.sizeOf40 rfl rfl rfl (fun _ h => rowP_rd h) (by omega)) (WL_pure rfl rfl (by decide) (Pu_loadSN (r := 2) rfl Try.isAgg40 Try.sizeOf40 rfl rfl (fun _ h => rowP_rd h) (bvC_length ((sls zs).getD x.1 default)) (by decide) (bvs_all (xs := sls zs) (k := x.1) (by omega))) ?_))))))))
      rw [eA]
      refine (WL_cons rfl rfl (by decide) (OpT_buildRows (r := 101) [bvC (zs.getD x.1 default).1] rfl rfl Try.runUnderlying32 Try.sizeOf40 Try.zeroValue40 rfl (by decide) rfl (by decide) (by intro r hr; simp at hr; rw [hr, bvC_length]) rfl (fun v35 => (WL_cons rfl rfl (by decide) (OpT_append (r := 4) (r2 := 101) rfl Try.underlying32 TI.hi40 TI.hz40 TI.hs40 TI.hby40 TI.hzs40 (by decide) rfl rfl rfl rfl (fun _ h => rowP_rd h) (by rw [List.flatten_cons, List.flatten_nil, List.append_nil]; exact bvC_one _) (by unfold maxLen; omega) (by omega) (fun v36 => ?_))))))
      refine (WL_pure rfl rfl (by decide) (Pu_assign rfl rfl) (WL_nil (X_block (X_then ?_))))
      refine W.pre (K' := [(0, _), (1, _), (5, _), (6, _), (14, _), (26, _)]) (L' := [(0, _), (1, _), (2, _), (3, _), (4, _), (101, _)]) ?_ ⟨rfl, ⟨rfl, ⟨rfl, ⟨rfl, ⟨rfl, ⟨rfl, trivial⟩⟩⟩⟩⟩⟩ ⟨rfl, ⟨rfl, ⟨rfl, ⟨rfl, ⟨rfl, ⟨rfl, trivial⟩⟩⟩⟩⟩⟩
      refine W_regL (WL_pure rfl rfl (by decide) (Pu_move rfl rfl) (WL_pure rfl rfl (by decide) (Pu_bin rfl rfl rfl (run_add _ _ _ _ _ (by omega))) (WL_pure rfl rfl (by decide) (Pu_assign rfl rfl) (WL_nil ?_))))
      refine X_turn (P' := rowB2 v36 (sls (liveE now (zs.take (x.1 + 1))))) 4 rfl (fun h hp => by rw [liveE_next hlt, if_pos hk]; unfold rowB2 sls; rw [List.map_append, List.length_append, recC_append]; simpa [recC] using hp) ?_
      exact X_round (x.1 + 1, v36) (by dsimp only; omega) (by show zs.length - (x.1 + 1) < zs.length - x.1; omega) ⟨rfl, rfl, rfl, rfl, trivial⟩ ⟨rfl, rfl, rfl, rfl, rfl, trivial⟩
    ·
      have hk : ¬ now < (zs.getD x.1 default).1.exp := of_decide_eq_false hc26
      refine W_skip (X_block (X_then ?_))
      refine W.pre (K' := [(0, _), (1, _), (5, _), (6, _), (14, _), (26, _)]) (L' := [(0, _), (1, _), (2, _), (3, _), (4, _)]) ?_ ⟨rfl, ⟨rfl, ⟨rfl, ⟨rfl, ⟨rfl, ⟨rfl, trivial⟩⟩⟩⟩⟩⟩ ⟨rfl, ⟨rfl, ⟨rfl, ⟨rfl, ⟨rfl, trivial⟩⟩⟩⟩⟩
      refine W_regL (WL_pure rfl rfl (by decide) (Pu_move rfl rfl) (WL_pure rfl rfl (by decide) (Pu_bin rfl rfl rfl (run_add _ _ _ _ _ (by omega))) (WL_pure rfl rfl (by decide) (Pu_assign rfl rfl) (WL_nil ?_))))
      refine X_turn (P' := rowB2 x.2 (sls (liveE now (zs.take (x.1 + 1))))) 4 rfl (fun h hp => by rw [liveE_next hlt, if_neg hk]; exact hp) ?_
      exact X_round (x.1 + 1, x.2) (by dsimp only; omega) (by show zs.length - (x.1 + 1) < zs.length - x.1; omega) ⟨rfl, rfl, rfl, rfl, trivial⟩ ⟨rfl, rfl, rfl, rfl, rfl, trivial⟩
  ·
    have hxe : x.1 = zs.length := by have := of_decide_eq_false hc14; omega
    rw [hxe, List.take_length]
    have hol2 := sls_len (liveE now zs)
    have hoz2 := liveE_le now zs
    refine W_exit (X_then_exit (X_then_exit (X_block_exit (X_then ?_))))
    refine W_seq ?_
    refine W.pre (K' := [(0, _), (1, _), (5, _), (6, _), (14, _)]) (L' := [(0, _), (1, _), (2, _), (3, _), (4, _)]) ?_ ⟨rfl, ⟨rfl, ⟨rfl, ⟨rfl, ⟨rfl, trivial⟩⟩⟩⟩⟩ ⟨rfl, ⟨rfl, ⟨rfl, ⟨rfl, ⟨rfl, trivial⟩⟩⟩⟩⟩
    refine W_regL (WL_pure rfl rfl (by decide) (Pu_move rfl rfl) (WL_pure rfl rfl (by decide) (Pu_nilCheck rfl rfl) (WL_pure rfl rfl (by decide) (Pu_fieldAddrB (off := 2) rfl rfl (by kernel_rfl)) (WL_pure rfl rfl (by decide) (Pu_loadB (r := 1) rfl Try.isAgg32 rfl rfl rfl) (WL_pure rfl rfl (by decide) (Pu_len (r := 2) rfl Try.runUnderlying32 rfl rfl (fun _ h => rowP_rd h)) (WL_pure rfl rfl (by decide) (Pu_move rfl rfl) (WL_pure rfl rfl (by decide) (Pu_len (r := 4) rfl Try.runUnderlying32 rfl rfl (fun _ h => rowP_rd h)) (WL_pure rfl rfl (by decide) (Pu_bin rfl rfl rfl (run_sub _ _ _ _ _ (by omega))) (WL_pure rfl rfl (by decide) (Pu_assign rfl rfl) (WL_nil (X_then ?_)))))))))))
    refine W_seq ?_
    refine W.pre (K' := [(0, _), (1, _), (5, _), (6, _), (7, _), (14, _)]) (L' := [(0, _), (1, _), (2, _), (3, _), (4, _)]) ?_ ⟨rfl, ⟨rfl, ⟨rfl, ⟨rfl, ⟨rfl, ⟨rfl, trivial⟩⟩⟩⟩⟩⟩ ⟨rfl, ⟨rfl, ⟨rfl, ⟨rfl, ⟨rfl, trivial⟩⟩⟩⟩⟩
    refine W_fact (r := 4) rfl (fun h hp => rd_one (rowP_rd hp)) (fun hov => ?_)
    refine W_regL (WL_pure rfl rfl (by decide) (Pu_move rfl rfl) (WL_pure rfl rfl (by decide) (Pu_move rfl rfl) (WL_pure rfl rfl (by decide) (Pu_nilCheck rfl rfl) (WL_pure rfl rfl (by decide) (Pu_fieldAddrB (off := 2) rfl rfl (by kernel_rfl)) (WL_cons0 rfl rfl (OpT_storeB1 (r := 1) rfl Try.sizeOf32 rfl rfl rfl hov (by simp) rfl ?_))))))
    refine (WL_nil (X_then ?_))
    refine W_seq ?_
    refine W.pre (K' := [(0, _), (1, _), (5, _), (6, _), (7, _), (14, _)]) (L' := [(0, _), (1, _), (2, _), (3, _), (4, _)]) ?_ ⟨rfl, ⟨rfl, ⟨rfl, ⟨rfl, ⟨rfl, ⟨rfl, trivial⟩⟩⟩⟩⟩⟩ ⟨rfl, ⟨rfl, ⟨rfl, ⟨rfl, ⟨rfl, trivial⟩⟩⟩⟩⟩
    refine W_regL (WL_pure rfl rfl (by decide) (Pu_move rfl rfl) (WL_pure rfl rfl (by decide) (Pu_assign rfl rfl) (WL_nil (X_then ?_))))
    refine W_ret ?_
    refine X_turn 3 rfl (fun h hp => datP_sub (b := liveE now zs) (fun q hq => (List.mem_filter.1 hq).1) hp) ?_
    exact X_ret [1, 4, 3] (Ps := [_, _, _]) (res1 Try.results24 rfl) rfl (by decide) ⟨x.2, hov, (int_val (by omega)), rfl⟩
theorem refDrop_spec (g : Nat) (room quota : Int) (v : Value) (zs : List EB) (k : List UInt8) (hk32 : k.length = 32) (hz : zs.length ≤ 1000000000) (F : HP) : CallsS Try.prog 23 #[.pointer (some ⟨g, 0, none⟩), idV k] F (refL g room quota v zs) (fun r Ps => ∃ v2, v2.oneCell' = true ∧ r = .bool (decide ((dropZ k zs).length < zs.length)) ∧ Ps = refL g room quota v2 (dropZ k zs)) := by
  refine callsS_enter Try.func23 rfl Try.ntmps23 (by simp) (fun E => ?_)
  refine W_seq ?_
  refine W.pre (K' := [(0, _), (1, _)]) (L' := [(0, _), (1, _), (2, _), (3, _)]) ?_ ⟨rfl, ⟨rfl, trivial⟩⟩ ⟨rfl, ⟨rfl, ⟨rfl, ⟨rfl, trivial⟩⟩⟩⟩
  refine W_regL (WL_cons rfl rfl (by decide) (OpT_box (r := 101) rfl rfl rfl (fun g101 => (WL_pure rfl rfl (by decide) (Pu_assign rfl rfl) (WL_nil (X_then ?_))))))
  refine W_seq ?_
  refine W.pre (K' := [(0, _), (1, _), (3, _), (4, _)]) (L' := [(0, _), (1, _), (2, _), (3, _), (101, _)]) ?_ ⟨rfl, ⟨rfl, ⟨rfl, ⟨rfl, trivial⟩⟩⟩⟩ ⟨rfl, ⟨rfl, ⟨rfl, ⟨rfl, ⟨rfl, trivial⟩⟩⟩⟩⟩
  refine W_regL (WL_pure rfl rfl (by decide) (Pu_assign rfl rfl) (WL_nil (X_then ?_)))
  refine W_seq ?_
  refine W_seq ?_
  refine W.pre (K' := [(0, _), (1, _), (3, _), (4, _), (5, _)]) (L' := [(0, _), (1, _), (2, _), (3, _), (101, _)]) ?_ ⟨rfl, ⟨rfl, ⟨rfl, ⟨rfl, ⟨rfl, trivial⟩⟩⟩⟩⟩ ⟨rfl, ⟨rfl, ⟨rfl, ⟨rfl, ⟨rfl, trivial⟩⟩⟩⟩⟩
  refine W_nilRow 4 40 35 ?_
  refine W_regL (WL_pure rfl rfl (by decide) (Pu_assign rfl rfl) (WL_nil (X_then ?_)))
  refine W_block ?_
  refine W_loop (α := Nat × Value) (fun x => [(0, .pointer (some ⟨g, 0, none⟩)), (3, .pointer (some ⟨g101, 0, none⟩)), (5, x.2), (6, .int .i64 (x.1 : Int))]) (fun x => [(0, F), (1, refB g room quota v), (2, rowB2 v (sls zs)), (3, datP zs), (4, rowB2 x.2 (sls (dropZ k (zs.take x.1)))), (101, blk g101 36 (bs k))]) (fun x => x.1 ≤ zs.length) (fun x => zs.length - x.1) ((0, .slice none 0 0)) (Nat.zero_le _) ⟨rfl, ⟨rfl, ⟨rfl, ⟨rfl, trivial⟩⟩⟩⟩ ⟨rfl, ⟨rfl, ⟨rfl, ⟨rfl, ⟨rfl, ⟨rfl, trivial⟩⟩⟩⟩⟩⟩ (fun x hx => ?_)
  have hsl := sls_len zs
  have hol := sls_len (dropZ k (zs.take x.1))
  have hoz := dropZ_le k (zs.take x.1)
  rw [List.length_take] at hoz
  refine W_seq ?_
  refine W_seq ?_
  refine W.pre (K' := [(0, _), (3, _), (5, _), (6, _)]) (L' := [(0, _), (1, _), (2, _), (3, _), (4, _), (101, _)]) ?_ ⟨rfl, ⟨rfl, ⟨rfl, ⟨rfl, trivial⟩⟩⟩⟩ ⟨rfl, ⟨rfl, ⟨rfl, ⟨rfl, ⟨rfl, ⟨rfl, trivial⟩⟩⟩⟩⟩⟩
  refine W_regL (WL_pure rfl rfl (by decide) (Pu_move rfl rfl) (WL_pure rfl rfl (by decide) (Pu_move rfl rfl) (WL_pure rfl rfl (by decide) (Pu_nilCheck rfl rfl) (WL_pure rfl rfl (by decide) (Pu_fieldAddrB (off := 2) rfl rfl (by kernel_rfl)) (WL_pure rfl rfl (by decide) (Pu_loadB (r := 1) rfl Try.isAgg32 rfl rfl rfl) (WL_pure rfl rfl (by decide) (Pu_len (r := 2) rfl Try.runUnderlying32 rfl rfl (fun _ h => rowP_rd h)) (WL_pure rfl rfl (by decide) (Pu_bin rfl rfl rfl (run_lss _ _ _ _ _ _)) (WL_nil (X_then ?_)))))))))
  refine W_cond rfl (fun hc14 => ?_) (fun hc14 => ?_)
  ·
    have hlt : x.1 < zs.length := by have := of_decide_eq_true hc14; omega
    have hm := getD_mem' (d := default) hlt
    have eA : (sls zs).getD x.1 default = (zs.getD x.1 default).1 := getD_map1 hlt
    refine W_skip (X_then ?_)
    refine W_seq ?_
    refine W_block ?_
    refine W_seq ?_
    refine W.pre (K' := [(0, _), (3, _), (5, _), (6, _), (14, _)]) (L' := [(0, _), (1, _), (2, _), (3, _), (4, _), (101, _)]) ?_ ⟨rfl, ⟨rfl, ⟨rfl, ⟨rfl, ⟨rfl, trivial⟩⟩⟩⟩⟩ ⟨rfl, ⟨rfl, ⟨rfl, ⟨rfl, ⟨rfl, ⟨rfl, trivial⟩⟩⟩⟩⟩⟩
    refine W_draw (N := 10) (by kernel_rfl) rfl [(0, _), (1, _), (101, _), (2, _)] ⟨rfl, ⟨rfl, ⟨rfl, ⟨rfl, trivial⟩⟩⟩⟩ ?_
    refine (AH_take 0 rfl (by kernel_rfl) (by kernel_rfl) (by kernel_rfl) rfl rfl (by decide) (Pu_move rfl rfl) (AH_take 1 rfl (by kernel_rfl) (by kernel_rfl) (by kernel_rfl) rfl rfl (by decide) (Pu_nilCheck rfl rfl) (AH_take 2 rfl (by kernel_rfl) (by kernel_rfl) (by kernel_rfl) rfl rfl (by decide) (Pu_fieldAddrB (off := 2) rfl rfl (by kernel_rfl)) (AH_take 3 rfl (by kernel_rfl) (by kernel_rfl) (by kernel_rfl) rfl rfl (by decide) (Pu_loadB (r := 1) rfl Try.isAgg32 rfl rfl rfl) (AH_take 4 rfl (by kernel_rfl) (by kernel_rfl) (by kernel_rfl) rfl rfl (by decide) (Pu_move rfl rfl) (AH_take 5 rfl (by kernel_rfl) (by kernel_rfl) (by kernel_rfl) rfl rfl (by decide) (Pu_idxS (r := 2) rfl Try.runUnderlying32 Try.sizeOf40 rfl rfl rfl (fun _ h => rowP_rd h) (by omega)) (AH_take 6 rfl (by kernel_rfl) (by kernel_rfl) (by kernel_rfl) rfl rfl (by decide) (Pu_fieldAddrE (off := 0) rfl rfl (by kernel_rfl)) (AH_take 7 rfl (by kernel_rfl) (by kernel_rfl) (by kernel_rfl) rfl rfl (by decide) (Pu_loadSN (r := 2) rfl Try.isAgg36 Try.sizeOf36 rfl rfl (fun _ h => rowP_rd h) ((bs_length _).trans (zs.getD x.1 default).1.len) (by decide) (by rw [← eA]; exact bvs_key (xs := sls zs) (k := x.1) (by omega))) (AH_take 8 rfl (by kernel_rfl) (by kernel_rfl) (by kernel_rfl) rfl rfl (by decide) (Pu_loadBN (r := 101) rfl Try.isAgg36 Try.sizeOf36 rfl rfl ((bs_length _).trans hk32) (load_all ((bs_length _).trans hk32))) (AH_take 9 rfl (by kernel_rfl) (by kernel_rfl) (by kernel_rfl) rfl rfl (by decide) (Pu_bin rfl rfl rfl (run_idNe _ _ (zs.getD x.1 default).1.len hk32 _ _)) (AH_done (by kernel_rfl) (X_then ?_))))))))))))
    refine W_cond rfl (fun hc26 => ?_) (fun hc26 => ?_)
    ·
      have hk : (zs.getD x.1 default).1.key ≠ k := by simpa [-List.getD_eq_getElem?_getD] using hc26
      refine W.pre (K' := [(0, _), (3, _), (5, _), (6, _), (14, _), (26, _)]) (L' := [(0, _), (1, _), (2, _), (3, _), (4, _), (101, _)]) ?_ ⟨rfl, ⟨rfl, ⟨rfl, ⟨rfl, ⟨rfl, ⟨rfl, trivial⟩⟩⟩⟩⟩⟩ ⟨rfl, ⟨rfl, ⟨rfl, ⟨rfl, ⟨rfl, ⟨rfl, trivial⟩⟩⟩⟩⟩⟩
      refine W_regL (WL_pure rfl rfl (by decide) (Pu_move rfl rfl) (WL_pure rfl rfl (by decide) (Pu_move rfl rfl) (WL_pure rfl rfl (by decide) (Pu_nilCheck rfl rfl) (WL_pure rfl rfl (by decide) (Pu_fieldAddrB (off := 2) rfl rfl (by kernel_rfl)) (WL_pure rfl rfl (by decide) (Pu_loadB (r := 1) rfl Try.isAgg32 rfl rfl rfl) (WL_pure rfl rfl (by decide) (Pu_move rfl rfl) (WL_pure rfl rfl (by decide) (Pu_idxS (r := 2) rfl Try.runUnderlying32 Try.sizeOf40 rfl rfl rfl (fun _ h => rowP_rd h) (by omega)) (WL_pure rfl rfl (by decide) (Pu_loadSN (r := 2) rfl Try.isAgg40 Try.sizeOf40 rfl rfl (fun _ h => rowP_rd h) (bvC_length ((sls zs).getD x.1 default)) (by decide) (bvs_all (xs := sls zs) (k := x.1) (by omega))) ?_))))))))
      rw [eA]
      refine (WL_cons rfl rfl (by decide) (OpT_buildRows (r := 102) [bvC (zs.getD x.1 default).1] rfl rfl Try.runUnderlying32 Try.sizeOf40 Try.zeroValue40 rfl (by decide) rfl (by decide) (by intro r hr; simp at hr; rw [hr, bvC_length]) rfl (fun v35 => (WL_cons rfl rfl (by decide) (OpT_append (r := 4) (r2 := 102) rfl Try.underlying32 TI.hi40 TI.hz40 TI.hs40 TI.hby40 TI.hzs40 (by decide) rfl rfl rfl rfl (fun _ h => rowP_rd h) (by rw [List.flatten_cons, List.flatten_nil, List.append_nil]; exact bvC_one _) (by unfold maxLen; omega) (by omega) (fun v36 => ?_))))))
      refine (WL_pure rfl rfl (by decide) (Pu_assign rfl rfl) (WL_nil (X_block (X_then ?_))))
      refine W.pre (K' := [(0, _), (3, _), (5, _), (6, _), (14, _), (26, _)]) (L' := [(0, _), (1, _), (2, _), (3, _), (4, _), (101, _), (102, _)]) ?_ ⟨rfl, ⟨rfl, ⟨rfl, ⟨rfl, ⟨rfl, ⟨rfl, trivial⟩⟩⟩⟩⟩⟩ ⟨rfl, ⟨rfl, ⟨rfl, ⟨rfl, ⟨rfl, ⟨rfl, ⟨rfl, trivial⟩⟩⟩⟩⟩⟩⟩
      refine W_regL (WL_pure rfl rfl (by decide) (Pu_move rfl rfl) (WL_pure rfl rfl (by decide) (Pu_bin rfl rfl rfl (run_add _ _ _ _ _ (by omega))) (WL_pure rfl rfl (by decide) (Pu_assign rfl rfl) (WL_nil ?_))))
      refine X_turn (P' := rowB2 v36 (sls (dropZ k (zs.take (x.1 + 1))))) 4 rfl (fun h hp => by rw [dropZ_next hlt, if_pos hk]; unfold rowB2 sls; rw [List.map_append, List.length_append, recC_append]; simpa [recC] using hp) ?_
      exact X_round (x.1 + 1, v36) (by dsimp only; omega) (by show zs.length - (x.1 + 1) < zs.length - x.1; omega) ⟨rfl, rfl, rfl, rfl, trivial⟩ ⟨rfl, rfl, rfl, rfl, rfl, rfl, trivial⟩
    ·
      have hk : ¬ (zs.getD x.1 default).1.key ≠ k := by simpa [-List.getD_eq_getElem?_getD] using hc26
      refine W_skip (X_block (X_then ?_))
      refine W.pre (K' := [(0, _), (3, _), (5, _), (6, _), (14, _), (26, _)]) (L' := [(0, _), (1, _), (2, _), (3, _), (4, _), (101, _)]) ?_ ⟨rfl, ⟨rfl, ⟨rfl, ⟨rfl, ⟨rfl, ⟨rfl, trivial⟩⟩⟩⟩⟩⟩ ⟨rfl, ⟨rfl, ⟨rfl, ⟨rfl, ⟨rfl, ⟨rfl, trivial⟩⟩⟩⟩⟩⟩
      refine W_regL (WL_pure rfl rfl (by decide) (Pu_move rfl rfl) (WL_pure rfl rfl (by decide) (Pu_bin rfl rfl rfl (run_add _ _ _ _ _ (by omega))) (WL_pure rfl rfl (by decide) (Pu_assign rfl rfl) (WL_nil ?_))))
      refine X_turn (P' := rowB2 x.2 (sls (dropZ k (zs.take (x.1 + 1))))) 4 rfl (fun h hp => by rw [dropZ_next hlt, if_neg hk]; exact hp) ?_
      exact X_round (x.1 + 1, x.2) (by dsimp only; omega) (by show zs.length - (x.1 + 1) < zs.length - x.1; omega) ⟨rfl, rfl, rfl, rfl, trivial⟩ ⟨rfl, rfl, rfl, rfl, rfl, rfl, trivial⟩
  ·
    have hxe : x.1 = zs.length := by have := of_decide_eq_false hc14; omega
    rw [hxe, List.take_length]
    have hol2 := sls_len (dropZ k zs)
    have hoz2 := dropZ_le k zs
    refine W_exit (X_then_exit (X_then_exit (X_block_exit (X_then ?_))))
    refine W_seq ?_
    refine W.pre (K' := [(0, _), (3, _), (5, _), (6, _), (14, _)]) (L' := [(0, _), (1, _), (2, _), (3, _), (4, _), (101, _)]) ?_ ⟨rfl, ⟨rfl, ⟨rfl, ⟨rfl, ⟨rfl, trivial⟩⟩⟩⟩⟩ ⟨rfl, ⟨rfl, ⟨rfl, ⟨rfl, ⟨rfl, ⟨rfl, trivial⟩⟩⟩⟩⟩⟩
    refine W_regL (WL_pure rfl rfl (by decide) (Pu_move rfl rfl) (WL_pure rfl rfl (by decide) (Pu_len (r := 4) rfl Try.runUnderlying32 rfl rfl (fun _ h => rowP_rd h)) (WL_pure rfl rfl (by decide) (Pu_move rfl rfl) (WL_pure rfl rfl (by decide) (Pu_nilCheck rfl rfl) (WL_pure rfl rfl (by decide) (Pu_fieldAddrB (off := 2) rfl rfl (by kernel_rfl)) (WL_pure rfl rfl (by decide) (Pu_loadB (r := 1) rfl Try.isAgg32 rfl rfl rfl) (WL_pure rfl rfl (by decide) (Pu_len (r := 2) rfl Try.runUnderlying32 rfl rfl (fun _ h => rowP_rd h)) (WL_pure rfl rfl (by decide) (Pu_bin rfl rfl rfl (run_lss _ _ _ _ _ _)) (WL_pure rfl rfl (by decide) (Pu_assign rfl rfl) (WL_nil (X_then ?_)))))))))))
    refine W_seq ?_
    refine W.pre (K' := [(0, _), (3, _), (5, _), (6, _), (7, _), (14, _)]) (L' := [(0, _), (1, _), (2, _), (3, _), (4, _), (101, _)]) ?_ ⟨rfl, ⟨rfl, ⟨rfl, ⟨rfl, ⟨rfl, ⟨rfl, trivial⟩⟩⟩⟩⟩⟩ ⟨rfl, ⟨rfl, ⟨rfl, ⟨rfl, ⟨rfl, ⟨rfl, trivial⟩⟩⟩⟩⟩⟩
    refine W_fact (r := 4) rfl (fun h hp => rd_one (rowP_rd hp)) (fun hov => ?_)
    refine W_regL (WL_pure rfl rfl (by decide) (Pu_move rfl rfl) (WL_pure rfl rfl (by decide) (Pu_move rfl rfl) (WL_pure rfl rfl (by decide) (Pu_nilCheck rfl rfl) (WL_pure rfl rfl (by decide) (Pu_fieldAddrB (off := 2) rfl rfl (by kernel_rfl)) (WL_cons0 rfl rfl (OpT_storeB1 (r := 1) rfl Try.sizeOf32 rfl rfl rfl hov (by simp) rfl ?_))))))
    refine (WL_nil (X_then ?_))
    refine W_seq ?_
    refine W.pre (K' := [(0, _), (3, _), (5, _), (6, _), (7, _), (14, _)]) (L' := [(0, _), (1, _), (2, _), (3, _), (4, _), (101, _)]) ?_ ⟨rfl, ⟨rfl, ⟨rfl, ⟨rfl, ⟨rfl, ⟨rfl, trivial⟩⟩⟩⟩⟩⟩ ⟨rfl, ⟨rfl, ⟨rfl, ⟨rfl, ⟨rfl, ⟨rfl, trivial⟩⟩⟩⟩⟩⟩
    refine W_regL (WL_pure rfl rfl (by decide) (Pu_move rfl rfl) (WL_pure rfl rfl (by decide) (Pu_assign rfl rfl) (WL_nil (X_then ?_))))
    refine W_ret ?_
    refine X_turn 3 rfl (fun h hp => datP_sub (b := dropZ k zs) (fun q hq => (List.mem_filter.1 hq).1) hp) ?_
    exact X_ret [1, 4, 3] (Ps := [_, _, _]) (res1 Try.results23 rfl) rfl (by decide) ⟨x.2, hov, (bool_val (decide_eq_decide.2 (by omega))), rfl⟩
end Go.Proofs.Ytjopgnkffhfhkaa
