/- Caches: a block is put. -/
import Derived.Test.YtamhhkjddmjanaaCacheA
import Derived.Test.YtamhhkjddmjanaaLibI
import Derived.Test.YtamhhkjddmjanaaLibC
namespace Go.Proofs.Ytamhhkjddmjanaa
open Go.RowKit
set_option linter.unusedVariables false
set_option linter.unusedSimpArgs false

theorem put_spec (g room : Nat) (l : Ents) (k : List UInt8) (hk : k.length = 32) (vd : Value) (d : List UInt8) (F : HP) (hF : ∀ h, F h → rdB vd d h) : CallsS Try.prog 11 #[.pointer (some ⟨g, 0, none⟩), idV k, vd] F [cacheP g room l] (fun r Ps => r = .bool (putB room d) ∧ Ps = [cacheP g room (putC room l k d)]) := by
  refine callsS_enter Try.func11 rfl Try.ntmps11 (by simp) (fun E => ?_)
  refine W_seq ?_
  refine W.pre (K' := [(0, _), (1, _), (2, _)]) (L' := [(0, _), (1, _)]) ?_ ⟨rfl, ⟨rfl, ⟨rfl, trivial⟩⟩⟩ ⟨rfl, ⟨rfl, trivial⟩⟩
  refine W_openCache 1 200 rfl (by decide) (fun m v es hg hpm ho => ?_)
  have hlen := hg.len
  have hfit := hg.fits
  have hmost := hg.most
  refine W_regL (WL_cons rfl rfl (by decide) (OpT_box (r := 251) rfl rfl rfl (fun g251 => (WL_pure rfl rfl (by decide) (Pu_assign rfl rfl) (WL_nil (X_then ?_))))))
  refine W_seq ?_
  refine W_seq ?_
  refine W.pre (K' := [(0, _), (1, _), (2, _), (4, _), (6, _)]) (L' := [(0, _), (200, _), (201, _), (202, _), (203, _), (251, _)]) ?_ ⟨rfl, ⟨rfl, ⟨rfl, ⟨rfl, ⟨rfl, trivial⟩⟩⟩⟩⟩ ⟨rfl, ⟨rfl, ⟨rfl, ⟨rfl, ⟨rfl, ⟨rfl, trivial⟩⟩⟩⟩⟩⟩
  refine W_regL (WL_pure rfl rfl (by decide) (Pu_move rfl rfl) (WL_pure rfl rfl (by decide) (Pu_len (r := 0) rfl Try.runUnderlying35 rfl rfl hF) (WL_pure rfl rfl (by decide) (Pu_bin rfl rfl rfl (run_eql _ _ _ _ _ _)) (WL_pure rfl rfl (by decide) (Pu_move rfl rfl) (WL_guardP rfl rfl rfl rfl (by decide) (fun hb => (Pu_move rfl rfl)) (WL_guardP rfl rfl rfl rfl (by decide) (fun hb => (Pu_len (r := 0) rfl Try.runUnderlying35 (ev_gv rfl hb) rfl hF)) (WL_guardP rfl rfl rfl rfl (by decide) (fun hb => (Pu_move rfl rfl)) (WL_guardP rfl rfl rfl rfl (by decide) (fun hb => (Pu_nilCheck rfl (ev_gv rfl hb))) (WL_guardP rfl rfl rfl rfl (by decide) (fun hb => (Pu_fieldAddrB (off := 0) rfl (ev_gv rfl hb) (by kernel_rfl))) (WL_guardP rfl rfl rfl rfl (by decide) (fun hb => (Pu_loadB (r := 200) rfl Try.isAgg3 (ev_gv rfl hb) rfl rfl)) (WL_guardP rfl rfl rfl rfl (by decide) (fun hb => (Pu_bin rfl (ev_gv rfl hb) (ev_gv rfl hb) (run_gtr _ _ _ _ _ _))) (WL_pure rfl rfl (by decide) (Pu_or rfl rfl rfl) (WL_nil (X_then ?_))))))))))))))
  refine W_cond rfl (fun hc18 => ?_) (fun hc18 => ?_)
  ·
    obtain ⟨hC, hB⟩ := putC_bad (l := l) (k := k) hc18
    refine W_seq ?_
    refine W.pre (K' := [(0, _), (1, _), (2, _), (4, _), (6, _), (18, _)]) (L' := [(0, _), (200, _), (201, _), (202, _), (203, _), (251, _)]) ?_ ⟨rfl, ⟨rfl, ⟨rfl, ⟨rfl, ⟨rfl, ⟨rfl, trivial⟩⟩⟩⟩⟩⟩ ⟨rfl, ⟨rfl, ⟨rfl, ⟨rfl, ⟨rfl, ⟨rfl, trivial⟩⟩⟩⟩⟩⟩
    refine W_regL (WL_pure rfl rfl (by decide) (Pu_assign rfl rfl) (WL_nil (X_then ?_)))
    refine W_ret (X_then_ret ?_)
    refine X_join [200, 201, 202, 203] 1 (cacheP g room l) rfl (by decide) (fun h hs => closeCache hg hpm ho hs) ?_
    exact X_ret [1] (Ps := [_]) (res1 Try.results11 rfl) rfl (by decide) ⟨by rw [hB], by rw [hC]⟩
  ·
    obtain ⟨hC, hB, hd1, hd2⟩ := putC_good (l := l) (k := k) hc18
    refine W_skip (X_then ?_)
    refine W_seq ?_
    refine W.pre (K' := [(0, _), (1, _), (2, _), (4, _), (6, _), (18, _)]) (L' := [(0, _), (200, _), (201, _), (202, _), (203, _), (251, _)]) ?_ ⟨rfl, ⟨rfl, ⟨rfl, ⟨rfl, ⟨rfl, ⟨rfl, trivial⟩⟩⟩⟩⟩⟩ ⟨rfl, ⟨rfl, ⟨rfl, ⟨rfl, ⟨rfl, ⟨rfl, trivial⟩⟩⟩⟩⟩⟩
    refine W_join [200, 201, 202, 203] 1 (cacheP g room l) rfl (by decide) (fun h hs => closeCache hg hpm ho hs) ?_
    refine W_regL (WL_pure rfl rfl (by decide) (Pu_move rfl rfl) (WL_pure rfl rfl (by decide) (Pu_loadBN (r := 251) rfl Try.isAgg33 Try.sizeOf33 rfl rfl ((bs_length _).trans hk) (load_all ((bs_length _).trans hk))) (WL_cons rfl rfl (by decide) (OpT_call 300 [0, 251] [1] rfl Try.call20 rfl rfl rfl (by decide) (by decide) (drop_spec g room l k hk _) (fun v21 Ps21 hR21 => ?_)))))
    obtain ⟨rfl, rfl⟩ := hR21
    skip
    refine (WL_nil (X_then ?_))
    refine W_seq ?_
    refine W_block ?_
    refine W_loop (α := Ents) (fun x => [(0, .pointer (some ⟨g, 0, none⟩)), (2, vd), (4, .pointer (some ⟨g251, 0, none⟩))]) (fun x => [(0, F), (251, blk g251 33 (bs k)), (300, cacheP g room x)]) (fun x => Gd room x ∧ k ∉ keys x ∧ evict room d.length x = evict room d.length (dropK k l)) (fun x => x.length) ((dropK k l)) ⟨hg.drop k, nodup_drop hg k, rfl⟩ ⟨rfl, ⟨rfl, ⟨rfl, trivial⟩⟩⟩ ⟨rfl, ⟨rfl, ⟨rfl, trivial⟩⟩⟩ (fun x hx => ?_)
    obtain ⟨hgx, hkx, hev⟩ := hx
    clear hg hpm ho hlen hfit hmost
    refine W_seq ?_
    refine W_seq ?_
    refine W.pre (K' := [(0, _), (2, _), (4, _)]) (L' := [(0, _), (251, _), (300, _)]) ?_ ⟨rfl, ⟨rfl, ⟨rfl, trivial⟩⟩⟩ ⟨rfl, ⟨rfl, ⟨rfl, trivial⟩⟩⟩
    refine W_openCache 300 500 rfl (by decide) (fun m v es hg hpm ho => ?_)
    have hlen := hg.len
    have hfit := hg.fits
    have hmost := hg.most
    refine W_draw (N := 12) (by kernel_rfl) rfl [(0, _), (251, _), (500, _)] ⟨rfl, ⟨rfl, ⟨rfl, trivial⟩⟩⟩ ?_
    refine (AH_take 0 rfl (by kernel_rfl) (by kernel_rfl) (by kernel_rfl) rfl rfl (by decide) (Pu_move rfl rfl) (AH_take 1 rfl (by kernel_rfl) (by kernel_rfl) (by kernel_rfl) rfl rfl (by decide) (Pu_len (r := 0) rfl Try.runUnderlying35 rfl rfl hF) (AH_take 2 rfl (by kernel_rfl) (by kernel_rfl) (by kernel_rfl) rfl rfl (by decide) (Pu_move rfl rfl) (AH_take 3 rfl (by kernel_rfl) (by kernel_rfl) (by kernel_rfl) rfl rfl (by decide) (Pu_nilCheck rfl rfl) (AH_take 4 rfl (by kernel_rfl) (by kernel_rfl) (by kernel_rfl) rfl rfl (by decide) (Pu_fieldAddrB (off := 0) rfl rfl (by kernel_rfl)) (AH_take 5 rfl (by kernel_rfl) (by kernel_rfl) (by kernel_rfl) rfl rfl (by decide) (Pu_loadB (r := 500) rfl Try.isAgg3 rfl rfl rfl) (AH_take 6 rfl (by kernel_rfl) (by kernel_rfl) (by kernel_rfl) rfl rfl (by decide) (Pu_move rfl rfl) (AH_take 7 rfl (by kernel_rfl) (by kernel_rfl) (by kernel_rfl) rfl rfl (by decide) (Pu_nilCheck rfl rfl) (AH_take 8 rfl (by kernel_rfl) (by kernel_rfl) (by kernel_rfl) rfl rfl (by decide) (Pu_fieldAddrB (off := 3) rfl rfl (by kernel_rfl)) (AH_take 9 rfl (by kernel_rfl) (by kernel_rfl) (by kernel_rfl) rfl rfl (by decide) (Pu_loadB (r := 500) rfl Try.isAgg3 rfl rfl rfl) (AH_take 10 rfl (by kernel_rfl) (by kernel_rfl) (by kernel_rfl) rfl rfl (by decide) (Pu_bin rfl rfl rfl (run_sub _ _ _ _ _ (by omega))) (AH_take 11 rfl (by kernel_rfl) (by kernel_rfl) (by kernel_rfl) rfl rfl (by decide) (Pu_bin rfl rfl rfl (run_gtr _ _ _ _ _ _)) (AH_done (by kernel_rfl) (X_then ?_))))))))))))))
    refine W_cond rfl (fun hc33 => ?_) (fun hc33 => ?_)
    ·
      have hgt := of_decide_eq_true hc33
      obtain ⟨p, y, rfl⟩ : ∃ p y, x = p :: y := by
        cases x with
        | nil => simp [total] at hgt; omega
        | cons p y => exact ⟨p, y, rfl⟩
      have hkl : (keys (p :: y)).length = y.length + 1 := by rw [keys_length]; rfl
      have hp32 : p.1.length = 32 := hg.ids _ (by simp [keys])
      refine W_skip (X_then ?_)
      refine W_block ?_
      refine W.pre (K' := [(0, _), (2, _), (4, _), (33, _)]) (L' := [(0, _), (251, _), (500, _), (501, _), (502, _), (503, _)]) ?_ ⟨rfl, ⟨rfl, ⟨rfl, ⟨rfl, trivial⟩⟩⟩⟩ ⟨rfl, ⟨rfl, ⟨rfl, ⟨rfl, ⟨rfl, ⟨rfl, trivial⟩⟩⟩⟩⟩⟩
      refine W_regL (WL_pure rfl rfl (by decide) (Pu_move rfl rfl) (WL_pure rfl rfl (by decide) (Pu_move rfl rfl) (WL_pure rfl rfl (by decide) (Pu_nilCheck rfl rfl) (WL_pure rfl rfl (by decide) (Pu_fieldAddrB (off := 2) rfl rfl (by kernel_rfl)) (WL_pure rfl rfl (by decide) (Pu_loadB (r := 500) rfl Try.isAgg37 rfl rfl rfl) (WL_pure rfl rfl (by decide) (Pu_idxS (r := 502) rfl Try.runUnderlying37 Try.sizeOf33 rfl rfl rfl rowI_rd (by omega)) (WL_pure rfl rfl (by decide) (Pu_loadSN (r := 502) rfl Try.isAgg33 Try.sizeOf33 rfl rfl rowI_rd ((bs_length _).trans hp32) (by decide) (idsC_get (l := keys (p :: y)) (k := 0) hg.ids (by omega))) ?_)))))))
      refine WL_join [500, 501, 502, 503] 300 (cacheP g room (p :: y)) rfl (by decide) (fun h hs => closeCache hg hpm ho hs) ?_
      skip
      refine (WL_cons rfl rfl (by decide) (OpT_call 600 [0, 251] [300] rfl Try.call20 rfl rfl rfl (by decide) (by decide) (drop_spec g room (p :: y) p.1 hp32 _) (fun v41 Ps41 hR41 => ?_)))
      obtain ⟨rfl, rfl⟩ := hR41
      refine (WL_nil (X_block ?_))
      refine X_ren 600 300 rfl ?_
      exact X_round y ⟨by have := hg.drop p.1; rw [dropK_head] at this; exact this, fun hm => hkx (by simp only [keys, List.map_cons, List.mem_cons]; exact .inr hm), by rw [← hev, evict_cons (by omega)]⟩ (Nat.lt_succ_self _) ⟨rfl, rfl, rfl, trivial⟩ ⟨rfl, rfl, look_eq rfl (by rw [dropK_head]), trivial⟩
    ·
      have hge := of_decide_eq_false hc33
      have hno := es_lookup_none hpm hkx
      refine W_exit (X_then_exit (X_then_exit (X_block_exit (X_then ?_))))
      refine W_seq ?_
      refine W.pre (K' := [(0, _), (2, _), (4, _), (33, _)]) (L' := [(0, _), (251, _), (500, _), (501, _), (502, _), (503, _)]) ?_ ⟨rfl, ⟨rfl, ⟨rfl, ⟨rfl, trivial⟩⟩⟩⟩ ⟨rfl, ⟨rfl, ⟨rfl, ⟨rfl, ⟨rfl, ⟨rfl, trivial⟩⟩⟩⟩⟩⟩
      refine W_draw (N := 8) (by kernel_rfl) rfl [(0, _), (251, _), (500, _)] ⟨rfl, ⟨rfl, ⟨rfl, trivial⟩⟩⟩ ?_
      refine (AH_take 0 rfl (by kernel_rfl) (by kernel_rfl) (by kernel_rfl) rfl rfl (by decide) (Pu_move rfl rfl) (AH_take 1 rfl (by kernel_rfl) (by kernel_rfl) (by kernel_rfl) rfl rfl (by decide) (Pu_nilCheck rfl rfl) (AH_take 2 rfl (by kernel_rfl) (by kernel_rfl) (by kernel_rfl) rfl rfl (by decide) (Pu_fieldAddrB (off := 1) rfl rfl (by kernel_rfl)) (AH_take 3 rfl (by kernel_rfl) (by kernel_rfl) (by kernel_rfl) rfl rfl (by decide) (Pu_loadB (r := 500) rfl Try.isAgg54 rfl rfl rfl) (AH_take 4 rfl (by kernel_rfl) (by kernel_rfl) (by kernel_rfl) rfl rfl (by decide) (Pu_loadBN (r := 251) rfl Try.isAgg33 Try.sizeOf33 rfl rfl ((bs_length _).trans hk) (load_all ((bs_length _).trans hk))) (AH_take 5 rfl (by kernel_rfl) (by kernel_rfl) (by kernel_rfl) rfl rfl (by decide) (Pu_move rfl rfl) (AH_ready [6] (by kernel_rfl) (by decide) ?_)))))))
      refine AHs_cons rfl rfl rfl (by decide) (OpT_call 600 [0, 251, 500, 501, 502, 503] [] rfl Try.call21 rfl rfl rfl (by decide) (by decide) (clone_spec vd d (by omega) _ (rd_star 0 rfl hF)) (fun v48 Ps48 hR48 => ?_)) ?_
      ·
        obtain ⟨ho48, rfl⟩ := hR48
        refine ⟨⟨rfl, ⟨rfl, ⟨rfl, trivial⟩⟩⟩, ?_⟩
        skip
        refine (AH_ready [7] (by kernel_rfl) (by decide) ?_)
        refine AHs_cons0 rfl rfl rfl (OpT_mapAdd (r := 501) rfl Try.underlying54 Try.underlying33 Try.underlying5 Try.sizeOf5 rfl rfl hk rfl rfl hno ?_) ?_
        ·
          refine ⟨⟨rfl, ⟨rfl, ⟨rfl, trivial⟩⟩⟩, ?_⟩
          refine (AH_done (by kernel_rfl) (X_then ?_))
          refine W_seq ?_
          refine W.pre (K' := [(0, _), (2, _), (4, _), (33, _)]) (L' := [(0, _), (251, _), (500, _), (501, _), (502, _), (503, _), (600, _)]) ?_ ⟨rfl, ⟨rfl, ⟨rfl, ⟨rfl, trivial⟩⟩⟩⟩ ⟨rfl, ⟨rfl, ⟨rfl, ⟨rfl, ⟨rfl, ⟨rfl, ⟨rfl, trivial⟩⟩⟩⟩⟩⟩⟩
          refine W_draw (N := 11) (by kernel_rfl) rfl [(0, _), (251, _)] ⟨rfl, ⟨rfl, trivial⟩⟩ ?_
          refine (AH_take 0 rfl (by kernel_rfl) (by kernel_rfl) (by kernel_rfl) rfl rfl (by decide) (Pu_move rfl rfl) (AH_take 1 rfl (by kernel_rfl) (by kernel_rfl) (by kernel_rfl) rfl rfl (by decide) (Pu_move rfl rfl) (AH_take 2 rfl (by kernel_rfl) (by kernel_rfl) (by kernel_rfl) rfl rfl (by decide) (Pu_nilCheck rfl rfl) (AH_take 3 rfl (by kernel_rfl) (by kernel_rfl) (by kernel_rfl) rfl rfl (by decide) (Pu_fieldAddrB (off := 2) rfl rfl (by kernel_rfl)) (AH_take 5 rfl (by kernel_rfl) (by kernel_rfl) (by kernel_rfl) rfl rfl (by decide) (Pu_loadBN (r := 251) rfl Try.isAgg33 Try.sizeOf33 rfl rfl ((bs_length _).trans hk) (load_all ((bs_length _).trans hk))) (AH_ready [4, 6] (by kernel_rfl) (by decide) ?_))))))
          refine AHs_cons rfl rfl rfl (by decide) (OpT_run (Pu_loadB (r := 500) rfl Try.isAgg37 rfl rfl rfl) ⟨⟨rfl, ⟨rfl, trivial⟩⟩, ?_⟩) ?_
          ·
            refine (AH_ready [6] (by kernel_rfl) (by decide) ?_)
            refine AHs_cons rfl rfl rfl (by decide) (OpT_buildRows (r := 601) [bs k] rfl rfl Try.runUnderlying37 Try.sizeOf33 Try.zeroValue33 rfl (by decide) rfl (by decide) (by intro r hr; simp at hr; rw [hr, bs_length, hk]) rfl (fun v55 => ⟨⟨rfl, ⟨rfl, trivial⟩⟩, ?_⟩)) ?_
            ·
              refine (AH_ready [7] (by kernel_rfl) (by decide) ?_)
              refine AHs_cons rfl rfl rfl (by decide) (OpT_append (r := 502) (r2 := 601) rfl Try.underlying37 TI.hi33 TI.hz33 TI.hs33 TI.hby33 TI.hzs33 (by decide) rfl rfl rfl rfl (fun _ h => rowP_rd h) (by rw [List.flatten_cons, List.flatten_nil, List.append_nil]; exact bs_one _) (by rw [keys_length]; unfold maxLen; omega) (by rw [keys_length]; omega) (fun v56 => ?_)) ?_
              ·
                refine ⟨⟨rfl, ⟨rfl, trivial⟩⟩, ?_⟩
                refine AH_fact (r := 502) rfl (fun h hp => rd_one (rowP_rd hp)) (fun ho56 => ?_)
                refine (AH_take 8 rfl (by kernel_rfl) (by kernel_rfl) (by kernel_rfl) rfl rfl (by decide) (Pu_nilCheck rfl rfl) (AH_take 9 rfl (by kernel_rfl) (by kernel_rfl) (by kernel_rfl) rfl rfl (by decide) (Pu_fieldAddrB (off := 2) rfl rfl (by kernel_rfl)) (AH_ready [10] (by kernel_rfl) (by decide) ?_)))
                refine AHs_cons0 rfl rfl rfl (OpT_storeB1 (r := 500) rfl Try.sizeOf37 rfl rfl rfl ho56 (by simp) rfl ?_) ?_
                ·
                  refine ⟨⟨rfl, ⟨rfl, trivial⟩⟩, ?_⟩
                  refine (AH_done (by kernel_rfl) (X_then ?_))
                  refine W_seq ?_
                  refine W.pre (K' := [(0, _), (2, _), (4, _), (33, _)]) (L' := [(0, _), (251, _), (500, _), (501, _), (502, _), (503, _), (600, _), (601, _)]) ?_ ⟨rfl, ⟨rfl, ⟨rfl, ⟨rfl, trivial⟩⟩⟩⟩ ⟨rfl, ⟨rfl, ⟨rfl, ⟨rfl, ⟨rfl, ⟨rfl, ⟨rfl, ⟨rfl, trivial⟩⟩⟩⟩⟩⟩⟩⟩
                  refine W_regL (WL_pure rfl rfl (by decide) (Pu_move rfl rfl) (WL_pure rfl rfl (by decide) (Pu_nilCheck rfl rfl) (WL_pure rfl rfl (by decide) (Pu_fieldAddrB (off := 3) rfl rfl (by kernel_rfl)) (WL_pure rfl rfl (by decide) (Pu_loadB (r := 500) rfl Try.isAgg3 rfl rfl rfl) (WL_pure rfl rfl (by decide) (Pu_move rfl rfl) (WL_pure rfl rfl (by decide) (Pu_len (r := 0) rfl Try.runUnderlying35 rfl rfl hF) (WL_pure rfl rfl (by decide) (Pu_bin rfl rfl rfl (run_add _ _ _ _ _ (by omega))) (WL_pure rfl rfl (by decide) (Pu_nilCheck rfl rfl) (WL_pure rfl rfl (by decide) (Pu_fieldAddrB (off := 3) rfl rfl (by kernel_rfl)) (WL_cons0 rfl rfl (OpT_storeB1 (r := 500) rfl Try.sizeOf3 rfl rfl rfl rfl (by simp) rfl ?_)))))))))))
                  refine (WL_nil (X_then ?_))
                  refine W_seq ?_
                  refine W.pre (K' := [(0, _), (2, _), (4, _), (33, _)]) (L' := [(0, _), (251, _), (500, _), (501, _), (502, _), (503, _), (600, _), (601, _)]) ?_ ⟨rfl, ⟨rfl, ⟨rfl, ⟨rfl, trivial⟩⟩⟩⟩ ⟨rfl, ⟨rfl, ⟨rfl, ⟨rfl, ⟨rfl, ⟨rfl, ⟨rfl, ⟨rfl, trivial⟩⟩⟩⟩⟩⟩⟩⟩
                  refine W_regL (WL_pure rfl rfl (by decide) (Pu_assign rfl rfl) (WL_nil (X_then ?_)))
                  refine W_ret ?_
                  refine X_turn (P' := rowI 33 v56 (keys (x ++ [(k, d)]))) 502 rfl (fun h hp => (congrFun (rowI_of (keys (x ++ [(k, d)])) (by rw [keys_append]; simp [keys]) (by rw [keys_append, idsC_append]; simp [keys, idsC])) h).mp hp) ?_
                  refine X_turn (P' := blk g 56 [.int .i64 (room : Int), .map (some m), v56, .int .i64 (total (x ++ [(k, d)]) : Int)]) 500 rfl (fun h hp => by rw [show ((total (x ++ [(k, d)]) : Nat) : Int) = (total x : Int) + (d.length : Int) by rw [total_append]; simp [total]]; exact hp) ?_
                  refine X_join [503, 600] 503 (dataP (es ++ [(k, v48)]) (x ++ [(k, d)])) rfl (by decide) (fun h hs => dataP_add hkx hpm hs) ?_
                  refine X_join [500, 501, 502, 503] 1 (cacheP g room (x ++ [(k, d)])) rfl (by decide) (fun h hs => closeCache (hg.add hkx hk hd1 (by omega)) (perm_add hpm k d v48) ho56 hs) ?_
                  have hN : putC room l k d = (x ++ [(k, d)]) := by rw [hC, ← hev, evict_done (by omega)]
                  exact X_ret [1] (Ps := [_]) (res1 Try.results11 rfl) rfl (by decide) ⟨by rw [hB], by rw [hN]⟩
                exact AHs_nil
              exact AHs_nil
            exact AHs_nil
          refine AHs_cons rfl rfl rfl (by decide) (OpT_buildRows (r := 601) [bs k] rfl rfl Try.runUnderlying37 Try.sizeOf33 Try.zeroValue33 rfl (by decide) rfl (by decide) (by intro r hr; simp at hr; rw [hr, bs_length, hk]) rfl (fun v55 => ⟨⟨rfl, ⟨rfl, trivial⟩⟩, ?_⟩)) ?_
          ·
            refine (AH_ready [4] (by kernel_rfl) (by decide) ?_)
            refine AHs_cons rfl rfl rfl (by decide) (OpT_run (Pu_loadB (r := 500) rfl Try.isAgg37 rfl rfl rfl) ⟨⟨rfl, ⟨rfl, trivial⟩⟩, ?_⟩) ?_
            ·
              refine (AH_ready [7] (by kernel_rfl) (by decide) ?_)
              refine AHs_cons rfl rfl rfl (by decide) (OpT_append (r := 502) (r2 := 601) rfl Try.underlying37 TI.hi33 TI.hz33 TI.hs33 TI.hby33 TI.hzs33 (by decide) rfl rfl rfl rfl (fun _ h => rowP_rd h) (by rw [List.flatten_cons, List.flatten_nil, List.append_nil]; exact bs_one _) (by rw [keys_length]; unfold maxLen; omega) (by rw [keys_length]; omega) (fun v56 => ?_)) ?_
              ·
                refine ⟨⟨rfl, ⟨rfl, trivial⟩⟩, ?_⟩
                refine AH_fact (r := 502) rfl (fun h hp => rd_one (rowP_rd hp)) (fun ho56 => ?_)
                refine (AH_take 8 rfl (by kernel_rfl) (by kernel_rfl) (by kernel_rfl) rfl rfl (by decide) (Pu_nilCheck rfl rfl) (AH_take 9 rfl (by kernel_rfl) (by kernel_rfl) (by kernel_rfl) rfl rfl (by decide) (Pu_fieldAddrB (off := 2) rfl rfl (by kernel_rfl)) (AH_ready [10] (by kernel_rfl) (by decide) ?_)))
                refine AHs_cons0 rfl rfl rfl (OpT_storeB1 (r := 500) rfl Try.sizeOf37 rfl rfl rfl ho56 (by simp) rfl ?_) ?_
                ·
                  refine ⟨⟨rfl, ⟨rfl, trivial⟩⟩, ?_⟩
                  refine (AH_done (by kernel_rfl) (X_then ?_))
                  refine W_seq ?_
                  refine W.pre (K' := [(0, _), (2, _), (4, _), (33, _)]) (L' := [(0, _), (251, _), (500, _), (501, _), (502, _), (503, _), (600, _), (601, _)]) ?_ ⟨rfl, ⟨rfl, ⟨rfl, ⟨rfl, trivial⟩⟩⟩⟩ ⟨rfl, ⟨rfl, ⟨rfl, ⟨rfl, ⟨rfl, ⟨rfl, ⟨rfl, ⟨rfl, trivial⟩⟩⟩⟩⟩⟩⟩⟩
                  refine W_regL (WL_pure rfl rfl (by decide) (Pu_move rfl rfl) (WL_pure rfl rfl (by decide) (Pu_nilCheck rfl rfl) (WL_pure rfl rfl (by decide) (Pu_fieldAddrB (off := 3) rfl rfl (by kernel_rfl)) (WL_pure rfl rfl (by decide) (Pu_loadB (r := 500) rfl Try.isAgg3 rfl rfl rfl) (WL_pure rfl rfl (by decide) (Pu_move rfl rfl) (WL_pure rfl rfl (by decide) (Pu_len (r := 0) rfl Try.runUnderlying35 rfl rfl hF) (WL_pure rfl rfl (by decide) (Pu_bin rfl rfl rfl (run_add _ _ _ _ _ (by omega))) (WL_pure rfl rfl (by decide) (Pu_nilCheck rfl rfl) (WL_pure rfl rfl (by decide) (Pu_fieldAddrB (off := 3) rfl rfl (by kernel_rfl)) (WL_cons0 rfl rfl (OpT_storeB1 (r := 500) rfl Try.sizeOf3 rfl rfl rfl rfl (by simp) rfl ?_)))))))))))
                  refine (WL_nil (X_then ?_))
                  refine W_seq ?_
                  refine W.pre (K' := [(0, _), (2, _), (4, _), (33, _)]) (L' := [(0, _), (251, _), (500, _), (501, _), (502, _), (503, _), (600, _), (601, _)]) ?_ ⟨rfl, ⟨rfl, ⟨rfl, ⟨rfl, trivial⟩⟩⟩⟩ ⟨rfl, ⟨rfl, ⟨rfl, ⟨rfl, ⟨rfl, ⟨rfl, ⟨rfl, ⟨rfl, trivial⟩⟩⟩⟩⟩⟩⟩⟩
                  refine W_regL (WL_pure rfl rfl (by decide) (Pu_assign rfl rfl) (WL_nil (X_then ?_)))
                  refine W_ret ?_
                  refine X_turn (P' := rowI 33 v56 (keys (x ++ [(k, d)]))) 502 rfl (fun h hp => (congrFun (rowI_of (keys (x ++ [(k, d)])) (by rw [keys_append]; simp [keys]) (by rw [keys_append, idsC_append]; simp [keys, idsC])) h).mp hp) ?_
                  refine X_turn (P' := blk g 56 [.int .i64 (room : Int), .map (some m), v56, .int .i64 (total (x ++ [(k, d)]) : Int)]) 500 rfl (fun h hp => by rw [show ((total (x ++ [(k, d)]) : Nat) : Int) = (total x : Int) + (d.length : Int) by rw [total_append]; simp [total]]; exact hp) ?_
                  refine X_join [503, 600] 503 (dataP (es ++ [(k, v48)]) (x ++ [(k, d)])) rfl (by decide) (fun h hs => dataP_add hkx hpm hs) ?_
                  refine X_join [500, 501, 502, 503] 1 (cacheP g room (x ++ [(k, d)])) rfl (by decide) (fun h hs => closeCache (hg.add hkx hk hd1 (by omega)) (perm_add hpm k d v48) ho56 hs) ?_
                  have hN : putC room l k d = (x ++ [(k, d)]) := by rw [hC, ← hev, evict_done (by omega)]
                  exact X_ret [1] (Ps := [_]) (res1 Try.results11 rfl) rfl (by decide) ⟨by rw [hB], by rw [hN]⟩
                exact AHs_nil
              exact AHs_nil
            exact AHs_nil
          exact AHs_nil
        exact AHs_nil
      exact AHs_nil
end Go.Proofs.Ytamhhkjddmjanaa
