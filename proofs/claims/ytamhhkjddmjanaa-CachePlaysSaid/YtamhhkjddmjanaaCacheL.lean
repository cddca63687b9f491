/- Caches by the document: put. -/
import Derived.Test.YtamhhkjddmjanaaCacheK
import Derived.Test.YtamhhkjddmjanaaTiC
import Derived.Test.YtamhhkjddmjanaaCache7
namespace Go.Proofs.Ytamhhkjddmjanaa
open Go.RowKit
set_option linter.unusedVariables false
set_option linter.unusedSimpArgs false

theorem refPut_spec (g room : Nat) (L : Ents) (k : List UInt8) (hk : k.length = 32) (vd : Value) (d : List UInt8) (hdm : d.length ≤ 4000000000) (F : HP) (hF : ∀ h, F h → rdB vd d h) : CallsS Try.prog 16 #[.pointer (some ⟨g, 0, none⟩), idV k, vd] F [refP g room L] (fun r Ps => r = .bool (putB room d) ∧ Ps = [refP g room (putC room L.reverse k d).reverse]) := by
  refine callsS_enter Try.func16 rfl Try.ntmps16 (by simp) (fun E => ?_)
  refine W_seq ?_
  refine W.pre (K' := [(0, _), (1, _), (2, _)]) (L' := [(0, _), (1, _)]) ?_ ⟨rfl, ⟨rfl, ⟨rfl, trivial⟩⟩⟩ ⟨rfl, ⟨rfl, trivial⟩⟩
  refine W_openRef 1 200 rfl (fun v es hg hke h1e ho => ?_)
  have hlen := hg.len
  have hfit := hg.fits
  have hmost := hg.most
  rw [List.length_reverse] at hlen
  rw [total_reverse] at hfit
  have hids : Ids (es.map (·.1)) := fun y hy => hg.ids y (by rw [keys_reverse, ← hke]; exact List.mem_reverse.2 hy)
  have hel : es.length = L.length := by have := congrArg List.length hke; simpa [keys] using this
  refine W_regL (WL_cons rfl rfl (by decide) (OpT_box (r := 251) rfl rfl rfl (fun g251 => (WL_pure rfl rfl (by decide) (Pu_assign rfl rfl) (WL_nil (X_then ?_))))))
  refine W_seq ?_
  refine W_seq ?_
  refine W.pre (K' := [(0, _), (1, _), (2, _), (4, _), (6, _)]) (L' := [(0, _), (200, _), (201, _), (202, _), (251, _)]) ?_ ⟨rfl, ⟨rfl, ⟨rfl, ⟨rfl, ⟨rfl, trivial⟩⟩⟩⟩⟩ ⟨rfl, ⟨rfl, ⟨rfl, ⟨rfl, ⟨rfl, trivial⟩⟩⟩⟩⟩
  refine W_regL (WL_pure rfl rfl (by decide) (Pu_move rfl rfl) (WL_pure rfl rfl (by decide) (Pu_len (r := 0) rfl Try.runUnderlying35 rfl rfl hF) (WL_pure rfl rfl (by decide) (Pu_bin rfl rfl rfl (run_eql _ _ _ _ _ _)) (WL_pure rfl rfl (by decide) (Pu_move rfl rfl) (WL_guardP rfl rfl rfl rfl (by decide) (fun hb => (Pu_move rfl rfl)) (WL_guardP rfl rfl rfl rfl (by decide) (fun hb => (Pu_len (r := 0) rfl Try.runUnderlying35 (ev_gv rfl hb) rfl hF)) (WL_guardP rfl rfl rfl rfl (by decide) (fun hb => (Pu_move rfl rfl)) (WL_guardP rfl rfl rfl rfl (by decide) (fun hb => (Pu_nilCheck rfl (ev_gv rfl hb))) (WL_guardP rfl rfl rfl rfl (by decide) (fun hb => (Pu_fieldAddrB (off := 0) rfl (ev_gv rfl hb) (by kernel_rfl))) (WL_guardP rfl rfl rfl rfl (by decide) (fun hb => (Pu_loadB (r := 200) rfl Try.isAgg3 (ev_gv rfl hb) rfl rfl)) (WL_guardP rfl rfl rfl rfl (by decide) (fun hb => (Pu_bin rfl (ev_gv rfl hb) (ev_gv rfl hb) (run_gtr _ _ _ _ _ _))) (WL_pure rfl rfl (by decide) (Pu_or rfl rfl rfl) (WL_nil (X_then ?_))))))))))))))
  refine W_cond rfl (fun hc18 => ?_) (fun hc18 => ?_)
  ·
    obtain ⟨hC, hB⟩ := putC_bad (l := L.reverse) (k := k) hc18
    refine W_seq ?_
    refine W.pre (K' := [(0, _), (1, _), (2, _), (4, _), (6, _), (18, _)]) (L' := [(0, _), (200, _), (201, _), (202, _), (251, _)]) ?_ ⟨rfl, ⟨rfl, ⟨rfl, ⟨rfl, ⟨rfl, ⟨rfl, trivial⟩⟩⟩⟩⟩⟩ ⟨rfl, ⟨rfl, ⟨rfl, ⟨rfl, ⟨rfl, trivial⟩⟩⟩⟩⟩
    refine W_regL (WL_pure rfl rfl (by decide) (Pu_assign rfl rfl) (WL_nil (X_then ?_)))
    refine W_ret (X_then_ret ?_)
    refine X_join [200, 201, 202] 1 (refP g room L) rfl (by decide) (fun h hs => closeRef hg hke h1e ho hs) ?_
    exact X_ret [1] (Ps := [_]) (res1 Try.results16 rfl) rfl (by decide) ⟨by rw [hB], by rw [hC, List.reverse_reverse]⟩
  ·
    obtain ⟨hC, hB, hd1, hd2⟩ := putC_good (l := L.reverse) (k := k) hc18
    refine W_skip (X_then ?_)
    refine W_seq ?_
    refine W.pre (K' := [(0, _), (1, _), (2, _), (4, _), (6, _), (18, _)]) (L' := [(0, _), (200, _), (201, _), (202, _), (251, _)]) ?_ ⟨rfl, ⟨rfl, ⟨rfl, ⟨rfl, ⟨rfl, ⟨rfl, trivial⟩⟩⟩⟩⟩⟩ ⟨rfl, ⟨rfl, ⟨rfl, ⟨rfl, ⟨rfl, trivial⟩⟩⟩⟩⟩
    refine W_join [200, 201, 202] 1 (refP g room L) rfl (by decide) (fun h hs => closeRef hg hke h1e ho hs) ?_
    have hgL := hg
    clear ho h1e hke hids hel
    refine W_regL (WL_pure rfl rfl (by decide) (Pu_move rfl rfl) (WL_pure rfl rfl (by decide) (Pu_loadBN (r := 251) rfl Try.isAgg33 Try.sizeOf33 rfl rfl ((bs_length _).trans hk) (load_all ((bs_length _).trans hk))) (WL_cons rfl rfl (by decide) (OpT_call 300 [0, 251] [1] rfl Try.call24 rfl rfl rfl (by decide) (by decide) (take_spec g room L k hk _) (fun v21 Ps21 hR21 => ?_)))))
    obtain ⟨v21, es, hke, h1e, ho, hg, rfl, rfl⟩ := hR21
    refine WL_join [300, 301, 302] 1 (refP g room (dropK k L)) rfl (by decide) (fun h hs => closeTake hg hke h1e ho hs) ?_
    refine (WL_nil (X_then ?_))
    refine W_seq ?_
    refine W_block ?_
    refine W_loop (α := Ents) (fun x => [(0, .pointer (some ⟨g, 0, none⟩)), (2, vd), (4, .pointer (some ⟨g251, 0, none⟩))]) (fun x => [(0, F), (251, blk g251 33 (bs k)), (1, refP g room x)]) (fun x => k ∉ keys x ∧ evict room d.length x.reverse = evict room d.length (dropK k L).reverse) (fun x => x.length) ((dropK k L)) ⟨by rw [keys_drop]; exact (keys_nodup hgL).not_mem_erase, rfl⟩ ⟨rfl, ⟨rfl, ⟨rfl, trivial⟩⟩⟩ ⟨rfl, ⟨rfl, ⟨rfl, trivial⟩⟩⟩ (fun x hx => ?_)
    obtain ⟨hkx, hev⟩ := hx
    clear hg
    refine W_seq ?_
    refine W_seq ?_
    refine W.pre (K' := [(0, _), (2, _), (4, _)]) (L' := [(0, _), (1, _), (251, _)]) ?_ ⟨rfl, ⟨rfl, ⟨rfl, trivial⟩⟩⟩ ⟨rfl, ⟨rfl, ⟨rfl, trivial⟩⟩⟩
    refine W_fact (r := 1) rfl (fun h hp => hp.1) (fun hg => ?_)
    have hfx := hg.fits
    rw [total_reverse] at hfx
    have hmx := hg.most
    refine W_draw (N := 10) (by kernel_rfl) rfl [(0, _), (251, _)] ⟨rfl, ⟨rfl, trivial⟩⟩ ?_
    refine (AH_take 0 rfl (by kernel_rfl) (by kernel_rfl) (by kernel_rfl) rfl rfl (by decide) (Pu_move rfl rfl) (AH_take 2 rfl (by kernel_rfl) (by kernel_rfl) (by kernel_rfl) rfl rfl (by decide) (Pu_move rfl rfl) (AH_take 3 rfl (by kernel_rfl) (by kernel_rfl) (by kernel_rfl) rfl rfl (by decide) (Pu_len (r := 0) rfl Try.runUnderlying35 rfl rfl hF) (AH_take 5 rfl (by kernel_rfl) (by kernel_rfl) (by kernel_rfl) rfl rfl (by decide) (Pu_move rfl rfl) (AH_take 6 rfl (by kernel_rfl) (by kernel_rfl) (by kernel_rfl) rfl rfl (by decide) (Pu_nilCheck rfl rfl) (AH_take 7 rfl (by kernel_rfl) (by kernel_rfl) (by kernel_rfl) rfl rfl (by decide) (Pu_fieldAddrB (off := 0) rfl rfl (by kernel_rfl)) (AH_ready [1, 8] (by kernel_rfl) (by decide) ?_)))))))
    refine AHs_cons rfl rfl rfl (by decide) (OpT_call 400 [0, 251] [1] rfl Try.call19 rfl rfl rfl (by decide) (by decide) (refTotal_spec g room x _) (fun v23 Ps23 hR23 => ?_)) ?_
    ·
      obtain ⟨rfl, rfl⟩ := hR23
      refine ⟨⟨rfl, ⟨rfl, trivial⟩⟩, ?_⟩
      refine (AH_take 4 rfl (by kernel_rfl) (by kernel_rfl) (by kernel_rfl) rfl rfl (by decide) (Pu_bin rfl rfl rfl (run_add _ _ _ _ _ (by omega))) (AH_ready [8] (by kernel_rfl) (by decide) ?_))
      refine AHs_cons rfl rfl rfl (by decide) (OpT_run (Pu_load1 (r := 400) rfl Try.isAgg3 rfl rfl (fun h hp => refP_room hp)) ⟨⟨rfl, ⟨rfl, trivial⟩⟩, ?_⟩) ?_
      ·
        refine (AH_take 9 rfl (by kernel_rfl) (by kernel_rfl) (by kernel_rfl) rfl rfl (by decide) (Pu_bin rfl rfl rfl (run_gtr _ _ _ _ _ _)) (AH_done (by kernel_rfl) (X_then ?_)))
        refine W_cond rfl (fun hc31 => ?_) (fun hc31 => ?_)
        ·
          have hgt := of_decide_eq_true hc31
          have hpos : 0 < x.length := by rcases x with _ | ⟨a, y⟩; simp [total] at hgt; omega; simp
          refine W_skip (X_then ?_)
          refine W_block ?_
          refine W.pre (K' := [(0, _), (2, _), (4, _), (31, _)]) (L' := [(0, _), (251, _), (400, _)]) ?_ ⟨rfl, ⟨rfl, ⟨rfl, ⟨rfl, trivial⟩⟩⟩⟩ ⟨rfl, ⟨rfl, ⟨rfl, trivial⟩⟩⟩
          clear hg
          refine W_openRef 400 500 rfl (fun v es hg hke h1e ho => ?_)
          have hlen := hg.len
          have hfit := hg.fits
          have hmost := hg.most
          rw [List.length_reverse] at hlen
          rw [total_reverse] at hfit
          have hids : Ids (es.map (·.1)) := fun y hy => hg.ids y (by rw [keys_reverse, ← hke]; exact List.mem_reverse.2 hy)
          have hel : es.length = x.length := by have := congrArg List.length hke; simpa [keys] using this
          refine W_draw (N := 15) (by kernel_rfl) rfl [(0, _), (251, _), (501, _)] ⟨rfl, ⟨rfl, ⟨rfl, trivial⟩⟩⟩ ?_
          refine (AH_take 0 rfl (by kernel_rfl) (by kernel_rfl) (by kernel_rfl) rfl rfl (by decide) (Pu_move rfl rfl) (AH_take 1 rfl (by kernel_rfl) (by kernel_rfl) (by kernel_rfl) rfl rfl (by decide) (Pu_move rfl rfl) (AH_take 2 rfl (by kernel_rfl) (by kernel_rfl) (by kernel_rfl) rfl rfl (by decide) (Pu_nilCheck rfl rfl) (AH_take 3 rfl (by kernel_rfl) (by kernel_rfl) (by kernel_rfl) rfl rfl (by decide) (Pu_fieldAddrB (off := 1) rfl rfl (by kernel_rfl)) (AH_take 5 rfl (by kernel_rfl) (by kernel_rfl) (by kernel_rfl) rfl rfl (by decide) (Pu_move rfl rfl) (AH_take 6 rfl (by kernel_rfl) (by kernel_rfl) (by kernel_rfl) rfl rfl (by decide) (Pu_nilCheck rfl rfl) (AH_take 7 rfl (by kernel_rfl) (by kernel_rfl) (by kernel_rfl) rfl rfl (by decide) (Pu_fieldAddrB (off := 1) rfl rfl (by kernel_rfl)) (AH_ready [4, 8] (by kernel_rfl) (by decide) ?_))))))))
          refine AHs_cons rfl rfl rfl (by decide) (OpT_run (Pu_loadB (r := 500) rfl Try.isAgg47 rfl rfl rfl) ⟨⟨rfl, ⟨rfl, ⟨rfl, trivial⟩⟩⟩, ?_⟩) ?_
          ·
            refine (AH_ready [8] (by kernel_rfl) (by decide) ?_)
            refine AHs_cons rfl rfl rfl (by decide) (OpT_run (Pu_loadB (r := 500) rfl Try.isAgg47 rfl rfl rfl) ⟨⟨rfl, ⟨rfl, ⟨rfl, trivial⟩⟩⟩, ?_⟩) ?_
            ·
              refine (AH_take 9 rfl (by kernel_rfl) (by kernel_rfl) (by kernel_rfl) rfl rfl (by decide) (Pu_len (r := 501) rfl Try.runUnderlying47 rfl rfl (fun _ h => rowP_rd h)) (AH_take 10 rfl (by kernel_rfl) (by kernel_rfl) (by kernel_rfl) rfl rfl (by decide) (Pu_bin rfl rfl rfl (run_sub _ _ _ _ _ (by omega))) (AH_take 11 rfl (by kernel_rfl) (by kernel_rfl) (by kernel_rfl) rfl rfl (by decide) (Pu_slice (r := 501) (a := 0) (b := (x.length - 1)) rfl Try.runUnderlying47 Try.sizeOf51 rfl rfl (fun _ h => rowP_rd h) (.inl ⟨rfl, rfl⟩) (.inr ⟨_, _, _, rfl, rfl, (by omega)⟩) (Nat.zero_le _) (by omega)) (AH_take 12 rfl (by kernel_rfl) (by kernel_rfl) (by kernel_rfl) rfl rfl (by decide) (Pu_nilCheck rfl rfl) (AH_take 13 rfl (by kernel_rfl) (by kernel_rfl) (by kernel_rfl) rfl rfl (by decide) (Pu_fieldAddrB (off := 1) rfl rfl (by kernel_rfl)) (AH_ready [14] (by kernel_rfl) (by decide) ?_))))))
              refine AHs_cons0 rfl rfl rfl (OpT_storeB1 (r := 500) rfl Try.sizeOf47 rfl rfl rfl (sub_one ho) (by simp) rfl ?_) ?_
              ·
                refine ⟨⟨rfl, ⟨rfl, ⟨rfl, trivial⟩⟩⟩, ?_⟩
                refine (AH_done (by kernel_rfl) (X_block ?_))
                refine X_turn (P' := rowP 51 33 (subV 33 v 0 (x.length - 1)) (x.take (x.length - 1)).length (onesC (es.take (x.length - 1)))) 501 rfl (fun h hh => (congrFun (rowO_to (es.take (x.length - 1)) (by rw [List.length_take]; omega) (by rw [onesC_take hids])) h).mp (rowP_cut hh (by omega))) ?_
                refine X_turn (P' := dataR (es.take (x.length - 1)) (x.take (x.length - 1))) 502 rfl (fun h hh => dataR_last hh _) ?_
                refine X_join [500, 501, 502] 1 (refP g room (x.take (x.length - 1))) rfl (by decide) (fun h hs => closeRef (es := (es.take (x.length - 1))) (Gd_less hg _) (by rw [List.map_take, hke]; simp [keys, List.map_take]) (fun p hp => h1e p (List.mem_of_mem_take hp)) (sub_one ho) hs) ?_
                exact X_round (x.take (x.length - 1)) ⟨fun hm => hkx (keys_take hm), by rw [← hev]; exact (evict_last hpos (by omega)).symm⟩ (by show (x.take (x.length - 1)).length < x.length; rw [List.length_take]; omega) ⟨rfl, rfl, rfl, trivial⟩ ⟨rfl, rfl, rfl, trivial⟩
              exact AHs_nil
            exact AHs_nil
          refine AHs_cons rfl rfl rfl (by decide) (OpT_run (Pu_loadB (r := 500) rfl Try.isAgg47 rfl rfl rfl) ⟨⟨rfl, ⟨rfl, ⟨rfl, trivial⟩⟩⟩, ?_⟩) ?_
          ·
            refine (AH_take 9 rfl (by kernel_rfl) (by kernel_rfl) (by kernel_rfl) rfl rfl (by decide) (Pu_len (r := 501) rfl Try.runUnderlying47 rfl rfl (fun _ h => rowP_rd h)) (AH_take 10 rfl (by kernel_rfl) (by kernel_rfl) (by kernel_rfl) rfl rfl (by decide) (Pu_bin rfl rfl rfl (run_sub _ _ _ _ _ (by omega))) (AH_ready [4] (by kernel_rfl) (by decide) ?_)))
            refine AHs_cons rfl rfl rfl (by decide) (OpT_run (Pu_loadB (r := 500) rfl Try.isAgg47 rfl rfl rfl) ⟨⟨rfl, ⟨rfl, ⟨rfl, trivial⟩⟩⟩, ?_⟩) ?_
            ·
              refine (AH_take 11 rfl (by kernel_rfl) (by kernel_rfl) (by kernel_rfl) rfl rfl (by decide) (Pu_slice (r := 501) (a := 0) (b := (x.length - 1)) rfl Try.runUnderlying47 Try.sizeOf51 rfl rfl (fun _ h => rowP_rd h) (.inl ⟨rfl, rfl⟩) (.inr ⟨_, _, _, rfl, rfl, (by omega)⟩) (Nat.zero_le _) (by omega)) (AH_take 12 rfl (by kernel_rfl) (by kernel_rfl) (by kernel_rfl) rfl rfl (by decide) (Pu_nilCheck rfl rfl) (AH_take 13 rfl (by kernel_rfl) (by kernel_rfl) (by kernel_rfl) rfl rfl (by decide) (Pu_fieldAddrB (off := 1) rfl rfl (by kernel_rfl)) (AH_ready [14] (by kernel_rfl) (by decide) ?_))))
              refine AHs_cons0 rfl rfl rfl (OpT_storeB1 (r := 500) rfl Try.sizeOf47 rfl rfl rfl (sub_one ho) (by simp) rfl ?_) ?_
              ·
                refine ⟨⟨rfl, ⟨rfl, ⟨rfl, trivial⟩⟩⟩, ?_⟩
                refine (AH_done (by kernel_rfl) (X_block ?_))
                refine X_turn (P' := rowP 51 33 (subV 33 v 0 (x.length - 1)) (x.take (x.length - 1)).length (onesC (es.take (x.length - 1)))) 501 rfl (fun h hh => (congrFun (rowO_to (es.take (x.length - 1)) (by rw [List.length_take]; omega) (by rw [onesC_take hids])) h).mp (rowP_cut hh (by omega))) ?_
                refine X_turn (P' := dataR (es.take (x.length - 1)) (x.take (x.length - 1))) 502 rfl (fun h hh => dataR_last hh _) ?_
                refine X_join [500, 501, 502] 1 (refP g room (x.take (x.length - 1))) rfl (by decide) (fun h hs => closeRef (es := (es.take (x.length - 1))) (Gd_less hg _) (by rw [List.map_take, hke]; simp [keys, List.map_take]) (fun p hp => h1e p (List.mem_of_mem_take hp)) (sub_one ho) hs) ?_
                exact X_round (x.take (x.length - 1)) ⟨fun hm => hkx (keys_take hm), by rw [← hev]; exact (evict_last hpos (by omega)).symm⟩ (by show (x.take (x.length - 1)).length < x.length; rw [List.length_take]; omega) ⟨rfl, rfl, rfl, trivial⟩ ⟨rfl, rfl, rfl, trivial⟩
              exact AHs_nil
            exact AHs_nil
          exact AHs_nil
        ·
          have hge := of_decide_eq_false hc31
          refine W_exit (X_then_exit (X_then_exit (X_block_exit (X_then ?_))))
          refine W_seq ?_
          refine W.pre (K' := [(0, _), (2, _), (4, _), (31, _)]) (L' := [(0, _), (251, _), (400, _)]) ?_ ⟨rfl, ⟨rfl, ⟨rfl, ⟨rfl, trivial⟩⟩⟩⟩ ⟨rfl, ⟨rfl, ⟨rfl, trivial⟩⟩⟩
          clear hg
          refine W_openRef 400 500 rfl (fun v es hg hke h1e ho => ?_)
          have hlen := hg.len
          have hfit := hg.fits
          have hmost := hg.most
          rw [List.length_reverse] at hlen
          rw [total_reverse] at hfit
          have hids : Ids (es.map (·.1)) := fun y hy => hg.ids y (by rw [keys_reverse, ← hke]; exact List.mem_reverse.2 hy)
          have hel : es.length = x.length := by have := congrArg List.length hke; simpa [keys] using this
          refine W_draw (N := 15) (by kernel_rfl) rfl [(0, _), (251, _)] ⟨rfl, ⟨rfl, trivial⟩⟩ ?_
          refine (AH_take 0 rfl (by kernel_rfl) (by kernel_rfl) (by kernel_rfl) rfl rfl (by decide) (Pu_move rfl rfl) (AH_take 1 rfl (by kernel_rfl) (by kernel_rfl) (by kernel_rfl) rfl rfl (by decide) (Pu_loadBN (r := 251) rfl Try.isAgg33 Try.sizeOf33 rfl rfl ((bs_length _).trans hk) (load_all ((bs_length _).trans hk))) (AH_take 3 rfl (by kernel_rfl) (by kernel_rfl) (by kernel_rfl) rfl rfl (by decide) (Pu_move rfl rfl) (AH_take 7 rfl (by kernel_rfl) (by kernel_rfl) (by kernel_rfl) rfl rfl (by decide) (Pu_move rfl rfl) (AH_take 8 rfl (by kernel_rfl) (by kernel_rfl) (by kernel_rfl) rfl rfl (by decide) (Pu_nilCheck rfl rfl) (AH_take 9 rfl (by kernel_rfl) (by kernel_rfl) (by kernel_rfl) rfl rfl (by decide) (Pu_fieldAddrB (off := 1) rfl rfl (by kernel_rfl)) (AH_ready [2, 10] (by kernel_rfl) (by decide) ?_)))))))
          refine AHs_cons rfl rfl rfl (by decide) (OpT_buildOnes (r := 551) [] rfl rfl Try.runUnderlying35 Try.sizeOf5 Try.zeroValue5 rfl rfl (by decide) rfl (by simp) (fun v48 => ⟨⟨rfl, ⟨rfl, trivial⟩⟩, ?_⟩)) ?_
          ·
            refine (AH_ready [4, 10] (by kernel_rfl) (by decide) ?_)
            refine AHs_cons rfl rfl rfl (by decide) (OpT_append (r := 551) (r2 := 0) (k1 := 0) rfl Try.underlying35 TI.hi5 TI.hz5 TI.hs5 TI.hby5 TI.hzs5 (by decide) rfl rfl rfl rfl hF (bs_one _) (by unfold maxLen; omega) (by omega) (fun v50 => ?_)) ?_
            ·
              refine ⟨⟨rfl, ⟨rfl, trivial⟩⟩, ?_⟩
              refine AH_fact (r := 551) rfl (fun h hp => rd_one (rowP_rd hp)) (fun ho50 => ?_)
              refine (AH_take 5 rfl (by kernel_rfl) (by kernel_rfl) (by kernel_rfl) rfl rfl (by decide) (Pu_build (V := .agg (oneC (k, v50)).toArray) [(0, 32), (32, 1)] (oneC (zeroId, .slice none 0 0)) rfl rfl (by kernel_rfl) (by kernel_rfl) (.many rfl ((bs_length _).trans hk) (by simp [oneC, bs_length, zeroId_length]) rfl (.one rfl ho50 (by simp [oneC, bs_length, zeroId_length, over, hk]) rfl (.nil _))) (congrArg (fun q => Value.agg (List.toArray q)) (one_build hk))) (AH_ready [6, 10] (by kernel_rfl) (by decide) ?_))
              refine AHs_cons rfl rfl rfl (by decide) (OpT_buildRows (r := 552) [oneC (k, v50)] rfl rfl Try.runUnderlying47 Try.sizeOf51 Try.zeroValue51 rfl (by decide) rfl (by decide) (by intro r hr; simp at hr; rw [hr]; exact oneC_length hk) rfl (fun v52 => ⟨⟨rfl, ⟨rfl, trivial⟩⟩, ?_⟩)) ?_
              ·
                refine (AH_ready [10] (by kernel_rfl) (by decide) ?_)
                refine AHs_cons rfl rfl rfl (by decide) (OpT_run (Pu_loadB (r := 500) rfl Try.isAgg47 rfl rfl rfl) ⟨⟨rfl, ⟨rfl, trivial⟩⟩, ?_⟩) ?_
                ·
                  refine (AH_ready [11] (by kernel_rfl) (by decide) ?_)
                  refine AHs_cons rfl rfl rfl (by decide) (OpT_append (r := 552) (r2 := 501) rfl Try.underlying47 TI.hi51 TI.hz51 TI.hs51 TI.hby51 TI.hzs51 (by decide) rfl rfl rfl rfl (fun _ h => rowP_rd h) (onesC_one h1e) (by unfold maxLen; omega) (by omega) (fun v57 => ?_)) ?_
                  ·
                    refine ⟨⟨rfl, ⟨rfl, trivial⟩⟩, ?_⟩
                    refine AH_fact (r := 552) rfl (fun h hp => rd_one (rowP_rd hp)) (fun ho57 => ?_)
                    refine (AH_take 12 rfl (by kernel_rfl) (by kernel_rfl) (by kernel_rfl) rfl rfl (by decide) (Pu_nilCheck rfl rfl) (AH_take 13 rfl (by kernel_rfl) (by kernel_rfl) (by kernel_rfl) rfl rfl (by decide) (Pu_fieldAddrB (off := 1) rfl rfl (by kernel_rfl)) (AH_ready [14] (by kernel_rfl) (by decide) ?_)))
                    refine AHs_cons0 rfl rfl rfl (OpT_storeB1 (r := 500) rfl Try.sizeOf47 rfl rfl rfl ho57 (by simp) rfl ?_) ?_
                    ·
                      refine ⟨⟨rfl, ⟨rfl, trivial⟩⟩, ?_⟩
                      refine (AH_done (by kernel_rfl) (X_then ?_))
                      refine W_seq ?_
                      refine W.pre (K' := [(0, _), (2, _), (4, _), (31, _)]) (L' := [(0, _), (251, _), (500, _), (501, _), (502, _), (551, _), (552, _)]) ?_ ⟨rfl, ⟨rfl, ⟨rfl, ⟨rfl, trivial⟩⟩⟩⟩ ⟨rfl, ⟨rfl, ⟨rfl, ⟨rfl, ⟨rfl, ⟨rfl, ⟨rfl, trivial⟩⟩⟩⟩⟩⟩⟩
                      refine W_regL (WL_pure rfl rfl (by decide) (Pu_assign rfl rfl) (WL_nil (X_then ?_)))
                      refine W_ret ?_
                      refine X_turn (P' := rowP 51 33 v57 ((k, d) :: x).length (onesC ((k, v50) :: es))) 552 rfl (fun h hh => (congrFun (rowO_to ((k, v50) :: es) (by rw [List.length_cons]; omega) (by rw [onesC_cons]; simp)) h).mp hh) ?_
                      refine X_join [551, 502] 502 (dataR ((k, v50) :: es) ((k, d) :: x)) rfl (by decide) (fun h hs => dataR_new hs) ?_
                      refine X_join [500, 552, 502] 1 (refP g room ((k, d) :: x)) rfl (by decide) (fun h hs => closeRef (es := ((k, v50) :: es)) (by rw [List.reverse_cons]; exact hg.add (by rw [keys_reverse]; exact fun h => hkx (List.mem_reverse.1 h)) hk hd1 (by rw [total_reverse]; omega)) (by show k :: _ = k :: _; rw [hke]; rfl) (fun p hp => by rcases List.mem_cons.1 hp with rfl | hp; exact ho50; exact h1e p hp) ho57 hs) ?_
                      have hN : (putC room L.reverse k d).reverse = ((k, d) :: x) := by rw [hC, dropK_reverse (keys_nodup hgL), ← hev, evict_done (by rw [total_reverse]; omega)]; simp
                      exact X_ret [1] (Ps := [_]) (res1 Try.results16 rfl) rfl (by decide) ⟨by rw [hB], by rw [hN]⟩
                    exact AHs_nil
                  exact AHs_nil
                exact AHs_nil
              refine AHs_cons rfl rfl rfl (by decide) (OpT_run (Pu_loadB (r := 500) rfl Try.isAgg47 rfl rfl rfl) ⟨⟨rfl, ⟨rfl, trivial⟩⟩, ?_⟩) ?_
              ·
                refine (AH_ready [6] (by kernel_rfl) (by decide) ?_)
                refine AHs_cons rfl rfl rfl (by decide) (OpT_buildRows (r := 552) [oneC (k, v50)] rfl rfl Try.runUnderlying47 Try.sizeOf51 Try.zeroValue51 rfl (by decide) rfl (by decide) (by intro r hr; simp at hr; rw [hr]; exact oneC_length hk) rfl (fun v52 => ⟨⟨rfl, ⟨rfl, trivial⟩⟩, ?_⟩)) ?_
                ·
                  refine (AH_ready [11] (by kernel_rfl) (by decide) ?_)
                  refine AHs_cons rfl rfl rfl (by decide) (OpT_append (r := 552) (r2 := 501) rfl Try.underlying47 TI.hi51 TI.hz51 TI.hs51 TI.hby51 TI.hzs51 (by decide) rfl rfl rfl rfl (fun _ h => rowP_rd h) (onesC_one h1e) (by unfold maxLen; omega) (by omega) (fun v57 => ?_)) ?_
                  ·
                    refine ⟨⟨rfl, ⟨rfl, trivial⟩⟩, ?_⟩
                    refine AH_fact (r := 552) rfl (fun h hp => rd_one (rowP_rd hp)) (fun ho57 => ?_)
                    refine (AH_take 12 rfl (by kernel_rfl) (by kernel_rfl) (by kernel_rfl) rfl rfl (by decide) (Pu_nilCheck rfl rfl) (AH_take 13 rfl (by kernel_rfl) (by kernel_rfl) (by kernel_rfl) rfl rfl (by decide) (Pu_fieldAddrB (off := 1) rfl rfl (by kernel_rfl)) (AH_ready [14] (by kernel_rfl) (by decide) ?_)))
                    refine AHs_cons0 rfl rfl rfl (OpT_storeB1 (r := 500) rfl Try.sizeOf47 rfl rfl rfl ho57 (by simp) rfl ?_) ?_
                    ·
                      refine ⟨⟨rfl, ⟨rfl, trivial⟩⟩, ?_⟩
                      refine (AH_done (by kernel_rfl) (X_then ?_))
                      refine W_seq ?_
                      refine W.pre (K' := [(0, _), (2, _), (4, _), (31, _)]) (L' := [(0, _), (251, _), (500, _), (501, _), (502, _), (551, _), (552, _)]) ?_ ⟨rfl, ⟨rfl, ⟨rfl, ⟨rfl, trivial⟩⟩⟩⟩ ⟨rfl, ⟨rfl, ⟨rfl, ⟨rfl, ⟨rfl, ⟨rfl, ⟨rfl, trivial⟩⟩⟩⟩⟩⟩⟩
                      refine W_regL (WL_pure rfl rfl (by decide) (Pu_assign rfl rfl) (WL_nil (X_then ?_)))
                      refine W_ret ?_
                      refine X_turn (P' := rowP 51 33 v57 ((k, d) :: x).length (onesC ((k, v50) :: es))) 552 rfl (fun h hh => (congrFun (rowO_to ((k, v50) :: es) (by rw [List.length_cons]; omega) (by rw [onesC_cons]; simp)) h).mp hh) ?_
                      refine X_join [551, 502] 502 (dataR ((k, v50) :: es) ((k, d) :: x)) rfl (by decide) (fun h hs => dataR_new hs) ?_
                      refine X_join [500, 552, 502] 1 (refP g room ((k, d) :: x)) rfl (by decide) (fun h hs => closeRef (es := ((k, v50) :: es)) (by rw [List.reverse_cons]; exact hg.add (by rw [keys_reverse]; exact fun h => hkx (List.mem_reverse.1 h)) hk hd1 (by rw [total_reverse]; omega)) (by show k :: _ = k :: _; rw [hke]; rfl) (fun p hp => by rcases List.mem_cons.1 hp with rfl | hp; exact ho50; exact h1e p hp) ho57 hs) ?_
                      have hN : (putC room L.reverse k d).reverse = ((k, d) :: x) := by rw [hC, dropK_reverse (keys_nodup hgL), ← hev, evict_done (by rw [total_reverse]; omega)]; simp
                      exact X_ret [1] (Ps := [_]) (res1 Try.results16 rfl) rfl (by decide) ⟨by rw [hB], by rw [hN]⟩
                    exact AHs_nil
                  exact AHs_nil
                exact AHs_nil
              exact AHs_nil
            refine AHs_cons rfl rfl rfl (by decide) (OpT_run (Pu_loadB (r := 500) rfl Try.isAgg47 rfl rfl rfl) ⟨⟨rfl, ⟨rfl, trivial⟩⟩, ?_⟩) ?_
            ·
              refine (AH_ready [4] (by kernel_rfl) (by decide) ?_)
              refine AHs_cons rfl rfl rfl (by decide) (OpT_append (r := 551) (r2 := 0) (k1 := 0) rfl Try.underlying35 TI.hi5 TI.hz5 TI.hs5 TI.hby5 TI.hzs5 (by decide) rfl rfl rfl rfl hF (bs_one _) (by unfold maxLen; omega) (by omega) (fun v50 => ?_)) ?_
              ·
                refine ⟨⟨rfl, ⟨rfl, trivial⟩⟩, ?_⟩
                refine AH_fact (r := 551) rfl (fun h hp => rd_one (rowP_rd hp)) (fun ho50 => ?_)
                refine (AH_take 5 rfl (by kernel_rfl) (by kernel_rfl) (by kernel_rfl) rfl rfl (by decide) (Pu_build (V := .agg (oneC (k, v50)).toArray) [(0, 32), (32, 1)] (oneC (zeroId, .slice none 0 0)) rfl rfl (by kernel_rfl) (by kernel_rfl) (.many rfl ((bs_length _).trans hk) (by simp [oneC, bs_length, zeroId_length]) rfl (.one rfl ho50 (by simp [oneC, bs_length, zeroId_length, over, hk]) rfl (.nil _))) (congrArg (fun q => Value.agg (List.toArray q)) (one_build hk))) (AH_ready [6] (by kernel_rfl) (by decide) ?_))
                refine AHs_cons rfl rfl rfl (by decide) (OpT_buildRows (r := 552) [oneC (k, v50)] rfl rfl Try.runUnderlying47 Try.sizeOf51 Try.zeroValue51 rfl (by decide) rfl (by decide) (by intro r hr; simp at hr; rw [hr]; exact oneC_length hk) rfl (fun v52 => ⟨⟨rfl, ⟨rfl, trivial⟩⟩, ?_⟩)) ?_
                ·
                  refine (AH_ready [11] (by kernel_rfl) (by decide) ?_)
                  refine AHs_cons rfl rfl rfl (by decide) (OpT_append (r := 552) (r2 := 501) rfl Try.underlying47 TI.hi51 TI.hz51 TI.hs51 TI.hby51 TI.hzs51 (by decide) rfl rfl rfl rfl (fun _ h => rowP_rd h) (onesC_one h1e) (by unfold maxLen; omega) (by omega) (fun v57 => ?_)) ?_
                  ·
                    refine ⟨⟨rfl, ⟨rfl, trivial⟩⟩, ?_⟩
                    refine AH_fact (r := 552) rfl (fun h hp => rd_one (rowP_rd hp)) (fun ho57 => ?_)
                    refine (AH_take 12 rfl (by kernel_rfl) (by kernel_rfl) (by kernel_rfl) rfl rfl (by decide) (Pu_nilCheck rfl rfl) (AH_take 13 rfl (by kernel_rfl) (by kernel_rfl) (by kernel_rfl) rfl rfl (by decide) (Pu_fieldAddrB (off := 1) rfl rfl (by kernel_rfl)) (AH_ready [14] (by kernel_rfl) (by decide) ?_)))
                    refine AHs_cons0 rfl rfl rfl (OpT_storeB1 (r := 500) rfl Try.sizeOf47 rfl rfl rfl ho57 (by simp) rfl ?_) ?_
                    ·
                      refine ⟨⟨rfl, ⟨rfl, trivial⟩⟩, ?_⟩
                      refine (AH_done (by kernel_rfl) (X_then ?_))
                      refine W_seq ?_
                      refine W.pre (K' := [(0, _), (2, _), (4, _), (31, _)]) (L' := [(0, _), (251, _), (500, _), (501, _), (502, _), (551, _), (552, _)]) ?_ ⟨rfl, ⟨rfl, ⟨rfl, ⟨rfl, trivial⟩⟩⟩⟩ ⟨rfl, ⟨rfl, ⟨rfl, ⟨rfl, ⟨rfl, ⟨rfl, ⟨rfl, trivial⟩⟩⟩⟩⟩⟩⟩
                      refine W_regL (WL_pure rfl rfl (by decide) (Pu_assign rfl rfl) (WL_nil (X_then ?_)))
                      refine W_ret ?_
                      refine X_turn (P' := rowP 51 33 v57 ((k, d) :: x).length (onesC ((k, v50) :: es))) 552 rfl (fun h hh => (congrFun (rowO_to ((k, v50) :: es) (by rw [List.length_cons]; omega) (by rw [onesC_cons]; simp)) h).mp hh) ?_
                      refine X_join [551, 502] 502 (dataR ((k, v50) :: es) ((k, d) :: x)) rfl (by decide) (fun h hs => dataR_new hs) ?_
                      refine X_join [500, 552, 502] 1 (refP g room ((k, d) :: x)) rfl (by decide) (fun h hs => closeRef (es := ((k, v50) :: es)) (by rw [List.reverse_cons]; exact hg.add (by rw [keys_reverse]; exact fun h => hkx (List.mem_reverse.1 h)) hk hd1 (by rw [total_reverse]; omega)) (by show k :: _ = k :: _; rw [hke]; rfl) (fun p hp => by rcases List.mem_cons.1 hp with rfl | hp; exact ho50; exact h1e p hp) ho57 hs) ?_
                      have hN : (putC room L.reverse k d).reverse = ((k, d) :: x) := by rw [hC, dropK_reverse (keys_nodup hgL), ← hev, evict_done (by rw [total_reverse]; omega)]; simp
                      exact X_ret [1] (Ps := [_]) (res1 Try.results16 rfl) rfl (by decide) ⟨by rw [hB], by rw [hN]⟩
                    exact AHs_nil
                  exact AHs_nil
                exact AHs_nil
              exact AHs_nil
            exact AHs_nil
          refine AHs_cons rfl rfl rfl (by decide) (OpT_run (Pu_loadB (r := 500) rfl Try.isAgg47 rfl rfl rfl) ⟨⟨rfl, ⟨rfl, trivial⟩⟩, ?_⟩) ?_
          ·
            refine (AH_ready [2] (by kernel_rfl) (by decide) ?_)
            refine AHs_cons rfl rfl rfl (by decide) (OpT_buildOnes (r := 551) [] rfl rfl Try.runUnderlying35 Try.sizeOf5 Try.zeroValue5 rfl rfl (by decide) rfl (by simp) (fun v48 => ⟨⟨rfl, ⟨rfl, trivial⟩⟩, ?_⟩)) ?_
            ·
              refine (AH_ready [4] (by kernel_rfl) (by decide) ?_)
              refine AHs_cons rfl rfl rfl (by decide) (OpT_append (r := 551) (r2 := 0) (k1 := 0) rfl Try.underlying35 TI.hi5 TI.hz5 TI.hs5 TI.hby5 TI.hzs5 (by decide) rfl rfl rfl rfl hF (bs_one _) (by unfold maxLen; omega) (by omega) (fun v50 => ?_)) ?_
              ·
                refine ⟨⟨rfl, ⟨rfl, trivial⟩⟩, ?_⟩
                refine AH_fact (r := 551) rfl (fun h hp => rd_one (rowP_rd hp)) (fun ho50 => ?_)
                refine (AH_take 5 rfl (by kernel_rfl) (by kernel_rfl) (by kernel_rfl) rfl rfl (by decide) (Pu_build (V := .agg (oneC (k, v50)).toArray) [(0, 32), (32, 1)] (oneC (zeroId, .slice none 0 0)) rfl rfl (by kernel_rfl) (by kernel_rfl) (.many rfl ((bs_length _).trans hk) (by simp [oneC, bs_length, zeroId_length]) rfl (.one rfl ho50 (by simp [oneC, bs_length, zeroId_length, over, hk]) rfl (.nil _))) (congrArg (fun q => Value.agg (List.toArray q)) (one_build hk))) (AH_ready [6] (by kernel_rfl) (by decide) ?_))
                refine AHs_cons rfl rfl rfl (by decide) (OpT_buildRows (r := 552) [oneC (k, v50)] rfl rfl Try.runUnderlying47 Try.sizeOf51 Try.zeroValue51 rfl (by decide) rfl (by decide) (by intro r hr; simp at hr; rw [hr]; exact oneC_length hk) rfl (fun v52 => ⟨⟨rfl, ⟨rfl, trivial⟩⟩, ?_⟩)) ?_
                ·
                  refine (AH_ready [11] (by kernel_rfl) (by decide) ?_)
                  refine AHs_cons rfl rfl rfl (by decide) (OpT_append (r := 552) (r2 := 501) rfl Try.underlying47 TI.hi51 TI.hz51 TI.hs51 TI.hby51 TI.hzs51 (by decide) rfl rfl rfl rfl (fun _ h => rowP_rd h) (onesC_one h1e) (by unfold maxLen; omega) (by omega) (fun v57 => ?_)) ?_
                  ·
                    refine ⟨⟨rfl, ⟨rfl, trivial⟩⟩, ?_⟩
                    refine AH_fact (r := 552) rfl (fun h hp => rd_one (rowP_rd hp)) (fun ho57 => ?_)
                    refine (AH_take 12 rfl (by kernel_rfl) (by kernel_rfl) (by kernel_rfl) rfl rfl (by decide) (Pu_nilCheck rfl rfl) (AH_take 13 rfl (by kernel_rfl) (by kernel_rfl) (by kernel_rfl) rfl rfl (by decide) (Pu_fieldAddrB (off := 1) rfl rfl (by kernel_rfl)) (AH_ready [14] (by kernel_rfl) (by decide) ?_)))
                    refine AHs_cons0 rfl rfl rfl (OpT_storeB1 (r := 500) rfl Try.sizeOf47 rfl rfl rfl ho57 (by simp) rfl ?_) ?_
                    ·
                      refine ⟨⟨rfl, ⟨rfl, trivial⟩⟩, ?_⟩
                      refine (AH_done (by kernel_rfl) (X_then ?_))
                      refine W_seq ?_
                      refine W.pre (K' := [(0, _), (2, _), (4, _), (31, _)]) (L' := [(0, _), (251, _), (500, _), (501, _), (502, _), (551, _), (552, _)]) ?_ ⟨rfl, ⟨rfl, ⟨rfl, ⟨rfl, trivial⟩⟩⟩⟩ ⟨rfl, ⟨rfl, ⟨rfl, ⟨rfl, ⟨rfl, ⟨rfl, ⟨rfl, trivial⟩⟩⟩⟩⟩⟩⟩
                      refine W_regL (WL_pure rfl rfl (by decide) (Pu_assign rfl rfl) (WL_nil (X_then ?_)))
                      refine W_ret ?_
                      refine X_turn (P' := rowP 51 33 v57 ((k, d) :: x).length (onesC ((k, v50) :: es))) 552 rfl (fun h hh => (congrFun (rowO_to ((k, v50) :: es) (by rw [List.length_cons]; omega) (by rw [onesC_cons]; simp)) h).mp hh) ?_
                      refine X_join [551, 502] 502 (dataR ((k, v50) :: es) ((k, d) :: x)) rfl (by decide) (fun h hs => dataR_new hs) ?_
                      refine X_join [500, 552, 502] 1 (refP g room ((k, d) :: x)) rfl (by decide) (fun h hs => closeRef (es := ((k, v50) :: es)) (by rw [List.reverse_cons]; exact hg.add (by rw [keys_reverse]; exact fun h => hkx (List.mem_reverse.1 h)) hk hd1 (by rw [total_reverse]; omega)) (by show k :: _ = k :: _; rw [hke]; rfl) (fun p hp => by rcases List.mem_cons.1 hp with rfl | hp; exact ho50; exact h1e p hp) ho57 hs) ?_
                      have hN : (putC room L.reverse k d).reverse = ((k, d) :: x) := by rw [hC, dropK_reverse (keys_nodup hgL), ← hev, evict_done (by rw [total_reverse]; omega)]; simp
                      exact X_ret [1] (Ps := [_]) (res1 Try.results16 rfl) rfl (by decide) ⟨by rw [hB], by rw [hN]⟩
                    exact AHs_nil
                  exact AHs_nil
                exact AHs_nil
              exact AHs_nil
            exact AHs_nil
          exact AHs_nil
      exact AHs_nil
    refine AHs_cons rfl rfl rfl (by decide) (OpT_run (Pu_load1 (r := 1) rfl Try.isAgg3 rfl rfl (fun h hp => refP_room hp)) ⟨⟨rfl, ⟨rfl, trivial⟩⟩, ?_⟩) ?_
    ·
      refine (AH_ready [1] (by kernel_rfl) (by decide) ?_)
      refine AHs_cons rfl rfl rfl (by decide) (OpT_call 400 [0, 251] [1] rfl Try.call19 rfl rfl rfl (by decide) (by decide) (refTotal_spec g room x _) (fun v23 Ps23 hR23 => ?_)) ?_
      ·
        obtain ⟨rfl, rfl⟩ := hR23
        refine ⟨⟨rfl, ⟨rfl, trivial⟩⟩, ?_⟩
        refine (AH_take 4 rfl (by kernel_rfl) (by kernel_rfl) (by kernel_rfl) rfl rfl (by decide) (Pu_bin rfl rfl rfl (run_add _ _ _ _ _ (by omega))) (AH_take 9 rfl (by kernel_rfl) (by kernel_rfl) (by kernel_rfl) rfl rfl (by decide) (Pu_bin rfl rfl rfl (run_gtr _ _ _ _ _ _)) (AH_done (by kernel_rfl) (X_then ?_))))
        refine W_cond rfl (fun hc31 => ?_) (fun hc31 => ?_)
        ·
          have hgt := of_decide_eq_true hc31
          have hpos : 0 < x.length := by rcases x with _ | ⟨a, y⟩; simp [total] at hgt; omega; simp
          refine W_skip (X_then ?_)
          refine W_block ?_
          refine W.pre (K' := [(0, _), (2, _), (4, _), (31, _)]) (L' := [(0, _), (251, _), (400, _)]) ?_ ⟨rfl, ⟨rfl, ⟨rfl, ⟨rfl, trivial⟩⟩⟩⟩ ⟨rfl, ⟨rfl, ⟨rfl, trivial⟩⟩⟩
          clear hg
          refine W_openRef 400 500 rfl (fun v es hg hke h1e ho => ?_)
          have hlen := hg.len
          have hfit := hg.fits
          have hmost := hg.most
          rw [List.length_reverse] at hlen
          rw [total_reverse] at hfit
          have hids : Ids (es.map (·.1)) := fun y hy => hg.ids y (by rw [keys_reverse, ← hke]; exact List.mem_reverse.2 hy)
          have hel : es.length = x.length := by have := congrArg List.length hke; simpa [keys] using this
          refine W_draw (N := 15) (by kernel_rfl) rfl [(0, _), (251, _), (501, _)] ⟨rfl, ⟨rfl, ⟨rfl, trivial⟩⟩⟩ ?_
          refine (AH_take 0 rfl (by kernel_rfl) (by kernel_rfl) (by kernel_rfl) rfl rfl (by decide) (Pu_move rfl rfl) (AH_take 1 rfl (by kernel_rfl) (by kernel_rfl) (by kernel_rfl) rfl rfl (by decide) (Pu_move rfl rfl) (AH_take 2 rfl (by kernel_rfl) (by kernel_rfl) (by kernel_rfl) rfl rfl (by decide) (Pu_nilCheck rfl rfl) (AH_take 3 rfl (by kernel_rfl) (by kernel_rfl) (by kernel_rfl) rfl rfl (by decide) (Pu_fieldAddrB (off := 1) rfl rfl (by kernel_rfl)) (AH_take 5 rfl (by kernel_rfl) (by kernel_rfl) (by kernel_rfl) rfl rfl (by decide) (Pu_move rfl rfl) (AH_take 6 rfl (by kernel_rfl) (by kernel_rfl) (by kernel_rfl) rfl rfl (by decide) (Pu_nilCheck rfl rfl) (AH_take 7 rfl (by kernel_rfl) (by kernel_rfl) (by kernel_rfl) rfl rfl (by decide) (Pu_fieldAddrB (off := 1) rfl rfl (by kernel_rfl)) (AH_ready [4, 8] (by kernel_rfl) (by decide) ?_))))))))
          refine AHs_cons rfl rfl rfl (by decide) (OpT_run (Pu_loadB (r := 500) rfl Try.isAgg47 rfl rfl rfl) ⟨⟨rfl, ⟨rfl, ⟨rfl, trivial⟩⟩⟩, ?_⟩) ?_
          ·
            refine (AH_ready [8] (by kernel_rfl) (by decide) ?_)
            refine AHs_cons rfl rfl rfl (by decide) (OpT_run (Pu_loadB (r := 500) rfl Try.isAgg47 rfl rfl rfl) ⟨⟨rfl, ⟨rfl, ⟨rfl, trivial⟩⟩⟩, ?_⟩) ?_
            ·
              refine (AH_take 9 rfl (by kernel_rfl) (by kernel_rfl) (by kernel_rfl) rfl rfl (by decide) (Pu_len (r := 501) rfl Try.runUnderlying47 rfl rfl (fun _ h => rowP_rd h)) (AH_take 10 rfl (by kernel_rfl) (by kernel_rfl) (by kernel_rfl) rfl rfl (by decide) (Pu_bin rfl rfl rfl (run_sub _ _ _ _ _ (by omega))) (AH_take 11 rfl (by kernel_rfl) (by kernel_rfl) (by kernel_rfl) rfl rfl (by decide) (Pu_slice (r := 501) (a := 0) (b := (x.length - 1)) rfl Try.runUnderlying47 Try.sizeOf51 rfl rfl (fun _ h => rowP_rd h) (.inl ⟨rfl, rfl⟩) (.inr ⟨_, _, _, rfl, rfl, (by omega)⟩) (Nat.zero_le _) (by omega)) (AH_take 12 rfl (by kernel_rfl) (by kernel_rfl) (by kernel_rfl) rfl rfl (by decide) (Pu_nilCheck rfl rfl) (AH_take 13 rfl (by kernel_rfl) (by kernel_rfl) (by kernel_rfl) rfl rfl (by decide) (Pu_fieldAddrB (off := 1) rfl rfl (by kernel_rfl)) (AH_ready [14] (by kernel_rfl) (by decide) ?_))))))
              refine AHs_cons0 rfl rfl rfl (OpT_storeB1 (r := 500) rfl Try.sizeOf47 rfl rfl rfl (sub_one ho) (by simp) rfl ?_) ?_
              ·
                refine ⟨⟨rfl, ⟨rfl, ⟨rfl, trivial⟩⟩⟩, ?_⟩
                refine (AH_done (by kernel_rfl) (X_block ?_))
                refine X_turn (P' := rowP 51 33 (subV 33 v 0 (x.length - 1)) (x.take (x.length - 1)).length (onesC (es.take (x.length - 1)))) 501 rfl (fun h hh => (congrFun (rowO_to (es.take (x.length - 1)) (by rw [List.length_take]; omega) (by rw [onesC_take hids])) h).mp (rowP_cut hh (by omega))) ?_
                refine X_turn (P' := dataR (es.take (x.length - 1)) (x.take (x.length - 1))) 502 rfl (fun h hh => dataR_last hh _) ?_
                refine X_join [500, 501, 502] 1 (refP g room (x.take (x.length - 1))) rfl (by decide) (fun h hs => closeRef (es := (es.take (x.length - 1))) (Gd_less hg _) (by rw [List.map_take, hke]; simp [keys, List.map_take]) (fun p hp => h1e p (List.mem_of_mem_take hp)) (sub_one ho) hs) ?_
                exact X_round (x.take (x.length - 1)) ⟨fun hm => hkx (keys_take hm), by rw [← hev]; exact (evict_last hpos (by omega)).symm⟩ (by show (x.take (x.length - 1)).length < x.length; rw [List.length_take]; omega) ⟨rfl, rfl, rfl, trivial⟩ ⟨rfl, rfl, rfl, trivial⟩
              exact AHs_nil
            exact AHs_nil
          refine AHs_cons rfl rfl rfl (by decide) (OpT_run (Pu_loadB (r := 500) rfl Try.isAgg47 rfl rfl rfl) ⟨⟨rfl, ⟨rfl, ⟨rfl, trivial⟩⟩⟩, ?_⟩) ?_
          ·
            refine (AH_take 9 rfl (by kernel_rfl) (by kernel_rfl) (by kernel_rfl) rfl rfl (by decide) (Pu_len (r := 501) rfl Try.runUnderlying47 rfl rfl (fun _ h => rowP_rd h)) (AH_take 10 rfl (by kernel_rfl) (by kernel_rfl) (by kernel_rfl) rfl rfl (by decide) (Pu_bin rfl rfl rfl (run_sub _ _ _ _ _ (by omega))) (AH_ready [4] (by kernel_rfl) (by decide) ?_)))
            refine AHs_cons rfl rfl rfl (by decide) (OpT_run (Pu_loadB (r := 500) rfl Try.isAgg47 rfl rfl rfl) ⟨⟨rfl, ⟨rfl, ⟨rfl, trivial⟩⟩⟩, ?_⟩) ?_
            ·
              refine (AH_take 11 rfl (by kernel_rfl) (by kernel_rfl) (by kernel_rfl) rfl rfl (by decide) (Pu_slice (r := 501) (a := 0) (b := (x.length - 1)) rfl Try.runUnderlying47 Try.sizeOf51 rfl rfl (fun _ h => rowP_rd h) (.inl ⟨rfl, rfl⟩) (.inr ⟨_, _, _, rfl, rfl, (by omega)⟩) (Nat.zero_le _) (by omega)) (AH_take 12 rfl (by kernel_rfl) (by kernel_rfl) (by kernel_rfl) rfl rfl (by decide) (Pu_nilCheck rfl rfl) (AH_take 13 rfl (by kernel_rfl) (by kernel_rfl) (by kernel_rfl) rfl rfl (by decide) (Pu_fieldAddrB (off := 1) rfl rfl (by kernel_rfl)) (AH_ready [14] (by kernel_rfl) (by decide) ?_))))
              refine AHs_cons0 rfl rfl rfl (OpT_storeB1 (r := 500) rfl Try.sizeOf47 rfl rfl rfl (sub_one ho) (by simp) rfl ?_) ?_
              ·
                refine ⟨⟨rfl, ⟨rfl, ⟨rfl, trivial⟩⟩⟩, ?_⟩
                refine (AH_done (by kernel_rfl) (X_block ?_))
                refine X_turn (P' := rowP 51 33 (subV 33 v 0 (x.length - 1)) (x.take (x.length - 1)).length (onesC (es.take (x.length - 1)))) 501 rfl (fun h hh => (congrFun (rowO_to (es.take (x.length - 1)) (by rw [List.length_take]; omega) (by rw [onesC_take hids])) h).mp (rowP_cut hh (by omega))) ?_
                refine X_turn (P' := dataR (es.take (x.length - 1)) (x.take (x.length - 1))) 502 rfl (fun h hh => dataR_last hh _) ?_
                refine X_join [500, 501, 502] 1 (refP g room (x.take (x.length - 1))) rfl (by decide) (fun h hs => closeRef (es := (es.take (x.length - 1))) (Gd_less hg _) (by rw [List.map_take, hke]; simp [keys, List.map_take]) (fun p hp => h1e p (List.mem_of_mem_take hp)) (sub_one ho) hs) ?_
                exact X_round (x.take (x.length - 1)) ⟨fun hm => hkx (keys_take hm), by rw [← hev]; exact (evict_last hpos (by omega)).symm⟩ (by show (x.take (x.length - 1)).length < x.length; rw [List.length_take]; omega) ⟨rfl, rfl, rfl, trivial⟩ ⟨rfl, rfl, rfl, trivial⟩
              exact AHs_nil
            exact AHs_nil
          exact AHs_nil
        ·
          have hge := of_decide_eq_false hc31
          refine W_exit (X_then_exit (X_then_exit (X_block_exit (X_then ?_))))
          refine W_seq ?_
          refine W.pre (K' := [(0, _), (2, _), (4, _), (31, _)]) (L' := [(0, _), (251, _), (400, _)]) ?_ ⟨rfl, ⟨rfl, ⟨rfl, ⟨rfl, trivial⟩⟩⟩⟩ ⟨rfl, ⟨rfl, ⟨rfl, trivial⟩⟩⟩
          clear hg
          refine W_openRef 400 500 rfl (fun v es hg hke h1e ho => ?_)
          have hlen := hg.len
          have hfit := hg.fits
          have hmost := hg.most
          rw [List.length_reverse] at hlen
          rw [total_reverse] at hfit
          have hids : Ids (es.map (·.1)) := fun y hy => hg.ids y (by rw [keys_reverse, ← hke]; exact List.mem_reverse.2 hy)
          have hel : es.length = x.length := by have := congrArg List.length hke; simpa [keys] using this
          refine W_draw (N := 15) (by kernel_rfl) rfl [(0, _), (251, _)] ⟨rfl, ⟨rfl, trivial⟩⟩ ?_
          refine (AH_take 0 rfl (by kernel_rfl) (by kernel_rfl) (by kernel_rfl) rfl rfl (by decide) (Pu_move rfl rfl) (AH_take 1 rfl (by kernel_rfl) (by kernel_rfl) (by kernel_rfl) rfl rfl (by decide) (Pu_loadBN (r := 251) rfl Try.isAgg33 Try.sizeOf33 rfl rfl ((bs_length _).trans hk) (load_all ((bs_length _).trans hk))) (AH_take 3 rfl (by kernel_rfl) (by kernel_rfl) (by kernel_rfl) rfl rfl (by decide) (Pu_move rfl rfl) (AH_take 7 rfl (by kernel_rfl) (by kernel_rfl) (by kernel_rfl) rfl rfl (by decide) (Pu_move rfl rfl) (AH_take 8 rfl (by kernel_rfl) (by kernel_rfl) (by kernel_rfl) rfl rfl (by decide) (Pu_nilCheck rfl rfl) (AH_take 9 rfl (by kernel_rfl) (by kernel_rfl) (by kernel_rfl) rfl rfl (by decide) (Pu_fieldAddrB (off := 1) rfl rfl (by kernel_rfl)) (AH_ready [2, 10] (by kernel_rfl) (by decide) ?_)))))))
          refine AHs_cons rfl rfl rfl (by decide) (OpT_buildOnes (r := 551) [] rfl rfl Try.runUnderlying35 Try.sizeOf5 Try.zeroValue5 rfl rfl (by decide) rfl (by simp) (fun v48 => ⟨⟨rfl, ⟨rfl, trivial⟩⟩, ?_⟩)) ?_
          ·
            refine (AH_ready [4, 10] (by kernel_rfl) (by decide) ?_)
            refine AHs_cons rfl rfl rfl (by decide) (OpT_append (r := 551) (r2 := 0) (k1 := 0) rfl Try.underlying35 TI.hi5 TI.hz5 TI.hs5 TI.hby5 TI.hzs5 (by decide) rfl rfl rfl rfl hF (bs_one _) (by unfold maxLen; omega) (by omega) (fun v50 => ?_)) ?_
            ·
              refine ⟨⟨rfl, ⟨rfl, trivial⟩⟩, ?_⟩
              refine AH_fact (r := 551) rfl (fun h hp => rd_one (rowP_rd hp)) (fun ho50 => ?_)
              refine (AH_take 5 rfl (by kernel_rfl) (by kernel_rfl) (by kernel_rfl) rfl rfl (by decide) (Pu_build (V := .agg (oneC (k, v50)).toArray) [(0, 32), (32, 1)] (oneC (zeroId, .slice none 0 0)) rfl rfl (by kernel_rfl) (by kernel_rfl) (.many rfl ((bs_length _).trans hk) (by simp [oneC, bs_length, zeroId_length]) rfl (.one rfl ho50 (by simp [oneC, bs_length, zeroId_length, over, hk]) rfl (.nil _))) (congrArg (fun q => Value.agg (List.toArray q)) (one_build hk))) (AH_ready [6, 10] (by kernel_rfl) (by decide) ?_))
              refine AHs_cons rfl rfl rfl (by decide) (OpT_buildRows (r := 552) [oneC (k, v50)] rfl rfl Try.runUnderlying47 Try.sizeOf51 Try.zeroValue51 rfl (by decide) rfl (by decide) (by intro r hr; simp at hr; rw [hr]; exact oneC_length hk) rfl (fun v52 => ⟨⟨rfl, ⟨rfl, trivial⟩⟩, ?_⟩)) ?_
              ·
                refine (AH_ready [10] (by kernel_rfl) (by decide) ?_)
                refine AHs_cons rfl rfl rfl (by decide) (OpT_run (Pu_loadB (r := 500) rfl Try.isAgg47 rfl rfl rfl) ⟨⟨rfl, ⟨rfl, trivial⟩⟩, ?_⟩) ?_
                ·
                  refine (AH_ready [11] (by kernel_rfl) (by decide) ?_)
                  refine AHs_cons rfl rfl rfl (by decide) (OpT_append (r := 552) (r2 := 501) rfl Try.underlying47 TI.hi51 TI.hz51 TI.hs51 TI.hby51 TI.hzs51 (by decide) rfl rfl rfl rfl (fun _ h => rowP_rd h) (onesC_one h1e) (by unfold maxLen; omega) (by omega) (fun v57 => ?_)) ?_
                  ·
                    refine ⟨⟨rfl, ⟨rfl, trivial⟩⟩, ?_⟩
                    refine AH_fact (r := 552) rfl (fun h hp => rd_one (rowP_rd hp)) (fun ho57 => ?_)
                    refine (AH_take 12 rfl (by kernel_rfl) (by kernel_rfl) (by kernel_rfl) rfl rfl (by decide) (Pu_nilCheck rfl rfl) (AH_take 13 rfl (by kernel_rfl) (by kernel_rfl) (by kernel_rfl) rfl rfl (by decide) (Pu_fieldAddrB (off := 1) rfl rfl (by kernel_rfl)) (AH_ready [14] (by kernel_rfl) (by decide) ?_)))
                    refine AHs_cons0 rfl rfl rfl (OpT_storeB1 (r := 500) rfl Try.sizeOf47 rfl rfl rfl ho57 (by simp) rfl ?_) ?_
                    ·
                      refine ⟨⟨rfl, ⟨rfl, trivial⟩⟩, ?_⟩
                      refine (AH_done (by kernel_rfl) (X_then ?_))
                      refine W_seq ?_
                      refine W.pre (K' := [(0, _), (2, _), (4, _), (31, _)]) (L' := [(0, _), (251, _), (500, _), (501, _), (502, _), (551, _), (552, _)]) ?_ ⟨rfl, ⟨rfl, ⟨rfl, ⟨rfl, trivial⟩⟩⟩⟩ ⟨rfl, ⟨rfl, ⟨rfl, ⟨rfl, ⟨rfl, ⟨rfl, ⟨rfl, trivial⟩⟩⟩⟩⟩⟩⟩
                      refine W_regL (WL_pure rfl rfl (by decide) (Pu_assign rfl rfl) (WL_nil (X_then ?_)))
                      refine W_ret ?_
                      refine X_turn (P' := rowP 51 33 v57 ((k, d) :: x).length (onesC ((k, v50) :: es))) 552 rfl (fun h hh => (congrFun (rowO_to ((k, v50) :: es) (by rw [List.length_cons]; omega) (by rw [onesC_cons]; simp)) h).mp hh) ?_
                      refine X_join [551, 502] 502 (dataR ((k, v50) :: es) ((k, d) :: x)) rfl (by decide) (fun h hs => dataR_new hs) ?_
                      refine X_join [500, 552, 502] 1 (refP g room ((k, d) :: x)) rfl (by decide) (fun h hs => closeRef (es := ((k, v50) :: es)) (by rw [List.reverse_cons]; exact hg.add (by rw [keys_reverse]; exact fun h => hkx (List.mem_reverse.1 h)) hk hd1 (by rw [total_reverse]; omega)) (by show k :: _ = k :: _; rw [hke]; rfl) (fun p hp => by rcases List.mem_cons.1 hp with rfl | hp; exact ho50; exact h1e p hp) ho57 hs) ?_
                      have hN : (putC room L.reverse k d).reverse = ((k, d) :: x) := by rw [hC, dropK_reverse (keys_nodup hgL), ← hev, evict_done (by rw [total_reverse]; omega)]; simp
                      exact X_ret [1] (Ps := [_]) (res1 Try.results16 rfl) rfl (by decide) ⟨by rw [hB], by rw [hN]⟩
                    exact AHs_nil
                  exact AHs_nil
                exact AHs_nil
              refine AHs_cons rfl rfl rfl (by decide) (OpT_run (Pu_loadB (r := 500) rfl Try.isAgg47 rfl rfl rfl) ⟨⟨rfl, ⟨rfl, trivial⟩⟩, ?_⟩) ?_
              ·
                refine (AH_ready [6] (by kernel_rfl) (by decide) ?_)
                refine AHs_cons rfl rfl rfl (by decide) (OpT_buildRows (r := 552) [oneC (k, v50)] rfl rfl Try.runUnderlying47 Try.sizeOf51 Try.zeroValue51 rfl (by decide) rfl (by decide) (by intro r hr; simp at hr; rw [hr]; exact oneC_length hk) rfl (fun v52 => ⟨⟨rfl, ⟨rfl, trivial⟩⟩, ?_⟩)) ?_
                ·
                  refine (AH_ready [11] (by kernel_rfl) (by decide) ?_)
                  refine AHs_cons rfl rfl rfl (by decide) (OpT_append (r := 552) (r2 := 501) rfl Try.underlying47 TI.hi51 TI.hz51 TI.hs51 TI.hby51 TI.hzs51 (by decide) rfl rfl rfl rfl (fun _ h => rowP_rd h) (onesC_one h1e) (by unfold maxLen; omega) (by omega) (fun v57 => ?_)) ?_
                  ·
                    refine ⟨⟨rfl, ⟨rfl, trivial⟩⟩, ?_⟩
                    refine AH_fact (r := 552) rfl (fun h hp => rd_one (rowP_rd hp)) (fun ho57 => ?_)
                    refine (AH_take 12 rfl (by kernel_rfl) (by kernel_rfl) (by kernel_rfl) rfl rfl (by decide) (Pu_nilCheck rfl rfl) (AH_take 13 rfl (by kernel_rfl) (by kernel_rfl) (by kernel_rfl) rfl rfl (by decide) (Pu_fieldAddrB (off := 1) rfl rfl (by kernel_rfl)) (AH_ready [14] (by kernel_rfl) (by decide) ?_)))
                    refine AHs_cons0 rfl rfl rfl (OpT_storeB1 (r := 500) rfl Try.sizeOf47 rfl rfl rfl ho57 (by simp) rfl ?_) ?_
                    ·
                      refine ⟨⟨rfl, ⟨rfl, trivial⟩⟩, ?_⟩
                      refine (AH_done (by kernel_rfl) (X_then ?_))
                      refine W_seq ?_
                      refine W.pre (K' := [(0, _), (2, _), (4, _), (31, _)]) (L' := [(0, _), (251, _), (500, _), (501, _), (502, _), (551, _), (552, _)]) ?_ ⟨rfl, ⟨rfl, ⟨rfl, ⟨rfl, trivial⟩⟩⟩⟩ ⟨rfl, ⟨rfl, ⟨rfl, ⟨rfl, ⟨rfl, ⟨rfl, ⟨rfl, trivial⟩⟩⟩⟩⟩⟩⟩
                      refine W_regL (WL_pure rfl rfl (by decide) (Pu_assign rfl rfl) (WL_nil (X_then ?_)))
                      refine W_ret ?_
                      refine X_turn (P' := rowP 51 33 v57 ((k, d) :: x).length (onesC ((k, v50) :: es))) 552 rfl (fun h hh => (congrFun (rowO_to ((k, v50) :: es) (by rw [List.length_cons]; omega) (by rw [onesC_cons]; simp)) h).mp hh) ?_
                      refine X_join [551, 502] 502 (dataR ((k, v50) :: es) ((k, d) :: x)) rfl (by decide) (fun h hs => dataR_new hs) ?_
                      refine X_join [500, 552, 502] 1 (refP g room ((k, d) :: x)) rfl (by decide) (fun h hs => closeRef (es := ((k, v50) :: es)) (by rw [List.reverse_cons]; exact hg.add (by rw [keys_reverse]; exact fun h => hkx (List.mem_reverse.1 h)) hk hd1 (by rw [total_reverse]; omega)) (by show k :: _ = k :: _; rw [hke]; rfl) (fun p hp => by rcases List.mem_cons.1 hp with rfl | hp; exact ho50; exact h1e p hp) ho57 hs) ?_
                      have hN : (putC room L.reverse k d).reverse = ((k, d) :: x) := by rw [hC, dropK_reverse (keys_nodup hgL), ← hev, evict_done (by rw [total_reverse]; omega)]; simp
                      exact X_ret [1] (Ps := [_]) (res1 Try.results16 rfl) rfl (by decide) ⟨by rw [hB], by rw [hN]⟩
                    exact AHs_nil
                  exact AHs_nil
                exact AHs_nil
              exact AHs_nil
            refine AHs_cons rfl rfl rfl (by decide) (OpT_run (Pu_loadB (r := 500) rfl Try.isAgg47 rfl rfl rfl) ⟨⟨rfl, ⟨rfl, trivial⟩⟩, ?_⟩) ?_
            ·
              refine (AH_ready [4] (by kernel_rfl) (by decide) ?_)
              refine AHs_cons rfl rfl rfl (by decide) (OpT_append (r := 551) (r2 := 0) (k1 := 0) rfl Try.underlying35 TI.hi5 TI.hz5 TI.hs5 TI.hby5 TI.hzs5 (by decide) rfl rfl rfl rfl hF (bs_one _) (by unfold maxLen; omega) (by omega) (fun v50 => ?_)) ?_
              ·
                refine ⟨⟨rfl, ⟨rfl, trivial⟩⟩, ?_⟩
                refine AH_fact (r := 551) rfl (fun h hp => rd_one (rowP_rd hp)) (fun ho50 => ?_)
                refine (AH_take 5 rfl (by kernel_rfl) (by kernel_rfl) (by kernel_rfl) rfl rfl (by decide) (Pu_build (V := .agg (oneC (k, v50)).toArray) [(0, 32), (32, 1)] (oneC (zeroId, .slice none 0 0)) rfl rfl (by kernel_rfl) (by kernel_rfl) (.many rfl ((bs_length _).trans hk) (by simp [oneC, bs_length, zeroId_length]) rfl (.one rfl ho50 (by simp [oneC, bs_length, zeroId_length, over, hk]) rfl (.nil _))) (congrArg (fun q => Value.agg (List.toArray q)) (one_build hk))) (AH_ready [6] (by kernel_rfl) (by decide) ?_))
                refine AHs_cons rfl rfl rfl (by decide) (OpT_buildRows (r := 552) [oneC (k, v50)] rfl rfl Try.runUnderlying47 Try.sizeOf51 Try.zeroValue51 rfl (by decide) rfl (by decide) (by intro r hr; simp at hr; rw [hr]; exact oneC_length hk) rfl (fun v52 => ⟨⟨rfl, ⟨rfl, trivial⟩⟩, ?_⟩)) ?_
                ·
                  refine (AH_ready [11] (by kernel_rfl) (by decide) ?_)
                  refine AHs_cons rfl rfl rfl (by decide) (OpT_append (r := 552) (r2 := 501) rfl Try.underlying47 TI.hi51 TI.hz51 TI.hs51 TI.hby51 TI.hzs51 (by decide) rfl rfl rfl rfl (fun _ h => rowP_rd h) (onesC_one h1e) (by unfold maxLen; omega) (by omega) (fun v57 => ?_)) ?_
                  ·
                    refine ⟨⟨rfl, ⟨rfl, trivial⟩⟩, ?_⟩
                    refine AH_fact (r := 552) rfl (fun h hp => rd_one (rowP_rd hp)) (fun ho57 => ?_)
                    refine (AH_take 12 rfl (by kernel_rfl) (by kernel_rfl) (by kernel_rfl) rfl rfl (by decide) (Pu_nilCheck rfl rfl) (AH_take 13 rfl (by kernel_rfl) (by kernel_rfl) (by kernel_rfl) rfl rfl (by decide) (Pu_fieldAddrB (off := 1) rfl rfl (by kernel_rfl)) (AH_ready [14] (by kernel_rfl) (by decide) ?_)))
                    refine AHs_cons0 rfl rfl rfl (OpT_storeB1 (r := 500) rfl Try.sizeOf47 rfl rfl rfl ho57 (by simp) rfl ?_) ?_
                    ·
                      refine ⟨⟨rfl, ⟨rfl, trivial⟩⟩, ?_⟩
                      refine (AH_done (by kernel_rfl) (X_then ?_))
                      refine W_seq ?_
                      refine W.pre (K' := [(0, _), (2, _), (4, _), (31, _)]) (L' := [(0, _), (251, _), (500, _), (501, _), (502, _), (551, _), (552, _)]) ?_ ⟨rfl, ⟨rfl, ⟨rfl, ⟨rfl, trivial⟩⟩⟩⟩ ⟨rfl, ⟨rfl, ⟨rfl, ⟨rfl, ⟨rfl, ⟨rfl, ⟨rfl, trivial⟩⟩⟩⟩⟩⟩⟩
                      refine W_regL (WL_pure rfl rfl (by decide) (Pu_assign rfl rfl) (WL_nil (X_then ?_)))
                      refine W_ret ?_
                      refine X_turn (P' := rowP 51 33 v57 ((k, d) :: x).length (onesC ((k, v50) :: es))) 552 rfl (fun h hh => (congrFun (rowO_to ((k, v50) :: es) (by rw [List.length_cons]; omega) (by rw [onesC_cons]; simp)) h).mp hh) ?_
                      refine X_join [551, 502] 502 (dataR ((k, v50) :: es) ((k, d) :: x)) rfl (by decide) (fun h hs => dataR_new hs) ?_
                      refine X_join [500, 552, 502] 1 (refP g room ((k, d) :: x)) rfl (by decide) (fun h hs => closeRef (es := ((k, v50) :: es)) (by rw [List.reverse_cons]; exact hg.add (by rw [keys_reverse]; exact fun h => hkx (List.mem_reverse.1 h)) hk hd1 (by rw [total_reverse]; omega)) (by show k :: _ = k :: _; rw [hke]; rfl) (fun p hp => by rcases List.mem_cons.1 hp with rfl | hp; exact ho50; exact h1e p hp) ho57 hs) ?_
                      have hN : (putC room L.reverse k d).reverse = ((k, d) :: x) := by rw [hC, dropK_reverse (keys_nodup hgL), ← hev, evict_done (by rw [total_reverse]; omega)]; simp
                      exact X_ret [1] (Ps := [_]) (res1 Try.results16 rfl) rfl (by decide) ⟨by rw [hB], by rw [hN]⟩
                    exact AHs_nil
                  exact AHs_nil
                exact AHs_nil
              exact AHs_nil
            exact AHs_nil
          refine AHs_cons rfl rfl rfl (by decide) (OpT_run (Pu_loadB (r := 500) rfl Try.isAgg47 rfl rfl rfl) ⟨⟨rfl, ⟨rfl, trivial⟩⟩, ?_⟩) ?_
          ·
            refine (AH_ready [2] (by kernel_rfl) (by decide) ?_)
            refine AHs_cons rfl rfl rfl (by decide) (OpT_buildOnes (r := 551) [] rfl rfl Try.runUnderlying35 Try.sizeOf5 Try.zeroValue5 rfl rfl (by decide) rfl (by simp) (fun v48 => ⟨⟨rfl, ⟨rfl, trivial⟩⟩, ?_⟩)) ?_
            ·
              refine (AH_ready [4] (by kernel_rfl) (by decide) ?_)
              refine AHs_cons rfl rfl rfl (by decide) (OpT_append (r := 551) (r2 := 0) (k1 := 0) rfl Try.underlying35 TI.hi5 TI.hz5 TI.hs5 TI.hby5 TI.hzs5 (by decide) rfl rfl rfl rfl hF (bs_one _) (by unfold maxLen; omega) (by omega) (fun v50 => ?_)) ?_
              ·
                refine ⟨⟨rfl, ⟨rfl, trivial⟩⟩, ?_⟩
                refine AH_fact (r := 551) rfl (fun h hp => rd_one (rowP_rd hp)) (fun ho50 => ?_)
                refine (AH_take 5 rfl (by kernel_rfl) (by kernel_rfl) (by kernel_rfl) rfl rfl (by decide) (Pu_build (V := .agg (oneC (k, v50)).toArray) [(0, 32), (32, 1)] (oneC (zeroId, .slice none 0 0)) rfl rfl (by kernel_rfl) (by kernel_rfl) (.many rfl ((bs_length _).trans hk) (by simp [oneC, bs_length, zeroId_length]) rfl (.one rfl ho50 (by simp [oneC, bs_length, zeroId_length, over, hk]) rfl (.nil _))) (congrArg (fun q => Value.agg (List.toArray q)) (one_build hk))) (AH_ready [6] (by kernel_rfl) (by decide) ?_))
                refine AHs_cons rfl rfl rfl (by decide) (OpT_buildRows (r := 552) [oneC (k, v50)] rfl rfl Try.runUnderlying47 Try.sizeOf51 Try.zeroValue51 rfl (by decide) rfl (by decide) (by intro r hr; simp at hr; rw [hr]; exact oneC_length hk) rfl (fun v52 => ⟨⟨rfl, ⟨rfl, trivial⟩⟩, ?_⟩)) ?_
                ·
                  refine (AH_ready [11] (by kernel_rfl) (by decide) ?_)
                  refine AHs_cons rfl rfl rfl (by decide) (OpT_append (r := 552) (r2 := 501) rfl Try.underlying47 TI.hi51 TI.hz51 TI.hs51 TI.hby51 TI.hzs51 (by decide) rfl rfl rfl rfl (fun _ h => rowP_rd h) (onesC_one h1e) (by unfold maxLen; omega) (by omega) (fun v57 => ?_)) ?_
                  ·
                    refine ⟨⟨rfl, ⟨rfl, trivial⟩⟩, ?_⟩
                    refine AH_fact (r := 552) rfl (fun h hp => rd_one (rowP_rd hp)) (fun ho57 => ?_)
                    refine (AH_take 12 rfl (by kernel_rfl) (by kernel_rfl) (by kernel_rfl) rfl rfl (by decide) (Pu_nilCheck rfl rfl) (AH_take 13 rfl (by kernel_rfl) (by kernel_rfl) (by kernel_rfl) rfl rfl (by decide) (Pu_fieldAddrB (off := 1) rfl rfl (by kernel_rfl)) (AH_ready [14] (by kernel_rfl) (by decide) ?_)))
                    refine AHs_cons0 rfl rfl rfl (OpT_storeB1 (r := 500) rfl Try.sizeOf47 rfl rfl rfl ho57 (by simp) rfl ?_) ?_
                    ·
                      refine ⟨⟨rfl, ⟨rfl, trivial⟩⟩, ?_⟩
                      refine (AH_done (by kernel_rfl) (X_then ?_))
                      refine W_seq ?_
                      refine W.pre (K' := [(0, _), (2, _), (4, _), (31, _)]) (L' := [(0, _), (251, _), (500, _), (501, _), (502, _), (551, _), (552, _)]) ?_ ⟨rfl, ⟨rfl, ⟨rfl, ⟨rfl, trivial⟩⟩⟩⟩ ⟨rfl, ⟨rfl, ⟨rfl, ⟨rfl, ⟨rfl, ⟨rfl, ⟨rfl, trivial⟩⟩⟩⟩⟩⟩⟩
                      refine W_regL (WL_pure rfl rfl (by decide) (Pu_assign rfl rfl) (WL_nil (X_then ?_)))
                      refine W_ret ?_
                      refine X_turn (P' := rowP 51 33 v57 ((k, d) :: x).length (onesC ((k, v50) :: es))) 552 rfl (fun h hh => (congrFun (rowO_to ((k, v50) :: es) (by rw [List.length_cons]; omega) (by rw [onesC_cons]; simp)) h).mp hh) ?_
                      refine X_join [551, 502] 502 (dataR ((k, v50) :: es) ((k, d) :: x)) rfl (by decide) (fun h hs => dataR_new hs) ?_
                      refine X_join [500, 552, 502] 1 (refP g room ((k, d) :: x)) rfl (by decide) (fun h hs => closeRef (es := ((k, v50) :: es)) (by rw [List.reverse_cons]; exact hg.add (by rw [keys_reverse]; exact fun h => hkx (List.mem_reverse.1 h)) hk hd1 (by rw [total_reverse]; omega)) (by show k :: _ = k :: _; rw [hke]; rfl) (fun p hp => by rcases List.mem_cons.1 hp with rfl | hp; exact ho50; exact h1e p hp) ho57 hs) ?_
                      have hN : (putC room L.reverse k d).reverse = ((k, d) :: x) := by rw [hC, dropK_reverse (keys_nodup hgL), ← hev, evict_done (by rw [total_reverse]; omega)]; simp
                      exact X_ret [1] (Ps := [_]) (res1 Try.results16 rfl) rfl (by decide) ⟨by rw [hB], by rw [hN]⟩
                    exact AHs_nil
                  exact AHs_nil
                exact AHs_nil
              exact AHs_nil
            exact AHs_nil
          exact AHs_nil
      exact AHs_nil
    exact AHs_nil
end Go.Proofs.Ytamhhkjddmjanaa
