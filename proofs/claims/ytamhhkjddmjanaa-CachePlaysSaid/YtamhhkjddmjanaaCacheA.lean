/- Caches: a block is let go. -/
import Derived.Test.YtamhhkjddmjanaaCache1
import Derived.Test.YtamhhkjddmjanaaLibI
import Derived.Test.YtamhhkjddmjanaaLibC
namespace Go.Proofs.Ytamhhkjddmjanaa
open Go.RowKit
set_option linter.unusedVariables false
set_option linter.unusedSimpArgs false

theorem drop_spec (g room : Nat) (l : Ents) (k : List UInt8) (hk : k.length = 32) (F : HP) : CallsS Try.prog 20 #[.pointer (some ⟨g, 0, none⟩), idV k] F [cacheP g room l] (fun r Ps => r = .tuple #[] ∧ Ps = [cacheP g room (dropK k l)]) := by
  refine callsS_enter Try.func20 rfl Try.ntmps20 (by simp) (fun E => ?_)
  refine W_seq ?_
  refine W.pre (K' := [(0, _), (1, _)]) (L' := [(0, _), (1, _)]) ?_ ⟨rfl, ⟨rfl, trivial⟩⟩ ⟨rfl, ⟨rfl, trivial⟩⟩
  refine W_openCache 1 200 rfl (by decide) (fun m v es hg hpm ho => ?_)
  have hlen := hg.len
  have hfit := hg.fits
  have hmost := hg.most
  refine W_regL (WL_cons rfl rfl (by decide) (OpT_box (r := 251) rfl rfl rfl (fun g251 => (WL_nil (X_then ?_)))))
  refine W_seq ?_
  refine W.pre (K' := [(0, _), (1, _), (3, _)]) (L' := [(0, _), (200, _), (201, _), (202, _), (203, _), (251, _)]) ?_ ⟨rfl, ⟨rfl, ⟨rfl, trivial⟩⟩⟩ ⟨rfl, ⟨rfl, ⟨rfl, ⟨rfl, ⟨rfl, ⟨rfl, trivial⟩⟩⟩⟩⟩⟩
  refine W_draw (N := 7) (by kernel_rfl) rfl [(0, _), (200, _), (251, _)] ⟨rfl, ⟨rfl, ⟨rfl, trivial⟩⟩⟩ ?_
  refine (AH_take 0 rfl (by kernel_rfl) (by kernel_rfl) (by kernel_rfl) rfl rfl (by decide) (Pu_move rfl rfl) (AH_take 1 rfl (by kernel_rfl) (by kernel_rfl) (by kernel_rfl) rfl rfl (by decide) (Pu_nilCheck rfl rfl) (AH_take 2 rfl (by kernel_rfl) (by kernel_rfl) (by kernel_rfl) rfl rfl (by decide) (Pu_fieldAddrB (off := 2) rfl rfl (by kernel_rfl)) (AH_take 3 rfl (by kernel_rfl) (by kernel_rfl) (by kernel_rfl) rfl rfl (by decide) (Pu_loadB (r := 200) rfl Try.isAgg37 rfl rfl rfl) (AH_take 4 rfl (by kernel_rfl) (by kernel_rfl) (by kernel_rfl) rfl rfl (by decide) (Pu_loadBN (r := 251) rfl Try.isAgg33 Try.sizeOf33 rfl rfl ((bs_length _).trans hk) (load_all ((bs_length _).trans hk))) (AH_ready [5] (by kernel_rfl) (by decide) ?_))))))
  refine AHs_cons rfl rfl rfl (by decide) (OpT_call 300 [0, 200, 201, 202, 203, 251] [] rfl Try.call25 rfl rfl rfl (by decide) (by decide) (index_spec v (keys l) hg.ids (by rw [keys_length]; have := hg.len; unfold maxLen; omega) k hk _ (rd_star 3 rfl rowI_rd)) (fun v10 Ps10 hR10 => ?_)) ?_
  ·
    obtain ⟨rfl, rfl⟩ := hR10
    refine ⟨⟨rfl, ⟨rfl, ⟨rfl, trivial⟩⟩⟩, ?_⟩
    refine (AH_take 6 rfl (by kernel_rfl) (by kernel_rfl) (by kernel_rfl) rfl rfl (by decide) (Pu_assign rfl rfl) (AH_done (by kernel_rfl) (X_then ?_)))
    refine W_seq ?_
    refine W_seq ?_
    refine W.pre (K' := [(0, _), (1, _), (3, _), (4, _)]) (L' := [(0, _), (200, _), (201, _), (202, _), (203, _), (251, _)]) ?_ ⟨rfl, ⟨rfl, ⟨rfl, ⟨rfl, trivial⟩⟩⟩⟩ ⟨rfl, ⟨rfl, ⟨rfl, ⟨rfl, ⟨rfl, ⟨rfl, trivial⟩⟩⟩⟩⟩⟩
    refine W_regL (WL_pure rfl rfl (by decide) (Pu_move rfl rfl) (WL_pure rfl rfl (by decide) (Pu_bin rfl rfl rfl (run_lss _ _ _ _ _ _)) (WL_nil (X_then ?_))))
    refine W_cond rfl (fun hc12 => ?_) (fun hc12 => ?_)
    ·
      have hlt := of_decide_eq_true hc12
      have hkn : k ∉ keys l := fun hm => by obtain ⟨i, h1, _⟩ := idxI_mem hm; omega
      refine W_ret (X_then_ret ?_)
      refine X_join [200, 201, 202, 203] 1 (cacheP g room l) rfl (by decide) (fun h hs => closeCache hg hpm ho hs) ?_
      rw [dropK_none hkn]
      exact X_ret [1] (Ps := [_]) (res0 Try.results20) rfl (by decide) ⟨rfl, rfl⟩
    ·
      have hge := of_decide_eq_false hc12
      have hkm : k ∈ keys l := Classical.byContradiction fun hn => by have := idxI_not hn; omega
      obtain ⟨i, hi1, hi2, hi3⟩ := idxI_mem hkm
      obtain ⟨d, hd⟩ := lookup_mem hkm
      have htd := total_drop hd
      have hkl := keys_length l
      rw [hi1]
      refine W_skip (X_then ?_)
      refine W_seq ?_
      refine W.pre (K' := [(0, _), (1, _), (3, _), (4, _), (12, _)]) (L' := [(0, _), (200, _), (201, _), (202, _), (203, _), (251, _)]) ?_ ⟨rfl, ⟨rfl, ⟨rfl, ⟨rfl, ⟨rfl, trivial⟩⟩⟩⟩⟩ ⟨rfl, ⟨rfl, ⟨rfl, ⟨rfl, ⟨rfl, ⟨rfl, trivial⟩⟩⟩⟩⟩⟩
      refine W_regL (WL_pure rfl rfl (by decide) (Pu_move rfl rfl) (WL_pure rfl rfl (by decide) (Pu_move rfl rfl) (WL_pure rfl rfl (by decide) (Pu_nilCheck rfl rfl) (WL_pure rfl rfl (by decide) (Pu_fieldAddrB (off := 2) rfl rfl (by kernel_rfl)) (WL_pure rfl rfl (by decide) (Pu_loadB (r := 200) rfl Try.isAgg37 rfl rfl rfl) (WL_pure rfl rfl (by decide) (Pu_move rfl rfl) (WL_pure rfl rfl (by decide) (Pu_move rfl rfl) (WL_pure rfl rfl (by decide) (Pu_bin rfl rfl rfl (run_add _ _ _ _ _ (by omega))) (WL_cons rfl rfl (by decide) (OpT_call 400 [0, 200, 201, 203, 251] [202] rfl Try.call26 rfl rfl rfl (by decide) (by decide) (delete_spec 33 rfl v (keys l) hg.ids i hi2 (by rw [keys_length]; have := hg.len; unfold maxLen; omega) _) (fun v21 Ps21 hR21 => ?_)))))))))))
      obtain ⟨ho2, rfl⟩ := hR21
      skip
      refine (WL_pure rfl rfl (by decide) (Pu_nilCheck rfl rfl) (WL_pure rfl rfl (by decide) (Pu_fieldAddrB (off := 2) rfl rfl (by kernel_rfl)) (WL_cons0 rfl rfl (OpT_storeB1 (r := 200) rfl Try.sizeOf37 rfl rfl rfl ho2 (by simp) rfl ?_))))
      refine (WL_nil (X_then ?_))
      refine W_seq ?_
      refine W.pre (K' := [(0, _), (1, _), (3, _), (4, _), (12, _)]) (L' := [(0, _), (200, _), (201, _), (203, _), (251, _), (400, _)]) ?_ ⟨rfl, ⟨rfl, ⟨rfl, ⟨rfl, ⟨rfl, trivial⟩⟩⟩⟩⟩ ⟨rfl, ⟨rfl, ⟨rfl, ⟨rfl, ⟨rfl, ⟨rfl, trivial⟩⟩⟩⟩⟩⟩
      refine W_draw (N := 15) (by kernel_rfl) rfl [(0, _), (251, _), (203, _)] ⟨rfl, ⟨rfl, ⟨rfl, trivial⟩⟩⟩ ?_
      refine (AH_take 0 rfl (by kernel_rfl) (by kernel_rfl) (by kernel_rfl) rfl rfl (by decide) (Pu_move rfl rfl) (AH_take 1 rfl (by kernel_rfl) (by kernel_rfl) (by kernel_rfl) rfl rfl (by decide) (Pu_nilCheck rfl rfl) (AH_take 2 rfl (by kernel_rfl) (by kernel_rfl) (by kernel_rfl) rfl rfl (by decide) (Pu_fieldAddrB (off := 3) rfl rfl (by kernel_rfl)) (AH_take 4 rfl (by kernel_rfl) (by kernel_rfl) (by kernel_rfl) rfl rfl (by decide) (Pu_move rfl rfl) (AH_take 5 rfl (by kernel_rfl) (by kernel_rfl) (by kernel_rfl) rfl rfl (by decide) (Pu_nilCheck rfl rfl) (AH_take 6 rfl (by kernel_rfl) (by kernel_rfl) (by kernel_rfl) rfl rfl (by decide) (Pu_fieldAddrB (off := 1) rfl rfl (by kernel_rfl)) (AH_take 8 rfl (by kernel_rfl) (by kernel_rfl) (by kernel_rfl) rfl rfl (by decide) (Pu_loadBN (r := 251) rfl Try.isAgg33 Try.sizeOf33 rfl rfl ((bs_length _).trans hk) (load_all ((bs_length _).trans hk))) (AH_ready [3, 7] (by kernel_rfl) (by decide) ?_))))))))
      refine AHs_cons rfl rfl rfl (by decide) (OpT_run (Pu_loadB (r := 200) rfl Try.isAgg3 rfl rfl rfl) ⟨⟨rfl, ⟨rfl, ⟨rfl, trivial⟩⟩⟩, ?_⟩) ?_
      ·
        refine (AH_ready [7] (by kernel_rfl) (by decide) ?_)
        refine AHs_cons rfl rfl rfl (by decide) (OpT_run (Pu_loadB (r := 200) rfl Try.isAgg54 rfl rfl rfl) ⟨⟨rfl, ⟨rfl, ⟨rfl, trivial⟩⟩⟩, ?_⟩) ?_
        ·
          refine (AH_ready [9] (by kernel_rfl) (by decide) ?_)
          refine AHs_cons rfl rfl rfl (by decide) (OpT_run (Pu_lookup (r := 201) rfl Try.underlying54 Try.underlying33 Try.underlying5 Try.sizeOf5 Try.zeroValue35 rfl rfl hk rfl) ⟨⟨rfl, ⟨rfl, ⟨rfl, trivial⟩⟩⟩, ?_⟩) ?_
          ·
            refine (AH_take 10 rfl (by kernel_rfl) (by kernel_rfl) (by kernel_rfl) rfl rfl (by decide) (Pu_len (r := 203) rfl Try.runUnderlying35 rfl rfl (fun h hp => dataP_mem hp hg.nodup hpm hd)) (AH_take 11 rfl (by kernel_rfl) (by kernel_rfl) (by kernel_rfl) rfl rfl (by decide) (Pu_bin rfl rfl rfl (run_sub _ _ _ _ _ (by omega))) (AH_take 12 rfl (by kernel_rfl) (by kernel_rfl) (by kernel_rfl) rfl rfl (by decide) (Pu_nilCheck rfl rfl) (AH_take 13 rfl (by kernel_rfl) (by kernel_rfl) (by kernel_rfl) rfl rfl (by decide) (Pu_fieldAddrB (off := 3) rfl rfl (by kernel_rfl)) (AH_ready [14] (by kernel_rfl) (by decide) ?_)))))
            refine AHs_cons0 rfl rfl rfl (OpT_storeB1 (r := 200) rfl Try.sizeOf3 rfl rfl rfl rfl (by simp) rfl ?_) ?_
            ·
              refine ⟨⟨rfl, ⟨rfl, ⟨rfl, trivial⟩⟩⟩, ?_⟩
              refine (AH_done (by kernel_rfl) (X_then ?_))
              refine W.pre (K' := [(0, _), (1, _), (3, _), (4, _), (12, _)]) (L' := [(0, _), (200, _), (201, _), (203, _), (251, _), (400, _)]) ?_ ⟨rfl, ⟨rfl, ⟨rfl, ⟨rfl, ⟨rfl, trivial⟩⟩⟩⟩⟩ ⟨rfl, ⟨rfl, ⟨rfl, ⟨rfl, ⟨rfl, ⟨rfl, trivial⟩⟩⟩⟩⟩⟩
              refine W_draw (N := 6) (by kernel_rfl) rfl [(0, _), (200, _), (251, _)] ⟨rfl, ⟨rfl, ⟨rfl, trivial⟩⟩⟩ ?_
              refine (AH_take 0 rfl (by kernel_rfl) (by kernel_rfl) (by kernel_rfl) rfl rfl (by decide) (Pu_move rfl rfl) (AH_take 1 rfl (by kernel_rfl) (by kernel_rfl) (by kernel_rfl) rfl rfl (by decide) (Pu_nilCheck rfl rfl) (AH_take 2 rfl (by kernel_rfl) (by kernel_rfl) (by kernel_rfl) rfl rfl (by decide) (Pu_fieldAddrB (off := 1) rfl rfl (by kernel_rfl)) (AH_take 3 rfl (by kernel_rfl) (by kernel_rfl) (by kernel_rfl) rfl rfl (by decide) (Pu_loadB (r := 200) rfl Try.isAgg54 rfl rfl rfl) (AH_take 4 rfl (by kernel_rfl) (by kernel_rfl) (by kernel_rfl) rfl rfl (by decide) (Pu_loadBN (r := 251) rfl Try.isAgg33 Try.sizeOf33 rfl rfl ((bs_length _).trans hk) (load_all ((bs_length _).trans hk))) (AH_ready [5] (by kernel_rfl) (by decide) ?_))))))
              refine AHs_cons0 rfl rfl rfl (OpT_delete (r := 201) rfl Try.underlying54 Try.underlying33 Try.underlying5 Try.sizeOf5 rfl rfl hk rfl ?_) ?_
              ·
                refine ⟨⟨rfl, ⟨rfl, ⟨rfl, trivial⟩⟩⟩, ?_⟩
                refine (AH_done (by kernel_rfl) ?_)
                refine X_turn 203 rfl (fun h hp => dataP_drop hp hg.nodup k) ?_
                refine X_turn (P' := rowI 33 v21 (keys (dropK k l))) 400 rfl (fun h hp => by rw [keys_drop, ← hi3]; exact hp) ?_
                refine X_turn (P' := blk g 56 [.int .i64 (room : Int), .map (some m), v21, .int .i64 (total (dropK k l) : Int)]) 200 rfl (fun h hp => by rw [show ((total (dropK k l) : Nat) : Int) = (total l : Int) - (d.length : Int) by omega]; exact hp) ?_
                refine X_join [200, 201, 400, 203] 1 (cacheP g room (dropK k l)) rfl (by decide) (fun h hs => closeCache (hg.drop k) (perm_drop hpm k) ho2 hs) ?_
                exact X_end [1] (Ps := [_]) (res0 Try.results20) rfl (by decide) ⟨rfl, rfl⟩
              exact AHs_nil
            exact AHs_nil
          exact AHs_nil
        exact AHs_nil
      refine AHs_cons rfl rfl rfl (by decide) (OpT_run (Pu_loadB (r := 200) rfl Try.isAgg54 rfl rfl rfl) ⟨⟨rfl, ⟨rfl, ⟨rfl, trivial⟩⟩⟩, ?_⟩) ?_
      ·
        refine (AH_ready [3, 9] (by kernel_rfl) (by decide) ?_)
        refine AHs_cons rfl rfl rfl (by decide) (OpT_run (Pu_loadB (r := 200) rfl Try.isAgg3 rfl rfl rfl) ⟨⟨rfl, ⟨rfl, ⟨rfl, trivial⟩⟩⟩, ?_⟩) ?_
        ·
          refine (AH_ready [9] (by kernel_rfl) (by decide) ?_)
          refine AHs_cons rfl rfl rfl (by decide) (OpT_run (Pu_lookup (r := 201) rfl Try.underlying54 Try.underlying33 Try.underlying5 Try.sizeOf5 Try.zeroValue35 rfl rfl hk rfl) ⟨⟨rfl, ⟨rfl, ⟨rfl, trivial⟩⟩⟩, ?_⟩) ?_
          ·
            refine (AH_take 10 rfl (by kernel_rfl) (by kernel_rfl) (by kernel_rfl) rfl rfl (by decide) (Pu_len (r := 203) rfl Try.runUnderlying35 rfl rfl (fun h hp => dataP_mem hp hg.nodup hpm hd)) (AH_take 11 rfl (by kernel_rfl) (by kernel_rfl) (by kernel_rfl) rfl rfl (by decide) (Pu_bin rfl rfl rfl (run_sub _ _ _ _ _ (by omega))) (AH_take 12 rfl (by kernel_rfl) (by kernel_rfl) (by kernel_rfl) rfl rfl (by decide) (Pu_nilCheck rfl rfl) (AH_take 13 rfl (by kernel_rfl) (by kernel_rfl) (by kernel_rfl) rfl rfl (by decide) (Pu_fieldAddrB (off := 3) rfl rfl (by kernel_rfl)) (AH_ready [14] (by kernel_rfl) (by decide) ?_)))))
            refine AHs_cons0 rfl rfl rfl (OpT_storeB1 (r := 200) rfl Try.sizeOf3 rfl rfl rfl rfl (by simp) rfl ?_) ?_
            ·
              refine ⟨⟨rfl, ⟨rfl, ⟨rfl, trivial⟩⟩⟩, ?_⟩
              refine (AH_done (by kernel_rfl) (X_then ?_))
              refine W.pre (K' := [(0, _), (1, _), (3, _), (4, _), (12, _)]) (L' := [(0, _), (200, _), (201, _), (203, _), (251, _), (400, _)]) ?_ ⟨rfl, ⟨rfl, ⟨rfl, ⟨rfl, ⟨rfl, trivial⟩⟩⟩⟩⟩ ⟨rfl, ⟨rfl, ⟨rfl, ⟨rfl, ⟨rfl, ⟨rfl, trivial⟩⟩⟩⟩⟩⟩
              refine W_draw (N := 6) (by kernel_rfl) rfl [(0, _), (200, _), (251, _)] ⟨rfl, ⟨rfl, ⟨rfl, trivial⟩⟩⟩ ?_
              refine (AH_take 0 rfl (by kernel_rfl) (by kernel_rfl) (by kernel_rfl) rfl rfl (by decide) (Pu_move rfl rfl) (AH_take 1 rfl (by kernel_rfl) (by kernel_rfl) (by kernel_rfl) rfl rfl (by decide) (Pu_nilCheck rfl rfl) (AH_take 2 rfl (by kernel_rfl) (by kernel_rfl) (by kernel_rfl) rfl rfl (by decide) (Pu_fieldAddrB (off := 1) rfl rfl (by kernel_rfl)) (AH_take 3 rfl (by kernel_rfl) (by kernel_rfl) (by kernel_rfl) rfl rfl (by decide) (Pu_loadB (r := 200) rfl Try.isAgg54 rfl rfl rfl) (AH_take 4 rfl (by kernel_rfl) (by kernel_rfl) (by kernel_rfl) rfl rfl (by decide) (Pu_loadBN (r := 251) rfl Try.isAgg33 Try.sizeOf33 rfl rfl ((bs_length _).trans hk) (load_all ((bs_length _).trans hk))) (AH_ready [5] (by kernel_rfl) (by decide) ?_))))))
              refine AHs_cons0 rfl rfl rfl (OpT_delete (r := 201) rfl Try.underlying54 Try.underlying33 Try.underlying5 Try.sizeOf5 rfl rfl hk rfl ?_) ?_
              ·
                refine ⟨⟨rfl, ⟨rfl, ⟨rfl, trivial⟩⟩⟩, ?_⟩
                refine (AH_done (by kernel_rfl) ?_)
                refine X_turn 203 rfl (fun h hp => dataP_drop hp hg.nodup k) ?_
                refine X_turn (P' := rowI 33 v21 (keys (dropK k l))) 400 rfl (fun h hp => by rw [keys_drop, ← hi3]; exact hp) ?_
                refine X_turn (P' := blk g 56 [.int .i64 (room : Int), .map (some m), v21, .int .i64 (total (dropK k l) : Int)]) 200 rfl (fun h hp => by rw [show ((total (dropK k l) : Nat) : Int) = (total l : Int) - (d.length : Int) by omega]; exact hp) ?_
                refine X_join [200, 201, 400, 203] 1 (cacheP g room (dropK k l)) rfl (by decide) (fun h hs => closeCache (hg.drop k) (perm_drop hpm k) ho2 hs) ?_
                exact X_end [1] (Ps := [_]) (res0 Try.results20) rfl (by decide) ⟨rfl, rfl⟩
              exact AHs_nil
            exact AHs_nil
          exact AHs_nil
        refine AHs_cons rfl rfl rfl (by decide) (OpT_run (Pu_lookup (r := 201) rfl Try.underlying54 Try.underlying33 Try.underlying5 Try.sizeOf5 Try.zeroValue35 rfl rfl hk rfl) ⟨⟨rfl, ⟨rfl, ⟨rfl, trivial⟩⟩⟩, ?_⟩) ?_
        ·
          refine (AH_take 10 rfl (by kernel_rfl) (by kernel_rfl) (by kernel_rfl) rfl rfl (by decide) (Pu_len (r := 203) rfl Try.runUnderlying35 rfl rfl (fun h hp => dataP_mem hp hg.nodup hpm hd)) (AH_ready [3] (by kernel_rfl) (by decide) ?_))
          refine AHs_cons rfl rfl rfl (by decide) (OpT_run (Pu_loadB (r := 200) rfl Try.isAgg3 rfl rfl rfl) ⟨⟨rfl, ⟨rfl, ⟨rfl, trivial⟩⟩⟩, ?_⟩) ?_
          ·
            refine (AH_take 11 rfl (by kernel_rfl) (by kernel_rfl) (by kernel_rfl) rfl rfl (by decide) (Pu_bin rfl rfl rfl (run_sub _ _ _ _ _ (by omega))) (AH_take 12 rfl (by kernel_rfl) (by kernel_rfl) (by kernel_rfl) rfl rfl (by decide) (Pu_nilCheck rfl rfl) (AH_take 13 rfl (by kernel_rfl) (by kernel_rfl) (by kernel_rfl) rfl rfl (by decide) (Pu_fieldAddrB (off := 3) rfl rfl (by kernel_rfl)) (AH_ready [14] (by kernel_rfl) (by decide) ?_))))
            refine AHs_cons0 rfl rfl rfl (OpT_storeB1 (r := 200) rfl Try.sizeOf3 rfl rfl rfl rfl (by simp) rfl ?_) ?_
            ·
              refine ⟨⟨rfl, ⟨rfl, ⟨rfl, trivial⟩⟩⟩, ?_⟩
              refine (AH_done (by kernel_rfl) (X_then ?_))
              refine W.pre (K' := [(0, _), (1, _), (3, _), (4, _), (12, _)]) (L' := [(0, _), (200, _), (201, _), (203, _), (251, _), (400, _)]) ?_ ⟨rfl, ⟨rfl, ⟨rfl, ⟨rfl, ⟨rfl, trivial⟩⟩⟩⟩⟩ ⟨rfl, ⟨rfl, ⟨rfl, ⟨rfl, ⟨rfl, ⟨rfl, trivial⟩⟩⟩⟩⟩⟩
              refine W_draw (N := 6) (by kernel_rfl) rfl [(0, _), (200, _), (251, _)] ⟨rfl, ⟨rfl, ⟨rfl, trivial⟩⟩⟩ ?_
              refine (AH_take 0 rfl (by kernel_rfl) (by kernel_rfl) (by kernel_rfl) rfl rfl (by decide) (Pu_move rfl rfl) (AH_take 1 rfl (by kernel_rfl) (by kernel_rfl) (by kernel_rfl) rfl rfl (by decide) (Pu_nilCheck rfl rfl) (AH_take 2 rfl (by kernel_rfl) (by kernel_rfl) (by kernel_rfl) rfl rfl (by decide) (Pu_fieldAddrB (off := 1) rfl rfl (by kernel_rfl)) (AH_take 3 rfl (by kernel_rfl) (by kernel_rfl) (by kernel_rfl) rfl rfl (by decide) (Pu_loadB (r := 200) rfl Try.isAgg54 rfl rfl rfl) (AH_take 4 rfl (by kernel_rfl) (by kernel_rfl) (by kernel_rfl) rfl rfl (by decide) (Pu_loadBN (r := 251) rfl Try.isAgg33 Try.sizeOf33 rfl rfl ((bs_length _).trans hk) (load_all ((bs_length _).trans hk))) (AH_ready [5] (by kernel_rfl) (by decide) ?_))))))
              refine AHs_cons0 rfl rfl rfl (OpT_delete (r := 201) rfl Try.underlying54 Try.underlying33 Try.underlying5 Try.sizeOf5 rfl rfl hk rfl ?_) ?_
              ·
                refine ⟨⟨rfl, ⟨rfl, ⟨rfl, trivial⟩⟩⟩, ?_⟩
                refine (AH_done (by kernel_rfl) ?_)
                refine X_turn 203 rfl (fun h hp => dataP_drop hp hg.nodup k) ?_
                refine X_turn (P' := rowI 33 v21 (keys (dropK k l))) 400 rfl (fun h hp => by rw [keys_drop, ← hi3]; exact hp) ?_
                refine X_turn (P' := blk g 56 [.int .i64 (room : Int), .map (some m), v21, .int .i64 (total (dropK k l) : Int)]) 200 rfl (fun h hp => by rw [show ((total (dropK k l) : Nat) : Int) = (total l : Int) - (d.length : Int) by omega]; exact hp) ?_
                refine X_join [200, 201, 400, 203] 1 (cacheP g room (dropK k l)) rfl (by decide) (fun h hs => closeCache (hg.drop k) (perm_drop hpm k) ho2 hs) ?_
                exact X_end [1] (Ps := [_]) (res0 Try.results20) rfl (by decide) ⟨rfl, rfl⟩
              exact AHs_nil
            exact AHs_nil
          exact AHs_nil
        exact AHs_nil
      exact AHs_nil
  exact AHs_nil
end Go.Proofs.Ytamhhkjddmjanaa
