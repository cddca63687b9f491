/- Caches: asked, told, made. -/
import Derived.Test.YtamhhkjddmjanaaCacheB
import Derived.Test.YtamhhkjddmjanaaLibI
import Derived.Test.YtamhhkjddmjanaaLibC
namespace Go.Proofs.Ytamhhkjddmjanaa
open Go.RowKit
set_option linter.unusedVariables false
set_option linter.unusedSimpArgs false

theorem get_spec (g room : Nat) (l : Ents) (k : List UInt8) (hk : k.length = 32) (F : HP) : CallsS Try.prog 17 #[.pointer (some ⟨g, 0, none⟩), idV k] F [cacheP g room l] (fun r Ps => ∃ v', r = .tuple #[v', .bool (l.lookup k).isSome] ∧ Ps = [cacheP g room (getC l k), rowB 5 v' ((l.lookup k).getD [])]) := by
  refine callsS_enter Try.func17 rfl Try.ntmps17 (by simp) (fun E => ?_)
  refine W_seq ?_
  refine W.pre (K' := [(0, _), (1, _)]) (L' := [(0, _), (1, _)]) ?_ ⟨rfl, ⟨rfl, trivial⟩⟩ ⟨rfl, ⟨rfl, trivial⟩⟩
  refine W_openCache 1 200 rfl (by decide) (fun m v es hg hpm ho => ?_)
  have hlen := hg.len
  have hfit := hg.fits
  have hmost := hg.most
  refine W_regL (WL_cons rfl rfl (by decide) (OpT_box (r := 251) rfl rfl rfl (fun g251 => (WL_pure rfl rfl (by decide) (Pu_assign rfl rfl) (WL_pure rfl rfl (by decide) (Pu_assign rfl rfl) (WL_nil (X_then ?_)))))))
  refine W_seq ?_
  refine W.pre (K' := [(0, _), (1, _), (3, _), (4, _), (5, _)]) (L' := [(0, _), (200, _), (201, _), (202, _), (203, _), (251, _)]) ?_ ⟨rfl, ⟨rfl, ⟨rfl, ⟨rfl, ⟨rfl, trivial⟩⟩⟩⟩⟩ ⟨rfl, ⟨rfl, ⟨rfl, ⟨rfl, ⟨rfl, ⟨rfl, trivial⟩⟩⟩⟩⟩⟩
  refine W_draw (N := 11) (by kernel_rfl) rfl [(0, _), (200, _), (251, _)] ⟨rfl, ⟨rfl, ⟨rfl, trivial⟩⟩⟩ ?_
  refine (AH_take 0 rfl (by kernel_rfl) (by kernel_rfl) (by kernel_rfl) rfl rfl (by decide) (Pu_move rfl rfl) (AH_take 1 rfl (by kernel_rfl) (by kernel_rfl) (by kernel_rfl) rfl rfl (by decide) (Pu_nilCheck rfl rfl) (AH_take 2 rfl (by kernel_rfl) (by kernel_rfl) (by kernel_rfl) rfl rfl (by decide) (Pu_fieldAddrB (off := 1) rfl rfl (by kernel_rfl)) (AH_take 3 rfl (by kernel_rfl) (by kernel_rfl) (by kernel_rfl) rfl rfl (by decide) (Pu_loadB (r := 200) rfl Try.isAgg54 rfl rfl rfl) (AH_take 4 rfl (by kernel_rfl) (by kernel_rfl) (by kernel_rfl) rfl rfl (by decide) (Pu_loadBN (r := 251) rfl Try.isAgg33 Try.sizeOf33 rfl rfl ((bs_length _).trans hk) (load_all ((bs_length _).trans hk))) (AH_ready [5] (by kernel_rfl) (by decide) ?_))))))
  refine AHs_cons rfl rfl rfl (by decide) (OpT_run (Pu_lookupOk (r := 201) rfl Try.underlying54 Try.underlying33 Try.underlying5 Try.sizeOf5 Try.zeroValue35 rfl rfl hk rfl) ⟨⟨rfl, ⟨rfl, ⟨rfl, trivial⟩⟩⟩, ?_⟩) ?_
  ·
    refine (AH_take 6 rfl (by kernel_rfl) (by kernel_rfl) (by kernel_rfl) rfl rfl (by decide) (Pu_move rfl rfl) (AH_take 7 rfl (by kernel_rfl) (by kernel_rfl) (by kernel_rfl) rfl rfl (by decide) (Pu_extract rfl rfl rfl) (AH_take 8 rfl (by kernel_rfl) (by kernel_rfl) (by kernel_rfl) rfl rfl (by decide) (Pu_extract rfl rfl rfl) (AH_take 9 rfl (by kernel_rfl) (by kernel_rfl) (by kernel_rfl) rfl rfl (by decide) (Pu_assign rfl rfl) (AH_take 10 rfl (by kernel_rfl) (by kernel_rfl) (by kernel_rfl) rfl rfl (by decide) (Pu_assign rfl rfl) (AH_done (by kernel_rfl) (X_then ?_)))))))
    refine W_seq ?_
    refine W_seq ?_
    refine W.pre (K' := [(0, _), (1, _), (3, _), (4, _), (5, _), (6, _), (7, _)]) (L' := [(0, _), (200, _), (201, _), (202, _), (203, _), (251, _)]) ?_ ⟨rfl, ⟨rfl, ⟨rfl, ⟨rfl, ⟨rfl, ⟨rfl, ⟨rfl, trivial⟩⟩⟩⟩⟩⟩⟩ ⟨rfl, ⟨rfl, ⟨rfl, ⟨rfl, ⟨rfl, ⟨rfl, trivial⟩⟩⟩⟩⟩⟩
    refine W_regL (WL_pure rfl rfl (by decide) (Pu_move rfl rfl) (WL_pure rfl rfl (by decide) (Pu_un rfl rfl (run_not _)) (WL_nil (X_then ?_))))
    refine W_cond rfl (fun hc19 => ?_) (fun hc19 => ?_)
    ·
      have hn : l.lookup k = none := by rw [es_lookup_some hpm] at hc19; simpa using hc19
      refine W_seq ?_
      refine W.pre (K' := [(0, _), (1, _), (3, _), (4, _), (5, _), (6, _), (7, _), (19, _)]) (L' := [(0, _), (200, _), (201, _), (202, _), (203, _), (251, _)]) ?_ ⟨rfl, ⟨rfl, ⟨rfl, ⟨rfl, ⟨rfl, ⟨rfl, ⟨rfl, ⟨rfl, trivial⟩⟩⟩⟩⟩⟩⟩⟩ ⟨rfl, ⟨rfl, ⟨rfl, ⟨rfl, ⟨rfl, ⟨rfl, trivial⟩⟩⟩⟩⟩⟩
      refine W_regL (WL_pure rfl rfl (by decide) (Pu_assign rfl rfl) (WL_pure rfl rfl (by decide) (Pu_assign rfl rfl) (WL_nil (X_then ?_))))
      refine W_ret (X_then_ret ?_)
      refine X_nilRow 9900 5 1 ?_
      refine X_join [200, 201, 202, 203] 1 (cacheP g room l) rfl (by decide) (fun h hs => closeCache hg hpm ho hs) ?_
      exact X_ret [1, 9900] (Ps := [_, _]) (res2 Try.results17 rfl rfl) rfl (by decide) ⟨_, by rw [hn]; rfl, by rw [getC, hn]; rfl⟩
    ·
      obtain ⟨d, hd⟩ : ∃ d, l.lookup k = some d := by rw [es_lookup_some hpm] at hc19; exact Option.isSome_iff_exists.1 (by simpa using hc19)
      have htd := total_drop hd
      have hkl := keys_length l
      have hkm : k ∈ keys l := List.mem_map.2 ⟨_, lookup_some hd, rfl⟩
      obtain ⟨i, hi1, hi2, hi3⟩ := idxI_mem hkm
      refine W_skip (X_then ?_)
      refine W_seq ?_
      refine W.pre (K' := [(0, _), (1, _), (3, _), (4, _), (5, _), (6, _), (7, _), (19, _)]) (L' := [(0, _), (200, _), (201, _), (202, _), (203, _), (251, _)]) ?_ ⟨rfl, ⟨rfl, ⟨rfl, ⟨rfl, ⟨rfl, ⟨rfl, ⟨rfl, ⟨rfl, trivial⟩⟩⟩⟩⟩⟩⟩⟩ ⟨rfl, ⟨rfl, ⟨rfl, ⟨rfl, ⟨rfl, ⟨rfl, trivial⟩⟩⟩⟩⟩⟩
      refine W_draw (N := 7) (by kernel_rfl) rfl [(0, _), (200, _), (251, _)] ⟨rfl, ⟨rfl, ⟨rfl, trivial⟩⟩⟩ ?_
      refine (AH_take 0 rfl (by kernel_rfl) (by kernel_rfl) (by kernel_rfl) rfl rfl (by decide) (Pu_move rfl rfl) (AH_take 1 rfl (by kernel_rfl) (by kernel_rfl) (by kernel_rfl) rfl rfl (by decide) (Pu_nilCheck rfl rfl) (AH_take 2 rfl (by kernel_rfl) (by kernel_rfl) (by kernel_rfl) rfl rfl (by decide) (Pu_fieldAddrB (off := 2) rfl rfl (by kernel_rfl)) (AH_take 3 rfl (by kernel_rfl) (by kernel_rfl) (by kernel_rfl) rfl rfl (by decide) (Pu_loadB (r := 200) rfl Try.isAgg37 rfl rfl rfl) (AH_take 4 rfl (by kernel_rfl) (by kernel_rfl) (by kernel_rfl) rfl rfl (by decide) (Pu_loadBN (r := 251) rfl Try.isAgg33 Try.sizeOf33 rfl rfl ((bs_length _).trans hk) (load_all ((bs_length _).trans hk))) (AH_ready [5] (by kernel_rfl) (by decide) ?_))))))
      refine AHs_cons rfl rfl rfl (by decide) (OpT_call 300 [0, 200, 201, 202, 203, 251] [] rfl Try.call25 rfl rfl rfl (by decide) (by decide) (index_spec v (keys l) hg.ids (by rw [keys_length]; have := hg.len; unfold maxLen; omega) k hk _ (rd_star 3 rfl rowI_rd)) (fun v25 Ps25 hR25 => ?_)) ?_
      ·
        obtain ⟨rfl, rfl⟩ := hR25
        refine ⟨⟨rfl, ⟨rfl, ⟨rfl, trivial⟩⟩⟩, ?_⟩
        refine (AH_take 6 rfl (by kernel_rfl) (by kernel_rfl) (by kernel_rfl) rfl rfl (by decide) (Pu_assign rfl rfl) (AH_done (by kernel_rfl) (X_then ?_)))
        refine W_seq ?_
        refine W.pre (K' := [(0, _), (1, _), (3, _), (4, _), (5, _), (6, _), (7, _), (8, _), (19, _)]) (L' := [(0, _), (200, _), (201, _), (202, _), (203, _), (251, _)]) ?_ ⟨rfl, ⟨rfl, ⟨rfl, ⟨rfl, ⟨rfl, ⟨rfl, ⟨rfl, ⟨rfl, ⟨rfl, trivial⟩⟩⟩⟩⟩⟩⟩⟩⟩ ⟨rfl, ⟨rfl, ⟨rfl, ⟨rfl, ⟨rfl, ⟨rfl, trivial⟩⟩⟩⟩⟩⟩
        rw [hi1]
        have hel : ((keys l).eraseIdx i).length ≤ 1073741824 := by rw [List.length_eraseIdx, if_pos hi2]; omega
        refine W_draw (N := 15) (by kernel_rfl) rfl [(0, _), (251, _)] ⟨rfl, ⟨rfl, trivial⟩⟩ ?_
        refine (AH_take 0 rfl (by kernel_rfl) (by kernel_rfl) (by kernel_rfl) rfl rfl (by decide) (Pu_move rfl rfl) (AH_take 1 rfl (by kernel_rfl) (by kernel_rfl) (by kernel_rfl) rfl rfl (by decide) (Pu_move rfl rfl) (AH_take 2 rfl (by kernel_rfl) (by kernel_rfl) (by kernel_rfl) rfl rfl (by decide) (Pu_nilCheck rfl rfl) (AH_take 3 rfl (by kernel_rfl) (by kernel_rfl) (by kernel_rfl) rfl rfl (by decide) (Pu_fieldAddrB (off := 2) rfl rfl (by kernel_rfl)) (AH_take 5 rfl (by kernel_rfl) (by kernel_rfl) (by kernel_rfl) rfl rfl (by decide) (Pu_move rfl rfl) (AH_take 6 rfl (by kernel_rfl) (by kernel_rfl) (by kernel_rfl) rfl rfl (by decide) (Pu_move rfl rfl) (AH_take 7 rfl (by kernel_rfl) (by kernel_rfl) (by kernel_rfl) rfl rfl (by decide) (Pu_bin rfl rfl rfl (run_add _ _ _ _ _ (by omega))) (AH_take 9 rfl (by kernel_rfl) (by kernel_rfl) (by kernel_rfl) rfl rfl (by decide) (Pu_loadBN (r := 251) rfl Try.isAgg33 Try.sizeOf33 rfl rfl ((bs_length _).trans hk) (load_all ((bs_length _).trans hk))) (AH_ready [4, 10] (by kernel_rfl) (by decide) ?_)))))))))
        refine AHs_cons rfl rfl rfl (by decide) (OpT_run (Pu_loadB (r := 200) rfl Try.isAgg37 rfl rfl rfl) ⟨⟨rfl, ⟨rfl, trivial⟩⟩, ?_⟩) ?_
        ·
          refine (AH_ready [8, 10] (by kernel_rfl) (by decide) ?_)
          refine AHs_cons rfl rfl rfl (by decide) (OpT_call 400 [0, 200, 201, 203, 251] [202] rfl Try.call26 rfl rfl rfl (by decide) (by decide) (delete_spec 33 rfl v (keys l) hg.ids i hi2 (by rw [keys_length]; have := hg.len; unfold maxLen; omega) _) (fun v34 Ps34 hR34 => ?_)) ?_
          ·
            obtain ⟨ho2, rfl⟩ := hR34
            refine ⟨⟨rfl, ⟨rfl, trivial⟩⟩, ?_⟩
            refine (AH_ready [10] (by kernel_rfl) (by decide) ?_)
            refine AHs_cons rfl rfl rfl (by decide) (OpT_buildRows (r := 401) [bs k] rfl rfl Try.runUnderlying37 Try.sizeOf33 Try.zeroValue33 rfl (by decide) rfl (by decide) (by intro r hr; simp at hr; rw [hr, bs_length, hk]) rfl (fun v36 => ⟨⟨rfl, ⟨rfl, trivial⟩⟩, ?_⟩)) ?_
            ·
              refine (AH_ready [11] (by kernel_rfl) (by decide) ?_)
              refine AHs_cons rfl rfl rfl (by decide) (OpT_append (r := 400) (r2 := 401) rfl Try.underlying37 TI.hi33 TI.hz33 TI.hs33 TI.hby33 TI.hzs33 (by decide) rfl rfl rfl rfl (fun _ h => rowP_rd h) (by rw [List.flatten_cons, List.flatten_nil, List.append_nil]; exact bs_one _) (by unfold maxLen; omega) (by omega) (fun v37 => ?_)) ?_
              ·
                refine ⟨⟨rfl, ⟨rfl, trivial⟩⟩, ?_⟩
                refine AH_fact (r := 400) rfl (fun h hp => rd_one (rowP_rd hp)) (fun ho37 => ?_)
                refine (AH_take 12 rfl (by kernel_rfl) (by kernel_rfl) (by kernel_rfl) rfl rfl (by decide) (Pu_nilCheck rfl rfl) (AH_take 13 rfl (by kernel_rfl) (by kernel_rfl) (by kernel_rfl) rfl rfl (by decide) (Pu_fieldAddrB (off := 2) rfl rfl (by kernel_rfl)) (AH_ready [14] (by kernel_rfl) (by decide) ?_)))
                refine AHs_cons0 rfl rfl rfl (OpT_storeB1 (r := 200) rfl Try.sizeOf37 rfl rfl rfl ho37 (by simp) rfl ?_) ?_
                ·
                  refine ⟨⟨rfl, ⟨rfl, trivial⟩⟩, ?_⟩
                  refine (AH_done (by kernel_rfl) (X_then ?_))
                  refine W_seq ?_
                  refine W.pre (K' := [(0, _), (1, _), (3, _), (4, _), (5, _), (6, _), (7, _), (8, _), (19, _)]) (L' := [(0, _), (200, _), (201, _), (203, _), (251, _), (400, _), (401, _)]) ?_ ⟨rfl, ⟨rfl, ⟨rfl, ⟨rfl, ⟨rfl, ⟨rfl, ⟨rfl, ⟨rfl, ⟨rfl, trivial⟩⟩⟩⟩⟩⟩⟩⟩⟩ ⟨rfl, ⟨rfl, ⟨rfl, ⟨rfl, ⟨rfl, ⟨rfl, ⟨rfl, trivial⟩⟩⟩⟩⟩⟩⟩
                  refine W_regL (WL_pure rfl rfl (by decide) (Pu_move rfl rfl) (WL_cons rfl rfl (by decide) (OpT_call 500 [0, 200, 201, 203, 251, 400, 401] [] rfl Try.call21 rfl rfl rfl (by decide) (by decide) (clone_spec _ d (by omega) _ (rd_star 3 rfl (fun h hp => dataP_mem hp hg.nodup hpm hd))) (fun v41 Ps41 hR41 => ?_))))
                  obtain ⟨ho41, rfl⟩ := hR41
                  refine (WL_pure rfl rfl (by decide) (Pu_assign rfl rfl) (WL_pure rfl rfl (by decide) (Pu_assign rfl rfl) (WL_nil (X_then ?_))))
                  refine W_ret ?_
                  refine X_turn (P' := rowI 33 v37 (keys (dropK k l ++ [(k, d)]))) 400 rfl (fun h hp => (congrFun (rowI_of (keys (dropK k l ++ [(k, d)])) (by rw [keys_append, keys_drop, hi3]; simp [keys]) (by rw [keys_append, keys_drop, hi3, idsC_append]; simp [keys, idsC])) h).mp hp) ?_
                  refine X_turn (P' := blk g 56 [.int .i64 (room : Int), .map (some m), v37, .int .i64 (total (dropK k l ++ [(k, d)]) : Int)]) 200 rfl (fun h hp => by rw [total_move hd]; exact hp) ?_
                  refine X_turn (P' := dataP es (dropK k l ++ [(k, d)])) 203 rfl (fun h hp => dataP_move hp hg.nodup hd) ?_
                  refine X_join [200, 201, 400, 203] 1 (cacheP g room (dropK k l ++ [(k, d)])) rfl (by decide) (fun h hs => closeCache (hg.move hd) (perm_move hpm hd) ho37 hs) ?_
                  exact X_ret [1, 500] (Ps := [_, _]) (res2 Try.results17 rfl rfl) rfl (by decide) ⟨_, by rw [hd]; rfl, by rw [getC, hd]; rfl⟩
                exact AHs_nil
              exact AHs_nil
            exact AHs_nil
          refine AHs_cons rfl rfl rfl (by decide) (OpT_buildRows (r := 301) [bs k] rfl rfl Try.runUnderlying37 Try.sizeOf33 Try.zeroValue33 rfl (by decide) rfl (by decide) (by intro r hr; simp at hr; rw [hr, bs_length, hk]) rfl (fun v36 => ⟨⟨rfl, ⟨rfl, trivial⟩⟩, ?_⟩)) ?_
          ·
            refine (AH_ready [8] (by kernel_rfl) (by decide) ?_)
            refine AHs_cons rfl rfl rfl (by decide) (OpT_call 400 [0, 200, 201, 203, 251, 301] [202] rfl Try.call26 rfl rfl rfl (by decide) (by decide) (delete_spec 33 rfl v (keys l) hg.ids i hi2 (by rw [keys_length]; have := hg.len; unfold maxLen; omega) _) (fun v34 Ps34 hR34 => ?_)) ?_
            ·
              obtain ⟨ho2, rfl⟩ := hR34
              refine ⟨⟨rfl, ⟨rfl, trivial⟩⟩, ?_⟩
              refine (AH_ready [11] (by kernel_rfl) (by decide) ?_)
              refine AHs_cons rfl rfl rfl (by decide) (OpT_append (r := 400) (r2 := 301) rfl Try.underlying37 TI.hi33 TI.hz33 TI.hs33 TI.hby33 TI.hzs33 (by decide) rfl rfl rfl rfl (fun _ h => rowP_rd h) (by rw [List.flatten_cons, List.flatten_nil, List.append_nil]; exact bs_one _) (by unfold maxLen; omega) (by omega) (fun v37 => ?_)) ?_
              ·
                refine ⟨⟨rfl, ⟨rfl, trivial⟩⟩, ?_⟩
                refine AH_fact (r := 400) rfl (fun h hp => rd_one (rowP_rd hp)) (fun ho37 => ?_)
                refine (AH_take 12 rfl (by kernel_rfl) (by kernel_rfl) (by kernel_rfl) rfl rfl (by decide) (Pu_nilCheck rfl rfl) (AH_take 13 rfl (by kernel_rfl) (by kernel_rfl) (by kernel_rfl) rfl rfl (by decide) (Pu_fieldAddrB (off := 2) rfl rfl (by kernel_rfl)) (AH_ready [14] (by kernel_rfl) (by decide) ?_)))
                refine AHs_cons0 rfl rfl rfl (OpT_storeB1 (r := 200) rfl Try.sizeOf37 rfl rfl rfl ho37 (by simp) rfl ?_) ?_
                ·
                  refine ⟨⟨rfl, ⟨rfl, trivial⟩⟩, ?_⟩
                  refine (AH_done (by kernel_rfl) (X_then ?_))
                  refine W_seq ?_
                  refine W.pre (K' := [(0, _), (1, _), (3, _), (4, _), (5, _), (6, _), (7, _), (8, _), (19, _)]) (L' := [(0, _), (200, _), (201, _), (203, _), (251, _), (301, _), (400, _)]) ?_ ⟨rfl, ⟨rfl, ⟨rfl, ⟨rfl, ⟨rfl, ⟨rfl, ⟨rfl, ⟨rfl, ⟨rfl, trivial⟩⟩⟩⟩⟩⟩⟩⟩⟩ ⟨rfl, ⟨rfl, ⟨rfl, ⟨rfl, ⟨rfl, ⟨rfl, ⟨rfl, trivial⟩⟩⟩⟩⟩⟩⟩
                  refine W_regL (WL_pure rfl rfl (by decide) (Pu_move rfl rfl) (WL_cons rfl rfl (by decide) (OpT_call 500 [0, 200, 201, 203, 251, 301, 400] [] rfl Try.call21 rfl rfl rfl (by decide) (by decide) (clone_spec _ d (by omega) _ (rd_star 3 rfl (fun h hp => dataP_mem hp hg.nodup hpm hd))) (fun v41 Ps41 hR41 => ?_))))
                  obtain ⟨ho41, rfl⟩ := hR41
                  refine (WL_pure rfl rfl (by decide) (Pu_assign rfl rfl) (WL_pure rfl rfl (by decide) (Pu_assign rfl rfl) (WL_nil (X_then ?_))))
                  refine W_ret ?_
                  refine X_turn (P' := rowI 33 v37 (keys (dropK k l ++ [(k, d)]))) 400 rfl (fun h hp => (congrFun (rowI_of (keys (dropK k l ++ [(k, d)])) (by rw [keys_append, keys_drop, hi3]; simp [keys]) (by rw [keys_append, keys_drop, hi3, idsC_append]; simp [keys, idsC])) h).mp hp) ?_
                  refine X_turn (P' := blk g 56 [.int .i64 (room : Int), .map (some m), v37, .int .i64 (total (dropK k l ++ [(k, d)]) : Int)]) 200 rfl (fun h hp => by rw [total_move hd]; exact hp) ?_
                  refine X_turn (P' := dataP es (dropK k l ++ [(k, d)])) 203 rfl (fun h hp => dataP_move hp hg.nodup hd) ?_
                  refine X_join [200, 201, 400, 203] 1 (cacheP g room (dropK k l ++ [(k, d)])) rfl (by decide) (fun h hs => closeCache (hg.move hd) (perm_move hpm hd) ho37 hs) ?_
                  exact X_ret [1, 500] (Ps := [_, _]) (res2 Try.results17 rfl rfl) rfl (by decide) ⟨_, by rw [hd]; rfl, by rw [getC, hd]; rfl⟩
                exact AHs_nil
              exact AHs_nil
            exact AHs_nil
          exact AHs_nil
        refine AHs_cons rfl rfl rfl (by decide) (OpT_buildRows (r := 301) [bs k] rfl rfl Try.runUnderlying37 Try.sizeOf33 Try.zeroValue33 rfl (by decide) rfl (by decide) (by intro r hr; simp at hr; rw [hr, bs_length, hk]) rfl (fun v36 => ⟨⟨rfl, ⟨rfl, trivial⟩⟩, ?_⟩)) ?_
        ·
          refine (AH_ready [4] (by kernel_rfl) (by decide) ?_)
          refine AHs_cons rfl rfl rfl (by decide) (OpT_run (Pu_loadB (r := 200) rfl Try.isAgg37 rfl rfl rfl) ⟨⟨rfl, ⟨rfl, trivial⟩⟩, ?_⟩) ?_
          ·
            refine (AH_ready [8] (by kernel_rfl) (by decide) ?_)
            refine AHs_cons rfl rfl rfl (by decide) (OpT_call 400 [0, 200, 201, 203, 251, 301] [202] rfl Try.call26 rfl rfl rfl (by decide) (by decide) (delete_spec 33 rfl v (keys l) hg.ids i hi2 (by rw [keys_length]; have := hg.len; unfold maxLen; omega) _) (fun v34 Ps34 hR34 => ?_)) ?_
            ·
              obtain ⟨ho2, rfl⟩ := hR34
              refine ⟨⟨rfl, ⟨rfl, trivial⟩⟩, ?_⟩
              refine (AH_ready [11] (by kernel_rfl) (by decide) ?_)
              refine AHs_cons rfl rfl rfl (by decide) (OpT_append (r := 400) (r2 := 301) rfl Try.underlying37 TI.hi33 TI.hz33 TI.hs33 TI.hby33 TI.hzs33 (by decide) rfl rfl rfl rfl (fun _ h => rowP_rd h) (by rw [List.flatten_cons, List.flatten_nil, List.append_nil]; exact bs_one _) (by unfold maxLen; omega) (by omega) (fun v37 => ?_)) ?_
              ·
                refine ⟨⟨rfl, ⟨rfl, trivial⟩⟩, ?_⟩
                refine AH_fact (r := 400) rfl (fun h hp => rd_one (rowP_rd hp)) (fun ho37 => ?_)
                refine (AH_take 12 rfl (by kernel_rfl) (by kernel_rfl) (by kernel_rfl) rfl rfl (by decide) (Pu_nilCheck rfl rfl) (AH_take 13 rfl (by kernel_rfl) (by kernel_rfl) (by kernel_rfl) rfl rfl (by decide) (Pu_fieldAddrB (off := 2) rfl rfl (by kernel_rfl)) (AH_ready [14] (by kernel_rfl) (by decide) ?_)))
                refine AHs_cons0 rfl rfl rfl (OpT_storeB1 (r := 200) rfl Try.sizeOf37 rfl rfl rfl ho37 (by simp) rfl ?_) ?_
                ·
                  refine ⟨⟨rfl, ⟨rfl, trivial⟩⟩, ?_⟩
                  refine (AH_done (by kernel_rfl) (X_then ?_))
                  refine W_seq ?_
                  refine W.pre (K' := [(0, _), (1, _), (3, _), (4, _), (5, _), (6, _), (7, _), (8, _), (19, _)]) (L' := [(0, _), (200, _), (201, _), (203, _), (251, _), (301, _), (400, _)]) ?_ ⟨rfl, ⟨rfl, ⟨rfl, ⟨rfl, ⟨rfl, ⟨rfl, ⟨rfl, ⟨rfl, ⟨rfl, trivial⟩⟩⟩⟩⟩⟩⟩⟩⟩ ⟨rfl, ⟨rfl, ⟨rfl, ⟨rfl, ⟨rfl, ⟨rfl, ⟨rfl, trivial⟩⟩⟩⟩⟩⟩⟩
                  refine W_regL (WL_pure rfl rfl (by decide) (Pu_move rfl rfl) (WL_cons rfl rfl (by decide) (OpT_call 500 [0, 200, 201, 203, 251, 301, 400] [] rfl Try.call21 rfl rfl rfl (by decide) (by decide) (clone_spec _ d (by omega) _ (rd_star 3 rfl (fun h hp => dataP_mem hp hg.nodup hpm hd))) (fun v41 Ps41 hR41 => ?_))))
                  obtain ⟨ho41, rfl⟩ := hR41
                  refine (WL_pure rfl rfl (by decide) (Pu_assign rfl rfl) (WL_pure rfl rfl (by decide) (Pu_assign rfl rfl) (WL_nil (X_then ?_))))
                  refine W_ret ?_
                  refine X_turn (P' := rowI 33 v37 (keys (dropK k l ++ [(k, d)]))) 400 rfl (fun h hp => (congrFun (rowI_of (keys (dropK k l ++ [(k, d)])) (by rw [keys_append, keys_drop, hi3]; simp [keys]) (by rw [keys_append, keys_drop, hi3, idsC_append]; simp [keys, idsC])) h).mp hp) ?_
                  refine X_turn (P' := blk g 56 [.int .i64 (room : Int), .map (some m), v37, .int .i64 (total (dropK k l ++ [(k, d)]) : Int)]) 200 rfl (fun h hp => by rw [total_move hd]; exact hp) ?_
                  refine X_turn (P' := dataP es (dropK k l ++ [(k, d)])) 203 rfl (fun h hp => dataP_move hp hg.nodup hd) ?_
                  refine X_join [200, 201, 400, 203] 1 (cacheP g room (dropK k l ++ [(k, d)])) rfl (by decide) (fun h hs => closeCache (hg.move hd) (perm_move hpm hd) ho37 hs) ?_
                  exact X_ret [1, 500] (Ps := [_, _]) (res2 Try.results17 rfl rfl) rfl (by decide) ⟨_, by rw [hd]; rfl, by rw [getC, hd]; rfl⟩
                exact AHs_nil
              exact AHs_nil
            exact AHs_nil
          exact AHs_nil
        exact AHs_nil
      exact AHs_nil
  exact AHs_nil
theorem keys_spec (g room : Nat) (l : Ents) (F : HP) : CallsS Try.prog 14 #[.pointer (some ⟨g, 0, none⟩)] F [cacheP g room l] (fun r Ps => Ps = [cacheP g room l, rowI 33 r (keys l).reverse]) := by
  refine callsS_enter Try.func14 rfl Try.ntmps14 (by simp) (fun E => ?_)
  refine W_seq ?_
  refine W.pre (K' := [(0, _)]) (L' := [(0, _), (1, _)]) ?_ ⟨rfl, trivial⟩ ⟨rfl, ⟨rfl, trivial⟩⟩
  refine W_openCache 1 200 rfl (by decide) (fun m v es hg hpm ho => ?_)
  have hlen := hg.len
  have hfit := hg.fits
  have hmost := hg.most
  refine W_regL (WL_pure rfl rfl (by decide) (Pu_assign rfl rfl) (WL_nil (X_then ?_)))
  refine W_seq ?_
  refine W.pre (K' := [(0, _), (2, _)]) (L' := [(0, _), (200, _), (201, _), (202, _), (203, _)]) ?_ ⟨rfl, ⟨rfl, trivial⟩⟩ ⟨rfl, ⟨rfl, ⟨rfl, ⟨rfl, ⟨rfl, trivial⟩⟩⟩⟩⟩
  refine W_regL (WL_pure rfl rfl (by decide) (Pu_move rfl rfl) (WL_pure rfl rfl (by decide) (Pu_nilCheck rfl rfl) (WL_pure rfl rfl (by decide) (Pu_fieldAddrB (off := 2) rfl rfl (by kernel_rfl)) (WL_pure rfl rfl (by decide) (Pu_loadB (r := 200) rfl Try.isAgg37 rfl rfl rfl) (WL_cons rfl rfl (by decide) (OpT_call 300 [0, 200, 201, 202, 203] [] rfl Try.call22 rfl rfl rfl (by decide) (by decide) (cloneI_spec v (keys l) (by rw [keys_length]; omega) _ (rd_star 3 rfl rowI_rd)) (fun v8 Ps8 hR8 => ?_)))))))
  obtain ⟨ho8, rfl⟩ := hR8
  refine (WL_pure rfl rfl (by decide) (Pu_assign rfl rfl) (WL_nil (X_then ?_)))
  refine W_seq ?_
  refine W.pre (K' := [(0, _), (2, _), (3, _)]) (L' := [(0, _), (200, _), (201, _), (202, _), (203, _), (300, _)]) ?_ ⟨rfl, ⟨rfl, ⟨rfl, trivial⟩⟩⟩ ⟨rfl, ⟨rfl, ⟨rfl, ⟨rfl, ⟨rfl, ⟨rfl, trivial⟩⟩⟩⟩⟩⟩
  refine W_regL (WL_pure rfl rfl (by decide) (Pu_move rfl rfl) (WL_cons rfl rfl (by decide) (OpT_call 400 [0, 200, 201, 202, 203] [300] rfl Try.call23 rfl rfl rfl (by decide) (by decide) (reverse_spec 33 rfl v8 (keys l) hg.ids (by rw [keys_length]; have := hg.len; unfold maxLen; omega) _) (fun v10 Ps10 hR10 => ?_))))
  obtain ⟨rfl, rfl⟩ := hR10
  skip
  refine (WL_nil (X_then ?_))
  refine W_seq ?_
  refine W.pre (K' := [(0, _), (2, _), (3, _)]) (L' := [(0, _), (200, _), (201, _), (202, _), (203, _), (400, _)]) ?_ ⟨rfl, ⟨rfl, ⟨rfl, trivial⟩⟩⟩ ⟨rfl, ⟨rfl, ⟨rfl, ⟨rfl, ⟨rfl, ⟨rfl, trivial⟩⟩⟩⟩⟩⟩
  refine W_regL (WL_pure rfl rfl (by decide) (Pu_move rfl rfl) (WL_pure rfl rfl (by decide) (Pu_assign rfl rfl) (WL_nil (X_then ?_))))
  refine W_ret ?_
  refine X_join [200, 201, 202, 203] 1 (cacheP g room l) rfl (by decide) (fun h hs => closeCache hg hpm ho hs) ?_
  exact X_ret [1, 400] (Ps := [_, _]) (res1 Try.results14 rfl) rfl (by decide) rfl
theorem total_spec (g room : Nat) (l : Ents) (F : HP) : CallsS Try.prog 13 #[.pointer (some ⟨g, 0, none⟩)] F [cacheP g room l] (fun r Ps => r = .int .i64 (total l : Int) ∧ Ps = [cacheP g room l]) := by
  refine callsS_enter Try.func13 rfl Try.ntmps13 (by simp) (fun E => ?_)
  refine W_seq ?_
  refine W.pre (K' := [(0, _)]) (L' := [(0, _), (1, _)]) ?_ ⟨rfl, trivial⟩ ⟨rfl, ⟨rfl, trivial⟩⟩
  refine W_openCache 1 200 rfl (by decide) (fun m v es hg hpm ho => ?_)
  have hlen := hg.len
  have hfit := hg.fits
  have hmost := hg.most
  refine W_regL (WL_pure rfl rfl (by decide) (Pu_assign rfl rfl) (WL_nil (X_then ?_)))
  refine W_seq ?_
  refine W.pre (K' := [(0, _), (2, _)]) (L' := [(0, _), (200, _), (201, _), (202, _), (203, _)]) ?_ ⟨rfl, ⟨rfl, trivial⟩⟩ ⟨rfl, ⟨rfl, ⟨rfl, ⟨rfl, ⟨rfl, trivial⟩⟩⟩⟩⟩
  refine W_regL (WL_pure rfl rfl (by decide) (Pu_move rfl rfl) (WL_pure rfl rfl (by decide) (Pu_nilCheck rfl rfl) (WL_pure rfl rfl (by decide) (Pu_fieldAddrB (off := 3) rfl rfl (by kernel_rfl)) (WL_pure rfl rfl (by decide) (Pu_loadB (r := 200) rfl Try.isAgg3 rfl rfl rfl) (WL_pure rfl rfl (by decide) (Pu_assign rfl rfl) (WL_nil (X_then ?_)))))))
  refine W_ret ?_
  refine X_join [200, 201, 202, 203] 1 (cacheP g room l) rfl (by decide) (fun h hs => closeCache hg hpm ho hs) ?_
  exact X_ret [1] (Ps := [_]) (res1 Try.results13 rfl) rfl (by decide) ⟨rfl, rfl⟩
theorem new_bad (n : Int) (hbad : (decide (n < 0) || decide (1073741824 < n)) = true) (F : HP) : CallsS Try.prog 10 #[.int .i64 n] F [] (fun r Ps => r = .tuple #[.pointer none, .int .i64 1] ∧ Ps = []) := by
  refine callsS_enter Try.func10 rfl Try.ntmps10 (by simp) (fun E => ?_)
  refine W_seq ?_
  refine W.pre (K' := [(0, _)]) (L' := [(0, _)]) ?_ ⟨rfl, trivial⟩ ⟨rfl, trivial⟩
  refine W_regL (WL_pure rfl rfl (by decide) (Pu_assign rfl rfl) (WL_pure rfl rfl (by decide) (Pu_assign rfl rfl) (WL_nil (X_then ?_))))
  refine W_seq ?_
  refine W_seq ?_
  refine W.pre (K' := [(0, _), (2, _), (3, _)]) (L' := [(0, _)]) ?_ ⟨rfl, ⟨rfl, ⟨rfl, trivial⟩⟩⟩ ⟨rfl, trivial⟩
  refine W_regL (WL_pure rfl rfl (by decide) (Pu_move rfl rfl) (WL_pure rfl rfl (by decide) (Pu_bin rfl rfl rfl (run_lss _ _ _ _ _ _)) (WL_pure rfl rfl (by decide) (Pu_move rfl rfl) (WL_guardP rfl rfl rfl rfl (by decide) (fun hb => (Pu_move rfl rfl)) (WL_guardP rfl rfl rfl rfl (by decide) (fun hb => (Pu_bin rfl (ev_gv rfl hb) rfl (run_gtr _ _ _ _ _ _))) (WL_pure rfl rfl (by decide) (Pu_or rfl rfl rfl) (WL_nil (X_then ?_))))))))
  refine W_true rfl (hbad) ?_
  refine W_seq ?_
  refine W.pre (K' := [(0, _), (2, _), (3, _), (9, _)]) (L' := [(0, _)]) ?_ ⟨rfl, ⟨rfl, ⟨rfl, ⟨rfl, trivial⟩⟩⟩⟩ ⟨rfl, trivial⟩
  refine W_regL (WL_pure rfl rfl (by decide) (Pu_assign rfl rfl) (WL_pure rfl rfl (by decide) (Pu_assign rfl rfl) (WL_nil (X_then ?_))))
  refine W_ret (X_then_ret ?_)
  exact X_ret [] (Ps := []) (res2 Try.results10 rfl rfl) rfl (by decide) ⟨rfl, rfl⟩
theorem new_good (room : Nat) (hm : room ≤ 1073741824) (F : HP) : CallsS Try.prog 10 #[.int .i64 (room : Int)] F [] (fun r Ps => ∃ g, r = .tuple #[.pointer (some ⟨g, 0, none⟩), .int .i64 0] ∧ Ps = [cacheP g room []]) := by
  refine callsS_enter Try.func10 rfl Try.ntmps10 (by simp) (fun E => ?_)
  refine W_seq ?_
  refine W.pre (K' := [(0, _)]) (L' := [(0, _)]) ?_ ⟨rfl, trivial⟩ ⟨rfl, trivial⟩
  refine W_regL (WL_pure rfl rfl (by decide) (Pu_assign rfl rfl) (WL_pure rfl rfl (by decide) (Pu_assign rfl rfl) (WL_nil (X_then ?_))))
  refine W_seq ?_
  refine W_seq ?_
  refine W.pre (K' := [(0, _), (2, _), (3, _)]) (L' := [(0, _)]) ?_ ⟨rfl, ⟨rfl, ⟨rfl, trivial⟩⟩⟩ ⟨rfl, trivial⟩
  refine W_regL (WL_pure rfl rfl (by decide) (Pu_move rfl rfl) (WL_pure rfl rfl (by decide) (Pu_bin rfl rfl rfl (run_lss _ _ _ _ _ _)) (WL_pure rfl rfl (by decide) (Pu_move rfl rfl) (WL_guardP rfl rfl rfl rfl (by decide) (fun hb => (Pu_move rfl rfl)) (WL_guardP rfl rfl rfl rfl (by decide) (fun hb => (Pu_bin rfl (ev_gv rfl hb) rfl (run_gtr _ _ _ _ _ _))) (WL_pure rfl rfl (by decide) (Pu_or rfl rfl rfl) (WL_nil (X_then ?_))))))))
  refine W_false rfl (by simp; omega) ?_
  refine W_skip (X_then ?_)
  refine W_seq ?_
  refine W.pre (K' := [(0, _), (2, _), (3, _), (9, _)]) (L' := [(0, _)]) ?_ ⟨rfl, ⟨rfl, ⟨rfl, ⟨rfl, trivial⟩⟩⟩⟩ ⟨rfl, trivial⟩
  refine W_regL (WL_pure rfl rfl (by decide) (Pu_move rfl rfl) (WL_cons rfl rfl (by decide) (OpT_makeMap (r := 150) rfl (fun gm => ?_))))
  skip
  refine (WL_pure rfl rfl (by decide) (Pu_build (V := .agg #[.int .i64 (room : Int), .map (some gm), .slice none 0 0, .int .i64 0]) [(0, 1), (1, 1), (2, 1), (3, 1)] ([.int .i64 0, .map none, .slice none 0 0, .int .i64 0]) rfl rfl (by kernel_rfl) (by kernel_rfl) (.one rfl rfl (by simp []) rfl (.one rfl rfl (by simp []) rfl (.nil _))) rfl) (WL_cons rfl rfl (by decide) (OpT_box (r := 101) rfl rfl rfl (fun g101 => (WL_pure rfl rfl (by decide) (Pu_assign rfl rfl) (WL_pure rfl rfl (by decide) (Pu_assign rfl rfl) (WL_nil (X_then ?_))))))))
  refine W_ret ?_
  refine X_nilRow 9900 33 32 ?_
  refine X_nilRow 9901 33 32 ?_
  refine X_turn (P' := dataP [] []) 9901 rfl (fun h hp p hm => by simp at hm) ?_
  refine X_join [101, 150, 9900, 9901] 1 (cacheP g101 room []) rfl (by decide) (fun h hs => closeCache (m := gm) (v := .slice none 0 0) (es := []) ⟨by simp [keys], fun x hx => by simp [keys] at hx, Nat.zero_le _, hm, fun p hp => by simp at hp⟩ (List.Perm.refl _) rfl hs) ?_
  exact X_ret [1] (Ps := [_]) (res2 Try.results10 rfl rfl) rfl (by decide) ⟨_, rfl, rfl⟩
end Go.Proofs.Ytamhhkjddmjanaa
