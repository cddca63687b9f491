/- Caches by the document: asked. -/
import Derived.Test.YtamhhkjddmjanaaCacheJ
import Derived.Test.YtamhhkjddmjanaaTiC
import Derived.Test.YtamhhkjddmjanaaCache7
namespace Go.Proofs.Ytamhhkjddmjanaa
open Go.RowKit
set_option linter.unusedVariables false
set_option linter.unusedSimpArgs false

theorem refGet_spec (g room : Nat) (L : Ents) (k : List UInt8) (hk : k.length = 32) (F : HP) : CallsS Try.prog 18 #[.pointer (some ⟨g, 0, none⟩), idV k] F [refP g room L] (fun r Ps => ∃ v', r = .tuple #[v', .bool (L.lookup k).isSome] ∧ Ps = [fun h => refP g room (getR L k) h ∧ rdB v' ((L.lookup k).getD []) h]) := by
  refine callsS_enter Try.func18 rfl Try.ntmps18 (by simp) (fun E => ?_)
  refine W_seq ?_
  refine W.pre (K' := [(0, _), (1, _)]) (L' := [(0, _), (1, _)]) ?_ ⟨rfl, ⟨rfl, trivial⟩⟩ ⟨rfl, ⟨rfl, trivial⟩⟩
  refine W_regL (WL_cons rfl rfl (by decide) (OpT_box (r := 101) rfl rfl rfl (fun g101 => (WL_pure rfl rfl (by decide) (Pu_assign rfl rfl) (WL_pure rfl rfl (by decide) (Pu_assign rfl rfl) (WL_nil (X_then ?_)))))))
  refine W_seq ?_
  refine W.pre (K' := [(0, _), (1, _), (3, _), (4, _), (5, _)]) (L' := [(0, _), (1, _), (101, _)]) ?_ ⟨rfl, ⟨rfl, ⟨rfl, ⟨rfl, ⟨rfl, trivial⟩⟩⟩⟩⟩ ⟨rfl, ⟨rfl, ⟨rfl, trivial⟩⟩⟩
  refine W_regL (WL_pure rfl rfl (by decide) (Pu_move rfl rfl) (WL_pure rfl rfl (by decide) (Pu_loadBN (r := 101) rfl Try.isAgg33 Try.sizeOf33 rfl rfl ((bs_length _).trans hk) (load_all ((bs_length _).trans hk))) (WL_cons rfl rfl (by decide) (OpT_call 200 [0, 101] [1] rfl Try.call24 rfl rfl rfl (by decide) (by decide) (take_spec g room L k hk _) (fun v11 Ps11 hR11 => ?_)))))
  obtain ⟨v11, es, hke, h1e, ho, hg, rfl, rfl⟩ := hR11
  have htkl := tk_len hg hke hk
  refine (WL_pure rfl rfl (by decide) (Pu_move rfl rfl) (WL_pure rfl rfl (by decide) (Pu_extract rfl rfl rfl) (WL_pure rfl rfl (by decide) (Pu_extract rfl rfl rfl) (WL_cons rfl rfl (by decide) (OpT_alloc (r := 204) (cs := (oneC (zeroId, .slice none 0 0))) rfl (zero_run (by kernel_rfl : (Try.prog.info? 51).bind (·.zero) = some (.agg (oneC (zeroId, .slice none 0 0)).toArray))) rfl (fun g204 => (WL_cons0 rfl rfl (OpT_storeAll (r := 204) rfl Try.sizeOf51 rfl rfl rfl rfl (oneC_length htkl) (one_one (tk_one h1e)) ?_))))))))
  refine (WL_pure rfl rfl (by decide) (Pu_assign rfl rfl) (WL_nil (X_then ?_)))
  refine W_seq ?_
  refine W_seq ?_
  refine W.pre (K' := [(0, _), (1, _), (3, _), (4, _), (5, _), (6, _), (7, _)]) (L' := [(0, _), (101, _), (200, _), (201, _), (202, _), (204, _)]) ?_ ⟨rfl, ⟨rfl, ⟨rfl, ⟨rfl, ⟨rfl, ⟨rfl, ⟨rfl, trivial⟩⟩⟩⟩⟩⟩⟩ ⟨rfl, ⟨rfl, ⟨rfl, ⟨rfl, ⟨rfl, ⟨rfl, trivial⟩⟩⟩⟩⟩⟩
  refine W_regL (WL_pure rfl rfl (by decide) (Pu_move rfl rfl) (WL_pure rfl rfl (by decide) (Pu_un rfl rfl (run_not _)) (WL_nil (X_then ?_))))
  refine W_cond rfl (fun hc15 => ?_) (fun hc15 => ?_)
  ·
    have hn : es.lookup k = none := by simpa using hc15
    have hnL : L.lookup k = none := by have := same_some (k := k) hke; rw [hn] at this; simpa using this.symm
    have hel : es.length = L.length := by have := congrArg List.length hke; simpa [keys] using this
    refine W_seq ?_
    refine W.pre (K' := [(0, _), (1, _), (3, _), (4, _), (5, _), (6, _), (7, _), (15, _)]) (L' := [(0, _), (101, _), (200, _), (201, _), (202, _), (204, _)]) ?_ ⟨rfl, ⟨rfl, ⟨rfl, ⟨rfl, ⟨rfl, ⟨rfl, ⟨rfl, ⟨rfl, trivial⟩⟩⟩⟩⟩⟩⟩⟩ ⟨rfl, ⟨rfl, ⟨rfl, ⟨rfl, ⟨rfl, ⟨rfl, trivial⟩⟩⟩⟩⟩⟩
    refine W_regL (WL_pure rfl rfl (by decide) (Pu_assign rfl rfl) (WL_pure rfl rfl (by decide) (Pu_assign rfl rfl) (WL_nil (X_then ?_))))
    refine W_ret (X_then_ret ?_)
    refine X_turn (P' := rowP 51 33 v11 L.length (onesC es)) 201 rfl (fun h hh => (congrFun (rowO_to es (by rw [drop_of_none hn, hel]) (by rw [drop_of_none hn])) h).mp hh) ?_
    refine X_join [200, 201, 202] 1 (fun h => refP g room L h ∧ rdB (.slice none 0 0) [] h) rfl (by decide) (fun h hs => ⟨closeRef hg hke h1e ho hs, rd_const 0 1 h⟩) ?_
    exact X_ret [1] (Ps := [_]) (res2 Try.results18 rfl rfl) rfl (by decide) ⟨_, by rw [hnL]; rfl, by rw [getR, hnL]; rfl⟩
  ·
    obtain ⟨vt, hvt⟩ : ∃ vt, es.lookup k = some vt := Option.isSome_iff_exists.1 (by simpa using hc15)
    obtain ⟨d, hd⟩ : ∃ d, L.lookup k = some d := Option.isSome_iff_exists.1 (by rw [← same_some (k := k) hke, hvt]; rfl)
    have htk : tk es k = (k, vt) := by unfold tk; rw [hvt]
    obtain ⟨x, a1, a2, a3, a4⟩ := drop_same hke hvt hd
    have hvo : vt.oneCell' = true := h1e (k, vt) (List.mem_of_getElem? a1)
    have hlen := hg.len
    rw [List.length_reverse] at hlen
    have hel : es.length = L.length := by have := congrArg List.length hke; simpa [keys] using this
    have hdl : (dropK k es).length ≤ es.length := (dropK_sub k es).length_le
    refine W_skip (X_then ?_)
    refine W_seq ?_
    refine W.pre (K' := [(0, _), (1, _), (3, _), (4, _), (5, _), (6, _), (7, _), (15, _)]) (L' := [(0, _), (101, _), (200, _), (201, _), (202, _), (204, _)]) ?_ ⟨rfl, ⟨rfl, ⟨rfl, ⟨rfl, ⟨rfl, ⟨rfl, ⟨rfl, ⟨rfl, trivial⟩⟩⟩⟩⟩⟩⟩⟩ ⟨rfl, ⟨rfl, ⟨rfl, ⟨rfl, ⟨rfl, ⟨rfl, trivial⟩⟩⟩⟩⟩⟩
    refine W_draw (N := 11) (by kernel_rfl) rfl [(0, _), (101, _), (204, _)] ⟨rfl, ⟨rfl, ⟨rfl, trivial⟩⟩⟩ ?_
    refine (AH_take 0 rfl (by kernel_rfl) (by kernel_rfl) (by kernel_rfl) rfl rfl (by decide) (Pu_move rfl rfl) (AH_take 1 rfl (by kernel_rfl) (by kernel_rfl) (by kernel_rfl) rfl rfl (by decide) (Pu_loadBN (r := 204) rfl Try.isAgg51 Try.sizeOf51 rfl rfl (oneC_length htkl) (load_all (oneC_length htkl))) (AH_take 3 rfl (by kernel_rfl) (by kernel_rfl) (by kernel_rfl) rfl rfl (by decide) (Pu_move rfl rfl) (AH_take 4 rfl (by kernel_rfl) (by kernel_rfl) (by kernel_rfl) rfl rfl (by decide) (Pu_nilCheck rfl rfl) (AH_take 5 rfl (by kernel_rfl) (by kernel_rfl) (by kernel_rfl) rfl rfl (by decide) (Pu_fieldAddrB (off := 1) rfl rfl (by kernel_rfl)) (AH_ready [2, 6] (by kernel_rfl) (by decide) ?_))))))
    refine AHs_cons rfl rfl rfl (by decide) (OpT_buildRows (r := 205) [oneC (tk es k)] rfl rfl Try.runUnderlying47 Try.sizeOf51 Try.zeroValue51 rfl (by decide) rfl (by decide) (by intro r hr; simp at hr; rw [hr]; exact oneC_length htkl) rfl (fun v18 => ⟨⟨rfl, ⟨rfl, ⟨rfl, trivial⟩⟩⟩, ?_⟩)) ?_
    ·
      refine (AH_ready [6] (by kernel_rfl) (by decide) ?_)
      refine AHs_cons rfl rfl rfl (by decide) (OpT_run (Pu_loadB (r := 200) rfl Try.isAgg47 rfl rfl rfl) ⟨⟨rfl, ⟨rfl, ⟨rfl, trivial⟩⟩⟩, ?_⟩) ?_
      ·
        refine (AH_ready [7] (by kernel_rfl) (by decide) ?_)
        refine AHs_cons rfl rfl rfl (by decide) (OpT_append (r := 205) (r2 := 201) rfl Try.underlying47 TI.hi51 TI.hz51 TI.hs51 TI.hby51 TI.hzs51 (by decide) rfl rfl rfl rfl (fun _ h => rowP_rd h) (onesC_one (fun y hy => h1e y ((dropK_sub k es).subset hy))) (by unfold maxLen; omega) (by omega) (fun v23 => ?_)) ?_
        ·
          refine ⟨⟨rfl, ⟨rfl, ⟨rfl, trivial⟩⟩⟩, ?_⟩
          refine AH_fact (r := 205) rfl (fun h hp => rd_one (rowP_rd hp)) (fun ho23 => ?_)
          refine (AH_take 8 rfl (by kernel_rfl) (by kernel_rfl) (by kernel_rfl) rfl rfl (by decide) (Pu_nilCheck rfl rfl) (AH_take 9 rfl (by kernel_rfl) (by kernel_rfl) (by kernel_rfl) rfl rfl (by decide) (Pu_fieldAddrB (off := 1) rfl rfl (by kernel_rfl)) (AH_ready [10] (by kernel_rfl) (by decide) ?_)))
          refine AHs_cons0 rfl rfl rfl (OpT_storeB1 (r := 200) rfl Try.sizeOf47 rfl rfl rfl ho23 (by simp) rfl ?_) ?_
          ·
            refine ⟨⟨rfl, ⟨rfl, ⟨rfl, trivial⟩⟩⟩, ?_⟩
            refine (AH_done (by kernel_rfl) (X_then ?_))
            refine W_seq ?_
            refine W.pre (K' := [(0, _), (1, _), (3, _), (4, _), (5, _), (6, _), (7, _), (15, _)]) (L' := [(0, _), (101, _), (200, _), (201, _), (202, _), (204, _), (205, _)]) ?_ ⟨rfl, ⟨rfl, ⟨rfl, ⟨rfl, ⟨rfl, ⟨rfl, ⟨rfl, ⟨rfl, trivial⟩⟩⟩⟩⟩⟩⟩⟩ ⟨rfl, ⟨rfl, ⟨rfl, ⟨rfl, ⟨rfl, ⟨rfl, ⟨rfl, trivial⟩⟩⟩⟩⟩⟩⟩
            refine W_regL (WL_pure rfl rfl (by decide) (Pu_fieldAddrB (off := 32) rfl rfl (by kernel_rfl)) (WL_pure rfl rfl (by decide) (Pu_loadB (r := 204) rfl Try.isAgg35 rfl rfl (by rw [htk]; exact (oneC_at hk))) (WL_pure rfl rfl (by decide) (Pu_assign rfl rfl) (WL_pure rfl rfl (by decide) (Pu_assign rfl rfl) (WL_nil (X_then ?_))))))
            refine W_ret ?_
            refine X_turn (P' := rowP 51 33 v23 ((k, d) :: dropK k L).length (onesC ((k, vt) :: dropK k es))) 205 rfl (fun h hh => (congrFun (rowO_to ((k, vt) :: dropK k es) (by rw [List.length_cons, a3, a4, List.length_eraseIdx, List.length_eraseIdx, hel]; omega) (by rw [htk, onesC_cons]; simp)) h).mp hh) ?_
            refine X_turn (P' := dataR ((k, vt) :: dropK k es) ((k, d) :: dropK k L)) 202 rfl (fun h hh => dataR_cons (hh x _ _ a1 a2) (dataR_drop hke hh k)) ?_
            refine X_join [200, 205, 202] 1 (fun h => refP g room ((k, d) :: dropK k L) h ∧ rdB vt d h) rfl (by decide) (fun h hs => ⟨closeRef (es := ((k, vt) :: dropK k es)) (Gd_front hg hd) (by show k :: _ = k :: _; rw [keys_same hke]; rfl) (fun p hp => by rcases List.mem_cons.1 hp with rfl | hp; exact hvo; exact h1e p ((dropK_sub k es).subset hp)) ho23 hs, starL_le hs 2 rfl (fun h' h1 h2 => rdP_le h2 (h1 0 _ _ rfl rfl))⟩) ?_
            exact X_ret [1] (Ps := [_]) (res2 Try.results18 rfl rfl) rfl (by decide) ⟨_, by rw [hd]; rfl, by rw [getR, hd]; rfl⟩
          exact AHs_nil
        exact AHs_nil
      exact AHs_nil
    refine AHs_cons rfl rfl rfl (by decide) (OpT_run (Pu_loadB (r := 200) rfl Try.isAgg47 rfl rfl rfl) ⟨⟨rfl, ⟨rfl, ⟨rfl, trivial⟩⟩⟩, ?_⟩) ?_
    ·
      refine (AH_ready [2] (by kernel_rfl) (by decide) ?_)
      refine AHs_cons rfl rfl rfl (by decide) (OpT_buildRows (r := 205) [oneC (tk es k)] rfl rfl Try.runUnderlying47 Try.sizeOf51 Try.zeroValue51 rfl (by decide) rfl (by decide) (by intro r hr; simp at hr; rw [hr]; exact oneC_length htkl) rfl (fun v18 => ⟨⟨rfl, ⟨rfl, ⟨rfl, trivial⟩⟩⟩, ?_⟩)) ?_
      ·
        refine (AH_ready [7] (by kernel_rfl) (by decide) ?_)
        refine AHs_cons rfl rfl rfl (by decide) (OpT_append (r := 205) (r2 := 201) rfl Try.underlying47 TI.hi51 TI.hz51 TI.hs51 TI.hby51 TI.hzs51 (by decide) rfl rfl rfl rfl (fun _ h => rowP_rd h) (onesC_one (fun y hy => h1e y ((dropK_sub k es).subset hy))) (by unfold maxLen; omega) (by omega) (fun v23 => ?_)) ?_
        ·
          refine ⟨⟨rfl, ⟨rfl, ⟨rfl, trivial⟩⟩⟩, ?_⟩
          refine AH_fact (r := 205) rfl (fun h hp => rd_one (rowP_rd hp)) (fun ho23 => ?_)
          refine (AH_take 8 rfl (by kernel_rfl) (by kernel_rfl) (by kernel_rfl) rfl rfl (by decide) (Pu_nilCheck rfl rfl) (AH_take 9 rfl (by kernel_rfl) (by kernel_rfl) (by kernel_rfl) rfl rfl (by decide) (Pu_fieldAddrB (off := 1) rfl rfl (by kernel_rfl)) (AH_ready [10] (by kernel_rfl) (by decide) ?_)))
          refine AHs_cons0 rfl rfl rfl (OpT_storeB1 (r := 200) rfl Try.sizeOf47 rfl rfl rfl ho23 (by simp) rfl ?_) ?_
          ·
            refine ⟨⟨rfl, ⟨rfl, ⟨rfl, trivial⟩⟩⟩, ?_⟩
            refine (AH_done (by kernel_rfl) (X_then ?_))
            refine W_seq ?_
            refine W.pre (K' := [(0, _), (1, _), (3, _), (4, _), (5, _), (6, _), (7, _), (15, _)]) (L' := [(0, _), (101, _), (200, _), (201, _), (202, _), (204, _), (205, _)]) ?_ ⟨rfl, ⟨rfl, ⟨rfl, ⟨rfl, ⟨rfl, ⟨rfl, ⟨rfl, ⟨rfl, trivial⟩⟩⟩⟩⟩⟩⟩⟩ ⟨rfl, ⟨rfl, ⟨rfl, ⟨rfl, ⟨rfl, ⟨rfl, ⟨rfl, trivial⟩⟩⟩⟩⟩⟩⟩
            refine W_regL (WL_pure rfl rfl (by decide) (Pu_fieldAddrB (off := 32) rfl rfl (by kernel_rfl)) (WL_pure rfl rfl (by decide) (Pu_loadB (r := 204) rfl Try.isAgg35 rfl rfl (by rw [htk]; exact (oneC_at hk))) (WL_pure rfl rfl (by decide) (Pu_assign rfl rfl) (WL_pure rfl rfl (by decide) (Pu_assign rfl rfl) (WL_nil (X_then ?_))))))
            refine W_ret ?_
            refine X_turn (P' := rowP 51 33 v23 ((k, d) :: dropK k L).length (onesC ((k, vt) :: dropK k es))) 205 rfl (fun h hh => (congrFun (rowO_to ((k, vt) :: dropK k es) (by rw [List.length_cons, a3, a4, List.length_eraseIdx, List.length_eraseIdx, hel]; omega) (by rw [htk, onesC_cons]; simp)) h).mp hh) ?_
            refine X_turn (P' := dataR ((k, vt) :: dropK k es) ((k, d) :: dropK k L)) 202 rfl (fun h hh => dataR_cons (hh x _ _ a1 a2) (dataR_drop hke hh k)) ?_
            refine X_join [200, 205, 202] 1 (fun h => refP g room ((k, d) :: dropK k L) h ∧ rdB vt d h) rfl (by decide) (fun h hs => ⟨closeRef (es := ((k, vt) :: dropK k es)) (Gd_front hg hd) (by show k :: _ = k :: _; rw [keys_same hke]; rfl) (fun p hp => by rcases List.mem_cons.1 hp with rfl | hp; exact hvo; exact h1e p ((dropK_sub k es).subset hp)) ho23 hs, starL_le hs 2 rfl (fun h' h1 h2 => rdP_le h2 (h1 0 _ _ rfl rfl))⟩) ?_
            exact X_ret [1] (Ps := [_]) (res2 Try.results18 rfl rfl) rfl (by decide) ⟨_, by rw [hd]; rfl, by rw [getR, hd]; rfl⟩
          exact AHs_nil
        exact AHs_nil
      exact AHs_nil
    exact AHs_nil
end Go.Proofs.Ytamhhkjddmjanaa
