/- Caches by the document: what has a key is taken out. -/
import Derived.Test.YtamhhkjddmjanaaCacheI
import Derived.Test.YtamhhkjddmjanaaTiC
namespace Go.Proofs.Ytamhhkjddmjanaa
open Go.RowKit
set_option linter.unusedVariables false
set_option linter.unusedSimpArgs false

theorem rowO_of {e : TypeId} {v : Value} {n : Nat} {xs : List Value} (es : MapEs) (hn : n = es.length) (hx : xs = onesC es) : rowP e 33 v n xs = rowP e 33 v es.length (onesC es) := by subst hn; subst hx; rfl
theorem take_spec (g room : Nat) (L : Ents) (k : List UInt8) (hk : k.length = 32) (F : HP) : CallsS Try.prog 24 #[.pointer (some ⟨g, 0, none⟩), idV k] F [refP g room L] (fun r Ps => ∃ v' es, es.map (·.1) = keys L ∧ (∀ p ∈ es, p.2.oneCell' = true) ∧ v'.oneCell' = true ∧ Gd room L.reverse ∧ r = .tuple #[.agg (oneC (tk es k)).toArray, .bool (es.lookup k).isSome] ∧ Ps = [blk g 49 [.int .i64 (room : Int), v'], rowP 51 33 v' (dropK k es).length (onesC (dropK k es)), dataR es L]) := by
  refine callsS_enter Try.func24 rfl Try.ntmps24 (by simp) (fun E => ?_)
  refine W_seq ?_
  refine W.pre (K' := [(0, _), (1, _)]) (L' := [(0, _), (1, _)]) ?_ ⟨rfl, ⟨rfl, trivial⟩⟩ ⟨rfl, ⟨rfl, trivial⟩⟩
  refine W_openRef 1 200 rfl (fun v es hg hke h1e ho => ?_)
  have hlen := hg.len
  have hfit := hg.fits
  have hmost := hg.most
  rw [List.length_reverse] at hlen
  rw [total_reverse] at hfit
  have hids : Ids (es.map (·.1)) := fun y hy => hg.ids y (by rw [keys_reverse, ← hke]; exact List.mem_reverse.2 hy)
  have hel : es.length = L.length := by have := congrArg List.length hke; simpa [keys] using this
  refine W_regL (WL_cons rfl rfl (by decide) (OpT_box (r := 251) rfl rfl rfl (fun g251 => (WL_cons rfl rfl (by decide) (OpT_alloc (r := 252) (cs := (oneC (zeroId, .slice none 0 0))) rfl (zero_run (by kernel_rfl : (Try.prog.info? 51).bind (·.zero) = some (.agg (oneC (zeroId, .slice none 0 0)).toArray))) rfl (fun g252 => (WL_pure rfl rfl (by decide) (Pu_assign rfl rfl) (WL_nil (X_then ?_)))))))))
  refine W_seq ?_
  refine W_seq ?_
  refine W.pre (K' := [(0, _), (1, _), (3, _), (4, _), (5, _)]) (L' := [(0, _), (200, _), (201, _), (202, _), (251, _), (252, _)]) ?_ ⟨rfl, ⟨rfl, ⟨rfl, ⟨rfl, ⟨rfl, trivial⟩⟩⟩⟩⟩ ⟨rfl, ⟨rfl, ⟨rfl, ⟨rfl, ⟨rfl, ⟨rfl, trivial⟩⟩⟩⟩⟩⟩
  refine W_regL (WL_pure rfl rfl (by decide) (Pu_assign rfl rfl) (WL_nil (X_then ?_)))
  refine W_block ?_
  refine W_loop (α := Nat) (fun i => [(0, .pointer (some ⟨g, 0, none⟩)), (3, .pointer (some ⟨g251, 0, none⟩)), (4, .pointer (some ⟨g252, 0, none⟩)), (6, .int .i64 (i : Int))]) (fun i => [(0, F), (200, blk g 49 [.int .i64 (room : Int), v]), (201, rowP 51 33 v L.length (onesC es)), (202, dataR es L), (251, blk g251 33 (bs k)), (252, blk g252 51 (oneC (zeroId, .slice none 0 0)))]) (fun i => i ≤ L.length ∧ ∀ j q, j < i → es[j]? = some q → (q.1 == k) = false) (fun i => L.length - i) (0) ⟨Nat.zero_le _, fun j q hj => by omega⟩ ⟨rfl, ⟨rfl, ⟨rfl, ⟨rfl, trivial⟩⟩⟩⟩ ⟨rfl, ⟨rfl, ⟨rfl, ⟨rfl, ⟨rfl, ⟨rfl, trivial⟩⟩⟩⟩⟩⟩ (fun x hx => ?_)
  obtain ⟨hxl, hno⟩ := hx
  refine W_seq ?_
  refine W_seq ?_
  refine W.pre (K' := [(0, _), (3, _), (4, _), (6, _)]) (L' := [(0, _), (200, _), (201, _), (202, _), (251, _), (252, _)]) ?_ ⟨rfl, ⟨rfl, ⟨rfl, ⟨rfl, trivial⟩⟩⟩⟩ ⟨rfl, ⟨rfl, ⟨rfl, ⟨rfl, ⟨rfl, ⟨rfl, trivial⟩⟩⟩⟩⟩⟩
  refine W_regL (WL_pure rfl rfl (by decide) (Pu_move rfl rfl) (WL_pure rfl rfl (by decide) (Pu_move rfl rfl) (WL_pure rfl rfl (by decide) (Pu_nilCheck rfl rfl) (WL_pure rfl rfl (by decide) (Pu_fieldAddrB (off := 1) rfl rfl (by kernel_rfl)) (WL_pure rfl rfl (by decide) (Pu_loadB (r := 200) rfl Try.isAgg47 rfl rfl rfl) (WL_pure rfl rfl (by decide) (Pu_len (r := 201) rfl Try.runUnderlying47 rfl rfl (fun _ h => rowP_rd h)) (WL_pure rfl rfl (by decide) (Pu_bin rfl rfl rfl (run_lss _ _ _ _ _ _)) (WL_nil (X_then ?_)))))))))
  refine W_cond rfl (fun hc14 => ?_) (fun hc14 => ?_)
  ·
    have hlt : x < L.length := by have := of_decide_eq_true hc14; omega
    obtain ⟨p, hp⟩ : ∃ p, es[x]? = some p := ⟨_, List.getElem?_eq_getElem (by omega)⟩
    obtain ⟨q, hq⟩ : ∃ q, L[x]? = some q := ⟨_, List.getElem?_eq_getElem (by omega)⟩
    obtain ⟨hp32, hp1, hp2, hp3⟩ := onesC_of hids hp
    refine W_skip (X_then ?_)
    refine W_seq ?_
    refine W_block ?_
    refine W_seq ?_
    refine W.pre (K' := [(0, _), (3, _), (4, _), (6, _), (14, _)]) (L' := [(0, _), (200, _), (201, _), (202, _), (251, _), (252, _)]) ?_ ⟨rfl, ⟨rfl, ⟨rfl, ⟨rfl, ⟨rfl, trivial⟩⟩⟩⟩⟩ ⟨rfl, ⟨rfl, ⟨rfl, ⟨rfl, ⟨rfl, ⟨rfl, trivial⟩⟩⟩⟩⟩⟩
    refine W_draw (N := 10) (by kernel_rfl) rfl [(0, _), (200, _), (251, _), (252, _), (201, _)] ⟨rfl, ⟨rfl, ⟨rfl, ⟨rfl, ⟨rfl, trivial⟩⟩⟩⟩⟩ ?_
    refine (AH_take 0 rfl (by kernel_rfl) (by kernel_rfl) (by kernel_rfl) rfl rfl (by decide) (Pu_move rfl rfl) (AH_take 1 rfl (by kernel_rfl) (by kernel_rfl) (by kernel_rfl) rfl rfl (by decide) (Pu_nilCheck rfl rfl) (AH_take 2 rfl (by kernel_rfl) (by kernel_rfl) (by kernel_rfl) rfl rfl (by decide) (Pu_fieldAddrB (off := 1) rfl rfl (by kernel_rfl)) (AH_take 3 rfl (by kernel_rfl) (by kernel_rfl) (by kernel_rfl) rfl rfl (by decide) (Pu_loadB (r := 200) rfl Try.isAgg47 rfl rfl rfl) (AH_take 4 rfl (by kernel_rfl) (by kernel_rfl) (by kernel_rfl) rfl rfl (by decide) (Pu_move rfl rfl) (AH_take 5 rfl (by kernel_rfl) (by kernel_rfl) (by kernel_rfl) rfl rfl (by decide) (Pu_idxS (r := 201) rfl Try.runUnderlying47 Try.sizeOf51 rfl rfl rfl (fun _ h => rowP_rd h) (by omega)) (AH_take 6 rfl (by kernel_rfl) (by kernel_rfl) (by kernel_rfl) rfl rfl (by decide) (Pu_fieldAddrE (off := 0) rfl rfl (by kernel_rfl)) (AH_take 7 rfl (by kernel_rfl) (by kernel_rfl) (by kernel_rfl) rfl rfl (by decide) (Pu_loadSN (r := 201) rfl Try.isAgg33 Try.sizeOf33 rfl rfl (fun _ h => rowP_rd h) ((bs_length _).trans hp32) (by decide) hp2) (AH_take 8 rfl (by kernel_rfl) (by kernel_rfl) (by kernel_rfl) rfl rfl (by decide) (Pu_loadBN (r := 251) rfl Try.isAgg33 Try.sizeOf33 rfl rfl ((bs_length _).trans hk) (load_all ((bs_length _).trans hk))) (AH_take 9 rfl (by kernel_rfl) (by kernel_rfl) (by kernel_rfl) rfl rfl (by decide) (Pu_bin rfl rfl rfl (run_idEq _ _ hp32 hk _ _)) (AH_done (by kernel_rfl) (X_then ?_))))))))))))
    refine W_cond rfl (fun hc26 => ?_) (fun hc26 => ?_)
    ·
      obtain ⟨hdk, hlk⟩ := drop_at hp hno hc26
      have hpm : p ∈ es := List.mem_of_getElem? hp
      have hpo := h1e p hpm
      refine W_seq ?_
      refine W.pre (K' := [(0, _), (3, _), (4, _), (6, _), (14, _), (26, _)]) (L' := [(0, _), (200, _), (201, _), (202, _), (251, _), (252, _)]) ?_ ⟨rfl, ⟨rfl, ⟨rfl, ⟨rfl, ⟨rfl, ⟨rfl, trivial⟩⟩⟩⟩⟩⟩ ⟨rfl, ⟨rfl, ⟨rfl, ⟨rfl, ⟨rfl, ⟨rfl, trivial⟩⟩⟩⟩⟩⟩
      refine W_regL (WL_pure rfl rfl (by decide) (Pu_move rfl rfl) (WL_pure rfl rfl (by decide) (Pu_nilCheck rfl rfl) (WL_pure rfl rfl (by decide) (Pu_fieldAddrB (off := 1) rfl rfl (by kernel_rfl)) (WL_pure rfl rfl (by decide) (Pu_loadB (r := 200) rfl Try.isAgg47 rfl rfl rfl) (WL_pure rfl rfl (by decide) (Pu_move rfl rfl) (WL_pure rfl rfl (by decide) (Pu_idxS (r := 201) rfl Try.runUnderlying47 Try.sizeOf51 rfl rfl rfl (fun _ h => rowP_rd h) (by omega)) (WL_pure rfl rfl (by decide) (Pu_loadSN (r := 201) rfl Try.isAgg51 Try.sizeOf51 rfl rfl (fun _ h => rowP_rd h) (oneC_length hp32) (by decide) hp1) (WL_cons rfl rfl (by decide) (OpT_alloc (r := 253) (cs := (oneC (zeroId, .slice none 0 0))) rfl (zero_run (by kernel_rfl : (Try.prog.info? 51).bind (·.zero) = some (.agg (oneC (zeroId, .slice none 0 0)).toArray))) rfl (fun g253 => (WL_cons0 rfl rfl (OpT_storeAll (r := 253) rfl Try.sizeOf51 rfl rfl rfl rfl (oneC_length hp32) (one_one hpo) ?_))))))))))))
      refine (WL_nil (X_then ?_))
      refine W_seq ?_
      refine W.pre (K' := [(0, _), (3, _), (4, _), (6, _), (7, _), (14, _), (26, _)]) (L' := [(0, _), (200, _), (201, _), (202, _), (251, _), (252, _), (253, _)]) ?_ ⟨rfl, ⟨rfl, ⟨rfl, ⟨rfl, ⟨rfl, ⟨rfl, ⟨rfl, trivial⟩⟩⟩⟩⟩⟩⟩ ⟨rfl, ⟨rfl, ⟨rfl, ⟨rfl, ⟨rfl, ⟨rfl, ⟨rfl, trivial⟩⟩⟩⟩⟩⟩⟩
      refine W_draw (N := 20) (by kernel_rfl) rfl [(0, _), (251, _), (252, _), (253, _), (201, _)] ⟨rfl, ⟨rfl, ⟨rfl, ⟨rfl, ⟨rfl, trivial⟩⟩⟩⟩⟩ ?_
      refine (AH_take 0 rfl (by kernel_rfl) (by kernel_rfl) (by kernel_rfl) rfl rfl (by decide) (Pu_move rfl rfl) (AH_take 2 rfl (by kernel_rfl) (by kernel_rfl) (by kernel_rfl) rfl rfl (by decide) (Pu_move rfl rfl) (AH_take 3 rfl (by kernel_rfl) (by kernel_rfl) (by kernel_rfl) rfl rfl (by decide) (Pu_nilCheck rfl rfl) (AH_take 4 rfl (by kernel_rfl) (by kernel_rfl) (by kernel_rfl) rfl rfl (by decide) (Pu_fieldAddrB (off := 1) rfl rfl (by kernel_rfl)) (AH_take 6 rfl (by kernel_rfl) (by kernel_rfl) (by kernel_rfl) rfl rfl (by decide) (Pu_move rfl rfl) (AH_take 9 rfl (by kernel_rfl) (by kernel_rfl) (by kernel_rfl) rfl rfl (by decide) (Pu_move rfl rfl) (AH_take 10 rfl (by kernel_rfl) (by kernel_rfl) (by kernel_rfl) rfl rfl (by decide) (Pu_nilCheck rfl rfl) (AH_take 11 rfl (by kernel_rfl) (by kernel_rfl) (by kernel_rfl) rfl rfl (by decide) (Pu_fieldAddrB (off := 1) rfl rfl (by kernel_rfl)) (AH_take 13 rfl (by kernel_rfl) (by kernel_rfl) (by kernel_rfl) rfl rfl (by decide) (Pu_move rfl rfl) (AH_take 14 rfl (by kernel_rfl) (by kernel_rfl) (by kernel_rfl) rfl rfl (by decide) (Pu_bin rfl rfl rfl (run_add _ _ _ _ _ (by omega))) (AH_ready [1, 5, 12] (by kernel_rfl) (by decide) ?_)))))))))))
      refine AHs_cons rfl rfl rfl (by decide) (OpT_buildRows (r := 254) [] rfl rfl Try.runUnderlying47 Try.sizeOf51 Try.zeroValue51 rfl (by decide) rfl (by decide) (by simp) rfl (fun v35 => ⟨⟨rfl, ⟨rfl, ⟨rfl, ⟨rfl, ⟨rfl, trivial⟩⟩⟩⟩⟩, ?_⟩)) ?_
      ·
        refine (AH_ready [5, 12] (by kernel_rfl) (by decide) ?_)
        refine AHs_cons rfl rfl rfl (by decide) (OpT_run (Pu_loadB (r := 200) rfl Try.isAgg47 rfl rfl rfl) ⟨⟨rfl, ⟨rfl, ⟨rfl, ⟨rfl, ⟨rfl, trivial⟩⟩⟩⟩⟩, ?_⟩) ?_
        ·
          refine (AH_take 7 rfl (by kernel_rfl) (by kernel_rfl) (by kernel_rfl) rfl rfl (by decide) (Pu_slice (r := 201) (a := 0) (b := x) rfl Try.runUnderlying47 Try.sizeOf51 rfl rfl (fun _ h => rowP_rd h) (.inl ⟨rfl, rfl⟩) (.inr ⟨_, _, _, rfl, rfl, rfl⟩) (Nat.zero_le _) (by omega)) (AH_ready [8, 12] (by kernel_rfl) (by decide) ?_))
          refine AHs_cons rfl rfl rfl (by decide) (OpT_append (r := 254) (r2 := 201) (k1 := 0) rfl Try.underlying47 TI.hi51 TI.hz51 TI.hs51 TI.hby51 TI.hzs51 (by decide) rfl rfl rfl rfl (fun h hh => rdP_cast (rdP_sub (rowP_rd hh) (by omega) (by omega)) (ones_sub hids 0 x) rfl) (onesC_one (fun y hy => h1e y (List.mem_of_mem_drop (List.mem_of_mem_take hy)))) (by unfold maxLen; omega) (by omega) (fun v42 => ?_)) ?_
          ·
            refine ⟨⟨rfl, ⟨rfl, ⟨rfl, ⟨rfl, ⟨rfl, trivial⟩⟩⟩⟩⟩, ?_⟩
            refine (AH_ready [12] (by kernel_rfl) (by decide) ?_)
            refine AHs_cons rfl rfl rfl (by decide) (OpT_run (Pu_loadB (r := 200) rfl Try.isAgg47 rfl rfl rfl) ⟨⟨rfl, ⟨rfl, ⟨rfl, ⟨rfl, ⟨rfl, trivial⟩⟩⟩⟩⟩, ?_⟩) ?_
            ·
              refine (AH_take 15 rfl (by kernel_rfl) (by kernel_rfl) (by kernel_rfl) rfl rfl (by decide) (Pu_slice (r := 201) (a := x + 1) (b := L.length) rfl Try.runUnderlying47 Try.sizeOf51 rfl rfl (fun _ h => rowP_rd h) (.inr ⟨_, _, _, rfl, rfl, (by omega)⟩) (.inl ⟨rfl, rfl⟩) (by omega) (Nat.le_refl _)) (AH_ready [16] (by kernel_rfl) (by decide) ?_))
              refine AHs_cons rfl rfl rfl (by decide) (OpT_append (r := 254) (r2 := 201) rfl Try.underlying47 TI.hi51 TI.hz51 TI.hs51 TI.hby51 TI.hzs51 (by decide) rfl rfl rfl rfl (fun h hh => rdP_cast (rdP_sub (rowP_rd hh) (by omega) (by omega)) (ones_sub hids (x + 1) L.length) rfl) (onesC_one (fun y hy => h1e y (List.mem_of_mem_drop (List.mem_of_mem_take hy)))) (by unfold maxLen; omega) (by omega) (fun v50 => ?_)) ?_
              ·
                refine ⟨⟨rfl, ⟨rfl, ⟨rfl, ⟨rfl, ⟨rfl, trivial⟩⟩⟩⟩⟩, ?_⟩
                refine AH_fact (r := 254) rfl (fun h hp => rd_one (rowP_rd hp)) (fun ho50 => ?_)
                refine (AH_take 17 rfl (by kernel_rfl) (by kernel_rfl) (by kernel_rfl) rfl rfl (by decide) (Pu_nilCheck rfl rfl) (AH_take 18 rfl (by kernel_rfl) (by kernel_rfl) (by kernel_rfl) rfl rfl (by decide) (Pu_fieldAddrB (off := 1) rfl rfl (by kernel_rfl)) (AH_ready [19] (by kernel_rfl) (by decide) ?_)))
                refine AHs_cons0 rfl rfl rfl (OpT_storeB1 (r := 200) rfl Try.sizeOf47 rfl rfl rfl ho50 (by simp) rfl ?_) ?_
                ·
                  refine ⟨⟨rfl, ⟨rfl, ⟨rfl, ⟨rfl, ⟨rfl, trivial⟩⟩⟩⟩⟩, ?_⟩
                  refine (AH_done (by kernel_rfl) (X_then ?_))
                  refine W_seq ?_
                  refine W.pre (K' := [(0, _), (3, _), (4, _), (6, _), (7, _), (14, _), (26, _)]) (L' := [(0, _), (200, _), (201, _), (202, _), (251, _), (252, _), (253, _), (254, _)]) ?_ ⟨rfl, ⟨rfl, ⟨rfl, ⟨rfl, ⟨rfl, ⟨rfl, ⟨rfl, trivial⟩⟩⟩⟩⟩⟩⟩ ⟨rfl, ⟨rfl, ⟨rfl, ⟨rfl, ⟨rfl, ⟨rfl, ⟨rfl, ⟨rfl, trivial⟩⟩⟩⟩⟩⟩⟩⟩
                  refine W_regL (WL_pure rfl rfl (by decide) (Pu_loadBN (r := 253) rfl Try.isAgg51 Try.sizeOf51 rfl rfl (oneC_length hp32) (load_all (oneC_length hp32))) (WL_cons0 rfl rfl (OpT_storeAll (r := 252) rfl Try.sizeOf51 rfl rfl rfl rfl (oneC_length hp32) (one_one hpo) ?_)))
                  refine (WL_pure rfl rfl (by decide) (Pu_assign rfl rfl) (WL_nil (X_then ?_)))
                  refine W_ret (X_block_ret (X_then_ret (X_then_ret (X_block_ret (X_then_ret ?_)))))
                  refine X_turn (P' := rowP 51 33 v50 (dropK k es).length (onesC (dropK k es))) 254 rfl (fun h hh => (congrFun (rowO_of (dropK k es) (by rw [hdk, List.length_eraseIdx, if_pos (by omega)]; omega) (by rw [hdk, ← erase_parts es (by omega), hel]; simp [onesC])) h).mp hh) ?_
                  have hpk : p.1 = k := by simpa using hc26
                  have htk : tk es k = p := by unfold tk; rw [hlk, ← hpk]
                  exact X_ret [200, 254, 202] (Ps := [_, _, _]) (resC2 (r := 252) Try.results24 rfl rfl Try.isAgg51 Try.sizeOf51 rfl (oneC_length hp32)) rfl (by decide) ⟨v50, es, hke, h1e, ho50, hg, by rw [htk, hlk]; rfl, rfl⟩
                exact AHs_nil
              exact AHs_nil
            exact AHs_nil
          refine AHs_cons rfl rfl rfl (by decide) (OpT_run (Pu_loadB (r := 200) rfl Try.isAgg47 rfl rfl rfl) ⟨⟨rfl, ⟨rfl, ⟨rfl, ⟨rfl, ⟨rfl, trivial⟩⟩⟩⟩⟩, ?_⟩) ?_
          ·
            refine (AH_take 15 rfl (by kernel_rfl) (by kernel_rfl) (by kernel_rfl) rfl rfl (by decide) (Pu_slice (r := 201) (a := x + 1) (b := L.length) rfl Try.runUnderlying47 Try.sizeOf51 rfl rfl (fun _ h => rowP_rd h) (.inr ⟨_, _, _, rfl, rfl, (by omega)⟩) (.inl ⟨rfl, rfl⟩) (by omega) (Nat.le_refl _)) (AH_ready [8] (by kernel_rfl) (by decide) ?_))
            refine AHs_cons rfl rfl rfl (by decide) (OpT_append (r := 254) (r2 := 201) (k1 := 0) rfl Try.underlying47 TI.hi51 TI.hz51 TI.hs51 TI.hby51 TI.hzs51 (by decide) rfl rfl rfl rfl (fun h hh => rdP_cast (rdP_sub (rowP_rd hh) (by omega) (by omega)) (ones_sub hids 0 x) rfl) (onesC_one (fun y hy => h1e y (List.mem_of_mem_drop (List.mem_of_mem_take hy)))) (by unfold maxLen; omega) (by omega) (fun v42 => ?_)) ?_
            ·
              refine ⟨⟨rfl, ⟨rfl, ⟨rfl, ⟨rfl, ⟨rfl, trivial⟩⟩⟩⟩⟩, ?_⟩
              refine (AH_ready [16] (by kernel_rfl) (by decide) ?_)
              refine AHs_cons rfl rfl rfl (by decide) (OpT_append (r := 254) (r2 := 201) rfl Try.underlying47 TI.hi51 TI.hz51 TI.hs51 TI.hby51 TI.hzs51 (by decide) rfl rfl rfl rfl (fun h hh => rdP_cast (rdP_sub (rowP_rd hh) (by omega) (by omega)) (ones_sub hids (x + 1) L.length) rfl) (onesC_one (fun y hy => h1e y (List.mem_of_mem_drop (List.mem_of_mem_take hy)))) (by unfold maxLen; omega) (by omega) (fun v50 => ?_)) ?_
              ·
                refine ⟨⟨rfl, ⟨rfl, ⟨rfl, ⟨rfl, ⟨rfl, trivial⟩⟩⟩⟩⟩, ?_⟩
                refine AH_fact (r := 254) rfl (fun h hp => rd_one (rowP_rd hp)) (fun ho50 => ?_)
                refine (AH_take 17 rfl (by kernel_rfl) (by kernel_rfl) (by kernel_rfl) rfl rfl (by decide) (Pu_nilCheck rfl rfl) (AH_take 18 rfl (by kernel_rfl) (by kernel_rfl) (by kernel_rfl) rfl rfl (by decide) (Pu_fieldAddrB (off := 1) rfl rfl (by kernel_rfl)) (AH_ready [19] (by kernel_rfl) (by decide) ?_)))
                refine AHs_cons0 rfl rfl rfl (OpT_storeB1 (r := 200) rfl Try.sizeOf47 rfl rfl rfl ho50 (by simp) rfl ?_) ?_
                ·
                  refine ⟨⟨rfl, ⟨rfl, ⟨rfl, ⟨rfl, ⟨rfl, trivial⟩⟩⟩⟩⟩, ?_⟩
                  refine (AH_done (by kernel_rfl) (X_then ?_))
                  refine W_seq ?_
                  refine W.pre (K' := [(0, _), (3, _), (4, _), (6, _), (7, _), (14, _), (26, _)]) (L' := [(0, _), (200, _), (201, _), (202, _), (251, _), (252, _), (253, _), (254, _)]) ?_ ⟨rfl, ⟨rfl, ⟨rfl, ⟨rfl, ⟨rfl, ⟨rfl, ⟨rfl, trivial⟩⟩⟩⟩⟩⟩⟩ ⟨rfl, ⟨rfl, ⟨rfl, ⟨rfl, ⟨rfl, ⟨rfl, ⟨rfl, ⟨rfl, trivial⟩⟩⟩⟩⟩⟩⟩⟩
                  refine W_regL (WL_pure rfl rfl (by decide) (Pu_loadBN (r := 253) rfl Try.isAgg51 Try.sizeOf51 rfl rfl (oneC_length hp32) (load_all (oneC_length hp32))) (WL_cons0 rfl rfl (OpT_storeAll (r := 252) rfl Try.sizeOf51 rfl rfl rfl rfl (oneC_length hp32) (one_one hpo) ?_)))
                  refine (WL_pure rfl rfl (by decide) (Pu_assign rfl rfl) (WL_nil (X_then ?_)))
                  refine W_ret (X_block_ret (X_then_ret (X_then_ret (X_block_ret (X_then_ret ?_)))))
                  refine X_turn (P' := rowP 51 33 v50 (dropK k es).length (onesC (dropK k es))) 254 rfl (fun h hh => (congrFun (rowO_of (dropK k es) (by rw [hdk, List.length_eraseIdx, if_pos (by omega)]; omega) (by rw [hdk, ← erase_parts es (by omega), hel]; simp [onesC])) h).mp hh) ?_
                  have hpk : p.1 = k := by simpa using hc26
                  have htk : tk es k = p := by unfold tk; rw [hlk, ← hpk]
                  exact X_ret [200, 254, 202] (Ps := [_, _, _]) (resC2 (r := 252) Try.results24 rfl rfl Try.isAgg51 Try.sizeOf51 rfl (oneC_length hp32)) rfl (by decide) ⟨v50, es, hke, h1e, ho50, hg, by rw [htk, hlk]; rfl, rfl⟩
                exact AHs_nil
              exact AHs_nil
            exact AHs_nil
          exact AHs_nil
        refine AHs_cons rfl rfl rfl (by decide) (OpT_run (Pu_loadB (r := 200) rfl Try.isAgg47 rfl rfl rfl) ⟨⟨rfl, ⟨rfl, ⟨rfl, ⟨rfl, ⟨rfl, trivial⟩⟩⟩⟩⟩, ?_⟩) ?_
        ·
          refine (AH_take 15 rfl (by kernel_rfl) (by kernel_rfl) (by kernel_rfl) rfl rfl (by decide) (Pu_slice (r := 201) (a := x + 1) (b := L.length) rfl Try.runUnderlying47 Try.sizeOf51 rfl rfl (fun _ h => rowP_rd h) (.inr ⟨_, _, _, rfl, rfl, (by omega)⟩) (.inl ⟨rfl, rfl⟩) (by omega) (Nat.le_refl _)) (AH_ready [5] (by kernel_rfl) (by decide) ?_))
          refine AHs_cons rfl rfl rfl (by decide) (OpT_run (Pu_loadB (r := 200) rfl Try.isAgg47 rfl rfl rfl) ⟨⟨rfl, ⟨rfl, ⟨rfl, ⟨rfl, ⟨rfl, trivial⟩⟩⟩⟩⟩, ?_⟩) ?_
          ·
            refine (AH_take 7 rfl (by kernel_rfl) (by kernel_rfl) (by kernel_rfl) rfl rfl (by decide) (Pu_slice (r := 201) (a := 0) (b := x) rfl Try.runUnderlying47 Try.sizeOf51 rfl rfl (fun _ h => rowP_rd h) (.inl ⟨rfl, rfl⟩) (.inr ⟨_, _, _, rfl, rfl, rfl⟩) (Nat.zero_le _) (by omega)) (AH_ready [8] (by kernel_rfl) (by decide) ?_))
            refine AHs_cons rfl rfl rfl (by decide) (OpT_append (r := 254) (r2 := 201) (k1 := 0) rfl Try.underlying47 TI.hi51 TI.hz51 TI.hs51 TI.hby51 TI.hzs51 (by decide) rfl rfl rfl rfl (fun h hh => rdP_cast (rdP_sub (rowP_rd hh) (by omega) (by omega)) (ones_sub hids 0 x) rfl) (onesC_one (fun y hy => h1e y (List.mem_of_mem_drop (List.mem_of_mem_take hy)))) (by unfold maxLen; omega) (by omega) (fun v42 => ?_)) ?_
            ·
              refine ⟨⟨rfl, ⟨rfl, ⟨rfl, ⟨rfl, ⟨rfl, trivial⟩⟩⟩⟩⟩, ?_⟩
              refine (AH_ready [16] (by kernel_rfl) (by decide) ?_)
              refine AHs_cons rfl rfl rfl (by decide) (OpT_append (r := 254) (r2 := 201) rfl Try.underlying47 TI.hi51 TI.hz51 TI.hs51 TI.hby51 TI.hzs51 (by decide) rfl rfl rfl rfl (fun h hh => rdP_cast (rdP_sub (rowP_rd hh) (by omega) (by omega)) (ones_sub hids (x + 1) L.length) rfl) (onesC_one (fun y hy => h1e y (List.mem_of_mem_drop (List.mem_of_mem_take hy)))) (by unfold maxLen; omega) (by omega) (fun v50 => ?_)) ?_
              ·
                refine ⟨⟨rfl, ⟨rfl, ⟨rfl, ⟨rfl, ⟨rfl, trivial⟩⟩⟩⟩⟩, ?_⟩
                refine AH_fact (r := 254) rfl (fun h hp => rd_one (rowP_rd hp)) (fun ho50 => ?_)
                refine (AH_take 17 rfl (by kernel_rfl) (by kernel_rfl) (by kernel_rfl) rfl rfl (by decide) (Pu_nilCheck rfl rfl) (AH_take 18 rfl (by kernel_rfl) (by kernel_rfl) (by kernel_rfl) rfl rfl (by decide) (Pu_fieldAddrB (off := 1) rfl rfl (by kernel_rfl)) (AH_ready [19] (by kernel_rfl) (by decide) ?_)))
                refine AHs_cons0 rfl rfl rfl (OpT_storeB1 (r := 200) rfl Try.sizeOf47 rfl rfl rfl ho50 (by simp) rfl ?_) ?_
                ·
                  refine ⟨⟨rfl, ⟨rfl, ⟨rfl, ⟨rfl, ⟨rfl, trivial⟩⟩⟩⟩⟩, ?_⟩
                  refine (AH_done (by kernel_rfl) (X_then ?_))
                  refine W_seq ?_
                  refine W.pre (K' := [(0, _), (3, _), (4, _), (6, _), (7, _), (14, _), (26, _)]) (L' := [(0, _), (200, _), (201, _), (202, _), (251, _), (252, _), (253, _), (254, _)]) ?_ ⟨rfl, ⟨rfl, ⟨rfl, ⟨rfl, ⟨rfl, ⟨rfl, ⟨rfl, trivial⟩⟩⟩⟩⟩⟩⟩ ⟨rfl, ⟨rfl, ⟨rfl, ⟨rfl, ⟨rfl, ⟨rfl, ⟨rfl, ⟨rfl, trivial⟩⟩⟩⟩⟩⟩⟩⟩
                  refine W_regL (WL_pure rfl rfl (by decide) (Pu_loadBN (r := 253) rfl Try.isAgg51 Try.sizeOf51 rfl rfl (oneC_length hp32) (load_all (oneC_length hp32))) (WL_cons0 rfl rfl (OpT_storeAll (r := 252) rfl Try.sizeOf51 rfl rfl rfl rfl (oneC_length hp32) (one_one hpo) ?_)))
                  refine (WL_pure rfl rfl (by decide) (Pu_assign rfl rfl) (WL_nil (X_then ?_)))
                  refine W_ret (X_block_ret (X_then_ret (X_then_ret (X_block_ret (X_then_ret ?_)))))
                  refine X_turn (P' := rowP 51 33 v50 (dropK k es).length (onesC (dropK k es))) 254 rfl (fun h hh => (congrFun (rowO_of (dropK k es) (by rw [hdk, List.length_eraseIdx, if_pos (by omega)]; omega) (by rw [hdk, ← erase_parts es (by omega), hel]; simp [onesC])) h).mp hh) ?_
                  have hpk : p.1 = k := by simpa using hc26
                  have htk : tk es k = p := by unfold tk; rw [hlk, ← hpk]
                  exact X_ret [200, 254, 202] (Ps := [_, _, _]) (resC2 (r := 252) Try.results24 rfl rfl Try.isAgg51 Try.sizeOf51 rfl (oneC_length hp32)) rfl (by decide) ⟨v50, es, hke, h1e, ho50, hg, by rw [htk, hlk]; rfl, rfl⟩
                exact AHs_nil
              exact AHs_nil
            exact AHs_nil
          exact AHs_nil
        exact AHs_nil
      refine AHs_cons rfl rfl rfl (by decide) (OpT_run (Pu_loadB (r := 200) rfl Try.isAgg47 rfl rfl rfl) ⟨⟨rfl, ⟨rfl, ⟨rfl, ⟨rfl, ⟨rfl, trivial⟩⟩⟩⟩⟩, ?_⟩) ?_
      ·
        refine (AH_take 7 rfl (by kernel_rfl) (by kernel_rfl) (by kernel_rfl) rfl rfl (by decide) (Pu_slice (r := 201) (a := 0) (b := x) rfl Try.runUnderlying47 Try.sizeOf51 rfl rfl (fun _ h => rowP_rd h) (.inl ⟨rfl, rfl⟩) (.inr ⟨_, _, _, rfl, rfl, rfl⟩) (Nat.zero_le _) (by omega)) (AH_ready [1, 12] (by kernel_rfl) (by decide) ?_))
        refine AHs_cons rfl rfl rfl (by decide) (OpT_buildRows (r := 254) [] rfl rfl Try.runUnderlying47 Try.sizeOf51 Try.zeroValue51 rfl (by decide) rfl (by decide) (by simp) rfl (fun v35 => ⟨⟨rfl, ⟨rfl, ⟨rfl, ⟨rfl, ⟨rfl, trivial⟩⟩⟩⟩⟩, ?_⟩)) ?_
        ·
          refine (AH_ready [8, 12] (by kernel_rfl) (by decide) ?_)
          refine AHs_cons rfl rfl rfl (by decide) (OpT_append (r := 254) (r2 := 201) (k1 := 0) rfl Try.underlying47 TI.hi51 TI.hz51 TI.hs51 TI.hby51 TI.hzs51 (by decide) rfl rfl rfl rfl (fun h hh => rdP_cast (rdP_sub (rowP_rd hh) (by omega) (by omega)) (ones_sub hids 0 x) rfl) (onesC_one (fun y hy => h1e y (List.mem_of_mem_drop (List.mem_of_mem_take hy)))) (by unfold maxLen; omega) (by omega) (fun v42 => ?_)) ?_
          ·
            refine ⟨⟨rfl, ⟨rfl, ⟨rfl, ⟨rfl, ⟨rfl, trivial⟩⟩⟩⟩⟩, ?_⟩
            refine (AH_ready [12] (by kernel_rfl) (by decide) ?_)
            refine AHs_cons rfl rfl rfl (by decide) (OpT_run (Pu_loadB (r := 200) rfl Try.isAgg47 rfl rfl rfl) ⟨⟨rfl, ⟨rfl, ⟨rfl, ⟨rfl, ⟨rfl, trivial⟩⟩⟩⟩⟩, ?_⟩) ?_
            ·
              refine (AH_take 15 rfl (by kernel_rfl) (by kernel_rfl) (by kernel_rfl) rfl rfl (by decide) (Pu_slice (r := 201) (a := x + 1) (b := L.length) rfl Try.runUnderlying47 Try.sizeOf51 rfl rfl (fun _ h => rowP_rd h) (.inr ⟨_, _, _, rfl, rfl, (by omega)⟩) (.inl ⟨rfl, rfl⟩) (by omega) (Nat.le_refl _)) (AH_ready [16] (by kernel_rfl) (by decide) ?_))
              refine AHs_cons rfl rfl rfl (by decide) (OpT_append (r := 254) (r2 := 201) rfl Try.underlying47 TI.hi51 TI.hz51 TI.hs51 TI.hby51 TI.hzs51 (by decide) rfl rfl rfl rfl (fun h hh => rdP_cast (rdP_sub (rowP_rd hh) (by omega) (by omega)) (ones_sub hids (x + 1) L.length) rfl) (onesC_one (fun y hy => h1e y (List.mem_of_mem_drop (List.mem_of_mem_take hy)))) (by unfold maxLen; omega) (by omega) (fun v50 => ?_)) ?_
              ·
                refine ⟨⟨rfl, ⟨rfl, ⟨rfl, ⟨rfl, ⟨rfl, trivial⟩⟩⟩⟩⟩, ?_⟩
                refine AH_fact (r := 254) rfl (fun h hp => rd_one (rowP_rd hp)) (fun ho50 => ?_)
                refine (AH_take 17 rfl (by kernel_rfl) (by kernel_rfl) (by kernel_rfl) rfl rfl (by decide) (Pu_nilCheck rfl rfl) (AH_take 18 rfl (by kernel_rfl) (by kernel_rfl) (by kernel_rfl) rfl rfl (by decide) (Pu_fieldAddrB (off := 1) rfl rfl (by kernel_rfl)) (AH_ready [19] (by kernel_rfl) (by decide) ?_)))
                refine AHs_cons0 rfl rfl rfl (OpT_storeB1 (r := 200) rfl Try.sizeOf47 rfl rfl rfl ho50 (by simp) rfl ?_) ?_
                ·
                  refine ⟨⟨rfl, ⟨rfl, ⟨rfl, ⟨rfl, ⟨rfl, trivial⟩⟩⟩⟩⟩, ?_⟩
                  refine (AH_done (by kernel_rfl) (X_then ?_))
                  refine W_seq ?_
                  refine W.pre (K' := [(0, _), (3, _), (4, _), (6, _), (7, _), (14, _), (26, _)]) (L' := [(0, _), (200, _), (201, _), (202, _), (251, _), (252, _), (253, _), (254, _)]) ?_ ⟨rfl, ⟨rfl, ⟨rfl, ⟨rfl, ⟨rfl, ⟨rfl, ⟨rfl, trivial⟩⟩⟩⟩⟩⟩⟩ ⟨rfl, ⟨rfl, ⟨rfl, ⟨rfl, ⟨rfl, ⟨rfl, ⟨rfl, ⟨rfl, trivial⟩⟩⟩⟩⟩⟩⟩⟩
                  refine W_regL (WL_pure rfl rfl (by decide) (Pu_loadBN (r := 253) rfl Try.isAgg51 Try.sizeOf51 rfl rfl (oneC_length hp32) (load_all (oneC_length hp32))) (WL_cons0 rfl rfl (OpT_storeAll (r := 252) rfl Try.sizeOf51 rfl rfl rfl rfl (oneC_length hp32) (one_one hpo) ?_)))
                  refine (WL_pure rfl rfl (by decide) (Pu_assign rfl rfl) (WL_nil (X_then ?_)))
                  refine W_ret (X_block_ret (X_then_ret (X_then_ret (X_block_ret (X_then_ret ?_)))))
                  refine X_turn (P' := rowP 51 33 v50 (dropK k es).length (onesC (dropK k es))) 254 rfl (fun h hh => (congrFun (rowO_of (dropK k es) (by rw [hdk, List.length_eraseIdx, if_pos (by omega)]; omega) (by rw [hdk, ← erase_parts es (by omega), hel]; simp [onesC])) h).mp hh) ?_
                  have hpk : p.1 = k := by simpa using hc26
                  have htk : tk es k = p := by unfold tk; rw [hlk, ← hpk]
                  exact X_ret [200, 254, 202] (Ps := [_, _, _]) (resC2 (r := 252) Try.results24 rfl rfl Try.isAgg51 Try.sizeOf51 rfl (oneC_length hp32)) rfl (by decide) ⟨v50, es, hke, h1e, ho50, hg, by rw [htk, hlk]; rfl, rfl⟩
                exact AHs_nil
              exact AHs_nil
            exact AHs_nil
          refine AHs_cons rfl rfl rfl (by decide) (OpT_run (Pu_loadB (r := 200) rfl Try.isAgg47 rfl rfl rfl) ⟨⟨rfl, ⟨rfl, ⟨rfl, ⟨rfl, ⟨rfl, trivial⟩⟩⟩⟩⟩, ?_⟩) ?_
          ·
            refine (AH_take 15 rfl (by kernel_rfl) (by kernel_rfl) (by kernel_rfl) rfl rfl (by decide) (Pu_slice (r := 201) (a := x + 1) (b := L.length) rfl Try.runUnderlying47 Try.sizeOf51 rfl rfl (fun _ h => rowP_rd h) (.inr ⟨_, _, _, rfl, rfl, (by omega)⟩) (.inl ⟨rfl, rfl⟩) (by omega) (Nat.le_refl _)) (AH_ready [8] (by kernel_rfl) (by decide) ?_))
            refine AHs_cons rfl rfl rfl (by decide) (OpT_append (r := 254) (r2 := 201) (k1 := 0) rfl Try.underlying47 TI.hi51 TI.hz51 TI.hs51 TI.hby51 TI.hzs51 (by decide) rfl rfl rfl rfl (fun h hh => rdP_cast (rdP_sub (rowP_rd hh) (by omega) (by omega)) (ones_sub hids 0 x) rfl) (onesC_one (fun y hy => h1e y (List.mem_of_mem_drop (List.mem_of_mem_take hy)))) (by unfold maxLen; omega) (by omega) (fun v42 => ?_)) ?_
            ·
              refine ⟨⟨rfl, ⟨rfl, ⟨rfl, ⟨rfl, ⟨rfl, trivial⟩⟩⟩⟩⟩, ?_⟩
              refine (AH_ready [16] (by kernel_rfl) (by decide) ?_)
              refine AHs_cons rfl rfl rfl (by decide) (OpT_append (r := 254) (r2 := 201) rfl Try.underlying47 TI.hi51 TI.hz51 TI.hs51 TI.hby51 TI.hzs51 (by decide) rfl rfl rfl rfl (fun h hh => rdP_cast (rdP_sub (rowP_rd hh) (by omega) (by omega)) (ones_sub hids (x + 1) L.length) rfl) (onesC_one (fun y hy => h1e y (List.mem_of_mem_drop (List.mem_of_mem_take hy)))) (by unfold maxLen; omega) (by omega) (fun v50 => ?_)) ?_
              ·
                refine ⟨⟨rfl, ⟨rfl, ⟨rfl, ⟨rfl, ⟨rfl, trivial⟩⟩⟩⟩⟩, ?_⟩
                refine AH_fact (r := 254) rfl (fun h hp => rd_one (rowP_rd hp)) (fun ho50 => ?_)
                refine (AH_take 17 rfl (by kernel_rfl) (by kernel_rfl) (by kernel_rfl) rfl rfl (by decide) (Pu_nilCheck rfl rfl) (AH_take 18 rfl (by kernel_rfl) (by kernel_rfl) (by kernel_rfl) rfl rfl (by decide) (Pu_fieldAddrB (off := 1) rfl rfl (by kernel_rfl)) (AH_ready [19] (by kernel_rfl) (by decide) ?_)))
                refine AHs_cons0 rfl rfl rfl (OpT_storeB1 (r := 200) rfl Try.sizeOf47 rfl rfl rfl ho50 (by simp) rfl ?_) ?_
                ·
                  refine ⟨⟨rfl, ⟨rfl, ⟨rfl, ⟨rfl, ⟨rfl, trivial⟩⟩⟩⟩⟩, ?_⟩
                  refine (AH_done (by kernel_rfl) (X_then ?_))
                  refine W_seq ?_
                  refine W.pre (K' := [(0, _), (3, _), (4, _), (6, _), (7, _), (14, _), (26, _)]) (L' := [(0, _), (200, _), (201, _), (202, _), (251, _), (252, _), (253, _), (254, _)]) ?_ ⟨rfl, ⟨rfl, ⟨rfl, ⟨rfl, ⟨rfl, ⟨rfl, ⟨rfl, trivial⟩⟩⟩⟩⟩⟩⟩ ⟨rfl, ⟨rfl, ⟨rfl, ⟨rfl, ⟨rfl, ⟨rfl, ⟨rfl, ⟨rfl, trivial⟩⟩⟩⟩⟩⟩⟩⟩
                  refine W_regL (WL_pure rfl rfl (by decide) (Pu_loadBN (r := 253) rfl Try.isAgg51 Try.sizeOf51 rfl rfl (oneC_length hp32) (load_all (oneC_length hp32))) (WL_cons0 rfl rfl (OpT_storeAll (r := 252) rfl Try.sizeOf51 rfl rfl rfl rfl (oneC_length hp32) (one_one hpo) ?_)))
                  refine (WL_pure rfl rfl (by decide) (Pu_assign rfl rfl) (WL_nil (X_then ?_)))
                  refine W_ret (X_block_ret (X_then_ret (X_then_ret (X_block_ret (X_then_ret ?_)))))
                  refine X_turn (P' := rowP 51 33 v50 (dropK k es).length (onesC (dropK k es))) 254 rfl (fun h hh => (congrFun (rowO_of (dropK k es) (by rw [hdk, List.length_eraseIdx, if_pos (by omega)]; omega) (by rw [hdk, ← erase_parts es (by omega), hel]; simp [onesC])) h).mp hh) ?_
                  have hpk : p.1 = k := by simpa using hc26
                  have htk : tk es k = p := by unfold tk; rw [hlk, ← hpk]
                  exact X_ret [200, 254, 202] (Ps := [_, _, _]) (resC2 (r := 252) Try.results24 rfl rfl Try.isAgg51 Try.sizeOf51 rfl (oneC_length hp32)) rfl (by decide) ⟨v50, es, hke, h1e, ho50, hg, by rw [htk, hlk]; rfl, rfl⟩
                exact AHs_nil
              exact AHs_nil
            exact AHs_nil
          exact AHs_nil
        refine AHs_cons rfl rfl rfl (by decide) (OpT_run (Pu_loadB (r := 200) rfl Try.isAgg47 rfl rfl rfl) ⟨⟨rfl, ⟨rfl, ⟨rfl, ⟨rfl, ⟨rfl, trivial⟩⟩⟩⟩⟩, ?_⟩) ?_
        ·
          refine (AH_take 15 rfl (by kernel_rfl) (by kernel_rfl) (by kernel_rfl) rfl rfl (by decide) (Pu_slice (r := 201) (a := x + 1) (b := L.length) rfl Try.runUnderlying47 Try.sizeOf51 rfl rfl (fun _ h => rowP_rd h) (.inr ⟨_, _, _, rfl, rfl, (by omega)⟩) (.inl ⟨rfl, rfl⟩) (by omega) (Nat.le_refl _)) (AH_ready [1] (by kernel_rfl) (by decide) ?_))
          refine AHs_cons rfl rfl rfl (by decide) (OpT_buildRows (r := 254) [] rfl rfl Try.runUnderlying47 Try.sizeOf51 Try.zeroValue51 rfl (by decide) rfl (by decide) (by simp) rfl (fun v35 => ⟨⟨rfl, ⟨rfl, ⟨rfl, ⟨rfl, ⟨rfl, trivial⟩⟩⟩⟩⟩, ?_⟩)) ?_
          ·
            refine (AH_ready [8] (by kernel_rfl) (by decide) ?_)
            refine AHs_cons rfl rfl rfl (by decide) (OpT_append (r := 254) (r2 := 201) (k1 := 0) rfl Try.underlying47 TI.hi51 TI.hz51 TI.hs51 TI.hby51 TI.hzs51 (by decide) rfl rfl rfl rfl (fun h hh => rdP_cast (rdP_sub (rowP_rd hh) (by omega) (by omega)) (ones_sub hids 0 x) rfl) (onesC_one (fun y hy => h1e y (List.mem_of_mem_drop (List.mem_of_mem_take hy)))) (by unfold maxLen; omega) (by omega) (fun v42 => ?_)) ?_
            ·
              refine ⟨⟨rfl, ⟨rfl, ⟨rfl, ⟨rfl, ⟨rfl, trivial⟩⟩⟩⟩⟩, ?_⟩
              refine (AH_ready [16] (by kernel_rfl) (by decide) ?_)
              refine AHs_cons rfl rfl rfl (by decide) (OpT_append (r := 254) (r2 := 201) rfl Try.underlying47 TI.hi51 TI.hz51 TI.hs51 TI.hby51 TI.hzs51 (by decide) rfl rfl rfl rfl (fun h hh => rdP_cast (rdP_sub (rowP_rd hh) (by omega) (by omega)) (ones_sub hids (x + 1) L.length) rfl) (onesC_one (fun y hy => h1e y (List.mem_of_mem_drop (List.mem_of_mem_take hy)))) (by unfold maxLen; omega) (by omega) (fun v50 => ?_)) ?_
              ·
                refine ⟨⟨rfl, ⟨rfl, ⟨rfl, ⟨rfl, ⟨rfl, trivial⟩⟩⟩⟩⟩, ?_⟩
                refine AH_fact (r := 254) rfl (fun h hp => rd_one (rowP_rd hp)) (fun ho50 => ?_)
                refine (AH_take 17 rfl (by kernel_rfl) (by kernel_rfl) (by kernel_rfl) rfl rfl (by decide) (Pu_nilCheck rfl rfl) (AH_take 18 rfl (by kernel_rfl) (by kernel_rfl) (by kernel_rfl) rfl rfl (by decide) (Pu_fieldAddrB (off := 1) rfl rfl (by kernel_rfl)) (AH_ready [19] (by kernel_rfl) (by decide) ?_)))
                refine AHs_cons0 rfl rfl rfl (OpT_storeB1 (r := 200) rfl Try.sizeOf47 rfl rfl rfl ho50 (by simp) rfl ?_) ?_
                ·
                  refine ⟨⟨rfl, ⟨rfl, ⟨rfl, ⟨rfl, ⟨rfl, trivial⟩⟩⟩⟩⟩, ?_⟩
                  refine (AH_done (by kernel_rfl) (X_then ?_))
                  refine W_seq ?_
                  refine W.pre (K' := [(0, _), (3, _), (4, _), (6, _), (7, _), (14, _), (26, _)]) (L' := [(0, _), (200, _), (201, _), (202, _), (251, _), (252, _), (253, _), (254, _)]) ?_ ⟨rfl, ⟨rfl, ⟨rfl, ⟨rfl, ⟨rfl, ⟨rfl, ⟨rfl, trivial⟩⟩⟩⟩⟩⟩⟩ ⟨rfl, ⟨rfl, ⟨rfl, ⟨rfl, ⟨rfl, ⟨rfl, ⟨rfl, ⟨rfl, trivial⟩⟩⟩⟩⟩⟩⟩⟩
                  refine W_regL (WL_pure rfl rfl (by decide) (Pu_loadBN (r := 253) rfl Try.isAgg51 Try.sizeOf51 rfl rfl (oneC_length hp32) (load_all (oneC_length hp32))) (WL_cons0 rfl rfl (OpT_storeAll (r := 252) rfl Try.sizeOf51 rfl rfl rfl rfl (oneC_length hp32) (one_one hpo) ?_)))
                  refine (WL_pure rfl rfl (by decide) (Pu_assign rfl rfl) (WL_nil (X_then ?_)))
                  refine W_ret (X_block_ret (X_then_ret (X_then_ret (X_block_ret (X_then_ret ?_)))))
                  refine X_turn (P' := rowP 51 33 v50 (dropK k es).length (onesC (dropK k es))) 254 rfl (fun h hh => (congrFun (rowO_of (dropK k es) (by rw [hdk, List.length_eraseIdx, if_pos (by omega)]; omega) (by rw [hdk, ← erase_parts es (by omega), hel]; simp [onesC])) h).mp hh) ?_
                  have hpk : p.1 = k := by simpa using hc26
                  have htk : tk es k = p := by unfold tk; rw [hlk, ← hpk]
                  exact X_ret [200, 254, 202] (Ps := [_, _, _]) (resC2 (r := 252) Try.results24 rfl rfl Try.isAgg51 Try.sizeOf51 rfl (oneC_length hp32)) rfl (by decide) ⟨v50, es, hke, h1e, ho50, hg, by rw [htk, hlk]; rfl, rfl⟩
                exact AHs_nil
              exact AHs_nil
            exact AHs_nil
          exact AHs_nil
        exact AHs_nil
      refine AHs_cons rfl rfl rfl (by decide) (OpT_run (Pu_loadB (r := 200) rfl Try.isAgg47 rfl rfl rfl) ⟨⟨rfl, ⟨rfl, ⟨rfl, ⟨rfl, ⟨rfl, trivial⟩⟩⟩⟩⟩, ?_⟩) ?_
      ·
        refine (AH_take 15 rfl (by kernel_rfl) (by kernel_rfl) (by kernel_rfl) rfl rfl (by decide) (Pu_slice (r := 201) (a := x + 1) (b := L.length) rfl Try.runUnderlying47 Try.sizeOf51 rfl rfl (fun _ h => rowP_rd h) (.inr ⟨_, _, _, rfl, rfl, (by omega)⟩) (.inl ⟨rfl, rfl⟩) (by omega) (Nat.le_refl _)) (AH_ready [1, 5] (by kernel_rfl) (by decide) ?_))
        refine AHs_cons rfl rfl rfl (by decide) (OpT_buildRows (r := 254) [] rfl rfl Try.runUnderlying47 Try.sizeOf51 Try.zeroValue51 rfl (by decide) rfl (by decide) (by simp) rfl (fun v35 => ⟨⟨rfl, ⟨rfl, ⟨rfl, ⟨rfl, ⟨rfl, trivial⟩⟩⟩⟩⟩, ?_⟩)) ?_
        ·
          refine (AH_ready [5] (by kernel_rfl) (by decide) ?_)
          refine AHs_cons rfl rfl rfl (by decide) (OpT_run (Pu_loadB (r := 200) rfl Try.isAgg47 rfl rfl rfl) ⟨⟨rfl, ⟨rfl, ⟨rfl, ⟨rfl, ⟨rfl, trivial⟩⟩⟩⟩⟩, ?_⟩) ?_
          ·
            refine (AH_take 7 rfl (by kernel_rfl) (by kernel_rfl) (by kernel_rfl) rfl rfl (by decide) (Pu_slice (r := 201) (a := 0) (b := x) rfl Try.runUnderlying47 Try.sizeOf51 rfl rfl (fun _ h => rowP_rd h) (.inl ⟨rfl, rfl⟩) (.inr ⟨_, _, _, rfl, rfl, rfl⟩) (Nat.zero_le _) (by omega)) (AH_ready [8] (by kernel_rfl) (by decide) ?_))
            refine AHs_cons rfl rfl rfl (by decide) (OpT_append (r := 254) (r2 := 201) (k1 := 0) rfl Try.underlying47 TI.hi51 TI.hz51 TI.hs51 TI.hby51 TI.hzs51 (by decide) rfl rfl rfl rfl (fun h hh => rdP_cast (rdP_sub (rowP_rd hh) (by omega) (by omega)) (ones_sub hids 0 x) rfl) (onesC_one (fun y hy => h1e y (List.mem_of_mem_drop (List.mem_of_mem_take hy)))) (by unfold maxLen; omega) (by omega) (fun v42 => ?_)) ?_
            ·
              refine ⟨⟨rfl, ⟨rfl, ⟨rfl, ⟨rfl, ⟨rfl, trivial⟩⟩⟩⟩⟩, ?_⟩
              refine (AH_ready [16] (by kernel_rfl) (by decide) ?_)
              refine AHs_cons rfl rfl rfl (by decide) (OpT_append (r := 254) (r2 := 201) rfl Try.underlying47 TI.hi51 TI.hz51 TI.hs51 TI.hby51 TI.hzs51 (by decide) rfl rfl rfl rfl (fun h hh => rdP_cast (rdP_sub (rowP_rd hh) (by omega) (by omega)) (ones_sub hids (x + 1) L.length) rfl) (onesC_one (fun y hy => h1e y (List.mem_of_mem_drop (List.mem_of_mem_take hy)))) (by unfold maxLen; omega) (by omega) (fun v50 => ?_)) ?_
              ·
                refine ⟨⟨rfl, ⟨rfl, ⟨rfl, ⟨rfl, ⟨rfl, trivial⟩⟩⟩⟩⟩, ?_⟩
                refine AH_fact (r := 254) rfl (fun h hp => rd_one (rowP_rd hp)) (fun ho50 => ?_)
                refine (AH_take 17 rfl (by kernel_rfl) (by kernel_rfl) (by kernel_rfl) rfl rfl (by decide) (Pu_nilCheck rfl rfl) (AH_take 18 rfl (by kernel_rfl) (by kernel_rfl) (by kernel_rfl) rfl rfl (by decide) (Pu_fieldAddrB (off := 1) rfl rfl (by kernel_rfl)) (AH_ready [19] (by kernel_rfl) (by decide) ?_)))
                refine AHs_cons0 rfl rfl rfl (OpT_storeB1 (r := 200) rfl Try.sizeOf47 rfl rfl rfl ho50 (by simp) rfl ?_) ?_
                ·
                  refine ⟨⟨rfl, ⟨rfl, ⟨rfl, ⟨rfl, ⟨rfl, trivial⟩⟩⟩⟩⟩, ?_⟩
                  refine (AH_done (by kernel_rfl) (X_then ?_))
                  refine W_seq ?_
                  refine W.pre (K' := [(0, _), (3, _), (4, _), (6, _), (7, _), (14, _), (26, _)]) (L' := [(0, _), (200, _), (201, _), (202, _), (251, _), (252, _), (253, _), (254, _)]) ?_ ⟨rfl, ⟨rfl, ⟨rfl, ⟨rfl, ⟨rfl, ⟨rfl, ⟨rfl, trivial⟩⟩⟩⟩⟩⟩⟩ ⟨rfl, ⟨rfl, ⟨rfl, ⟨rfl, ⟨rfl, ⟨rfl, ⟨rfl, ⟨rfl, trivial⟩⟩⟩⟩⟩⟩⟩⟩
                  refine W_regL (WL_pure rfl rfl (by decide) (Pu_loadBN (r := 253) rfl Try.isAgg51 Try.sizeOf51 rfl rfl (oneC_length hp32) (load_all (oneC_length hp32))) (WL_cons0 rfl rfl (OpT_storeAll (r := 252) rfl Try.sizeOf51 rfl rfl rfl rfl (oneC_length hp32) (one_one hpo) ?_)))
                  refine (WL_pure rfl rfl (by decide) (Pu_assign rfl rfl) (WL_nil (X_then ?_)))
                  refine W_ret (X_block_ret (X_then_ret (X_then_ret (X_block_ret (X_then_ret ?_)))))
                  refine X_turn (P' := rowP 51 33 v50 (dropK k es).length (onesC (dropK k es))) 254 rfl (fun h hh => (congrFun (rowO_of (dropK k es) (by rw [hdk, List.length_eraseIdx, if_pos (by omega)]; omega) (by rw [hdk, ← erase_parts es (by omega), hel]; simp [onesC])) h).mp hh) ?_
                  have hpk : p.1 = k := by simpa using hc26
                  have htk : tk es k = p := by unfold tk; rw [hlk, ← hpk]
                  exact X_ret [200, 254, 202] (Ps := [_, _, _]) (resC2 (r := 252) Try.results24 rfl rfl Try.isAgg51 Try.sizeOf51 rfl (oneC_length hp32)) rfl (by decide) ⟨v50, es, hke, h1e, ho50, hg, by rw [htk, hlk]; rfl, rfl⟩
                exact AHs_nil
              exact AHs_nil
            exact AHs_nil
          exact AHs_nil
        refine AHs_cons rfl rfl rfl (by decide) (OpT_run (Pu_loadB (r := 200) rfl Try.isAgg47 rfl rfl rfl) ⟨⟨rfl, ⟨rfl, ⟨rfl, ⟨rfl, ⟨rfl, trivial⟩⟩⟩⟩⟩, ?_⟩) ?_
        ·
          refine (AH_take 7 rfl (by kernel_rfl) (by kernel_rfl) (by kernel_rfl) rfl rfl (by decide) (Pu_slice (r := 201) (a := 0) (b := x) rfl Try.runUnderlying47 Try.sizeOf51 rfl rfl (fun _ h => rowP_rd h) (.inl ⟨rfl, rfl⟩) (.inr ⟨_, _, _, rfl, rfl, rfl⟩) (Nat.zero_le _) (by omega)) (AH_ready [1] (by kernel_rfl) (by decide) ?_))
          refine AHs_cons rfl rfl rfl (by decide) (OpT_buildRows (r := 254) [] rfl rfl Try.runUnderlying47 Try.sizeOf51 Try.zeroValue51 rfl (by decide) rfl (by decide) (by simp) rfl (fun v35 => ⟨⟨rfl, ⟨rfl, ⟨rfl, ⟨rfl, ⟨rfl, trivial⟩⟩⟩⟩⟩, ?_⟩)) ?_
          ·
            refine (AH_ready [8] (by kernel_rfl) (by decide) ?_)
            refine AHs_cons rfl rfl rfl (by decide) (OpT_append (r := 254) (r2 := 201) (k1 := 0) rfl Try.underlying47 TI.hi51 TI.hz51 TI.hs51 TI.hby51 TI.hzs51 (by decide) rfl rfl rfl rfl (fun h hh => rdP_cast (rdP_sub (rowP_rd hh) (by omega) (by omega)) (ones_sub hids 0 x) rfl) (onesC_one (fun y hy => h1e y (List.mem_of_mem_drop (List.mem_of_mem_take hy)))) (by unfold maxLen; omega) (by omega) (fun v42 => ?_)) ?_
            ·
              refine ⟨⟨rfl, ⟨rfl, ⟨rfl, ⟨rfl, ⟨rfl, trivial⟩⟩⟩⟩⟩, ?_⟩
              refine (AH_ready [16] (by kernel_rfl) (by decide) ?_)
              refine AHs_cons rfl rfl rfl (by decide) (OpT_append (r := 254) (r2 := 201) rfl Try.underlying47 TI.hi51 TI.hz51 TI.hs51 TI.hby51 TI.hzs51 (by decide) rfl rfl rfl rfl (fun h hh => rdP_cast (rdP_sub (rowP_rd hh) (by omega) (by omega)) (ones_sub hids (x + 1) L.length) rfl) (onesC_one (fun y hy => h1e y (List.mem_of_mem_drop (List.mem_of_mem_take hy)))) (by unfold maxLen; omega) (by omega) (fun v50 => ?_)) ?_
              ·
                refine ⟨⟨rfl, ⟨rfl, ⟨rfl, ⟨rfl, ⟨rfl, trivial⟩⟩⟩⟩⟩, ?_⟩
                refine AH_fact (r := 254) rfl (fun h hp => rd_one (rowP_rd hp)) (fun ho50 => ?_)
                refine (AH_take 17 rfl (by kernel_rfl) (by kernel_rfl) (by kernel_rfl) rfl rfl (by decide) (Pu_nilCheck rfl rfl) (AH_take 18 rfl (by kernel_rfl) (by kernel_rfl) (by kernel_rfl) rfl rfl (by decide) (Pu_fieldAddrB (off := 1) rfl rfl (by kernel_rfl)) (AH_ready [19] (by kernel_rfl) (by decide) ?_)))
                refine AHs_cons0 rfl rfl rfl (OpT_storeB1 (r := 200) rfl Try.sizeOf47 rfl rfl rfl ho50 (by simp) rfl ?_) ?_
                ·
                  refine ⟨⟨rfl, ⟨rfl, ⟨rfl, ⟨rfl, ⟨rfl, trivial⟩⟩⟩⟩⟩, ?_⟩
                  refine (AH_done (by kernel_rfl) (X_then ?_))
                  refine W_seq ?_
                  refine W.pre (K' := [(0, _), (3, _), (4, _), (6, _), (7, _), (14, _), (26, _)]) (L' := [(0, _), (200, _), (201, _), (202, _), (251, _), (252, _), (253, _), (254, _)]) ?_ ⟨rfl, ⟨rfl, ⟨rfl, ⟨rfl, ⟨rfl, ⟨rfl, ⟨rfl, trivial⟩⟩⟩⟩⟩⟩⟩ ⟨rfl, ⟨rfl, ⟨rfl, ⟨rfl, ⟨rfl, ⟨rfl, ⟨rfl, ⟨rfl, trivial⟩⟩⟩⟩⟩⟩⟩⟩
                  refine W_regL (WL_pure rfl rfl (by decide) (Pu_loadBN (r := 253) rfl Try.isAgg51 Try.sizeOf51 rfl rfl (oneC_length hp32) (load_all (oneC_length hp32))) (WL_cons0 rfl rfl (OpT_storeAll (r := 252) rfl Try.sizeOf51 rfl rfl rfl rfl (oneC_length hp32) (one_one hpo) ?_)))
                  refine (WL_pure rfl rfl (by decide) (Pu_assign rfl rfl) (WL_nil (X_then ?_)))
                  refine W_ret (X_block_ret (X_then_ret (X_then_ret (X_block_ret (X_then_ret ?_)))))
                  refine X_turn (P' := rowP 51 33 v50 (dropK k es).length (onesC (dropK k es))) 254 rfl (fun h hh => (congrFun (rowO_of (dropK k es) (by rw [hdk, List.length_eraseIdx, if_pos (by omega)]; omega) (by rw [hdk, ← erase_parts es (by omega), hel]; simp [onesC])) h).mp hh) ?_
                  have hpk : p.1 = k := by simpa using hc26
                  have htk : tk es k = p := by unfold tk; rw [hlk, ← hpk]
                  exact X_ret [200, 254, 202] (Ps := [_, _, _]) (resC2 (r := 252) Try.results24 rfl rfl Try.isAgg51 Try.sizeOf51 rfl (oneC_length hp32)) rfl (by decide) ⟨v50, es, hke, h1e, ho50, hg, by rw [htk, hlk]; rfl, rfl⟩
                exact AHs_nil
              exact AHs_nil
            exact AHs_nil
          exact AHs_nil
        exact AHs_nil
      exact AHs_nil
    ·
      refine W_skip (X_block (X_then ?_))
      refine W.pre (K' := [(0, _), (3, _), (4, _), (6, _), (14, _), (26, _)]) (L' := [(0, _), (200, _), (201, _), (202, _), (251, _), (252, _)]) ?_ ⟨rfl, ⟨rfl, ⟨rfl, ⟨rfl, ⟨rfl, ⟨rfl, trivial⟩⟩⟩⟩⟩⟩ ⟨rfl, ⟨rfl, ⟨rfl, ⟨rfl, ⟨rfl, ⟨rfl, trivial⟩⟩⟩⟩⟩⟩
      refine W_regL (WL_pure rfl rfl (by decide) (Pu_move rfl rfl) (WL_pure rfl rfl (by decide) (Pu_bin rfl rfl rfl (run_add _ _ _ _ _ (by omega))) (WL_pure rfl rfl (by decide) (Pu_assign rfl rfl) (WL_nil ?_))))
      exact X_round (x + 1) ⟨by omega, fun j q hj hq2 => by rcases Nat.lt_or_ge j x with h | h; exact hno j q h hq2; obtain rfl : j = x := (by omega); rw [hp] at hq2; injection hq2 with hq2; rw [← hq2]; exact hc26⟩ (by omega) ⟨rfl, rfl, rfl, rfl, trivial⟩ ⟨rfl, rfl, rfl, rfl, rfl, rfl, trivial⟩
  ·
    obtain rfl : x = L.length := by have := of_decide_eq_false hc14; omega
    obtain ⟨hdk, hlk⟩ := drop_no (k := k) (es := es) (by rw [hel]; exact hno)
    refine W_exit (X_then_exit (X_then_exit (X_block_exit (X_then ?_))))
    refine W_seq ?_
    refine W.pre (K' := [(0, _), (3, _), (4, _), (6, _), (14, _)]) (L' := [(0, _), (200, _), (201, _), (202, _), (251, _), (252, _)]) ?_ ⟨rfl, ⟨rfl, ⟨rfl, ⟨rfl, ⟨rfl, trivial⟩⟩⟩⟩⟩ ⟨rfl, ⟨rfl, ⟨rfl, ⟨rfl, ⟨rfl, ⟨rfl, trivial⟩⟩⟩⟩⟩⟩
    refine W_regL (WL_pure rfl rfl (by decide) (Pu_build (V := .agg (oneC (zeroId, .slice none 0 0)).toArray) [(0, 32), (32, 1)] (oneC (zeroId, .slice none 0 0)) rfl rfl (by kernel_rfl) (by kernel_rfl) (.nil _) rfl) (WL_cons0 rfl rfl (OpT_storeAll (r := 252) rfl Try.sizeOf51 rfl rfl rfl rfl rfl (one_one rfl) ?_)))
    refine (WL_pure rfl rfl (by decide) (Pu_assign rfl rfl) (WL_nil (X_then ?_)))
    refine W_ret ?_
    refine X_turn (P' := rowP 51 33 v (dropK k es).length (onesC (dropK k es))) 201 rfl (fun h hh => (congrFun (rowO_of (dropK k es) (by rw [hdk, hel]) (by rw [hdk])) h).mp hh) ?_
    have htk : tk es k = (zeroId, .slice none 0 0) := by unfold tk; rw [hlk]
    exact X_ret [200, 201, 202] (Ps := [_, _, _]) (resC2 (r := 252) Try.results24 rfl rfl Try.isAgg51 Try.sizeOf51 rfl rfl) rfl (by decide) ⟨v, es, hke, h1e, ho, hg, by rw [htk, hlk]; rfl, rfl⟩
end Go.Proofs.Ytamhhkjddmjanaa
