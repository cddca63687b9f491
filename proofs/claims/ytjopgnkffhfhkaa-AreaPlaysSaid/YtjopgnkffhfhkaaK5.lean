/- Texts of this proof, one behind the other: AreaL. -/
import Derived.Test.YtjopgnkffhfhkaaK4
/- Areas: the document's own area, made and put into. -/
namespace Go.Proofs.Ytjopgnkffhfhkaa
open Go.RowKit
set_option linter.unusedVariables false
set_option linter.unusedSimpArgs false
set_option maxRecDepth 8000
theorem sub_rows (zs : List EB) (a n : Nat) : ((recC bvC (sls zs)).drop (a * 35)).take (n * 35) = recC bvC (sls ((zs.drop a).take n)) := by
  rw [recC_sub (bvs_len _)]
  unfold sls
  rw [List.map_take, List.map_drop]
theorem place_zs {zs : List EB} {k : List UInt8} {x : Nat} (h1 : x ≤ zs.length) (h2 : ∀ j, j < x → ltK (zs.getD j default).1.key k = true) (h3 : x < zs.length → ltK (zs.getD x default).1.key k = false) : Place (zs.map toBk) k x where
  le := by rw [List.length_map]; exact h1
  lt := fun j hj => by rw [map_getD (by omega)]; exact h2 j hj
  stop := fun hx => by rw [List.length_map] at hx; rw [map_getD hx]; exact h3 hx
theorem len32 {zs : List EB} {k : List UInt8} (hk : k.length = 32) : ∀ y ∈ zs.map toBk, y.key.length = k.length := fun y hy => by
  obtain ⟨p, _, rfl⟩ := List.mem_map.1 hy
  rw [hk]
  exact p.1.len
/-- Renewed in its place. -/
theorem renew_zs {zs : List EB} {b : BV} {d : List UInt8} {x : Nat} {e : Int} (hp : Place (zs.map toBk) b.key x) (hs : SortA (zs.map toBk)) (hx : x < zs.length) (hk : (zs.getD x default).1.key = b.key) :
    (zs.take x ++ (upV e (zs.getD x default).1, (zs.getD x default).2) :: zs.drop (x + 1)).map toBk = renewA b.key e (zs.map toBk) ∧ findA b.key (zs.map toBk) = some (toBk (zs.getD x default)) := by
  have hlx : x < (zs.map toBk).length := by rw [List.length_map]; exact hx
  refine ⟨?_, ?_⟩
  · rw [hp.renew hs (len32 b.len) hlx, map_getD hx, List.map_append, List.map_cons, List.map_take, List.map_drop]
    congr 2
    show _ = upA b.key e (toBk (zs.getD x default))
    unfold upA
    rw [if_pos (show (toBk (zs.getD x default)).key = b.key from hk)]
    rfl
  · rw [hp.find hs (len32 b.len), map_getD hx, if_pos ⟨hlx, hk⟩]
theorem absent_zs {zs : List EB} {b : BV} {x : Nat} (hp : Place (zs.map toBk) b.key x) (hs : SortA (zs.map toBk)) (hk : x < zs.length → (zs.getD x default).1.key ≠ b.key) : findA b.key (zs.map toBk) = none := by
  rw [hp.find hs (len32 b.len), if_neg]
  rintro ⟨h1, h2⟩
  rw [List.length_map] at h1
  rw [map_getD h1] at h2
  exact hk h1 h2
theorem ins_zs {zs : List EB} {b : BV} {d : List UInt8} {v : Value} {hv : v.oneCell' = true} {x : Nat} (hp : Place (zs.map toBk) b.key x) :
    (zs.take x ++ ((setSl v hv b, d) : EB) :: zs.drop x).map toBk = insA (toBk (b, d)) (zs.map toBk) := by
  rw [hp.ins (b := toBk (b, d)) rfl, List.map_append, List.map_cons, List.map_take, List.map_drop]
  rfl
theorem rowB2_of {v : Value} {n : Nat} {xs : List Value} (ys : List BV) (hn : n = ys.length) (hx : xs = recC bvC ys) : rowP 40 35 v n xs = rowB2 v ys := by subst hn; subst hx; rfl
theorem dat_renew {ys : List EB} {x : Nat} {e : Int} (hlt : x < ys.length) {h : Hlt} (hp : datP ys h) : datP (ys.take x ++ ((upV e (ys.getD x default).1, (ys.getD x default).2) : EB) :: ys.drop (x + 1)) h := fun q hq => by
  rcases List.mem_append.1 hq with hq | hq
  · exact hp q (List.mem_of_mem_take hq)
  · rcases List.mem_cons.1 hq with rfl | hq
    · exact (show rdB (ys.getD x default).1.sl (ys.getD x default).2 h from hp _ (getD_mem' hlt))
    · exact hp q (List.mem_of_mem_drop hq)
theorem dat_ins {ys : List EB} {x : Nat} {b : BV} {d : List UInt8} {v : Value} {hv : v.oneCell' = true} {t : TypeId} {h : Hlt} (hs : starL [datP ys, rowP t 1 v (0 + d.length) (bs [] ++ bs d)] h) : datP (ys.take x ++ ((setSl v hv b, d) : EB) :: ys.drop x) h := fun q hq => by
  have old : ∀ q ∈ ys, rdB q.1.sl q.2 h := fun q hq => starL_le hs (φ := rdB q.1.sl q.2) 0 rfl fun h' h1 h2 => rdP_le h2 (h1 q hq)
  rcases List.mem_append.1 hq with hq | hq
  · exact old q (List.mem_of_mem_take hq)
  · rcases List.mem_cons.1 hq with rfl | hq
    · exact starL_le hs (φ := rdB v d) 1 rfl fun h' h1 h2 => rdP_le h2 (rdP_cast (rowP_rd h1) rfl (Nat.zero_add _))
    · exact old q (List.mem_of_mem_drop hq)
theorem totE_A {zs : List EB} : totE zs = totA (zs.map toBk) := totE_eq zs
theorem refNew_bad (room quota : Int) (hbad : (((decide (room < 1) || decide (1073741824 < room)) || decide (quota < 1)) || decide (1073741824 < quota)) = true) (F : HP) : CallsS Try.prog 19 #[.int .i64 room, .int .i64 quota] F [] (fun r Ps => r = .tuple #[.pointer none, .int .i64 1] ∧ Ps = []) := by
  refine callsS_enter Try.func19 rfl Try.ntmps19 (by simp) (fun E => ?_)
  refine W_seq ?_
  refine W.pre (K' := [(0, _), (1, _)]) (L' := [(0, _)]) ?_ ⟨rfl, ⟨rfl, trivial⟩⟩ ⟨rfl, trivial⟩
  refine W_regL (WL_pure rfl rfl (by decide) (Pu_assign rfl rfl) (WL_pure rfl rfl (by decide) (Pu_assign rfl rfl) (WL_nil (X_then ?_))))
  refine W_seq ?_
  refine W_seq ?_
  refine W.pre (K' := [(0, _), (1, _), (4, _), (5, _)]) (L' := [(0, _)]) ?_ ⟨rfl, ⟨rfl, ⟨rfl, ⟨rfl, trivial⟩⟩⟩⟩ ⟨rfl, trivial⟩
  refine W_regL (WL_pure rfl rfl (by decide) (Pu_move rfl rfl) (WL_pure rfl rfl (by decide) (Pu_bin rfl rfl rfl (run_lss _ _ _ _ _ _)) (WL_pure rfl rfl (by decide) (Pu_move rfl rfl) (WL_guardP rfl rfl rfl rfl (by decide) (fun hb => (Pu_move rfl rfl)) (WL_guardP rfl rfl rfl rfl (by decide) (fun hb => (Pu_bin rfl (ev_gv rfl hb) rfl (run_gtr _ _ _ _ _ _))) (WL_pure rfl rfl (by decide) (Pu_or rfl rfl rfl) (WL_pure rfl rfl (by decide) (Pu_move rfl rfl) (WL_guardP rfl rfl rfl rfl (by decide) (fun hb => (Pu_move rfl rfl)) (WL_guardP rfl rfl rfl rfl (by decide) (fun hb => (Pu_bin rfl (ev_gv rfl hb) rfl (run_lss _ _ _ _ _ _))) (WL_pure rfl rfl (by decide) (Pu_or rfl rfl rfl) (WL_pure rfl rfl (by decide) (Pu_move rfl rfl) (WL_guardP rfl rfl rfl rfl (by decide) (fun hb => (Pu_move rfl rfl)) (WL_guardP rfl rfl rfl rfl (by decide) (fun hb => (Pu_bin rfl (ev_gv rfl hb) rfl (run_gtr _ _ _ _ _ _))) (WL_pure rfl rfl (by decide) (Pu_or rfl rfl rfl) (WL_nil (X_then ?_))))))))))))))))
  refine W_true rfl (hbad) ?_
  refine W_seq ?_
  refine W.pre (K' := [(0, _), (1, _), (4, _), (5, _), (19, _)]) (L' := [(0, _)]) ?_ ⟨rfl, ⟨rfl, ⟨rfl, ⟨rfl, ⟨rfl, trivial⟩⟩⟩⟩⟩ ⟨rfl, trivial⟩
  refine W_regL (WL_pure rfl rfl (by decide) (Pu_assign rfl rfl) (WL_pure rfl rfl (by decide) (Pu_assign rfl rfl) (WL_nil (X_then ?_))))
  refine W_ret (X_then_ret ?_)
  exact X_ret [] (Ps := []) (res2 Try.results19 rfl rfl) rfl (by decide) ⟨rfl, rfl⟩
theorem refNew_good (room quota : Int) (hr : 1 ≤ room ∧ room ≤ 1073741824) (hq : 1 ≤ quota ∧ quota ≤ 1073741824) (F : HP) : CallsS Try.prog 19 #[.int .i64 room, .int .i64 quota] F [] (fun r Ps => ∃ g, r = .tuple #[.pointer (some ⟨g, 0, none⟩), .int .i64 0] ∧ Ps = refL g room quota (.slice none 0 0) []) := by
  refine callsS_enter Try.func19 rfl Try.ntmps19 (by simp) (fun E => ?_)
  refine W_seq ?_
  refine W.pre (K' := [(0, _), (1, _)]) (L' := [(0, _)]) ?_ ⟨rfl, ⟨rfl, trivial⟩⟩ ⟨rfl, trivial⟩
  refine W_regL (WL_pure rfl rfl (by decide) (Pu_assign rfl rfl) (WL_pure rfl rfl (by decide) (Pu_assign rfl rfl) (WL_nil (X_then ?_))))
  refine W_seq ?_
  refine W_seq ?_
  refine W.pre (K' := [(0, _), (1, _), (4, _), (5, _)]) (L' := [(0, _)]) ?_ ⟨rfl, ⟨rfl, ⟨rfl, ⟨rfl, trivial⟩⟩⟩⟩ ⟨rfl, trivial⟩
  refine W_regL (WL_pure rfl rfl (by decide) (Pu_move rfl rfl) (WL_pure rfl rfl (by decide) (Pu_bin rfl rfl rfl (run_lss _ _ _ _ _ _)) (WL_pure rfl rfl (by decide) (Pu_move rfl rfl) (WL_guardP rfl rfl rfl rfl (by decide) (fun hb => (Pu_move rfl rfl)) (WL_guardP rfl rfl rfl rfl (by decide) (fun hb => (Pu_bin rfl (ev_gv rfl hb) rfl (run_gtr _ _ _ _ _ _))) (WL_pure rfl rfl (by decide) (Pu_or rfl rfl rfl) (WL_pure rfl rfl (by decide) (Pu_move rfl rfl) (WL_guardP rfl rfl rfl rfl (by decide) (fun hb => (Pu_move rfl rfl)) (WL_guardP rfl rfl rfl rfl (by decide) (fun hb => (Pu_bin rfl (ev_gv rfl hb) rfl (run_lss _ _ _ _ _ _))) (WL_pure rfl rfl (by decide) (Pu_or rfl rfl rfl) (WL_pure rfl rfl (by decide) (Pu_move rfl rfl) (WL_guardP rfl rfl rfl rfl (by decide) (fun hb => (Pu_move rfl rfl)) (WL_guardP rfl rfl rfl rfl (by decide) (fun hb => (Pu_bin rfl (ev_gv rfl hb) rfl (run_gtr _ _ _ _ _ _))) (WL_pure rfl rfl (by decide) (Pu_or rfl rfl rfl) (WL_nil (X_then ?_))))))))))))))))
  refine W_false rfl (by simp; omega) ?_
  refine W_skip (X_then ?_)
  refine W_seq ?_
  refine W.pre (K' := [(0, _), (1, _), (4, _), (5, _), (19, _)]) (L' := [(0, _)]) ?_ ⟨rfl, ⟨rfl, ⟨rfl, ⟨rfl, ⟨rfl, trivial⟩⟩⟩⟩⟩ ⟨rfl, trivial⟩
  refine W_regL (WL_pure rfl rfl (by decide) (Pu_move rfl rfl) (WL_pure rfl rfl (by decide) (Pu_move rfl rfl) (WL_pure rfl rfl (by decide) (Pu_build (V := .agg #[.int .i64 room, .int .i64 quota, .slice none 0 0]) [(0, 1), (1, 1), (2, 1)] ([.int .i64 0, .int .i64 0, .slice none 0 0]) rfl rfl (by kernel_rfl) (by kernel_rfl) (.one rfl rfl (by simp []) rfl (.one rfl rfl (by simp []) rfl (.nil _))) rfl) (WL_cons rfl rfl (by decide) (OpT_box (r := 101) rfl rfl rfl (fun g101 => (WL_pure rfl rfl (by decide) (Pu_assign rfl rfl) (WL_pure rfl rfl (by decide) (Pu_assign rfl rfl) (WL_nil (X_then ?_))))))))))
  refine W_ret ?_
  refine X_nilRow 9900 40 35 ?_
  refine X_nilRow 9901 36 32 ?_
  refine X_turn (P' := datP []) 9901 rfl (fun h hp p hm => by simp at hm) ?_
  exact X_ret [101, 9900, 9901] (Ps := [_, _, _]) (res2 Try.results19 rfl rfl) rfl (by decide) ⟨_, rfl, rfl⟩
set_option maxHeartbeats 4000000 in
theorem refPut_spec (g : Nat) (room quota : Int) (v : Value) (zs : List EB) (now : Int) (b : BV) (d : List UInt8) (hv : v.oneCell' = true) (hsort : SortA (zs.map toBk)) (hz : zs.length ≤ 1000000) (ht : totE zs ≤ 1000000000) (hrq : room ≤ 1073741824 ∧ quota ≤ 1073741824) (F : HP) (hF : ∀ h, F h → rdB b.sl d h) : CallsS Try.prog 20 #[.pointer (some ⟨g, 0, none⟩), encB b, .int .i64 now] F (refL g room quota v zs) (fun r Ps => ∃ v2 ys, r = .int .i64 (putA room quota (zs.map toBk) (toBk (b, d)) now).1 ∧ v2.oneCell' = true ∧ ys.map toBk = (putA room quota (zs.map toBk) (toBk (b, d)) now).2 ∧ Ps = refL g room quota v2 ys) := by
  refine callsS_enter Try.func20 rfl Try.ntmps20 (by simp) (fun E => ?_)
  refine W_seq ?_
  refine W.pre (K' := [(0, _), (1, _), (2, _)]) (L' := [(0, _), (1, _), (2, _), (3, _)]) ?_ ⟨rfl, ⟨rfl, ⟨rfl, trivial⟩⟩⟩ ⟨rfl, ⟨rfl, ⟨rfl, ⟨rfl, trivial⟩⟩⟩⟩
  refine W_regL (WL_cons rfl rfl (by decide) (OpT_box (r := 101) rfl rfl rfl (fun g101 => (WL_pure rfl rfl (by decide) (Pu_assign rfl rfl) (WL_nil (X_then ?_))))))
  refine W_seq ?_
  refine W_seq ?_
  refine W.pre (K' := [(0, _), (1, _), (2, _), (4, _), (6, _)]) (L' := [(0, _), (1, _), (2, _), (3, _), (101, _)]) ?_ ⟨rfl, ⟨rfl, ⟨rfl, ⟨rfl, ⟨rfl, trivial⟩⟩⟩⟩⟩ ⟨rfl, ⟨rfl, ⟨rfl, ⟨rfl, ⟨rfl, trivial⟩⟩⟩⟩⟩
  refine W_regL (WL_pure rfl rfl (by decide) (Pu_fieldAddrB (off := 33) rfl rfl (by kernel_rfl)) (WL_pure rfl rfl (by decide) (Pu_loadB (r := 101) rfl Try.isAgg3 rfl rfl (bk_src b.len)) (WL_pure rfl rfl (by decide) (Pu_bin rfl rfl rfl (run_lss _ _ _ _ _ _)) (WL_pure rfl rfl (by decide) (Pu_move rfl rfl) (WL_guardP rfl rfl rfl rfl (by decide) (fun hb => (Pu_fieldAddrB (off := 34) rfl rfl (by kernel_rfl))) (WL_guardP rfl rfl rfl rfl (by decide) (fun hb => (Pu_loadB (r := 101) rfl Try.isAgg3 (ev_gv rfl hb) rfl (bk_exp b.len))) (WL_guardP rfl rfl rfl rfl (by decide) (fun hb => (Pu_move rfl rfl)) (WL_guardP rfl rfl rfl rfl (by decide) (fun hb => (Pu_bin rfl (ev_gv rfl hb) (ev_gv rfl hb) (run_leq _ _ _ _ _ _))) (WL_pure rfl rfl (by decide) (Pu_or rfl rfl rfl) (WL_nil (X_then ?_)))))))))))
  refine W_cond rfl (fun hc18 => ?_) (fun hc18 => ?_)
  ·
    have hP : putA room quota (zs.map toBk) (toBk (b, d)) now = (1, zs.map toBk) := by unfold putA; rw [if_pos]; exact hc18
    refine W_seq ?_
    refine W.pre (K' := [(0, _), (1, _), (2, _), (4, _), (6, _), (18, _)]) (L' := [(0, _), (1, _), (2, _), (3, _), (101, _)]) ?_ ⟨rfl, ⟨rfl, ⟨rfl, ⟨rfl, ⟨rfl, ⟨rfl, trivial⟩⟩⟩⟩⟩⟩ ⟨rfl, ⟨rfl, ⟨rfl, ⟨rfl, ⟨rfl, trivial⟩⟩⟩⟩⟩
    refine W_regL (WL_pure rfl rfl (by decide) (Pu_assign rfl rfl) (WL_nil (X_then ?_)))
    refine W_ret (X_then_ret ?_)
    exact X_ret [1, 2, 3] (Ps := [_, _, _]) (res1 Try.results20 rfl) rfl (by decide) ⟨v, zs, by rw [hP], hv, by rw [hP], rfl⟩
  ·
    have hq1 : ¬ (decide ((toBk (b, d)).src < 0) || decide ((toBk (b, d)).exp ≤ now)) = true := by rw [Bool.not_eq_true]; exact hc18
    refine W_skip (X_then ?_)
    refine W_seq ?_
    refine W_seq ?_
    refine W.pre (K' := [(0, _), (1, _), (2, _), (4, _), (6, _), (18, _)]) (L' := [(0, _), (1, _), (2, _), (3, _), (101, _)]) ?_ ⟨rfl, ⟨rfl, ⟨rfl, ⟨rfl, ⟨rfl, ⟨rfl, trivial⟩⟩⟩⟩⟩⟩ ⟨rfl, ⟨rfl, ⟨rfl, ⟨rfl, ⟨rfl, trivial⟩⟩⟩⟩⟩
    refine W_regL (WL_pure rfl rfl (by decide) (Pu_fieldAddrB (off := 32) rfl rfl (by kernel_rfl)) (WL_pure rfl rfl (by decide) (Pu_loadB (r := 101) rfl Try.isAgg38 rfl rfl (bk_data b.len)) (WL_pure rfl rfl (by decide) (Pu_len (r := 0) rfl Try.runUnderlying38 rfl rfl hF) (WL_pure rfl rfl (by decide) (Pu_bin rfl rfl rfl (run_gtr _ _ _ _ _ _)) (WL_nil (X_then ?_))))))
    refine W_cond rfl (fun hc22 => ?_) (fun hc22 => ?_)
    ·
      have hlen : 6000 < ((toBk (b, d)).data.length : Int) := of_decide_eq_true hc22
      have hP : putA room quota (zs.map toBk) (toBk (b, d)) now = (5, zs.map toBk) := by unfold putA; rw [if_neg hq1, if_pos hlen]
      refine W_seq ?_
      refine W.pre (K' := [(0, _), (1, _), (2, _), (4, _), (6, _), (18, _), (22, _)]) (L' := [(0, _), (1, _), (2, _), (3, _), (101, _)]) ?_ ⟨rfl, ⟨rfl, ⟨rfl, ⟨rfl, ⟨rfl, ⟨rfl, ⟨rfl, trivial⟩⟩⟩⟩⟩⟩⟩ ⟨rfl, ⟨rfl, ⟨rfl, ⟨rfl, ⟨rfl, trivial⟩⟩⟩⟩⟩
      refine W_regL (WL_pure rfl rfl (by decide) (Pu_assign rfl rfl) (WL_nil (X_then ?_)))
      refine W_ret (X_then_ret ?_)
      exact X_ret [1, 2, 3] (Ps := [_, _, _]) (res1 Try.results20 rfl) rfl (by decide) ⟨v, zs, by rw [hP], hv, by rw [hP], rfl⟩
    ·
      have hlen : ¬ 6000 < ((toBk (b, d)).data.length : Int) := of_decide_eq_false hc22
      have hlen2 : ¬ 6000 < (d.length : Int) := hlen
      refine W_skip (X_then ?_)
      refine W_seq ?_
      refine W.pre (K' := [(0, _), (1, _), (2, _), (4, _), (6, _), (18, _), (22, _)]) (L' := [(0, _), (1, _), (2, _), (3, _), (101, _)]) ?_ ⟨rfl, ⟨rfl, ⟨rfl, ⟨rfl, ⟨rfl, ⟨rfl, ⟨rfl, trivial⟩⟩⟩⟩⟩⟩⟩ ⟨rfl, ⟨rfl, ⟨rfl, ⟨rfl, ⟨rfl, trivial⟩⟩⟩⟩⟩
      refine W_regL (WL_pure rfl rfl (by decide) (Pu_move rfl rfl) (WL_pure rfl rfl (by decide) (Pu_move rfl rfl) (WL_cons rfl rfl (by decide) (OpT_call 200 [0, 101] [1, 2, 3] rfl Try.call24 rfl rfl rfl (by decide) (by decide) (refSweep_spec g room quota v zs now (by omega) _) (fun v25 Ps25 hR25 => ?_)))))
      obtain ⟨v2, hv2, rfl, rfl⟩ := hR25
      have hA := liveE_A now zs
      have hle := liveE_le now zs
      have htl : totE (liveE now zs) ≤ totE zs := by rw [totE_eq, totE_eq, hA]; exact totA_sub List.filter_sublist
      have hsl : SortA ((liveE now zs).map toBk) := by rw [hA]; exact hsort.filter _
      generalize hys : liveE now zs = ys at hA hle htl hsl
      have hyl := sls_len ys
      refine (WL_nil (X_then ?_))
      refine W_seq ?_
      refine W.pre (K' := [(0, _), (1, _), (2, _), (4, _), (6, _), (18, _), (22, _)]) (L' := [(0, _), (101, _), (200, _), (201, _), (202, _)]) ?_ ⟨rfl, ⟨rfl, ⟨rfl, ⟨rfl, ⟨rfl, ⟨rfl, ⟨rfl, trivial⟩⟩⟩⟩⟩⟩⟩ ⟨rfl, ⟨rfl, ⟨rfl, ⟨rfl, ⟨rfl, trivial⟩⟩⟩⟩⟩
      refine W_regL (WL_pure rfl rfl (by decide) (Pu_assign rfl rfl) (WL_nil (X_then ?_)))
      refine W_cut (α := Nat) (fun x => [(0, .pointer (some ⟨g, 0, none⟩)), (2, .int .i64 now), (4, .pointer (some ⟨g101, 0, none⟩)), (7, .int .i64 (x : Int))]) (fun x => [(0, F), (200, refB g room quota v2), (201, rowB2 v2 (sls ys)), (202, datP ys), (101, blk g101 40 (bvC b))]) (fun x => x ≤ ys.length ∧ Place (ys.map toBk) b.key x) ?_ (fun x hz => ?_)
      ·
        refine W_block ?_
        refine W_loop (α := Nat) (fun x => [(0, .pointer (some ⟨g, 0, none⟩)), (2, .int .i64 now), (4, .pointer (some ⟨g101, 0, none⟩)), (7, .int .i64 (x : Int))]) (fun x => [(0, F), (200, refB g room quota v2), (201, rowB2 v2 (sls ys)), (202, datP ys), (101, blk g101 40 (bvC b))]) (fun x => x ≤ ys.length ∧ ∀ j, j < x → ltK (ys.getD j default).1.key b.key = true) (fun x => ys.length - x) (0) ⟨by omega, fun j hj => by omega⟩ ⟨rfl, ⟨rfl, ⟨rfl, ⟨rfl, trivial⟩⟩⟩⟩ ⟨rfl, ⟨rfl, ⟨rfl, ⟨rfl, ⟨rfl, trivial⟩⟩⟩⟩⟩ (fun x hx => ?_)
        obtain ⟨hx1, hx2⟩ := hx
        refine W_seq ?_
        refine W_seq ?_
        refine W.pre (K' := [(0, _), (2, _), (4, _), (7, _)]) (L' := [(0, _), (101, _), (200, _), (201, _), (202, _)]) ?_ ⟨rfl, ⟨rfl, ⟨rfl, ⟨rfl, trivial⟩⟩⟩⟩ ⟨rfl, ⟨rfl, ⟨rfl, ⟨rfl, ⟨rfl, trivial⟩⟩⟩⟩⟩
        rcases Bool.eq_false_or_eq_true (decide ((x : Int) < ((sls ys).length : Int))) with hsp7 | hsp7
        ·
          have hlt : x < ys.length := by have := of_decide_eq_true hsp7; omega
          have eA : (sls ys).getD x default = (ys.getD x default).1 := getD_map1 hlt
          have hm := getD_mem' (d := default) hlt
          refine W_draw (N := 20) (by kernel_rfl) rfl [(0, _), (101, _), (200, _), (201, _)] ⟨rfl, ⟨rfl, ⟨rfl, ⟨rfl, trivial⟩⟩⟩⟩ ?_
          refine (AH_take 0 rfl (by kernel_rfl) (by kernel_rfl) (by kernel_rfl) rfl rfl (by decide) (Pu_move rfl rfl) (AH_take 1 rfl (by kernel_rfl) (by kernel_rfl) (by kernel_rfl) rfl rfl (by decide) (Pu_move rfl rfl) (AH_take 2 rfl (by kernel_rfl) (by kernel_rfl) (by kernel_rfl) rfl rfl (by decide) (Pu_nilCheck rfl rfl) (AH_take 3 rfl (by kernel_rfl) (by kernel_rfl) (by kernel_rfl) rfl rfl (by decide) (Pu_fieldAddrB (off := 2) rfl rfl (by kernel_rfl)) (AH_take 4 rfl (by kernel_rfl) (by kernel_rfl) (by kernel_rfl) rfl rfl (by decide) (Pu_loadB (r := 200) rfl Try.isAgg32 rfl rfl rfl) (AH_take 5 rfl (by kernel_rfl) (by kernel_rfl) (by kernel_rfl) rfl rfl (by decide) (Pu_len (r := 201) rfl Try.runUnderlying32 rfl rfl (fun _ h => rowP_rd h)) (AH_take 6 rfl (by kernel_rfl) (by kernel_rfl) (by kernel_rfl) rfl rfl (by decide) (Pu_bin rfl rfl rfl (run_lss _ _ _ _ _ _)) (AH_take 7 rfl (by kernel_rfl) (by kernel_rfl) (by kernel_rfl) rfl rfl (by decide) (Pu_move rfl rfl) (AH_takeT 8 rfl (by kernel_rfl) (by kernel_rfl) (by kernel_rfl) rfl rfl rfl (by rw [hsp7]; rfl) rfl (by decide) (Pu_move rfl rfl) (AH_takeT 9 rfl (by kernel_rfl) (by kernel_rfl) (by kernel_rfl) rfl rfl rfl (by rw [hsp7]; rfl) rfl (by decide) (Pu_nilCheck rfl rfl) (AH_takeT 10 rfl (by kernel_rfl) (by kernel_rfl) (by kernel_rfl) rfl rfl rfl (by rw [hsp7]; rfl) rfl (by decide) (Pu_fieldAddrB (off := 2) rfl rfl (by kernel_rfl)) (AH_takeT 11 rfl (by kernel_rfl) (by kernel_rfl) (by kernel_rfl) rfl rfl rfl (by rw [hsp7]; rfl) rfl (by decide) (Pu_loadB (r := 200) rfl Try.isAgg32 rfl rfl rfl) (AH_takeT 12 rfl (by kernel_rfl) (by kernel_rfl) (by kernel_rfl) rfl rfl rfl (by rw [hsp7]; rfl) rfl (by decide) (Pu_move rfl rfl) (AH_takeT 13 rfl (by kernel_rfl) (by kernel_rfl) (by kernel_rfl) rfl rfl rfl (by rw [hsp7]; rfl) rfl (by decide) (Pu_idxS (r := 201) rfl Try.runUnderlying32 Try.sizeOf40 rfl rfl rfl (fun _ h => rowP_rd h) (by omega)) (AH_takeT 14 rfl (by kernel_rfl) (by kernel_rfl) (by kernel_rfl) rfl rfl rfl (by rw [hsp7]; rfl) rfl (by decide) (Pu_fieldAddrE (off := 0) rfl rfl (by kernel_rfl)) (AH_takeT 15 rfl (by kernel_rfl) (by kernel_rfl) (by kernel_rfl) rfl rfl rfl (by rw [hsp7]; rfl) rfl (by decide) (Pu_loadSN (r := 201) rfl Try.isAgg36 Try.sizeOf36 rfl rfl (fun _ h => rowP_rd h) ((bs_length _).trans (ys.getD x default).1.len) (by decide) (by rw [← eA]; exact bvs_key (xs := sls ys) (k := x) (by omega))) (AH_takeT 16 rfl (by kernel_rfl) (by kernel_rfl) (by kernel_rfl) rfl rfl rfl (by rw [hsp7]; rfl) rfl (by decide) (Pu_fieldAddrB (off := 0) rfl rfl (by kernel_rfl)) (AH_takeT 17 rfl (by kernel_rfl) (by kernel_rfl) (by kernel_rfl) rfl rfl rfl (by rw [hsp7]; rfl) rfl (by decide) (Pu_loadBN (r := 101) rfl Try.isAgg36 Try.sizeOf36 rfl rfl ((bs_length _).trans b.len) (bk_key b.len)) (AH_ready [18] (by kernel_rfl) (by decide) ?_)))))))))))))))))))
          refine AHs_gT rfl rfl rfl rfl (by rw [hsp7]; rfl) rfl (by decide) (OpT_call 300 [0, 101, 200, 201, 202] [] rfl Try.call33 rfl rfl rfl (by decide) (by decide) (less_spec (ys.getD x default).1.key b.key (ys.getD x default).1.len b.len _) (fun v44 Ps44 hR44 => ?_)) ?_
          ·
            obtain ⟨rfl, rfl⟩ := hR44
            refine ⟨⟨rfl, ⟨rfl, ⟨rfl, ⟨rfl, trivial⟩⟩⟩⟩, ?_⟩
            refine (AH_take 19 rfl (by kernel_rfl) (by kernel_rfl) (by kernel_rfl) rfl rfl (by decide) (Pu_pickT rfl rfl hsp7 rfl) (AH_done (by kernel_rfl) (X_then ?_)))
            refine W_cond rfl (fun hc45 => ?_) (fun hc45 => ?_)
            ·
              have hl : ltK (ys.getD x default).1.key b.key = true := hc45
              refine W_skip (X_then ?_)
              refine W_block ?_
              refine W.pre (K' := [(0, _), (2, _), (4, _), (7, _), (45, _)]) (L' := [(0, _), (101, _), (200, _), (201, _), (202, _)]) ?_ ⟨rfl, ⟨rfl, ⟨rfl, ⟨rfl, ⟨rfl, trivial⟩⟩⟩⟩⟩ ⟨rfl, ⟨rfl, ⟨rfl, ⟨rfl, ⟨rfl, trivial⟩⟩⟩⟩⟩
              refine W_regL (WL_pure rfl rfl (by decide) (Pu_move rfl rfl) (WL_pure rfl rfl (by decide) (Pu_bin rfl rfl rfl (run_add _ _ _ _ _ (by omega))) (WL_pure rfl rfl (by decide) (Pu_assign rfl rfl) (WL_nil (X_block ?_)))))
              exact X_round (x + 1) ⟨by omega, fun j hj => by rcases Nat.lt_or_ge j x with h | h; exact hx2 j h; obtain rfl : j = x := (by omega); exact hl⟩ (by omega) ⟨rfl, rfl, rfl, rfl, trivial⟩ ⟨rfl, rfl, rfl, rfl, rfl, trivial⟩
            ·
              have hpl : Place (ys.map toBk) b.key x := place_zs hx1 hx2 (fun hx => hc45)
              refine W_exit (X_then_exit (X_then_exit (X_block_exit ?_)))
              exact X_cut x ⟨hx1, hpl⟩ ⟨rfl, rfl, rfl, rfl, trivial⟩ ⟨rfl, rfl, rfl, rfl, rfl, trivial⟩
          exact AHs_nil
        ·
          have hge : x = ys.length := by have := of_decide_eq_false hsp7; omega
          refine W_draw (N := 20) (by kernel_rfl) rfl [(0, _), (101, _), (200, _), (201, _)] ⟨rfl, ⟨rfl, ⟨rfl, ⟨rfl, trivial⟩⟩⟩⟩ ?_
          refine (AH_take 0 rfl (by kernel_rfl) (by kernel_rfl) (by kernel_rfl) rfl rfl (by decide) (Pu_move rfl rfl) (AH_take 1 rfl (by kernel_rfl) (by kernel_rfl) (by kernel_rfl) rfl rfl (by decide) (Pu_move rfl rfl) (AH_take 2 rfl (by kernel_rfl) (by kernel_rfl) (by kernel_rfl) rfl rfl (by decide) (Pu_nilCheck rfl rfl) (AH_take 3 rfl (by kernel_rfl) (by kernel_rfl) (by kernel_rfl) rfl rfl (by decide) (Pu_fieldAddrB (off := 2) rfl rfl (by kernel_rfl)) (AH_take 4 rfl (by kernel_rfl) (by kernel_rfl) (by kernel_rfl) rfl rfl (by decide) (Pu_loadB (r := 200) rfl Try.isAgg32 rfl rfl rfl) (AH_take 5 rfl (by kernel_rfl) (by kernel_rfl) (by kernel_rfl) rfl rfl (by decide) (Pu_len (r := 201) rfl Try.runUnderlying32 rfl rfl (fun _ h => rowP_rd h)) (AH_take 6 rfl (by kernel_rfl) (by kernel_rfl) (by kernel_rfl) rfl rfl (by decide) (Pu_bin rfl rfl rfl (run_lss _ _ _ _ _ _)) (AH_take 7 rfl (by kernel_rfl) (by kernel_rfl) (by kernel_rfl) rfl rfl (by decide) (Pu_move rfl rfl) (AH_takeF 8 rfl (by kernel_rfl) (by kernel_rfl) (by kernel_rfl) rfl rfl rfl (by rw [hsp7]; rfl) rfl (by decide) (AH_takeF 9 rfl (by kernel_rfl) (by kernel_rfl) (by kernel_rfl) rfl rfl rfl (by rw [hsp7]; rfl) rfl (by decide) (AH_takeF 10 rfl (by kernel_rfl) (by kernel_rfl) (by kernel_rfl) rfl rfl rfl (by rw [hsp7]; rfl) rfl (by decide) (AH_takeF 11 rfl (by kernel_rfl) (by kernel_rfl) (by kernel_rfl) rfl rfl rfl (by rw [hsp7]; rfl) rfl (by decide) (AH_takeF 12 rfl (by kernel_rfl) (by kernel_rfl) (by kernel_rfl) rfl rfl rfl (by rw [hsp7]; rfl) rfl (by decide) (AH_takeF 13 rfl (by kernel_rfl) (by kernel_rfl) (by kernel_rfl) rfl rfl rfl (by rw [hsp7]; rfl) rfl (by decide) (AH_takeF 14 rfl (by kernel_rfl) (by kernel_rfl) (by kernel_rfl) rfl rfl rfl (by rw [hsp7]; rfl) rfl (by decide) (AH_takeF 15 rfl (by kernel_rfl) (by kernel_rfl) (by kernel_rfl) rfl rfl rfl (by rw [hsp7]; rfl) rfl (by decide) (AH_takeF 16 rfl (by kernel_rfl) (by kernel_rfl) (by kernel_rfl) rfl rfl rfl (by rw [hsp7]; rfl) rfl (by decide) (AH_takeF 17 rfl (by kernel_rfl) (by kernel_rfl) (by kernel_rfl) rfl rfl rfl (by rw [hsp7]; rfl) rfl (by decide) (AH_ready [18] (by kernel_rfl) (by decide) ?_)))))))))))))))))))
          refine AHs_gF rfl rfl rfl rfl (by rw [hsp7]; rfl) rfl (by decide) ?_ ?_
          ·
            refine (AH_take 19 rfl (by kernel_rfl) (by kernel_rfl) (by kernel_rfl) rfl rfl (by decide) (Pu_pickF rfl rfl hsp7 rfl) (AH_done (by kernel_rfl) (X_then ?_)))
            have hpl : Place (ys.map toBk) b.key x := place_zs hx1 hx2 (fun hx => absurd hx (by omega))
            refine W_false rfl (rfl) ?_
            refine W_exit (X_then_exit (X_then_exit (X_block_exit ?_)))
            exact X_cut x ⟨hx1, hpl⟩ ⟨rfl, rfl, rfl, rfl, trivial⟩ ⟨rfl, rfl, rfl, rfl, rfl, trivial⟩
          exact AHs_nil
      ·
        obtain ⟨hx1, hpl⟩ := hz
        refine W_seq ?_
        refine W.pre (K' := [(0, _), (2, _), (4, _), (7, _)]) (L' := [(0, _), (101, _), (200, _), (201, _), (202, _)]) ?_ ⟨rfl, ⟨rfl, ⟨rfl, ⟨rfl, trivial⟩⟩⟩⟩ ⟨rfl, ⟨rfl, ⟨rfl, ⟨rfl, ⟨rfl, trivial⟩⟩⟩⟩⟩
        refine W_regL (WL_cons rfl rfl (by decide) (OpT_buildRows (r := 204) [] rfl rfl Try.runUnderlying32 Try.sizeOf40 Try.zeroValue40 rfl (by decide) rfl (by decide) (by simp) rfl (fun v48 => ?_)))
        skip
        refine (WL_pure rfl rfl (by decide) (Pu_move rfl rfl) (WL_pure rfl rfl (by decide) (Pu_nilCheck rfl rfl) (WL_pure rfl rfl (by decide) (Pu_fieldAddrB (off := 2) rfl rfl (by kernel_rfl)) (WL_pure rfl rfl (by decide) (Pu_loadB (r := 200) rfl Try.isAgg32 rfl rfl rfl) (WL_pure rfl rfl (by decide) (Pu_move rfl rfl) (WL_pure rfl rfl (by decide) (Pu_slice (r := 201) (a := 0) (b := x) rfl Try.runUnderlying32 Try.sizeOf40 rfl rfl (fun _ h => rowP_rd h) (.inl ⟨rfl, rfl⟩) (.inr ⟨_, _, _, rfl, rfl, rfl⟩) (Nat.zero_le _) (by omega)) (WL_cons rfl rfl (by decide) (OpT_append (r := 204) (r2 := 201) rfl Try.underlying32 TI.hi40 TI.hz40 TI.hs40 TI.hby40 TI.hzs40 (by decide) rfl rfl rfl rfl (fun h hp => rdP_cast (rdP_sub (rowP_rd hp) (by omega) (by omega)) (sub_rows ys 0 (x - 0)) rfl) (recC_ones bvC_one) (by simp; unfold maxLen; omega) (by simp; omega) (fun v55 => ?_)))))))))
        refine (WL_pure rfl rfl (by decide) (Pu_assign rfl rfl) (WL_nil (X_then ?_)))
        refine W_seq ?_
        refine W_seq ?_
        refine W.pre (K' := [(0, _), (2, _), (4, _), (7, _), (8, _)]) (L' := [(0, _), (101, _), (200, _), (201, _), (202, _), (204, _)]) ?_ ⟨rfl, ⟨rfl, ⟨rfl, ⟨rfl, ⟨rfl, trivial⟩⟩⟩⟩⟩ ⟨rfl, ⟨rfl, ⟨rfl, ⟨rfl, ⟨rfl, ⟨rfl, trivial⟩⟩⟩⟩⟩⟩
        rcases Bool.eq_false_or_eq_true (decide ((x : Int) < ((sls ys).length : Int))) with hsp10 | hsp10
        ·
          have hlt : x < ys.length := by have := of_decide_eq_true hsp10; omega
          have eA : (sls ys).getD x default = (ys.getD x default).1 := getD_map1 hlt
          have hm := getD_mem' (d := default) hlt
          refine W_draw (N := 20) (by kernel_rfl) rfl [(0, _), (101, _), (200, _), (201, _)] ⟨rfl, ⟨rfl, ⟨rfl, ⟨rfl, trivial⟩⟩⟩⟩ ?_
          refine (AH_take 0 rfl (by kernel_rfl) (by kernel_rfl) (by kernel_rfl) rfl rfl (by decide) (Pu_move rfl rfl) (AH_take 1 rfl (by kernel_rfl) (by kernel_rfl) (by kernel_rfl) rfl rfl (by decide) (Pu_move rfl rfl) (AH_take 2 rfl (by kernel_rfl) (by kernel_rfl) (by kernel_rfl) rfl rfl (by decide) (Pu_nilCheck rfl rfl) (AH_take 3 rfl (by kernel_rfl) (by kernel_rfl) (by kernel_rfl) rfl rfl (by decide) (Pu_fieldAddrB (off := 2) rfl rfl (by kernel_rfl)) (AH_take 4 rfl (by kernel_rfl) (by kernel_rfl) (by kernel_rfl) rfl rfl (by decide) (Pu_loadB (r := 200) rfl Try.isAgg32 rfl rfl rfl) (AH_take 5 rfl (by kernel_rfl) (by kernel_rfl) (by kernel_rfl) rfl rfl (by decide) (Pu_len (r := 201) rfl Try.runUnderlying32 rfl rfl (fun _ h => rowP_rd h)) (AH_take 6 rfl (by kernel_rfl) (by kernel_rfl) (by kernel_rfl) rfl rfl (by decide) (Pu_bin rfl rfl rfl (run_lss _ _ _ _ _ _)) (AH_take 7 rfl (by kernel_rfl) (by kernel_rfl) (by kernel_rfl) rfl rfl (by decide) (Pu_move rfl rfl) (AH_takeT 8 rfl (by kernel_rfl) (by kernel_rfl) (by kernel_rfl) rfl rfl rfl (by rw [hsp10]; rfl) rfl (by decide) (Pu_move rfl rfl) (AH_takeT 9 rfl (by kernel_rfl) (by kernel_rfl) (by kernel_rfl) rfl rfl rfl (by rw [hsp10]; rfl) rfl (by decide) (Pu_nilCheck rfl rfl) (AH_takeT 10 rfl (by kernel_rfl) (by kernel_rfl) (by kernel_rfl) rfl rfl rfl (by rw [hsp10]; rfl) rfl (by decide) (Pu_fieldAddrB (off := 2) rfl rfl (by kernel_rfl)) (AH_takeT 11 rfl (by kernel_rfl) (by kernel_rfl) (by kernel_rfl) rfl rfl rfl (by rw [hsp10]; rfl) rfl (by decide) (Pu_loadB (r := 200) rfl Try.isAgg32 rfl rfl rfl) (AH_takeT 12 rfl (by kernel_rfl) (by kernel_rfl) (by kernel_rfl) rfl rfl rfl (by rw [hsp10]; rfl) rfl (by decide) (Pu_move rfl rfl) (AH_takeT 13 rfl (by kernel_rfl) (by kernel_rfl) (by kernel_rfl) rfl rfl rfl (by rw [hsp10]; rfl) rfl (by decide) (Pu_idxS (r := 201) rfl Try.runUnderlying32 Try.sizeOf40 rfl rfl rfl (fun _ h => rowP_rd h) (by omega)) (AH_takeT 14 rfl (by kernel_rfl) (by kernel_rfl) (by kernel_rfl) rfl rfl rfl (by rw [hsp10]; rfl) rfl (by decide) (Pu_fieldAddrE (off := 0) rfl rfl (by kernel_rfl)) (AH_takeT 15 rfl (by kernel_rfl) (by kernel_rfl) (by kernel_rfl) rfl rfl rfl (by rw [hsp10]; rfl) rfl (by decide) (Pu_loadSN (r := 201) rfl Try.isAgg36 Try.sizeOf36 rfl rfl (fun _ h => rowP_rd h) ((bs_length _).trans (ys.getD x default).1.len) (by decide) (by rw [← eA]; exact bvs_key (xs := sls ys) (k := x) (by omega))) (AH_takeT 16 rfl (by kernel_rfl) (by kernel_rfl) (by kernel_rfl) rfl rfl rfl (by rw [hsp10]; rfl) rfl (by decide) (Pu_fieldAddrB (off := 0) rfl rfl (by kernel_rfl)) (AH_takeT 17 rfl (by kernel_rfl) (by kernel_rfl) (by kernel_rfl) rfl rfl rfl (by rw [hsp10]; rfl) rfl (by decide) (Pu_loadBN (r := 101) rfl Try.isAgg36 Try.sizeOf36 rfl rfl ((bs_length _).trans b.len) (bk_key b.len)) (AH_takeT 18 rfl (by kernel_rfl) (by kernel_rfl) (by kernel_rfl) rfl rfl rfl (by rw [hsp10]; rfl) rfl (by decide) (Pu_bin rfl rfl rfl (run_idEq _ _ (ys.getD x default).1.len b.len _ _)) (AH_take 19 rfl (by kernel_rfl) (by kernel_rfl) (by kernel_rfl) rfl rfl (by decide) (Pu_pickT rfl rfl hsp10 rfl) (AH_done (by kernel_rfl) (X_then ?_))))))))))))))))))))))
          refine W_cond rfl (fun hc75 => ?_) (fun hc75 => ?_)
          ·
            have hk : (ys.getD x default).1.key = b.key := by simpa [-List.getD_eq_getElem?_getD] using hc75
            obtain ⟨hrn, hfn⟩ := renew_zs (d := d) (e := b.exp) hpl hsl hlt hk
            have hP : putA room quota (zs.map toBk) (toBk (b, d)) now = (0, renewA b.key b.exp (ys.map toBk)) := by
              unfold putA
              rw [if_neg hq1, if_neg hlen, toBk_key, ← hA]
              simp only [hfn]
              rfl
            refine W_seq ?_
            refine W.pre (K' := [(0, _), (2, _), (4, _), (7, _), (8, _), (75, _)]) (L' := [(0, _), (101, _), (200, _), (201, _), (202, _), (204, _)]) ?_ ⟨rfl, ⟨rfl, ⟨rfl, ⟨rfl, ⟨rfl, ⟨rfl, trivial⟩⟩⟩⟩⟩⟩ ⟨rfl, ⟨rfl, ⟨rfl, ⟨rfl, ⟨rfl, ⟨rfl, trivial⟩⟩⟩⟩⟩⟩
            refine W_regL (WL_pure rfl rfl (by decide) (Pu_move rfl rfl) (WL_pure rfl rfl (by decide) (Pu_nilCheck rfl rfl) (WL_pure rfl rfl (by decide) (Pu_fieldAddrB (off := 2) rfl rfl (by kernel_rfl)) (WL_pure rfl rfl (by decide) (Pu_loadB (r := 200) rfl Try.isAgg32 rfl rfl rfl) (WL_pure rfl rfl (by decide) (Pu_move rfl rfl) (WL_pure rfl rfl (by decide) (Pu_idxS (r := 201) rfl Try.runUnderlying32 Try.sizeOf40 rfl rfl rfl (fun _ h => rowP_rd h) (by omega)) (WL_pure rfl rfl (by decide) (Pu_loadSN (r := 201) rfl Try.isAgg40 Try.sizeOf40 rfl rfl (fun _ h => rowP_rd h) (bvC_length ((sls ys).getD x default)) (by decide) (bvs_all (xs := sls ys) (k := x) (by omega))) ?_)))))))
            rw [eA]
            refine (WL_cons rfl rfl (by decide) (OpT_alloc (r := 205) rfl (zero_run (by kernel_rfl : (Try.prog.info? 40).bind (·.zero) = some (.agg (bkC zeroId (.slice none 0 0) 0 0).toArray))) rfl (fun g205 => (WL_cons0 rfl rfl (OpT_storeAll (r := 205) rfl Try.sizeOf40 rfl rfl rfl (bkC_length rfl) (bvC_length _) (bvC_one _) ?_)))))
            refine (WL_nil (X_then ?_))
            refine W_seq ?_
            refine W.pre (K' := [(0, _), (2, _), (4, _), (7, _), (8, _), (9, _), (75, _)]) (L' := [(0, _), (101, _), (200, _), (201, _), (202, _), (204, _), (205, _)]) ?_ ⟨rfl, ⟨rfl, ⟨rfl, ⟨rfl, ⟨rfl, ⟨rfl, ⟨rfl, trivial⟩⟩⟩⟩⟩⟩⟩ ⟨rfl, ⟨rfl, ⟨rfl, ⟨rfl, ⟨rfl, ⟨rfl, ⟨rfl, trivial⟩⟩⟩⟩⟩⟩⟩
            refine W_regL (WL_pure rfl rfl (by decide) (Pu_fieldAddrB (off := 34) rfl rfl (by kernel_rfl)) (WL_pure rfl rfl (by decide) (Pu_loadB (r := 205) rfl Try.isAgg3 rfl rfl (bk_exp (ys.getD x default).1.len)) (WL_pure rfl rfl (by decide) (Pu_fieldAddrB (off := 34) rfl rfl (by kernel_rfl)) (WL_pure rfl rfl (by decide) (Pu_loadB (r := 101) rfl Try.isAgg3 rfl rfl (bk_exp b.len)) (WL_pure rfl rfl (by decide) (Pu_max rfl rfl rfl) (WL_pure rfl rfl (by decide) (Pu_fieldAddrB (off := 34) rfl rfl (by kernel_rfl)) (WL_cons0 rfl rfl (OpT_storeB1 (r := 205) rfl Try.sizeOf3 rfl rfl rfl rfl (by rw [bvC_length]; decide) (bk_set_exp (ys.getD x default).1.len _) ?_))))))))
            refine (WL_nil (X_then ?_))
            refine W_seq ?_
            refine W.pre (K' := [(0, _), (2, _), (4, _), (7, _), (8, _), (9, _), (75, _)]) (L' := [(0, _), (101, _), (200, _), (201, _), (202, _), (204, _), (205, _)]) ?_ ⟨rfl, ⟨rfl, ⟨rfl, ⟨rfl, ⟨rfl, ⟨rfl, ⟨rfl, trivial⟩⟩⟩⟩⟩⟩⟩ ⟨rfl, ⟨rfl, ⟨rfl, ⟨rfl, ⟨rfl, ⟨rfl, ⟨rfl, trivial⟩⟩⟩⟩⟩⟩⟩
            refine W_draw (N := 16) (by kernel_rfl) rfl [(0, _), (101, _), (205, _), (201, _)] ⟨rfl, ⟨rfl, ⟨rfl, ⟨rfl, trivial⟩⟩⟩⟩ ?_
            refine (AH_take 0 rfl (by kernel_rfl) (by kernel_rfl) (by kernel_rfl) rfl rfl (by decide) (Pu_move rfl rfl) (AH_take 1 rfl (by kernel_rfl) (by kernel_rfl) (by kernel_rfl) rfl rfl (by decide) (Pu_move rfl rfl) (AH_take 2 rfl (by kernel_rfl) (by kernel_rfl) (by kernel_rfl) rfl rfl (by decide) (Pu_loadBN (r := 205) rfl Try.isAgg40 Try.sizeOf40 rfl rfl (bvC_length (upV b.exp (ys.getD x default).1)) (load_all (bvC_length (upV b.exp (ys.getD x default).1)))) (AH_take 5 rfl (by kernel_rfl) (by kernel_rfl) (by kernel_rfl) rfl rfl (by decide) (Pu_move rfl rfl) (AH_take 6 rfl (by kernel_rfl) (by kernel_rfl) (by kernel_rfl) rfl rfl (by decide) (Pu_nilCheck rfl rfl) (AH_take 7 rfl (by kernel_rfl) (by kernel_rfl) (by kernel_rfl) rfl rfl (by decide) (Pu_fieldAddrB (off := 2) rfl rfl (by kernel_rfl)) (AH_take 9 rfl (by kernel_rfl) (by kernel_rfl) (by kernel_rfl) rfl rfl (by decide) (Pu_move rfl rfl) (AH_take 10 rfl (by kernel_rfl) (by kernel_rfl) (by kernel_rfl) rfl rfl (by decide) (Pu_bin rfl rfl rfl (run_add _ _ _ _ _ (by omega))) (AH_ready [3, 8] (by kernel_rfl) (by decide) ?_)))))))))
            refine AHs_cons rfl rfl rfl (by decide) (OpT_buildRows (r := 206) [bvC (upV b.exp (ys.getD x default).1)] rfl rfl Try.runUnderlying32 Try.sizeOf40 Try.zeroValue40 rfl (by decide) rfl (by decide) (by intro r hr; simp at hr; rw [hr, bvC_length]) rfl (fun v92 => ⟨⟨rfl, ⟨rfl, ⟨rfl, ⟨rfl, trivial⟩⟩⟩⟩, ?_⟩)) ?_
            ·
              refine (AH_ready [4, 8] (by kernel_rfl) (by decide) ?_)
              refine AHs_cons rfl rfl rfl (by decide) (OpT_append (r := 204) (r2 := 206) rfl Try.underlying32 TI.hi40 TI.hz40 TI.hs40 TI.hby40 TI.hzs40 (by decide) rfl rfl rfl rfl (fun _ h => rowP_rd h) (by rw [List.flatten_cons, List.flatten_nil, List.append_nil]; exact bvC_one _) (by simp; unfold maxLen; omega) (by simp; omega) (fun v93 => ?_)) ?_
              ·
                refine ⟨⟨rfl, ⟨rfl, ⟨rfl, ⟨rfl, trivial⟩⟩⟩⟩, ?_⟩
                refine (AH_ready [8] (by kernel_rfl) (by decide) ?_)
                refine AHs_cons rfl rfl rfl (by decide) (OpT_run (Pu_loadB (r := 200) rfl Try.isAgg32 rfl rfl rfl) ⟨⟨rfl, ⟨rfl, ⟨rfl, ⟨rfl, trivial⟩⟩⟩⟩, ?_⟩) ?_
                ·
                  refine (AH_take 11 rfl (by kernel_rfl) (by kernel_rfl) (by kernel_rfl) rfl rfl (by decide) (Pu_slice (r := 201) (a := x + 1) (b := (sls ys).length) rfl Try.runUnderlying32 Try.sizeOf40 rfl rfl (fun _ h => rowP_rd h) (.inr ⟨_, _, _, rfl, rfl, (by omega)⟩) (.inl ⟨rfl, rfl⟩) (by omega) (Nat.le_refl _)) (AH_ready [12] (by kernel_rfl) (by decide) ?_))
                  refine AHs_cons rfl rfl rfl (by decide) (OpT_append (r := 204) (r2 := 201) rfl Try.underlying32 TI.hi40 TI.hz40 TI.hs40 TI.hby40 TI.hzs40 (by decide) rfl rfl rfl rfl (fun h hp => rdP_cast (rdP_sub (rowP_rd hp) (by omega) (by omega)) (sub_rows ys (x + 1) ((sls ys).length - (x + 1))) rfl) (recC_ones bvC_one) (by simp; unfold maxLen; omega) (by simp; omega) (fun v101 => ?_)) ?_
                  ·
                    refine ⟨⟨rfl, ⟨rfl, ⟨rfl, ⟨rfl, trivial⟩⟩⟩⟩, ?_⟩
                    refine AH_fact (r := 204) rfl (fun h hp => rd_one (rowP_rd hp)) (fun hoN => ?_)
                    refine (AH_take 13 rfl (by kernel_rfl) (by kernel_rfl) (by kernel_rfl) rfl rfl (by decide) (Pu_nilCheck rfl rfl) (AH_take 14 rfl (by kernel_rfl) (by kernel_rfl) (by kernel_rfl) rfl rfl (by decide) (Pu_fieldAddrB (off := 2) rfl rfl (by kernel_rfl)) (AH_ready [15] (by kernel_rfl) (by decide) ?_)))
                    refine AHs_cons0 rfl rfl rfl (OpT_storeB1 (r := 200) rfl Try.sizeOf32 rfl rfl rfl hoN (by simp) rfl ?_) ?_
                    ·
                      refine ⟨⟨rfl, ⟨rfl, ⟨rfl, ⟨rfl, trivial⟩⟩⟩⟩, ?_⟩
                      refine (AH_done (by kernel_rfl) (X_then ?_))
                      refine W_seq ?_
                      refine W.pre (K' := [(0, _), (2, _), (4, _), (7, _), (8, _), (9, _), (75, _)]) (L' := [(0, _), (101, _), (200, _), (201, _), (202, _), (204, _), (205, _), (206, _)]) ?_ ⟨rfl, ⟨rfl, ⟨rfl, ⟨rfl, ⟨rfl, ⟨rfl, ⟨rfl, trivial⟩⟩⟩⟩⟩⟩⟩ ⟨rfl, ⟨rfl, ⟨rfl, ⟨rfl, ⟨rfl, ⟨rfl, ⟨rfl, ⟨rfl, trivial⟩⟩⟩⟩⟩⟩⟩⟩
                      refine W_regL (WL_pure rfl rfl (by decide) (Pu_assign rfl rfl) (WL_nil (X_then ?_)))
                      refine W_ret (X_then_ret ?_)
                      refine X_turn (P' := datP (ys.take x ++ (((upV b.exp (ys.getD x default).1), (ys.getD x default).2) : EB) :: ys.drop (x + 1))) 202 rfl (fun h hp => dat_renew hlt hp) ?_
                      have hz1 : (ys.drop (x + 1)).take ((sls ys).length - (x + 1)) = ys.drop (x + 1) := List.take_of_length_le (by rw [List.length_drop]; omega)
                      refine X_turn (P' := rowB2 v101 (sls (ys.take x ++ (((upV b.exp (ys.getD x default).1), (ys.getD x default).2) : EB) :: ys.drop (x + 1)))) 204 rfl (fun h hp => (congrFun (rowB2_of (sls (ys.take x ++ (((upV b.exp (ys.getD x default).1), (ys.getD x default).2) : EB) :: ys.drop (x + 1))) (by simp [sls] <;> omega) (by rw [hz1]; simp [sls, recC])) h).mp hp) ?_
                      exact X_ret [200, 204, 202] (Ps := [_, _, _]) (res1 Try.results20 rfl) rfl (by decide) ⟨v101, (ys.take x ++ (((upV b.exp (ys.getD x default).1), (ys.getD x default).2) : EB) :: ys.drop (x + 1)), by rw [hP], hoN, by rw [hP]; exact hrn, rfl⟩
                    exact AHs_nil
                  exact AHs_nil
                exact AHs_nil
              refine AHs_cons rfl rfl rfl (by decide) (OpT_run (Pu_loadB (r := 200) rfl Try.isAgg32 rfl rfl rfl) ⟨⟨rfl, ⟨rfl, ⟨rfl, ⟨rfl, trivial⟩⟩⟩⟩, ?_⟩) ?_
              ·
                refine (AH_take 11 rfl (by kernel_rfl) (by kernel_rfl) (by kernel_rfl) rfl rfl (by decide) (Pu_slice (r := 201) (a := x + 1) (b := (sls ys).length) rfl Try.runUnderlying32 Try.sizeOf40 rfl rfl (fun _ h => rowP_rd h) (.inr ⟨_, _, _, rfl, rfl, (by omega)⟩) (.inl ⟨rfl, rfl⟩) (by omega) (Nat.le_refl _)) (AH_ready [4] (by kernel_rfl) (by decide) ?_))
                refine AHs_cons rfl rfl rfl (by decide) (OpT_append (r := 204) (r2 := 206) rfl Try.underlying32 TI.hi40 TI.hz40 TI.hs40 TI.hby40 TI.hzs40 (by decide) rfl rfl rfl rfl (fun _ h => rowP_rd h) (by rw [List.flatten_cons, List.flatten_nil, List.append_nil]; exact bvC_one _) (by simp; unfold maxLen; omega) (by simp; omega) (fun v93 => ?_)) ?_
                ·
                  refine ⟨⟨rfl, ⟨rfl, ⟨rfl, ⟨rfl, trivial⟩⟩⟩⟩, ?_⟩
                  refine (AH_ready [12] (by kernel_rfl) (by decide) ?_)
                  refine AHs_cons rfl rfl rfl (by decide) (OpT_append (r := 204) (r2 := 201) rfl Try.underlying32 TI.hi40 TI.hz40 TI.hs40 TI.hby40 TI.hzs40 (by decide) rfl rfl rfl rfl (fun h hp => rdP_cast (rdP_sub (rowP_rd hp) (by omega) (by omega)) (sub_rows ys (x + 1) ((sls ys).length - (x + 1))) rfl) (recC_ones bvC_one) (by simp; unfold maxLen; omega) (by simp; omega) (fun v101 => ?_)) ?_
                  ·
                    refine ⟨⟨rfl, ⟨rfl, ⟨rfl, ⟨rfl, trivial⟩⟩⟩⟩, ?_⟩
                    refine AH_fact (r := 204) rfl (fun h hp => rd_one (rowP_rd hp)) (fun hoN => ?_)
                    refine (AH_take 13 rfl (by kernel_rfl) (by kernel_rfl) (by kernel_rfl) rfl rfl (by decide) (Pu_nilCheck rfl rfl) (AH_take 14 rfl (by kernel_rfl) (by kernel_rfl) (by kernel_rfl) rfl rfl (by decide) (Pu_fieldAddrB (off := 2) rfl rfl (by kernel_rfl)) (AH_ready [15] (by kernel_rfl) (by decide) ?_)))
                    refine AHs_cons0 rfl rfl rfl (OpT_storeB1 (r := 200) rfl Try.sizeOf32 rfl rfl rfl hoN (by simp) rfl ?_) ?_
                    ·
                      refine ⟨⟨rfl, ⟨rfl, ⟨rfl, ⟨rfl, trivial⟩⟩⟩⟩, ?_⟩
                      refine (AH_done (by kernel_rfl) (X_then ?_))
                      refine W_seq ?_
                      refine W.pre (K' := [(0, _), (2, _), (4, _), (7, _), (8, _), (9, _), (75, _)]) (L' := [(0, _), (101, _), (200, _), (201, _), (202, _), (204, _), (205, _), (206, _)]) ?_ ⟨rfl, ⟨rfl, ⟨rfl, ⟨rfl, ⟨rfl, ⟨rfl, ⟨rfl, trivial⟩⟩⟩⟩⟩⟩⟩ ⟨rfl, ⟨rfl, ⟨rfl, ⟨rfl, ⟨rfl, ⟨rfl, ⟨rfl, ⟨rfl, trivial⟩⟩⟩⟩⟩⟩⟩⟩
                      refine W_regL (WL_pure rfl rfl (by decide) (Pu_assign rfl rfl) (WL_nil (X_then ?_)))
                      refine W_ret (X_then_ret ?_)
                      refine X_turn (P' := datP (ys.take x ++ (((upV b.exp (ys.getD x default).1), (ys.getD x default).2) : EB) :: ys.drop (x + 1))) 202 rfl (fun h hp => dat_renew hlt hp) ?_
                      have hz1 : (ys.drop (x + 1)).take ((sls ys).length - (x + 1)) = ys.drop (x + 1) := List.take_of_length_le (by rw [List.length_drop]; omega)
                      refine X_turn (P' := rowB2 v101 (sls (ys.take x ++ (((upV b.exp (ys.getD x default).1), (ys.getD x default).2) : EB) :: ys.drop (x + 1)))) 204 rfl (fun h hp => (congrFun (rowB2_of (sls (ys.take x ++ (((upV b.exp (ys.getD x default).1), (ys.getD x default).2) : EB) :: ys.drop (x + 1))) (by simp [sls] <;> omega) (by rw [hz1]; simp [sls, recC])) h).mp hp) ?_
                      exact X_ret [200, 204, 202] (Ps := [_, _, _]) (res1 Try.results20 rfl) rfl (by decide) ⟨v101, (ys.take x ++ (((upV b.exp (ys.getD x default).1), (ys.getD x default).2) : EB) :: ys.drop (x + 1)), by rw [hP], hoN, by rw [hP]; exact hrn, rfl⟩
                    exact AHs_nil
                  exact AHs_nil
                exact AHs_nil
              exact AHs_nil
            refine AHs_cons rfl rfl rfl (by decide) (OpT_run (Pu_loadB (r := 200) rfl Try.isAgg32 rfl rfl rfl) ⟨⟨rfl, ⟨rfl, ⟨rfl, ⟨rfl, trivial⟩⟩⟩⟩, ?_⟩) ?_
            ·
              refine (AH_take 11 rfl (by kernel_rfl) (by kernel_rfl) (by kernel_rfl) rfl rfl (by decide) (Pu_slice (r := 201) (a := x + 1) (b := (sls ys).length) rfl Try.runUnderlying32 Try.sizeOf40 rfl rfl (fun _ h => rowP_rd h) (.inr ⟨_, _, _, rfl, rfl, (by omega)⟩) (.inl ⟨rfl, rfl⟩) (by omega) (Nat.le_refl _)) (AH_ready [3] (by kernel_rfl) (by decide) ?_))
              refine AHs_cons rfl rfl rfl (by decide) (OpT_buildRows (r := 206) [bvC (upV b.exp (ys.getD x default).1)] rfl rfl Try.runUnderlying32 Try.sizeOf40 Try.zeroValue40 rfl (by decide) rfl (by decide) (by intro r hr; simp at hr; rw [hr, bvC_length]) rfl (fun v92 => ⟨⟨rfl, ⟨rfl, ⟨rfl, ⟨rfl, trivial⟩⟩⟩⟩, ?_⟩)) ?_
              ·
                refine (AH_ready [4] (by kernel_rfl) (by decide) ?_)
                refine AHs_cons rfl rfl rfl (by decide) (OpT_append (r := 204) (r2 := 206) rfl Try.underlying32 TI.hi40 TI.hz40 TI.hs40 TI.hby40 TI.hzs40 (by decide) rfl rfl rfl rfl (fun _ h => rowP_rd h) (by rw [List.flatten_cons, List.flatten_nil, List.append_nil]; exact bvC_one _) (by simp; unfold maxLen; omega) (by simp; omega) (fun v93 => ?_)) ?_
                ·
                  refine ⟨⟨rfl, ⟨rfl, ⟨rfl, ⟨rfl, trivial⟩⟩⟩⟩, ?_⟩
                  refine (AH_ready [12] (by kernel_rfl) (by decide) ?_)
                  refine AHs_cons rfl rfl rfl (by decide) (OpT_append (r := 204) (r2 := 201) rfl Try.underlying32 TI.hi40 TI.hz40 TI.hs40 TI.hby40 TI.hzs40 (by decide) rfl rfl rfl rfl (fun h hp => rdP_cast (rdP_sub (rowP_rd hp) (by omega) (by omega)) (sub_rows ys (x + 1) ((sls ys).length - (x + 1))) rfl) (recC_ones bvC_one) (by simp; unfold maxLen; omega) (by simp; omega) (fun v101 => ?_)) ?_
                  ·
                    refine ⟨⟨rfl, ⟨rfl, ⟨rfl, ⟨rfl, trivial⟩⟩⟩⟩, ?_⟩
                    refine AH_fact (r := 204) rfl (fun h hp => rd_one (rowP_rd hp)) (fun hoN => ?_)
                    refine (AH_take 13 rfl (by kernel_rfl) (by kernel_rfl) (by kernel_rfl) rfl rfl (by decide) (Pu_nilCheck rfl rfl) (AH_take 14 rfl (by kernel_rfl) (by kernel_rfl) (by kernel_rfl) rfl rfl (by decide) (Pu_fieldAddrB (off := 2) rfl rfl (by kernel_rfl)) (AH_ready [15] (by kernel_rfl) (by decide) ?_)))
                    refine AHs_cons0 rfl rfl rfl (OpT_storeB1 (r := 200) rfl Try.sizeOf32 rfl rfl rfl hoN (by simp) rfl ?_) ?_
                    ·
                      refine ⟨⟨rfl, ⟨rfl, ⟨rfl, ⟨rfl, trivial⟩⟩⟩⟩, ?_⟩
                      refine (AH_done (by kernel_rfl) (X_then ?_))
                      refine W_seq ?_
                      refine W.pre (K' := [(0, _), (2, _), (4, _), (7, _), (8, _), (9, _), (75, _)]) (L' := [(0, _), (101, _), (200, _), (201, _), (202, _), (204, _), (205, _), (206, _)]) ?_ ⟨rfl, ⟨rfl, ⟨rfl, ⟨rfl, ⟨rfl, ⟨rfl, ⟨rfl, trivial⟩⟩⟩⟩⟩⟩⟩ ⟨rfl, ⟨rfl, ⟨rfl, ⟨rfl, ⟨rfl, ⟨rfl, ⟨rfl, ⟨rfl, trivial⟩⟩⟩⟩⟩⟩⟩⟩
                      refine W_regL (WL_pure rfl rfl (by decide) (Pu_assign rfl rfl) (WL_nil (X_then ?_)))
                      refine W_ret (X_then_ret ?_)
                      refine X_turn (P' := datP (ys.take x ++ (((upV b.exp (ys.getD x default).1), (ys.getD x default).2) : EB) :: ys.drop (x + 1))) 202 rfl (fun h hp => dat_renew hlt hp) ?_
                      have hz1 : (ys.drop (x + 1)).take ((sls ys).length - (x + 1)) = ys.drop (x + 1) := List.take_of_length_le (by rw [List.length_drop]; omega)
                      refine X_turn (P' := rowB2 v101 (sls (ys.take x ++ (((upV b.exp (ys.getD x default).1), (ys.getD x default).2) : EB) :: ys.drop (x + 1)))) 204 rfl (fun h hp => (congrFun (rowB2_of (sls (ys.take x ++ (((upV b.exp (ys.getD x default).1), (ys.getD x default).2) : EB) :: ys.drop (x + 1))) (by simp [sls] <;> omega) (by rw [hz1]; simp [sls, recC])) h).mp hp) ?_
                      exact X_ret [200, 204, 202] (Ps := [_, _, _]) (res1 Try.results20 rfl) rfl (by decide) ⟨v101, (ys.take x ++ (((upV b.exp (ys.getD x default).1), (ys.getD x default).2) : EB) :: ys.drop (x + 1)), by rw [hP], hoN, by rw [hP]; exact hrn, rfl⟩
                    exact AHs_nil
                  exact AHs_nil
                exact AHs_nil
              exact AHs_nil
            exact AHs_nil
          ·
            have hnk : x < ys.length → (ys.getD x default).1.key ≠ b.key := fun _ => by simpa [-List.getD_eq_getElem?_getD] using hc75
            refine W_skip (X_then ?_)
            refine W_seq ?_
            refine W_seq ?_
            refine W.pre (K' := [(0, _), (2, _), (4, _), (7, _), (8, _), (75, _)]) (L' := [(0, _), (101, _), (200, _), (201, _), (202, _), (204, _)]) ?_ ⟨rfl, ⟨rfl, ⟨rfl, ⟨rfl, ⟨rfl, ⟨rfl, trivial⟩⟩⟩⟩⟩⟩ ⟨rfl, ⟨rfl, ⟨rfl, ⟨rfl, ⟨rfl, ⟨rfl, trivial⟩⟩⟩⟩⟩⟩
            have hfn := absent_zs hpl hsl hnk
            have hul := usedE_le b.src ys
            have hue : usedE b.src ys = usedA b.src (ys.map toBk) := usedE_eq _ _
            have hte : totE ys = totA (ys.map toBk) := totE_eq _
            refine W_draw (N := 13) (by kernel_rfl) rfl [(0, _), (101, _)] ⟨rfl, ⟨rfl, trivial⟩⟩ ?_
            refine (AH_take 0 rfl (by kernel_rfl) (by kernel_rfl) (by kernel_rfl) rfl rfl (by decide) (Pu_move rfl rfl) (AH_take 1 rfl (by kernel_rfl) (by kernel_rfl) (by kernel_rfl) rfl rfl (by decide) (Pu_fieldAddrB (off := 33) rfl rfl (by kernel_rfl)) (AH_take 2 rfl (by kernel_rfl) (by kernel_rfl) (by kernel_rfl) rfl rfl (by decide) (Pu_loadB (r := 101) rfl Try.isAgg3 rfl rfl (bk_src b.len)) (AH_take 4 rfl (by kernel_rfl) (by kernel_rfl) (by kernel_rfl) rfl rfl (by decide) (Pu_fieldAddrB (off := 32) rfl rfl (by kernel_rfl)) (AH_take 5 rfl (by kernel_rfl) (by kernel_rfl) (by kernel_rfl) rfl rfl (by decide) (Pu_loadB (r := 101) rfl Try.isAgg38 rfl rfl (bk_data b.len)) (AH_take 6 rfl (by kernel_rfl) (by kernel_rfl) (by kernel_rfl) rfl rfl (by decide) (Pu_len (r := 0) rfl Try.runUnderlying38 rfl rfl hF) (AH_take 8 rfl (by kernel_rfl) (by kernel_rfl) (by kernel_rfl) rfl rfl (by decide) (Pu_move rfl rfl) (AH_take 9 rfl (by kernel_rfl) (by kernel_rfl) (by kernel_rfl) rfl rfl (by decide) (Pu_nilCheck rfl rfl) (AH_take 10 rfl (by kernel_rfl) (by kernel_rfl) (by kernel_rfl) rfl rfl (by decide) (Pu_fieldAddrB (off := 1) rfl rfl (by kernel_rfl)) (AH_ready [3, 11] (by kernel_rfl) (by decide) ?_))))))))))
            refine AHs_cons rfl rfl rfl (by decide) (OpT_call 300 [0, 101, 204] [200, 201, 202] rfl Try.call26 rfl rfl rfl (by decide) (by decide) (refUsed_spec g room quota v2 ys b.src (by omega) (by omega) _) (fun v107 Ps107 hR107 => ?_)) ?_
            ·
              obtain ⟨rfl, rfl⟩ := hR107
              refine ⟨⟨rfl, ⟨rfl, trivial⟩⟩, ?_⟩
              skip
              refine (AH_take 7 rfl (by kernel_rfl) (by kernel_rfl) (by kernel_rfl) rfl rfl (by decide) (Pu_bin rfl rfl rfl (run_add _ _ _ _ _ (by omega))) (AH_ready [11] (by kernel_rfl) (by decide) ?_))
              refine AHs_cons rfl rfl rfl (by decide) (OpT_run (Pu_loadB (r := 300) rfl Try.isAgg3 rfl rfl rfl) ⟨⟨rfl, ⟨rfl, trivial⟩⟩, ?_⟩) ?_
              ·
                refine (AH_take 12 rfl (by kernel_rfl) (by kernel_rfl) (by kernel_rfl) rfl rfl (by decide) (Pu_bin rfl rfl rfl (run_gtr _ _ _ _ _ _)) (AH_done (by kernel_rfl) (X_then ?_)))
                refine W_cond rfl (fun hc116 => ?_) (fun hc116 => ?_)
                ·
                  have hgt := of_decide_eq_true hc116
                  have hP : putA room quota (zs.map toBk) (toBk (b, d)) now = (15, ys.map toBk) := by
                    unfold putA
                    rw [if_neg hq1, if_neg hlen, toBk_key, ← hA]
                    simp only [hfn]
                    exact if_pos (show quota - (usedA b.src (ys.map toBk) : Int) < (d.length : Int) by omega)
                  refine W_seq ?_
                  refine W.pre (K' := [(0, _), (2, _), (4, _), (7, _), (8, _), (75, _), (116, _)]) (L' := [(0, _), (101, _), (204, _), (300, _), (301, _), (302, _)]) ?_ ⟨rfl, ⟨rfl, ⟨rfl, ⟨rfl, ⟨rfl, ⟨rfl, ⟨rfl, trivial⟩⟩⟩⟩⟩⟩⟩ ⟨rfl, ⟨rfl, ⟨rfl, ⟨rfl, ⟨rfl, ⟨rfl, trivial⟩⟩⟩⟩⟩⟩
                  refine W_regL (WL_pure rfl rfl (by decide) (Pu_assign rfl rfl) (WL_nil (X_then ?_)))
                  refine W_ret (X_then_ret ?_)
                  exact X_ret [300, 301, 302] (Ps := [_, _, _]) (res1 Try.results20 rfl) rfl (by decide) ⟨v2, ys, by rw [hP], hv2, by rw [hP], rfl⟩
                ·
                  have hge1 := of_decide_eq_false hc116
                  refine W_skip (X_then ?_)
                  refine W_seq ?_
                  refine W_seq ?_
                  refine W.pre (K' := [(0, _), (2, _), (4, _), (7, _), (8, _), (75, _), (116, _)]) (L' := [(0, _), (101, _), (204, _), (300, _), (301, _), (302, _)]) ?_ ⟨rfl, ⟨rfl, ⟨rfl, ⟨rfl, ⟨rfl, ⟨rfl, ⟨rfl, trivial⟩⟩⟩⟩⟩⟩⟩ ⟨rfl, ⟨rfl, ⟨rfl, ⟨rfl, ⟨rfl, ⟨rfl, trivial⟩⟩⟩⟩⟩⟩
                  refine W_draw (N := 11) (by kernel_rfl) rfl [(0, _), (101, _)] ⟨rfl, ⟨rfl, trivial⟩⟩ ?_
                  refine (AH_take 0 rfl (by kernel_rfl) (by kernel_rfl) (by kernel_rfl) rfl rfl (by decide) (Pu_move rfl rfl) (AH_take 2 rfl (by kernel_rfl) (by kernel_rfl) (by kernel_rfl) rfl rfl (by decide) (Pu_fieldAddrB (off := 32) rfl rfl (by kernel_rfl)) (AH_take 3 rfl (by kernel_rfl) (by kernel_rfl) (by kernel_rfl) rfl rfl (by decide) (Pu_loadB (r := 101) rfl Try.isAgg38 rfl rfl (bk_data b.len)) (AH_take 4 rfl (by kernel_rfl) (by kernel_rfl) (by kernel_rfl) rfl rfl (by decide) (Pu_len (r := 0) rfl Try.runUnderlying38 rfl rfl hF) (AH_take 6 rfl (by kernel_rfl) (by kernel_rfl) (by kernel_rfl) rfl rfl (by decide) (Pu_move rfl rfl) (AH_take 7 rfl (by kernel_rfl) (by kernel_rfl) (by kernel_rfl) rfl rfl (by decide) (Pu_nilCheck rfl rfl) (AH_take 8 rfl (by kernel_rfl) (by kernel_rfl) (by kernel_rfl) rfl rfl (by decide) (Pu_fieldAddrB (off := 0) rfl rfl (by kernel_rfl)) (AH_ready [1, 9] (by kernel_rfl) (by decide) ?_))))))))
                  refine AHs_cons rfl rfl rfl (by decide) (OpT_call 400 [0, 101, 204] [300, 301, 302] rfl Try.call25 rfl rfl rfl (by decide) (by decide) (refTotal_spec g room quota v2 ys (by omega) (by omega) _) (fun v118 Ps118 hR118 => ?_)) ?_
                  ·
                    obtain ⟨rfl, rfl⟩ := hR118
                    refine ⟨⟨rfl, ⟨rfl, trivial⟩⟩, ?_⟩
                    skip
                    refine (AH_take 5 rfl (by kernel_rfl) (by kernel_rfl) (by kernel_rfl) rfl rfl (by decide) (Pu_bin rfl rfl rfl (run_add _ _ _ _ _ (by omega))) (AH_ready [9] (by kernel_rfl) (by decide) ?_))
                    refine AHs_cons rfl rfl rfl (by decide) (OpT_run (Pu_loadB (r := 400) rfl Try.isAgg3 rfl rfl rfl) ⟨⟨rfl, ⟨rfl, trivial⟩⟩, ?_⟩) ?_
                    ·
                      refine (AH_take 10 rfl (by kernel_rfl) (by kernel_rfl) (by kernel_rfl) rfl rfl (by decide) (Pu_bin rfl rfl rfl (run_gtr _ _ _ _ _ _)) (AH_done (by kernel_rfl) (X_then ?_)))
                      refine W_cond rfl (fun hc127 => ?_) (fun hc127 => ?_)
                      ·
                        have hgt := of_decide_eq_true hc127
                        have hP : putA room quota (zs.map toBk) (toBk (b, d)) now = (16, ys.map toBk) := by
                          unfold putA
                          rw [if_neg hq1, if_neg hlen, toBk_key, ← hA]
                          simp only [hfn]
                          exact (if_neg (show ¬ quota - (usedA b.src (ys.map toBk) : Int) < (d.length : Int) by omega)).trans (if_pos (show room - (totA (ys.map toBk) : Int) < (d.length : Int) by omega))
                        refine W_seq ?_
                        refine W.pre (K' := [(0, _), (2, _), (4, _), (7, _), (8, _), (75, _), (116, _), (127, _)]) (L' := [(0, _), (101, _), (204, _), (400, _), (401, _), (402, _)]) ?_ ⟨rfl, ⟨rfl, ⟨rfl, ⟨rfl, ⟨rfl, ⟨rfl, ⟨rfl, ⟨rfl, trivial⟩⟩⟩⟩⟩⟩⟩⟩ ⟨rfl, ⟨rfl, ⟨rfl, ⟨rfl, ⟨rfl, ⟨rfl, trivial⟩⟩⟩⟩⟩⟩
                        refine W_regL (WL_pure rfl rfl (by decide) (Pu_assign rfl rfl) (WL_nil (X_then ?_)))
                        refine W_ret (X_then_ret ?_)
                        exact X_ret [400, 401, 402] (Ps := [_, _, _]) (res1 Try.results20 rfl) rfl (by decide) ⟨v2, ys, by rw [hP], hv2, by rw [hP], rfl⟩
                      ·
                        have hge2 := of_decide_eq_false hc127
                        have hP : putA room quota (zs.map toBk) (toBk (b, d)) now = (0, insA (toBk (b, d)) (ys.map toBk)) := by
                          unfold putA
                          rw [if_neg hq1, if_neg hlen, toBk_key, ← hA]
                          simp only [hfn]
                          exact (if_neg (show ¬ quota - (usedA b.src (ys.map toBk) : Int) < (d.length : Int) by omega)).trans (if_neg (show ¬ room - (totA (ys.map toBk) : Int) < (d.length : Int) by omega))
                        refine W_skip (X_then ?_)
                        refine W_seq ?_
                        refine W.pre (K' := [(0, _), (2, _), (4, _), (7, _), (8, _), (75, _), (116, _), (127, _)]) (L' := [(0, _), (101, _), (204, _), (400, _), (401, _), (402, _)]) ?_ ⟨rfl, ⟨rfl, ⟨rfl, ⟨rfl, ⟨rfl, ⟨rfl, ⟨rfl, ⟨rfl, trivial⟩⟩⟩⟩⟩⟩⟩⟩ ⟨rfl, ⟨rfl, ⟨rfl, ⟨rfl, ⟨rfl, ⟨rfl, trivial⟩⟩⟩⟩⟩⟩
                        refine W_regL (WL_cons rfl rfl (by decide) (OpT_buildOnes (r := 404) (bs []) rfl rfl Try.runUnderlying38 Try.sizeOf5 Try.zeroValue5 rfl rfl (by decide) rfl (bs_cells _) (fun v128 => (WL_pure rfl rfl (by decide) (Pu_fieldAddrB (off := 32) rfl rfl (by kernel_rfl)) (WL_pure rfl rfl (by decide) (Pu_loadB (r := 101) rfl Try.isAgg38 rfl rfl (bk_data b.len)) (WL_cons rfl rfl (by decide) (OpT_append (r := 404) (r2 := 0) rfl Try.underlying38 TI.hi5 TI.hz5 TI.hs5 TI.hby5 TI.hzs5 (by decide) rfl rfl rfl rfl hF (bs_one _) (by simp; unfold maxLen; omega) (by simp; omega) (fun v131 => ?_))))))))
                        refine WL_fact (r := 404) rfl (fun h hp => rd_one (rowP_rd hp)) (fun ho131 => ?_)
                        refine (WL_pure rfl rfl (by decide) (Pu_fieldAddrB (off := 32) rfl rfl (by kernel_rfl)) (WL_cons0 rfl rfl (OpT_storeB1 (r := 101) rfl Try.sizeOf38 rfl rfl rfl ho131 (by rw [bvC_length]; decide) (bk_set_data b.len _) ?_)))
                        refine (WL_nil (X_then ?_))
                        refine W_seq ?_
                        refine W.pre (K' := [(0, _), (2, _), (4, _), (7, _), (8, _), (75, _), (116, _), (127, _)]) (L' := [(0, _), (101, _), (204, _), (400, _), (401, _), (402, _), (404, _)]) ?_ ⟨rfl, ⟨rfl, ⟨rfl, ⟨rfl, ⟨rfl, ⟨rfl, ⟨rfl, ⟨rfl, trivial⟩⟩⟩⟩⟩⟩⟩⟩ ⟨rfl, ⟨rfl, ⟨rfl, ⟨rfl, ⟨rfl, ⟨rfl, ⟨rfl, trivial⟩⟩⟩⟩⟩⟩⟩
                        refine W_draw (N := 15) (by kernel_rfl) rfl [(0, _), (101, _), (401, _)] ⟨rfl, ⟨rfl, ⟨rfl, trivial⟩⟩⟩ ?_
                        refine (AH_take 0 rfl (by kernel_rfl) (by kernel_rfl) (by kernel_rfl) rfl rfl (by decide) (Pu_move rfl rfl) (AH_take 1 rfl (by kernel_rfl) (by kernel_rfl) (by kernel_rfl) rfl rfl (by decide) (Pu_move rfl rfl) (AH_take 2 rfl (by kernel_rfl) (by kernel_rfl) (by kernel_rfl) rfl rfl (by decide) (Pu_loadBN (r := 101) rfl Try.isAgg40 Try.sizeOf40 rfl rfl (bvC_length (setSl v131 ho131 b)) (load_all (bvC_length (setSl v131 ho131 b)))) (AH_take 5 rfl (by kernel_rfl) (by kernel_rfl) (by kernel_rfl) rfl rfl (by decide) (Pu_move rfl rfl) (AH_take 6 rfl (by kernel_rfl) (by kernel_rfl) (by kernel_rfl) rfl rfl (by decide) (Pu_nilCheck rfl rfl) (AH_take 7 rfl (by kernel_rfl) (by kernel_rfl) (by kernel_rfl) rfl rfl (by decide) (Pu_fieldAddrB (off := 2) rfl rfl (by kernel_rfl)) (AH_take 9 rfl (by kernel_rfl) (by kernel_rfl) (by kernel_rfl) rfl rfl (by decide) (Pu_move rfl rfl) (AH_ready [3, 8] (by kernel_rfl) (by decide) ?_))))))))
                        refine AHs_cons rfl rfl rfl (by decide) (OpT_buildRows (r := 405) [bvC (setSl v131 ho131 b)] rfl rfl Try.runUnderlying32 Try.sizeOf40 Try.zeroValue40 rfl (by decide) rfl (by decide) (by intro r hr; simp at hr; rw [hr, bvC_length]) rfl (fun v136 => ⟨⟨rfl, ⟨rfl, ⟨rfl, trivial⟩⟩⟩, ?_⟩)) ?_
                        ·
                          refine (AH_ready [4, 8] (by kernel_rfl) (by decide) ?_)
                          refine AHs_cons rfl rfl rfl (by decide) (OpT_append (r := 204) (r2 := 405) rfl Try.underlying32 TI.hi40 TI.hz40 TI.hs40 TI.hby40 TI.hzs40 (by decide) rfl rfl rfl rfl (fun _ h => rowP_rd h) (by rw [List.flatten_cons, List.flatten_nil, List.append_nil]; exact bvC_one _) (by simp; unfold maxLen; omega) (by simp; omega) (fun v137 => ?_)) ?_
                          ·
                            refine ⟨⟨rfl, ⟨rfl, ⟨rfl, trivial⟩⟩⟩, ?_⟩
                            refine (AH_ready [8] (by kernel_rfl) (by decide) ?_)
                            refine AHs_cons rfl rfl rfl (by decide) (OpT_run (Pu_loadB (r := 400) rfl Try.isAgg32 rfl rfl rfl) ⟨⟨rfl, ⟨rfl, ⟨rfl, trivial⟩⟩⟩, ?_⟩) ?_
                            ·
                              refine (AH_take 10 rfl (by kernel_rfl) (by kernel_rfl) (by kernel_rfl) rfl rfl (by decide) (Pu_slice (r := 401) (a := x) (b := (sls ys).length) rfl Try.runUnderlying32 Try.sizeOf40 rfl rfl (fun _ h => rowP_rd h) (.inr ⟨_, _, _, rfl, rfl, rfl⟩) (.inl ⟨rfl, rfl⟩) (by omega) (Nat.le_refl _)) (AH_ready [11] (by kernel_rfl) (by decide) ?_))
                              refine AHs_cons rfl rfl rfl (by decide) (OpT_append (r := 204) (r2 := 401) rfl Try.underlying32 TI.hi40 TI.hz40 TI.hs40 TI.hby40 TI.hzs40 (by decide) rfl rfl rfl rfl (fun h hp => rdP_cast (rdP_sub (rowP_rd hp) (by omega) (by omega)) (sub_rows ys x ((sls ys).length - x)) rfl) (recC_ones bvC_one) (by simp; unfold maxLen; omega) (by simp; omega) (fun v144 => ?_)) ?_
                              ·
                                refine ⟨⟨rfl, ⟨rfl, ⟨rfl, trivial⟩⟩⟩, ?_⟩
                                refine AH_fact (r := 204) rfl (fun h hp => rd_one (rowP_rd hp)) (fun hoN => ?_)
                                refine (AH_take 12 rfl (by kernel_rfl) (by kernel_rfl) (by kernel_rfl) rfl rfl (by decide) (Pu_nilCheck rfl rfl) (AH_take 13 rfl (by kernel_rfl) (by kernel_rfl) (by kernel_rfl) rfl rfl (by decide) (Pu_fieldAddrB (off := 2) rfl rfl (by kernel_rfl)) (AH_ready [14] (by kernel_rfl) (by decide) ?_)))
                                refine AHs_cons0 rfl rfl rfl (OpT_storeB1 (r := 400) rfl Try.sizeOf32 rfl rfl rfl hoN (by simp) rfl ?_) ?_
                                ·
                                  refine ⟨⟨rfl, ⟨rfl, ⟨rfl, trivial⟩⟩⟩, ?_⟩
                                  refine (AH_done (by kernel_rfl) (X_then ?_))
                                  refine W_seq ?_
                                  refine W.pre (K' := [(0, _), (2, _), (4, _), (7, _), (8, _), (75, _), (116, _), (127, _)]) (L' := [(0, _), (101, _), (204, _), (400, _), (401, _), (402, _), (404, _), (405, _)]) ?_ ⟨rfl, ⟨rfl, ⟨rfl, ⟨rfl, ⟨rfl, ⟨rfl, ⟨rfl, ⟨rfl, trivial⟩⟩⟩⟩⟩⟩⟩⟩ ⟨rfl, ⟨rfl, ⟨rfl, ⟨rfl, ⟨rfl, ⟨rfl, ⟨rfl, ⟨rfl, trivial⟩⟩⟩⟩⟩⟩⟩⟩
                                  refine W_regL (WL_pure rfl rfl (by decide) (Pu_assign rfl rfl) (WL_nil (X_then ?_)))
                                  refine W_ret ?_
                                  refine X_join [402, 404] 402 (datP (ys.take x ++ (((setSl v131 ho131 b), d) : EB) :: ys.drop x)) rfl (by decide) (fun h hs => dat_ins hs) ?_
                                  have hz1 : (ys.drop (x)).take ((sls ys).length - (x)) = ys.drop (x) := List.take_of_length_le (by rw [List.length_drop]; omega)
                                  refine X_turn (P' := rowB2 v144 (sls (ys.take x ++ (((setSl v131 ho131 b), d) : EB) :: ys.drop x))) 204 rfl (fun h hp => (congrFun (rowB2_of (sls (ys.take x ++ (((setSl v131 ho131 b), d) : EB) :: ys.drop x)) (by simp [sls] <;> omega) (by rw [hz1]; simp [sls, recC])) h).mp hp) ?_
                                  exact X_ret [400, 204, 402] (Ps := [_, _, _]) (res1 Try.results20 rfl) rfl (by decide) ⟨v144, (ys.take x ++ (((setSl v131 ho131 b), d) : EB) :: ys.drop x), by rw [hP], hoN, by rw [hP]; exact ins_zs hpl, rfl⟩
                                exact AHs_nil
                              exact AHs_nil
                            exact AHs_nil
                          refine AHs_cons rfl rfl rfl (by decide) (OpT_run (Pu_loadB (r := 400) rfl Try.isAgg32 rfl rfl rfl) ⟨⟨rfl, ⟨rfl, ⟨rfl, trivial⟩⟩⟩, ?_⟩) ?_
                          ·
                            refine (AH_take 10 rfl (by kernel_rfl) (by kernel_rfl) (by kernel_rfl) rfl rfl (by decide) (Pu_slice (r := 401) (a := x) (b := (sls ys).length) rfl Try.runUnderlying32 Try.sizeOf40 rfl rfl (fun _ h => rowP_rd h) (.inr ⟨_, _, _, rfl, rfl, rfl⟩) (.inl ⟨rfl, rfl⟩) (by omega) (Nat.le_refl _)) (AH_ready [4] (by kernel_rfl) (by decide) ?_))
                            refine AHs_cons rfl rfl rfl (by decide) (OpT_append (r := 204) (r2 := 405) rfl Try.underlying32 TI.hi40 TI.hz40 TI.hs40 TI.hby40 TI.hzs40 (by decide) rfl rfl rfl rfl (fun _ h => rowP_rd h) (by rw [List.flatten_cons, List.flatten_nil, List.append_nil]; exact bvC_one _) (by simp; unfold maxLen; omega) (by simp; omega) (fun v137 => ?_)) ?_
                            ·
                              refine ⟨⟨rfl, ⟨rfl, ⟨rfl, trivial⟩⟩⟩, ?_⟩
                              refine (AH_ready [11] (by kernel_rfl) (by decide) ?_)
                              refine AHs_cons rfl rfl rfl (by decide) (OpT_append (r := 204) (r2 := 401) rfl Try.underlying32 TI.hi40 TI.hz40 TI.hs40 TI.hby40 TI.hzs40 (by decide) rfl rfl rfl rfl (fun h hp => rdP_cast (rdP_sub (rowP_rd hp) (by omega) (by omega)) (sub_rows ys x ((sls ys).length - x)) rfl) (recC_ones bvC_one) (by simp; unfold maxLen; omega) (by simp; omega) (fun v144 => ?_)) ?_
                              ·
                                refine ⟨⟨rfl, ⟨rfl, ⟨rfl, trivial⟩⟩⟩, ?_⟩
                                refine AH_fact (r := 204) rfl (fun h hp => rd_one (rowP_rd hp)) (fun hoN => ?_)
                                refine (AH_take 12 rfl (by kernel_rfl) (by kernel_rfl) (by kernel_rfl) rfl rfl (by decide) (Pu_nilCheck rfl rfl) (AH_take 13 rfl (by kernel_rfl) (by kernel_rfl) (by kernel_rfl) rfl rfl (by decide) (Pu_fieldAddrB (off := 2) rfl rfl (by kernel_rfl)) (AH_ready [14] (by kernel_rfl) (by decide) ?_)))
                                refine AHs_cons0 rfl rfl rfl (OpT_storeB1 (r := 400) rfl Try.sizeOf32 rfl rfl rfl hoN (by simp) rfl ?_) ?_
                                ·
                                  refine ⟨⟨rfl, ⟨rfl, ⟨rfl, trivial⟩⟩⟩, ?_⟩
                                  refine (AH_done (by kernel_rfl) (X_then ?_))
                                  refine W_seq ?_
                                  refine W.pre (K' := [(0, _), (2, _), (4, _), (7, _), (8, _), (75, _), (116, _), (127, _)]) (L' := [(0, _), (101, _), (204, _), (400, _), (401, _), (402, _), (404, _), (405, _)]) ?_ ⟨rfl, ⟨rfl, ⟨rfl, ⟨rfl, ⟨rfl, ⟨rfl, ⟨rfl, ⟨rfl, trivial⟩⟩⟩⟩⟩⟩⟩⟩ ⟨rfl, ⟨rfl, ⟨rfl, ⟨rfl, ⟨rfl, ⟨rfl, ⟨rfl, ⟨rfl, trivial⟩⟩⟩⟩⟩⟩⟩⟩
                                  refine W_regL (WL_pure rfl rfl (by decide) (Pu_assign rfl rfl) (WL_nil (X_then ?_)))
                                  refine W_ret ?_
                                  refine X_join [402, 404] 402 (datP (ys.take x ++ (((setSl v131 ho131 b), d) : EB) :: ys.drop x)) rfl (by decide) (fun h hs => dat_ins hs) ?_
                                  have hz1 : (ys.drop (x)).take ((sls ys).length - (x)) = ys.drop (x) := List.take_of_length_le (by rw [List.length_drop]; omega)
                                  refine X_turn (P' := rowB2 v144 (sls (ys.take x ++ (((setSl v131 ho131 b), d) : EB) :: ys.drop x))) 204 rfl (fun h hp => (congrFun (rowB2_of (sls (ys.take x ++ (((setSl v131 ho131 b), d) : EB) :: ys.drop x)) (by simp [sls] <;> omega) (by rw [hz1]; simp [sls, recC])) h).mp hp) ?_
                                  exact X_ret [400, 204, 402] (Ps := [_, _, _]) (res1 Try.results20 rfl) rfl (by decide) ⟨v144, (ys.take x ++ (((setSl v131 ho131 b), d) : EB) :: ys.drop x), by rw [hP], hoN, by rw [hP]; exact ins_zs hpl, rfl⟩
                                exact AHs_nil
                              exact AHs_nil
                            exact AHs_nil
                          exact AHs_nil
                        refine AHs_cons rfl rfl rfl (by decide) (OpT_run (Pu_loadB (r := 400) rfl Try.isAgg32 rfl rfl rfl) ⟨⟨rfl, ⟨rfl, ⟨rfl, trivial⟩⟩⟩, ?_⟩) ?_
                        ·
                          refine (AH_take 10 rfl (by kernel_rfl) (by kernel_rfl) (by kernel_rfl) rfl rfl (by decide) (Pu_slice (r := 401) (a := x) (b := (sls ys).length) rfl Try.runUnderlying32 Try.sizeOf40 rfl rfl (fun _ h => rowP_rd h) (.inr ⟨_, _, _, rfl, rfl, rfl⟩) (.inl ⟨rfl, rfl⟩) (by omega) (Nat.le_refl _)) (AH_ready [3] (by kernel_rfl) (by decide) ?_))
                          refine AHs_cons rfl rfl rfl (by decide) (OpT_buildRows (r := 405) [bvC (setSl v131 ho131 b)] rfl rfl Try.runUnderlying32 Try.sizeOf40 Try.zeroValue40 rfl (by decide) rfl (by decide) (by intro r hr; simp at hr; rw [hr, bvC_length]) rfl (fun v136 => ⟨⟨rfl, ⟨rfl, ⟨rfl, trivial⟩⟩⟩, ?_⟩)) ?_
                          ·
                            refine (AH_ready [4] (by kernel_rfl) (by decide) ?_)
                            refine AHs_cons rfl rfl rfl (by decide) (OpT_append (r := 204) (r2 := 405) rfl Try.underlying32 TI.hi40 TI.hz40 TI.hs40 TI.hby40 TI.hzs40 (by decide) rfl rfl rfl rfl (fun _ h => rowP_rd h) (by rw [List.flatten_cons, List.flatten_nil, List.append_nil]; exact bvC_one _) (by simp; unfold maxLen; omega) (by simp; omega) (fun v137 => ?_)) ?_
                            ·
                              refine ⟨⟨rfl, ⟨rfl, ⟨rfl, trivial⟩⟩⟩, ?_⟩
                              refine (AH_ready [11] (by kernel_rfl) (by decide) ?_)
                              refine AHs_cons rfl rfl rfl (by decide) (OpT_append (r := 204) (r2 := 401) rfl Try.underlying32 TI.hi40 TI.hz40 TI.hs40 TI.hby40 TI.hzs40 (by decide) rfl rfl rfl rfl (fun h hp => rdP_cast (rdP_sub (rowP_rd hp) (by omega) (by omega)) (sub_rows ys x ((sls ys).length - x)) rfl) (recC_ones bvC_one) (by simp; unfold maxLen; omega) (by simp; omega) (fun v144 => ?_)) ?_
                              ·
                                refine ⟨⟨rfl, ⟨rfl, ⟨rfl, trivial⟩⟩⟩, ?_⟩
                                refine AH_fact (r := 204) rfl (fun h hp => rd_one (rowP_rd hp)) (fun hoN => ?_)
                                refine (AH_take 12 rfl (by kernel_rfl) (by kernel_rfl) (by kernel_rfl) rfl rfl (by decide) (Pu_nilCheck rfl rfl) (AH_take 13 rfl (by kernel_rfl) (by kernel_rfl) (by kernel_rfl) rfl rfl (by decide) (Pu_fieldAddrB (off := 2) rfl rfl (by kernel_rfl)) (AH_ready [14] (by kernel_rfl) (by decide) ?_)))
                                refine AHs_cons0 rfl rfl rfl (OpT_storeB1 (r := 400) rfl Try.sizeOf32 rfl rfl rfl hoN (by simp) rfl ?_) ?_
                                ·
                                  refine ⟨⟨rfl, ⟨rfl, ⟨rfl, trivial⟩⟩⟩, ?_⟩
                                  refine (AH_done (by kernel_rfl) (X_then ?_))
                                  refine W_seq ?_
                                  refine W.pre (K' := [(0, _), (2, _), (4, _), (7, _), (8, _), (75, _), (116, _), (127, _)]) (L' := [(0, _), (101, _), (204, _), (400, _), (401, _), (402, _), (404, _), (405, _)]) ?_ ⟨rfl, ⟨rfl, ⟨rfl, ⟨rfl, ⟨rfl, ⟨rfl, ⟨rfl, ⟨rfl, trivial⟩⟩⟩⟩⟩⟩⟩⟩ ⟨rfl, ⟨rfl, ⟨rfl, ⟨rfl, ⟨rfl, ⟨rfl, ⟨rfl, ⟨rfl, trivial⟩⟩⟩⟩⟩⟩⟩⟩
                                  refine W_regL (WL_pure rfl rfl (by decide) (Pu_assign rfl rfl) (WL_nil (X_then ?_)))
                                  refine W_ret ?_
                                  refine X_join [402, 404] 402 (datP (ys.take x ++ (((setSl v131 ho131 b), d) : EB) :: ys.drop x)) rfl (by decide) (fun h hs => dat_ins hs) ?_
                                  have hz1 : (ys.drop (x)).take ((sls ys).length - (x)) = ys.drop (x) := List.take_of_length_le (by rw [List.length_drop]; omega)
                                  refine X_turn (P' := rowB2 v144 (sls (ys.take x ++ (((setSl v131 ho131 b), d) : EB) :: ys.drop x))) 204 rfl (fun h hp => (congrFun (rowB2_of (sls (ys.take x ++ (((setSl v131 ho131 b), d) : EB) :: ys.drop x)) (by simp [sls] <;> omega) (by rw [hz1]; simp [sls, recC])) h).mp hp) ?_
                                  exact X_ret [400, 204, 402] (Ps := [_, _, _]) (res1 Try.results20 rfl) rfl (by decide) ⟨v144, (ys.take x ++ (((setSl v131 ho131 b), d) : EB) :: ys.drop x), by rw [hP], hoN, by rw [hP]; exact ins_zs hpl, rfl⟩
                                exact AHs_nil
                              exact AHs_nil
                            exact AHs_nil
                          exact AHs_nil
                        exact AHs_nil
                    exact AHs_nil
                  refine AHs_cons rfl rfl rfl (by decide) (OpT_run (Pu_loadB (r := 300) rfl Try.isAgg3 rfl rfl rfl) ⟨⟨rfl, ⟨rfl, trivial⟩⟩, ?_⟩) ?_
                  ·
                    refine (AH_ready [1] (by kernel_rfl) (by decide) ?_)
                    refine AHs_cons rfl rfl rfl (by decide) (OpT_call 400 [0, 101, 204] [300, 301, 302] rfl Try.call25 rfl rfl rfl (by decide) (by decide) (refTotal_spec g room quota v2 ys (by omega) (by omega) _) (fun v118 Ps118 hR118 => ?_)) ?_
                    ·
                      obtain ⟨rfl, rfl⟩ := hR118
                      refine ⟨⟨rfl, ⟨rfl, trivial⟩⟩, ?_⟩
                      skip
                      refine (AH_take 5 rfl (by kernel_rfl) (by kernel_rfl) (by kernel_rfl) rfl rfl (by decide) (Pu_bin rfl rfl rfl (run_add _ _ _ _ _ (by omega))) (AH_take 10 rfl (by kernel_rfl) (by kernel_rfl) (by kernel_rfl) rfl rfl (by decide) (Pu_bin rfl rfl rfl (run_gtr _ _ _ _ _ _)) (AH_done (by kernel_rfl) (X_then ?_))))
                      refine W_cond rfl (fun hc127 => ?_) (fun hc127 => ?_)
                      ·
                        have hgt := of_decide_eq_true hc127
                        have hP : putA room quota (zs.map toBk) (toBk (b, d)) now = (16, ys.map toBk) := by
                          unfold putA
                          rw [if_neg hq1, if_neg hlen, toBk_key, ← hA]
                          simp only [hfn]
                          exact (if_neg (show ¬ quota - (usedA b.src (ys.map toBk) : Int) < (d.length : Int) by omega)).trans (if_pos (show room - (totA (ys.map toBk) : Int) < (d.length : Int) by omega))
                        refine W_seq ?_
                        refine W.pre (K' := [(0, _), (2, _), (4, _), (7, _), (8, _), (75, _), (116, _), (127, _)]) (L' := [(0, _), (101, _), (204, _), (400, _), (401, _), (402, _)]) ?_ ⟨rfl, ⟨rfl, ⟨rfl, ⟨rfl, ⟨rfl, ⟨rfl, ⟨rfl, ⟨rfl, trivial⟩⟩⟩⟩⟩⟩⟩⟩ ⟨rfl, ⟨rfl, ⟨rfl, ⟨rfl, ⟨rfl, ⟨rfl, trivial⟩⟩⟩⟩⟩⟩
                        refine W_regL (WL_pure rfl rfl (by decide) (Pu_assign rfl rfl) (WL_nil (X_then ?_)))
                        refine W_ret (X_then_ret ?_)
                        exact X_ret [400, 401, 402] (Ps := [_, _, _]) (res1 Try.results20 rfl) rfl (by decide) ⟨v2, ys, by rw [hP], hv2, by rw [hP], rfl⟩
                      ·
                        have hge2 := of_decide_eq_false hc127
                        have hP : putA room quota (zs.map toBk) (toBk (b, d)) now = (0, insA (toBk (b, d)) (ys.map toBk)) := by
                          unfold putA
                          rw [if_neg hq1, if_neg hlen, toBk_key, ← hA]
                          simp only [hfn]
                          exact (if_neg (show ¬ quota - (usedA b.src (ys.map toBk) : Int) < (d.length : Int) by omega)).trans (if_neg (show ¬ room - (totA (ys.map toBk) : Int) < (d.length : Int) by omega))
                        refine W_skip (X_then ?_)
                        refine W_seq ?_
                        refine W.pre (K' := [(0, _), (2, _), (4, _), (7, _), (8, _), (75, _), (116, _), (127, _)]) (L' := [(0, _), (101, _), (204, _), (400, _), (401, _), (402, _)]) ?_ ⟨rfl, ⟨rfl, ⟨rfl, ⟨rfl, ⟨rfl, ⟨rfl, ⟨rfl, ⟨rfl, trivial⟩⟩⟩⟩⟩⟩⟩⟩ ⟨rfl, ⟨rfl, ⟨rfl, ⟨rfl, ⟨rfl, ⟨rfl, trivial⟩⟩⟩⟩⟩⟩
                        refine W_regL (WL_cons rfl rfl (by decide) (OpT_buildOnes (r := 404) (bs []) rfl rfl Try.runUnderlying38 Try.sizeOf5 Try.zeroValue5 rfl rfl (by decide) rfl (bs_cells _) (fun v128 => (WL_pure rfl rfl (by decide) (Pu_fieldAddrB (off := 32) rfl rfl (by kernel_rfl)) (WL_pure rfl rfl (by decide) (Pu_loadB (r := 101) rfl Try.isAgg38 rfl rfl (bk_data b.len)) (WL_cons rfl rfl (by decide) (OpT_append (r := 404) (r2 := 0) rfl Try.underlying38 TI.hi5 TI.hz5 TI.hs5 TI.hby5 TI.hzs5 (by decide) rfl rfl rfl rfl hF (bs_one _) (by simp; unfold maxLen; omega) (by simp; omega) (fun v131 => ?_))))))))
                        refine WL_fact (r := 404) rfl (fun h hp => rd_one (rowP_rd hp)) (fun ho131 => ?_)
                        refine (WL_pure rfl rfl (by decide) (Pu_fieldAddrB (off := 32) rfl rfl (by kernel_rfl)) (WL_cons0 rfl rfl (OpT_storeB1 (r := 101) rfl Try.sizeOf38 rfl rfl rfl ho131 (by rw [bvC_length]; decide) (bk_set_data b.len _) ?_)))
                        refine (WL_nil (X_then ?_))
                        refine W_seq ?_
                        refine W.pre (K' := [(0, _), (2, _), (4, _), (7, _), (8, _), (75, _), (116, _), (127, _)]) (L' := [(0, _), (101, _), (204, _), (400, _), (401, _), (402, _), (404, _)]) ?_ ⟨rfl, ⟨rfl, ⟨rfl, ⟨rfl, ⟨rfl, ⟨rfl, ⟨rfl, ⟨rfl, trivial⟩⟩⟩⟩⟩⟩⟩⟩ ⟨rfl, ⟨rfl, ⟨rfl, ⟨rfl, ⟨rfl, ⟨rfl, ⟨rfl, trivial⟩⟩⟩⟩⟩⟩⟩
                        refine W_draw (N := 15) (by kernel_rfl) rfl [(0, _), (101, _), (401, _)] ⟨rfl, ⟨rfl, ⟨rfl, trivial⟩⟩⟩ ?_
                        refine (AH_take 0 rfl (by kernel_rfl) (by kernel_rfl) (by kernel_rfl) rfl rfl (by decide) (Pu_move rfl rfl) (AH_take 1 rfl (by kernel_rfl) (by kernel_rfl) (by kernel_rfl) rfl rfl (by decide) (Pu_move rfl rfl) (AH_take 2 rfl (by kernel_rfl) (by kernel_rfl) (by kernel_rfl) rfl rfl (by decide) (Pu_loadBN (r := 101) rfl Try.isAgg40 Try.sizeOf40 rfl rfl (bvC_length (setSl v131 ho131 b)) (load_all (bvC_length (setSl v131 ho131 b)))) (AH_take 5 rfl (by kernel_rfl) (by kernel_rfl) (by kernel_rfl) rfl rfl (by decide) (Pu_move rfl rfl) (AH_take 6 rfl (by kernel_rfl) (by kernel_rfl) (by kernel_rfl) rfl rfl (by decide) (Pu_nilCheck rfl rfl) (AH_take 7 rfl (by kernel_rfl) (by kernel_rfl) (by kernel_rfl) rfl rfl (by decide) (Pu_fieldAddrB (off := 2) rfl rfl (by kernel_rfl)) (AH_take 9 rfl (by kernel_rfl) (by kernel_rfl) (by kernel_rfl) rfl rfl (by decide) (Pu_move rfl rfl) (AH_ready [3, 8] (by kernel_rfl) (by decide) ?_))))))))
                        refine AHs_cons rfl rfl rfl (by decide) (OpT_buildRows (r := 405) [bvC (setSl v131 ho131 b)] rfl rfl Try.runUnderlying32 Try.sizeOf40 Try.zeroValue40 rfl (by decide) rfl (by decide) (by intro r hr; simp at hr; rw [hr, bvC_length]) rfl (fun v136 => ⟨⟨rfl, ⟨rfl, ⟨rfl, trivial⟩⟩⟩, ?_⟩)) ?_
                        ·
                          refine (AH_ready [4, 8] (by kernel_rfl) (by decide) ?_)
                          refine AHs_cons rfl rfl rfl (by decide) (OpT_append (r := 204) (r2 := 405) rfl Try.underlying32 TI.hi40 TI.hz40 TI.hs40 TI.hby40 TI.hzs40 (by decide) rfl rfl rfl rfl (fun _ h => rowP_rd h) (by rw [List.flatten_cons, List.flatten_nil, List.append_nil]; exact bvC_one _) (by simp; unfold maxLen; omega) (by simp; omega) (fun v137 => ?_)) ?_
                          ·
                            refine ⟨⟨rfl, ⟨rfl, ⟨rfl, trivial⟩⟩⟩, ?_⟩
                            refine (AH_ready [8] (by kernel_rfl) (by decide) ?_)
                            refine AHs_cons rfl rfl rfl (by decide) (OpT_run (Pu_loadB (r := 400) rfl Try.isAgg32 rfl rfl rfl) ⟨⟨rfl, ⟨rfl, ⟨rfl, trivial⟩⟩⟩, ?_⟩) ?_
                            ·
                              refine (AH_take 10 rfl (by kernel_rfl) (by kernel_rfl) (by kernel_rfl) rfl rfl (by decide) (Pu_slice (r := 401) (a := x) (b := (sls ys).length) rfl Try.runUnderlying32 Try.sizeOf40 rfl rfl (fun _ h => rowP_rd h) (.inr ⟨_, _, _, rfl, rfl, rfl⟩) (.inl ⟨rfl, rfl⟩) (by omega) (Nat.le_refl _)) (AH_ready [11] (by kernel_rfl) (by decide) ?_))
                              refine AHs_cons rfl rfl rfl (by decide) (OpT_append (r := 204) (r2 := 401) rfl Try.underlying32 TI.hi40 TI.hz40 TI.hs40 TI.hby40 TI.hzs40 (by decide) rfl rfl rfl rfl (fun h hp => rdP_cast (rdP_sub (rowP_rd hp) (by omega) (by omega)) (sub_rows ys x ((sls ys).length - x)) rfl) (recC_ones bvC_one) (by simp; unfold maxLen; omega) (by simp; omega) (fun v144 => ?_)) ?_
                              ·
                                refine ⟨⟨rfl, ⟨rfl, ⟨rfl, trivial⟩⟩⟩, ?_⟩
                                refine AH_fact (r := 204) rfl (fun h hp => rd_one (rowP_rd hp)) (fun hoN => ?_)
                                refine (AH_take 12 rfl (by kernel_rfl) (by kernel_rfl) (by kernel_rfl) rfl rfl (by decide) (Pu_nilCheck rfl rfl) (AH_take 13 rfl (by kernel_rfl) (by kernel_rfl) (by kernel_rfl) rfl rfl (by decide) (Pu_fieldAddrB (off := 2) rfl rfl (by kernel_rfl)) (AH_ready [14] (by kernel_rfl) (by decide) ?_)))
                                refine AHs_cons0 rfl rfl rfl (OpT_storeB1 (r := 400) rfl Try.sizeOf32 rfl rfl rfl hoN (by simp) rfl ?_) ?_
                                ·
                                  refine ⟨⟨rfl, ⟨rfl, ⟨rfl, trivial⟩⟩⟩, ?_⟩
                                  refine (AH_done (by kernel_rfl) (X_then ?_))
                                  refine W_seq ?_
                                  refine W.pre (K' := [(0, _), (2, _), (4, _), (7, _), (8, _), (75, _), (116, _), (127, _)]) (L' := [(0, _), (101, _), (204, _), (400, _), (401, _), (402, _), (404, _), (405, _)]) ?_ ⟨rfl, ⟨rfl, ⟨rfl, ⟨rfl, ⟨rfl, ⟨rfl, ⟨rfl, ⟨rfl, trivial⟩⟩⟩⟩⟩⟩⟩⟩ ⟨rfl, ⟨rfl, ⟨rfl, ⟨rfl, ⟨rfl, ⟨rfl, ⟨rfl, ⟨rfl, trivial⟩⟩⟩⟩⟩⟩⟩⟩
                                  refine W_regL (WL_pure rfl rfl (by decide) (Pu_assign rfl rfl) (WL_nil (X_then ?_)))
                                  refine W_ret ?_
                                  refine X_join [402, 404] 402 (datP (ys.take x ++ (((setSl v131 ho131 b), d) : EB) :: ys.drop x)) rfl (by decide) (fun h hs => dat_ins hs) ?_
                                  have hz1 : (ys.drop (x)).take ((sls ys).length - (x)) = ys.drop (x) := List.take_of_length_le (by rw [List.length_drop]; omega)
                                  refine X_turn (P' := rowB2 v144 (sls (ys.take x ++ (((setSl v131 ho131 b), d) : EB) :: ys.drop x))) 204 rfl (fun h hp => (congrFun (rowB2_of (sls (ys.take x ++ (((setSl v131 ho131 b), d) : EB) :: ys.drop x)) (by simp [sls] <;> omega) (by rw [hz1]; simp [sls, recC])) h).mp hp) ?_
                                  exact X_ret [400, 204, 402] (Ps := [_, _, _]) (res1 Try.results20 rfl) rfl (by decide) ⟨v144, (ys.take x ++ (((setSl v131 ho131 b), d) : EB) :: ys.drop x), by rw [hP], hoN, by rw [hP]; exact ins_zs hpl, rfl⟩
                                exact AHs_nil
                              exact AHs_nil
                            exact AHs_nil
                          refine AHs_cons rfl rfl rfl (by decide) (OpT_run (Pu_loadB (r := 400) rfl Try.isAgg32 rfl rfl rfl) ⟨⟨rfl, ⟨rfl, ⟨rfl, trivial⟩⟩⟩, ?_⟩) ?_
                          ·
                            refine (AH_take 10 rfl (by kernel_rfl) (by kernel_rfl) (by kernel_rfl) rfl rfl (by decide) (Pu_slice (r := 401) (a := x) (b := (sls ys).length) rfl Try.runUnderlying32 Try.sizeOf40 rfl rfl (fun _ h => rowP_rd h) (.inr ⟨_, _, _, rfl, rfl, rfl⟩) (.inl ⟨rfl, rfl⟩) (by omega) (Nat.le_refl _)) (AH_ready [4] (by kernel_rfl) (by decide) ?_))
                            refine AHs_cons rfl rfl rfl (by decide) (OpT_append (r := 204) (r2 := 405) rfl Try.underlying32 TI.hi40 TI.hz40 TI.hs40 TI.hby40 TI.hzs40 (by decide) rfl rfl rfl rfl (fun _ h => rowP_rd h) (by rw [List.flatten_cons, List.flatten_nil, List.append_nil]; exact bvC_one _) (by simp; unfold maxLen; omega) (by simp; omega) (fun v137 => ?_)) ?_
                            ·
                              refine ⟨⟨rfl, ⟨rfl, ⟨rfl, trivial⟩⟩⟩, ?_⟩
                              refine (AH_ready [11] (by kernel_rfl) (by decide) ?_)
                              refine AHs_cons rfl rfl rfl (by decide) (OpT_append (r := 204) (r2 := 401) rfl Try.underlying32 TI.hi40 TI.hz40 TI.hs40 TI.hby40 TI.hzs40 (by decide) rfl rfl rfl rfl (fun h hp => rdP_cast (rdP_sub (rowP_rd hp) (by omega) (by omega)) (sub_rows ys x ((sls ys).length - x)) rfl) (recC_ones bvC_one) (by simp; unfold maxLen; omega) (by simp; omega) (fun v144 => ?_)) ?_
                              ·
                                refine ⟨⟨rfl, ⟨rfl, ⟨rfl, trivial⟩⟩⟩, ?_⟩
                                refine AH_fact (r := 204) rfl (fun h hp => rd_one (rowP_rd hp)) (fun hoN => ?_)
                                refine (AH_take 12 rfl (by kernel_rfl) (by kernel_rfl) (by kernel_rfl) rfl rfl (by decide) (Pu_nilCheck rfl rfl) (AH_take 13 rfl (by kernel_rfl) (by kernel_rfl) (by kernel_rfl) rfl rfl (by decide) (Pu_fieldAddrB (off := 2) rfl rfl (by kernel_rfl)) (AH_ready [14] (by kernel_rfl) (by decide) ?_)))
                                refine AHs_cons0 rfl rfl rfl (OpT_storeB1 (r := 400) rfl Try.sizeOf32 rfl rfl rfl hoN (by simp) rfl ?_) ?_
                                ·
                                  refine ⟨⟨rfl, ⟨rfl, ⟨rfl, trivial⟩⟩⟩, ?_⟩
                                  refine (AH_done (by kernel_rfl) (X_then ?_))
                                  refine W_seq ?_
                                  refine W.pre (K' := [(0, _), (2, _), (4, _), (7, _), (8, _), (75, _), (116, _), (127, _)]) (L' := [(0, _), (101, _), (204, _), (400, _), (401, _), (402, _), (404, _), (405, _)]) ?_ ⟨rfl, ⟨rfl, ⟨rfl, ⟨rfl, ⟨rfl, ⟨rfl, ⟨rfl, ⟨rfl, trivial⟩⟩⟩⟩⟩⟩⟩⟩ ⟨rfl, ⟨rfl, ⟨rfl, ⟨rfl, ⟨rfl, ⟨rfl, ⟨rfl, ⟨rfl, trivial⟩⟩⟩⟩⟩⟩⟩⟩
                                  refine W_regL (WL_pure rfl rfl (by decide) (Pu_assign rfl rfl) (WL_nil (X_then ?_)))
                                  refine W_ret ?_
                                  refine X_join [402, 404] 402 (datP (ys.take x ++ (((setSl v131 ho131 b), d) : EB) :: ys.drop x)) rfl (by decide) (fun h hs => dat_ins hs) ?_
                                  have hz1 : (ys.drop (x)).take ((sls ys).length - (x)) = ys.drop (x) := List.take_of_length_le (by rw [List.length_drop]; omega)
                                  refine X_turn (P' := rowB2 v144 (sls (ys.take x ++ (((setSl v131 ho131 b), d) : EB) :: ys.drop x))) 204 rfl (fun h hp => (congrFun (rowB2_of (sls (ys.take x ++ (((setSl v131 ho131 b), d) : EB) :: ys.drop x)) (by simp [sls] <;> omega) (by rw [hz1]; simp [sls, recC])) h).mp hp) ?_
                                  exact X_ret [400, 204, 402] (Ps := [_, _, _]) (res1 Try.results20 rfl) rfl (by decide) ⟨v144, (ys.take x ++ (((setSl v131 ho131 b), d) : EB) :: ys.drop x), by rw [hP], hoN, by rw [hP]; exact ins_zs hpl, rfl⟩
                                exact AHs_nil
                              exact AHs_nil
                            exact AHs_nil
                          exact AHs_nil
                        refine AHs_cons rfl rfl rfl (by decide) (OpT_run (Pu_loadB (r := 400) rfl Try.isAgg32 rfl rfl rfl) ⟨⟨rfl, ⟨rfl, ⟨rfl, trivial⟩⟩⟩, ?_⟩) ?_
                        ·
                          refine (AH_take 10 rfl (by kernel_rfl) (by kernel_rfl) (by kernel_rfl) rfl rfl (by decide) (Pu_slice (r := 401) (a := x) (b := (sls ys).length) rfl Try.runUnderlying32 Try.sizeOf40 rfl rfl (fun _ h => rowP_rd h) (.inr ⟨_, _, _, rfl, rfl, rfl⟩) (.inl ⟨rfl, rfl⟩) (by omega) (Nat.le_refl _)) (AH_ready [3] (by kernel_rfl) (by decide) ?_))
                          refine AHs_cons rfl rfl rfl (by decide) (OpT_buildRows (r := 405) [bvC (setSl v131 ho131 b)] rfl rfl Try.runUnderlying32 Try.sizeOf40 Try.zeroValue40 rfl (by decide) rfl (by decide) (by intro r hr; simp at hr; rw [hr, bvC_length]) rfl (fun v136 => ⟨⟨rfl, ⟨rfl, ⟨rfl, trivial⟩⟩⟩, ?_⟩)) ?_
                          ·
                            refine (AH_ready [4] (by kernel_rfl) (by decide) ?_)
                            refine AHs_cons rfl rfl rfl (by decide) (OpT_append (r := 204) (r2 := 405) rfl Try.underlying32 TI.hi40 TI.hz40 TI.hs40 TI.hby40 TI.hzs40 (by decide) rfl rfl rfl rfl (fun _ h => rowP_rd h) (by rw [List.flatten_cons, List.flatten_nil, List.append_nil]; exact bvC_one _) (by simp; unfold maxLen; omega) (by simp; omega) (fun v137 => ?_)) ?_
                            ·
                              refine ⟨⟨rfl, ⟨rfl, ⟨rfl, trivial⟩⟩⟩, ?_⟩
                              refine (AH_ready [11] (by kernel_rfl) (by decide) ?_)
                              refine AHs_cons rfl rfl rfl (by decide) (OpT_append (r := 204) (r2 := 401) rfl Try.underlying32 TI.hi40 TI.hz40 TI.hs40 TI.hby40 TI.hzs40 (by decide) rfl rfl rfl rfl (fun h hp => rdP_cast (rdP_sub (rowP_rd hp) (by omega) (by omega)) (sub_rows ys x ((sls ys).length - x)) rfl) (recC_ones bvC_one) (by simp; unfold maxLen; omega) (by simp; omega) (fun v144 => ?_)) ?_
                              ·
                                refine ⟨⟨rfl, ⟨rfl, ⟨rfl, trivial⟩⟩⟩, ?_⟩
                                refine AH_fact (r := 204) rfl (fun h hp => rd_one (rowP_rd hp)) (fun hoN => ?_)
                                refine (AH_take 12 rfl (by kernel_rfl) (by kernel_rfl) (by kernel_rfl) rfl rfl (by decide) (Pu_nilCheck rfl rfl) (AH_take 13 rfl (by kernel_rfl) (by kernel_rfl) (by kernel_rfl) rfl rfl (by decide) (Pu_fieldAddrB (off := 2) rfl rfl (by kernel_rfl)) (AH_ready [14] (by kernel_rfl) (by decide) ?_)))
                                refine AHs_cons0 rfl rfl rfl (OpT_storeB1 (r := 400) rfl Try.sizeOf32 rfl rfl rfl hoN (by simp) rfl ?_) ?_
                                ·
                                  refine ⟨⟨rfl, ⟨rfl, ⟨rfl, trivial⟩⟩⟩, ?_⟩
                                  refine (AH_done (by kernel_rfl) (X_then ?_))
                                  refine W_seq ?_
                                  refine W.pre (K' := [(0, _), (2, _), (4, _), (7, _), (8, _), (75, _), (116, _), (127, _)]) (L' := [(0, _), (101, _), (204, _), (400, _), (401, _), (402, _), (404, _), (405, _)]) ?_ ⟨rfl, ⟨rfl, ⟨rfl, ⟨rfl, ⟨rfl, ⟨rfl, ⟨rfl, ⟨rfl, trivial⟩⟩⟩⟩⟩⟩⟩⟩ ⟨rfl, ⟨rfl, ⟨rfl, ⟨rfl, ⟨rfl, ⟨rfl, ⟨rfl, ⟨rfl, trivial⟩⟩⟩⟩⟩⟩⟩⟩
                                  refine W_regL (WL_pure rfl rfl (by decide) (Pu_assign rfl rfl) (WL_nil (X_then ?_)))
                                  refine W_ret ?_
                                  refine X_join [402, 404] 402 (datP (ys.take x ++ (((setSl v131 ho131 b), d) : EB) :: ys.drop x)) rfl (by decide) (fun h hs => dat_ins hs) ?_
                                  have hz1 : (ys.drop (x)).take ((sls ys).length - (x)) = ys.drop (x) := List.take_of_length_le (by rw [List.length_drop]; omega)
                                  refine X_turn (P' := rowB2 v144 (sls (ys.take x ++ (((setSl v131 ho131 b), d) : EB) :: ys.drop x))) 204 rfl (fun h hp => (congrFun (rowB2_of (sls (ys.take x ++ (((setSl v131 ho131 b), d) : EB) :: ys.drop x)) (by simp [sls] <;> omega) (by rw [hz1]; simp [sls, recC])) h).mp hp) ?_
                                  exact X_ret [400, 204, 402] (Ps := [_, _, _]) (res1 Try.results20 rfl) rfl (by decide) ⟨v144, (ys.take x ++ (((setSl v131 ho131 b), d) : EB) :: ys.drop x), by rw [hP], hoN, by rw [hP]; exact ins_zs hpl, rfl⟩
                                exact AHs_nil
                              exact AHs_nil
                            exact AHs_nil
                          exact AHs_nil
                        exact AHs_nil
                    exact AHs_nil
                  exact AHs_nil
              exact AHs_nil
            refine AHs_cons rfl rfl rfl (by decide) (OpT_run (Pu_loadB (r := 200) rfl Try.isAgg3 rfl rfl rfl) ⟨⟨rfl, ⟨rfl, trivial⟩⟩, ?_⟩) ?_
            ·
              refine (AH_ready [3] (by kernel_rfl) (by decide) ?_)
              refine AHs_cons rfl rfl rfl (by decide) (OpT_call 300 [0, 101, 204] [200, 201, 202] rfl Try.call26 rfl rfl rfl (by decide) (by decide) (refUsed_spec g room quota v2 ys b.src (by omega) (by omega) _) (fun v107 Ps107 hR107 => ?_)) ?_
              ·
                obtain ⟨rfl, rfl⟩ := hR107
                refine ⟨⟨rfl, ⟨rfl, trivial⟩⟩, ?_⟩
                skip
                refine (AH_take 7 rfl (by kernel_rfl) (by kernel_rfl) (by kernel_rfl) rfl rfl (by decide) (Pu_bin rfl rfl rfl (run_add _ _ _ _ _ (by omega))) (AH_take 12 rfl (by kernel_rfl) (by kernel_rfl) (by kernel_rfl) rfl rfl (by decide) (Pu_bin rfl rfl rfl (run_gtr _ _ _ _ _ _)) (AH_done (by kernel_rfl) (X_then ?_))))
                refine W_cond rfl (fun hc116 => ?_) (fun hc116 => ?_)
                ·
                  have hgt := of_decide_eq_true hc116
                  have hP : putA room quota (zs.map toBk) (toBk (b, d)) now = (15, ys.map toBk) := by
                    unfold putA
                    rw [if_neg hq1, if_neg hlen, toBk_key, ← hA]
                    simp only [hfn]
                    exact if_pos (show quota - (usedA b.src (ys.map toBk) : Int) < (d.length : Int) by omega)
                  refine W_seq ?_
                  refine W.pre (K' := [(0, _), (2, _), (4, _), (7, _), (8, _), (75, _), (116, _)]) (L' := [(0, _), (101, _), (204, _), (300, _), (301, _), (302, _)]) ?_ ⟨rfl, ⟨rfl, ⟨rfl, ⟨rfl, ⟨rfl, ⟨rfl, ⟨rfl, trivial⟩⟩⟩⟩⟩⟩⟩ ⟨rfl, ⟨rfl, ⟨rfl, ⟨rfl, ⟨rfl, ⟨rfl, trivial⟩⟩⟩⟩⟩⟩
                  refine W_regL (WL_pure rfl rfl (by decide) (Pu_assign rfl rfl) (WL_nil (X_then ?_)))
                  refine W_ret (X_then_ret ?_)
                  exact X_ret [300, 301, 302] (Ps := [_, _, _]) (res1 Try.results20 rfl) rfl (by decide) ⟨v2, ys, by rw [hP], hv2, by rw [hP], rfl⟩
                ·
                  have hge1 := of_decide_eq_false hc116
                  refine W_skip (X_then ?_)
                  refine W_seq ?_
                  refine W_seq ?_
                  refine W.pre (K' := [(0, _), (2, _), (4, _), (7, _), (8, _), (75, _), (116, _)]) (L' := [(0, _), (101, _), (204, _), (300, _), (301, _), (302, _)]) ?_ ⟨rfl, ⟨rfl, ⟨rfl, ⟨rfl, ⟨rfl, ⟨rfl, ⟨rfl, trivial⟩⟩⟩⟩⟩⟩⟩ ⟨rfl, ⟨rfl, ⟨rfl, ⟨rfl, ⟨rfl, ⟨rfl, trivial⟩⟩⟩⟩⟩⟩
                  refine W_draw (N := 11) (by kernel_rfl) rfl [(0, _), (101, _)] ⟨rfl, ⟨rfl, trivial⟩⟩ ?_
                  refine (AH_take 0 rfl (by kernel_rfl) (by kernel_rfl) (by kernel_rfl) rfl rfl (by decide) (Pu_move rfl rfl) (AH_take 2 rfl (by kernel_rfl) (by kernel_rfl) (by kernel_rfl) rfl rfl (by decide) (Pu_fieldAddrB (off := 32) rfl rfl (by kernel_rfl)) (AH_take 3 rfl (by kernel_rfl) (by kernel_rfl) (by kernel_rfl) rfl rfl (by decide) (Pu_loadB (r := 101) rfl Try.isAgg38 rfl rfl (bk_data b.len)) (AH_take 4 rfl (by kernel_rfl) (by kernel_rfl) (by kernel_rfl) rfl rfl (by decide) (Pu_len (r := 0) rfl Try.runUnderlying38 rfl rfl hF) (AH_take 6 rfl (by kernel_rfl) (by kernel_rfl) (by kernel_rfl) rfl rfl (by decide) (Pu_move rfl rfl) (AH_take 7 rfl (by kernel_rfl) (by kernel_rfl) (by kernel_rfl) rfl rfl (by decide) (Pu_nilCheck rfl rfl) (AH_take 8 rfl (by kernel_rfl) (by kernel_rfl) (by kernel_rfl) rfl rfl (by decide) (Pu_fieldAddrB (off := 0) rfl rfl (by kernel_rfl)) (AH_ready [1, 9] (by kernel_rfl) (by decide) ?_))))))))
                  refine AHs_cons rfl rfl rfl (by decide) (OpT_call 400 [0, 101, 204] [300, 301, 302] rfl Try.call25 rfl rfl rfl (by decide) (by decide) (refTotal_spec g room quota v2 ys (by omega) (by omega) _) (fun v118 Ps118 hR118 => ?_)) ?_
                  ·
                    obtain ⟨rfl, rfl⟩ := hR118
                    refine ⟨⟨rfl, ⟨rfl, trivial⟩⟩, ?_⟩
                    skip
                    refine (AH_take 5 rfl (by kernel_rfl) (by kernel_rfl) (by kernel_rfl) rfl rfl (by decide) (Pu_bin rfl rfl rfl (run_add _ _ _ _ _ (by omega))) (AH_ready [9] (by kernel_rfl) (by decide) ?_))
                    refine AHs_cons rfl rfl rfl (by decide) (OpT_run (Pu_loadB (r := 400) rfl Try.isAgg3 rfl rfl rfl) ⟨⟨rfl, ⟨rfl, trivial⟩⟩, ?_⟩) ?_
                    ·
                      refine (AH_take 10 rfl (by kernel_rfl) (by kernel_rfl) (by kernel_rfl) rfl rfl (by decide) (Pu_bin rfl rfl rfl (run_gtr _ _ _ _ _ _)) (AH_done (by kernel_rfl) (X_then ?_)))
                      refine W_cond rfl (fun hc127 => ?_) (fun hc127 => ?_)
                      ·
                        have hgt := of_decide_eq_true hc127
                        have hP : putA room quota (zs.map toBk) (toBk (b, d)) now = (16, ys.map toBk) := by
                          unfold putA
                          rw [if_neg hq1, if_neg hlen, toBk_key, ← hA]
                          simp only [hfn]
                          exact (if_neg (show ¬ quota - (usedA b.src (ys.map toBk) : Int) < (d.length : Int) by omega)).trans (if_pos (show room - (totA (ys.map toBk) : Int) < (d.length : Int) by omega))
                        refine W_seq ?_
                        refine W.pre (K' := [(0, _), (2, _), (4, _), (7, _), (8, _), (75, _), (116, _), (127, _)]) (L' := [(0, _), (101, _), (204, _), (400, _), (401, _), (402, _)]) ?_ ⟨rfl, ⟨rfl, ⟨rfl, ⟨rfl, ⟨rfl, ⟨rfl, ⟨rfl, ⟨rfl, trivial⟩⟩⟩⟩⟩⟩⟩⟩ ⟨rfl, ⟨rfl, ⟨rfl, ⟨rfl, ⟨rfl, ⟨rfl, trivial⟩⟩⟩⟩⟩⟩
                        refine W_regL (WL_pure rfl rfl (by decide) (Pu_assign rfl rfl) (WL_nil (X_then ?_)))
                        refine W_ret (X_then_ret ?_)
                        exact X_ret [400, 401, 402] (Ps := [_, _, _]) (res1 Try.results20 rfl) rfl (by decide) ⟨v2, ys, by rw [hP], hv2, by rw [hP], rfl⟩
                      ·
                        have hge2 := of_decide_eq_false hc127
                        have hP : putA room quota (zs.map toBk) (toBk (b, d)) now = (0, insA (toBk (b, d)) (ys.map toBk)) := by
                          unfold putA
                          rw [if_neg hq1, if_neg hlen, toBk_key, ← hA]
                          simp only [hfn]
                          exact (if_neg (show ¬ quota - (usedA b.src (ys.map toBk) : Int) < (d.length : Int) by omega)).trans (if_neg (show ¬ room - (totA (ys.map toBk) : Int) < (d.length : Int) by omega))
                        refine W_skip (X_then ?_)
                        refine W_seq ?_
                        refine W.pre (K' := [(0, _), (2, _), (4, _), (7, _), (8, _), (75, _), (116, _), (127, _)]) (L' := [(0, _), (101, _), (204, _), (400, _), (401, _), (402, _)]) ?_ ⟨rfl, ⟨rfl, ⟨rfl, ⟨rfl, ⟨rfl, ⟨rfl, ⟨rfl, ⟨rfl, trivial⟩⟩⟩⟩⟩⟩⟩⟩ ⟨rfl, ⟨rfl, ⟨rfl, ⟨rfl, ⟨rfl, ⟨rfl, trivial⟩⟩⟩⟩⟩⟩
                        refine W_regL (WL_cons rfl rfl (by decide) (OpT_buildOnes (r := 404) (bs []) rfl rfl Try.runUnderlying38 Try.sizeOf5 Try.zeroValue5 rfl rfl (by decide) rfl (bs_cells _) (fun v128 => (WL_pure rfl rfl (by decide) (Pu_fieldAddrB (off := 32) rfl rfl (by kernel_rfl)) (WL_pure rfl rfl (by decide) (Pu_loadB (r := 101) rfl Try.isAgg38 rfl rfl (bk_data b.len)) (WL_cons rfl rfl (by decide) (OpT_append (r := 404) (r2 := 0) rfl Try.underlying38 TI.hi5 TI.hz5 TI.hs5 TI.hby5 TI.hzs5 (by decide) rfl rfl rfl rfl hF (bs_one _) (by simp; unfold maxLen; omega) (by simp; omega) (fun v131 => ?_))))))))
                        refine WL_fact (r := 404) rfl (fun h hp => rd_one (rowP_rd hp)) (fun ho131 => ?_)
                        refine (WL_pure rfl rfl (by decide) (Pu_fieldAddrB (off := 32) rfl rfl (by kernel_rfl)) (WL_cons0 rfl rfl (OpT_storeB1 (r := 101) rfl Try.sizeOf38 rfl rfl rfl ho131 (by rw [bvC_length]; decide) (bk_set_data b.len _) ?_)))
                        refine (WL_nil (X_then ?_))
                        refine W_seq ?_
                        refine W.pre (K' := [(0, _), (2, _), (4, _), (7, _), (8, _), (75, _), (116, _), (127, _)]) (L' := [(0, _), (101, _), (204, _), (400, _), (401, _), (402, _), (404, _)]) ?_ ⟨rfl, ⟨rfl, ⟨rfl, ⟨rfl, ⟨rfl, ⟨rfl, ⟨rfl, ⟨rfl, trivial⟩⟩⟩⟩⟩⟩⟩⟩ ⟨rfl, ⟨rfl, ⟨rfl, ⟨rfl, ⟨rfl, ⟨rfl, ⟨rfl, trivial⟩⟩⟩⟩⟩⟩⟩
                        refine W_draw (N := 15) (by kernel_rfl) rfl [(0, _), (101, _), (401, _)] ⟨rfl, ⟨rfl, ⟨rfl, trivial⟩⟩⟩ ?_
                        refine (AH_take 0 rfl (by kernel_rfl) (by kernel_rfl) (by kernel_rfl) rfl rfl (by decide) (Pu_move rfl rfl) (AH_take 1 rfl (by kernel_rfl) (by kernel_rfl) (by kernel_rfl) rfl rfl (by decide) (Pu_move rfl rfl) (AH_take 2 rfl (by kernel_rfl) (by kernel_rfl) (by kernel_rfl) rfl rfl (by decide) (Pu_loadBN (r := 101) rfl Try.isAgg40 Try.sizeOf40 rfl rfl (bvC_length (setSl v131 ho131 b)) (load_all (bvC_length (setSl v131 ho131 b)))) (AH_take 5 rfl (by kernel_rfl) (by kernel_rfl) (by kernel_rfl) rfl rfl (by decide) (Pu_move rfl rfl) (AH_take 6 rfl (by kernel_rfl) (by kernel_rfl) (by kernel_rfl) rfl rfl (by decide) (Pu_nilCheck rfl rfl) (AH_take 7 rfl (by kernel_rfl) (by kernel_rfl) (by kernel_rfl) rfl rfl (by decide) (Pu_fieldAddrB (off := 2) rfl rfl (by kernel_rfl)) (AH_take 9 rfl (by kernel_rfl) (by kernel_rfl) (by kernel_rfl) rfl rfl (by decide) (Pu_move rfl rfl) (AH_ready [3, 8] (by kernel_rfl) (by decide) ?_))))))))
                        refine AHs_cons rfl rfl rfl (by decide) (OpT_buildRows (r := 405) [bvC (setSl v131 ho131 b)] rfl rfl Try.runUnderlying32 Try.sizeOf40 Try.zeroValue40 rfl (by decide) rfl (by decide) (by intro r hr; simp at hr; rw [hr, bvC_length]) rfl (fun v136 => ⟨⟨rfl, ⟨rfl, ⟨rfl, trivial⟩⟩⟩, ?_⟩)) ?_
                        ·
                          refine (AH_ready [4, 8] (by kernel_rfl) (by decide) ?_)
                          refine AHs_cons rfl rfl rfl (by decide) (OpT_append (r := 204) (r2 := 405) rfl Try.underlying32 TI.hi40 TI.hz40 TI.hs40 TI.hby40 TI.hzs40 (by decide) rfl rfl rfl rfl (fun _ h => rowP_rd h) (by rw [List.flatten_cons, List.flatten_nil, List.append_nil]; exact bvC_one _) (by simp; unfold maxLen; omega) (by simp; omega) (fun v137 => ?_)) ?_
                          ·
                            refine ⟨⟨rfl, ⟨rfl, ⟨rfl, trivial⟩⟩⟩, ?_⟩
                            refine (AH_ready [8] (by kernel_rfl) (by decide) ?_)
                            refine AHs_cons rfl rfl rfl (by decide) (OpT_run (Pu_loadB (r := 400) rfl Try.isAgg32 rfl rfl rfl) ⟨⟨rfl, ⟨rfl, ⟨rfl, trivial⟩⟩⟩, ?_⟩) ?_
                            ·
                              refine (AH_take 10 rfl (by kernel_rfl) (by kernel_rfl) (by kernel_rfl) rfl rfl (by decide) (Pu_slice (r := 401) (a := x) (b := (sls ys).length) rfl Try.runUnderlying32 Try.sizeOf40 rfl rfl (fun _ h => rowP_rd h) (.inr ⟨_, _, _, rfl, rfl, rfl⟩) (.inl ⟨rfl, rfl⟩) (by omega) (Nat.le_refl _)) (AH_ready [11] (by kernel_rfl) (by decide) ?_))
                              refine AHs_cons rfl rfl rfl (by decide) (OpT_append (r := 204) (r2 := 401) rfl Try.underlying32 TI.hi40 TI.hz40 TI.hs40 TI.hby40 TI.hzs40 (by decide) rfl rfl rfl rfl (fun h hp => rdP_cast (rdP_sub (rowP_rd hp) (by omega) (by omega)) (sub_rows ys x ((sls ys).length - x)) rfl) (recC_ones bvC_one) (by simp; unfold maxLen; omega) (by simp; omega) (fun v144 => ?_)) ?_
                              ·
                                refine ⟨⟨rfl, ⟨rfl, ⟨rfl, trivial⟩⟩⟩, ?_⟩
                                refine AH_fact (r := 204) rfl (fun h hp => rd_one (rowP_rd hp)) (fun hoN => ?_)
                                refine (AH_take 12 rfl (by kernel_rfl) (by kernel_rfl) (by kernel_rfl) rfl rfl (by decide) (Pu_nilCheck rfl rfl) (AH_take 13 rfl (by kernel_rfl) (by kernel_rfl) (by kernel_rfl) rfl rfl (by decide) (Pu_fieldAddrB (off := 2) rfl rfl (by kernel_rfl)) (AH_ready [14] (by kernel_rfl) (by decide) ?_)))
                                refine AHs_cons0 rfl rfl rfl (OpT_storeB1 (r := 400) rfl Try.sizeOf32 rfl rfl rfl hoN (by simp) rfl ?_) ?_
                                ·
                                  refine ⟨⟨rfl, ⟨rfl, ⟨rfl, trivial⟩⟩⟩, ?_⟩
                                  refine (AH_done (by kernel_rfl) (X_then ?_))
                                  refine W_seq ?_
                                  refine W.pre (K' := [(0, _), (2, _), (4, _), (7, _), (8, _), (75, _), (116, _), (127, _)]) (L' := [(0, _), (101, _), (204, _), (400, _), (401, _), (402, _), (404, _), (405, _)]) ?_ ⟨rfl, ⟨rfl, ⟨rfl, ⟨rfl, ⟨rfl, ⟨rfl, ⟨rfl, ⟨rfl, trivial⟩⟩⟩⟩⟩⟩⟩⟩ ⟨rfl, ⟨rfl, ⟨rfl, ⟨rfl, ⟨rfl, ⟨rfl, ⟨rfl, ⟨rfl, trivial⟩⟩⟩⟩⟩⟩⟩⟩
                                  refine W_regL (WL_pure rfl rfl (by decide) (Pu_assign rfl rfl) (WL_nil (X_then ?_)))
                                  refine W_ret ?_
                                  refine X_join [402, 404] 402 (datP (ys.take x ++ (((setSl v131 ho131 b), d) : EB) :: ys.drop x)) rfl (by decide) (fun h hs => dat_ins hs) ?_
                                  have hz1 : (ys.drop (x)).take ((sls ys).length - (x)) = ys.drop (x) := List.take_of_length_le (by rw [List.length_drop]; omega)
                                  refine X_turn (P' := rowB2 v144 (sls (ys.take x ++ (((setSl v131 ho131 b), d) : EB) :: ys.drop x))) 204 rfl (fun h hp => (congrFun (rowB2_of (sls (ys.take x ++ (((setSl v131 ho131 b), d) : EB) :: ys.drop x)) (by simp [sls] <;> omega) (by rw [hz1]; simp [sls, recC])) h).mp hp) ?_
                                  exact X_ret [400, 204, 402] (Ps := [_, _, _]) (res1 Try.results20 rfl) rfl (by decide) ⟨v144, (ys.take x ++ (((setSl v131 ho131 b), d) : EB) :: ys.drop x), by rw [hP], hoN, by rw [hP]; exact ins_zs hpl, rfl⟩
                                exact AHs_nil
                              exact AHs_nil
                            exact AHs_nil
                          refine AHs_cons rfl rfl rfl (by decide) (OpT_run (Pu_loadB (r := 400) rfl Try.isAgg32 rfl rfl rfl) ⟨⟨rfl, ⟨rfl, ⟨rfl, trivial⟩⟩⟩, ?_⟩) ?_
                          ·
                            refine (AH_take 10 rfl (by kernel_rfl) (by kernel_rfl) (by kernel_rfl) rfl rfl (by decide) (Pu_slice (r := 401) (a := x) (b := (sls ys).length) rfl Try.runUnderlying32 Try.sizeOf40 rfl rfl (fun _ h => rowP_rd h) (.inr ⟨_, _, _, rfl, rfl, rfl⟩) (.inl ⟨rfl, rfl⟩) (by omega) (Nat.le_refl _)) (AH_ready [4] (by kernel_rfl) (by decide) ?_))
                            refine AHs_cons rfl rfl rfl (by decide) (OpT_append (r := 204) (r2 := 405) rfl Try.underlying32 TI.hi40 TI.hz40 TI.hs40 TI.hby40 TI.hzs40 (by decide) rfl rfl rfl rfl (fun _ h => rowP_rd h) (by rw [List.flatten_cons, List.flatten_nil, List.append_nil]; exact bvC_one _) (by simp; unfold maxLen; omega) (by simp; omega) (fun v137 => ?_)) ?_
                            ·
                              refine ⟨⟨rfl, ⟨rfl, ⟨rfl, trivial⟩⟩⟩, ?_⟩
                              refine (AH_ready [11] (by kernel_rfl) (by decide) ?_)
                              refine AHs_cons rfl rfl rfl (by decide) (OpT_append (r := 204) (r2 := 401) rfl Try.underlying32 TI.hi40 TI.hz40 TI.hs40 TI.hby40 TI.hzs40 (by decide) rfl rfl rfl rfl (fun h hp => rdP_cast (rdP_sub (rowP_rd hp) (by omega) (by omega)) (sub_rows ys x ((sls ys).length - x)) rfl) (recC_ones bvC_one) (by simp; unfold maxLen; omega) (by simp; omega) (fun v144 => ?_)) ?_
                              ·
                                refine ⟨⟨rfl, ⟨rfl, ⟨rfl, trivial⟩⟩⟩, ?_⟩
                                refine AH_fact (r := 204) rfl (fun h hp => rd_one (rowP_rd hp)) (fun hoN => ?_)
                                refine (AH_take 12 rfl (by kernel_rfl) (by kernel_rfl) (by kernel_rfl) rfl rfl (by decide) (Pu_nilCheck rfl rfl) (AH_take 13 rfl (by kernel_rfl) (by kernel_rfl) (by kernel_rfl) rfl rfl (by decide) (Pu_fieldAddrB (off := 2) rfl rfl (by kernel_rfl)) (AH_ready [14] (by kernel_rfl) (by decide) ?_)))
                                refine AHs_cons0 rfl rfl rfl (OpT_storeB1 (r := 400) rfl Try.sizeOf32 rfl rfl rfl hoN (by simp) rfl ?_) ?_
                                ·
                                  refine ⟨⟨rfl, ⟨rfl, ⟨rfl, trivial⟩⟩⟩, ?_⟩
                                  refine (AH_done (by kernel_rfl) (X_then ?_))
                                  refine W_seq ?_
                                  refine W.pre (K' := [(0, _), (2, _), (4, _), (7, _), (8, _), (75, _), (116, _), (127, _)]) (L' := [(0, _), (101, _), (204, _), (400, _), (401, _), (402, _), (404, _), (405, _)]) ?_ ⟨rfl, ⟨rfl, ⟨rfl, ⟨rfl, ⟨rfl, ⟨rfl, ⟨rfl, ⟨rfl, trivial⟩⟩⟩⟩⟩⟩⟩⟩ ⟨rfl, ⟨rfl, ⟨rfl, ⟨rfl, ⟨rfl, ⟨rfl, ⟨rfl, ⟨rfl, trivial⟩⟩⟩⟩⟩⟩⟩⟩
                                  refine W_regL (WL_pure rfl rfl (by decide) (Pu_assign rfl rfl) (WL_nil (X_then ?_)))
                                  refine W_ret ?_
                                  refine X_join [402, 404] 402 (datP (ys.take x ++ (((setSl v131 ho131 b), d) : EB) :: ys.drop x)) rfl (by decide) (fun h hs => dat_ins hs) ?_
                                  have hz1 : (ys.drop (x)).take ((sls ys).length - (x)) = ys.drop (x) := List.take_of_length_le (by rw [List.length_drop]; omega)
                                  refine X_turn (P' := rowB2 v144 (sls (ys.take x ++ (((setSl v131 ho131 b), d) : EB) :: ys.drop x))) 204 rfl (fun h hp => (congrFun (rowB2_of (sls (ys.take x ++ (((setSl v131 ho131 b), d) : EB) :: ys.drop x)) (by simp [sls] <;> omega) (by rw [hz1]; simp [sls, recC])) h).mp hp) ?_
                                  exact X_ret [400, 204, 402] (Ps := [_, _, _]) (res1 Try.results20 rfl) rfl (by decide) ⟨v144, (ys.take x ++ (((setSl v131 ho131 b), d) : EB) :: ys.drop x), by rw [hP], hoN, by rw [hP]; exact ins_zs hpl, rfl⟩
                                exact AHs_nil
                              exact AHs_nil
                            exact AHs_nil
                          exact AHs_nil
                        refine AHs_cons rfl rfl rfl (by decide) (OpT_run (Pu_loadB (r := 400) rfl Try.isAgg32 rfl rfl rfl) ⟨⟨rfl, ⟨rfl, ⟨rfl, trivial⟩⟩⟩, ?_⟩) ?_
                        ·
                          refine (AH_take 10 rfl (by kernel_rfl) (by kernel_rfl) (by kernel_rfl) rfl rfl (by decide) (Pu_slice (r := 401) (a := x) (b := (sls ys).length) rfl Try.runUnderlying32 Try.sizeOf40 rfl rfl (fun _ h => rowP_rd h) (.inr ⟨_, _, _, rfl, rfl, rfl⟩) (.inl ⟨rfl, rfl⟩) (by omega) (Nat.le_refl _)) (AH_ready [3] (by kernel_rfl) (by decide) ?_))
                          refine AHs_cons rfl rfl rfl (by decide) (OpT_buildRows (r := 405) [bvC (setSl v131 ho131 b)] rfl rfl Try.runUnderlying32 Try.sizeOf40 Try.zeroValue40 rfl (by decide) rfl (by decide) (by intro r hr; simp at hr; rw [hr, bvC_length]) rfl (fun v136 => ⟨⟨rfl, ⟨rfl, ⟨rfl, trivial⟩⟩⟩, ?_⟩)) ?_
                          ·
                            refine (AH_ready [4] (by kernel_rfl) (by decide) ?_)
                            refine AHs_cons rfl rfl rfl (by decide) (OpT_append (r := 204) (r2 := 405) rfl Try.underlying32 TI.hi40 TI.hz40 TI.hs40 TI.hby40 TI.hzs40 (by decide) rfl rfl rfl rfl (fun _ h => rowP_rd h) (by rw [List.flatten_cons, List.flatten_nil, List.append_nil]; exact bvC_one _) (by simp; unfold maxLen; omega) (by simp; omega) (fun v137 => ?_)) ?_
                            ·
                              refine ⟨⟨rfl, ⟨rfl, ⟨rfl, trivial⟩⟩⟩, ?_⟩
                              refine (AH_ready [11] (by kernel_rfl) (by decide) ?_)
                              refine AHs_cons rfl rfl rfl (by decide) (OpT_append (r := 204) (r2 := 401) rfl Try.underlying32 TI.hi40 TI.hz40 TI.hs40 TI.hby40 TI.hzs40 (by decide) rfl rfl rfl rfl (fun h hp => rdP_cast (rdP_sub (rowP_rd hp) (by omega) (by omega)) (sub_rows ys x ((sls ys).length - x)) rfl) (recC_ones bvC_one) (by simp; unfold maxLen; omega) (by simp; omega) (fun v144 => ?_)) ?_
                              ·
                                refine ⟨⟨rfl, ⟨rfl, ⟨rfl, trivial⟩⟩⟩, ?_⟩
                                refine AH_fact (r := 204) rfl (fun h hp => rd_one (rowP_rd hp)) (fun hoN => ?_)
                                refine (AH_take 12 rfl (by kernel_rfl) (by kernel_rfl) (by kernel_rfl) rfl rfl (by decide) (Pu_nilCheck rfl rfl) (AH_take 13 rfl (by kernel_rfl) (by kernel_rfl) (by kernel_rfl) rfl rfl (by decide) (Pu_fieldAddrB (off := 2) rfl rfl (by kernel_rfl)) (AH_ready [14] (by kernel_rfl) (by decide) ?_)))
                                refine AHs_cons0 rfl rfl rfl (OpT_storeB1 (r := 400) rfl Try.sizeOf32 rfl rfl rfl hoN (by simp) rfl ?_) ?_
                                ·
                                  refine ⟨⟨rfl, ⟨rfl, ⟨rfl, trivial⟩⟩⟩, ?_⟩
                                  refine (AH_done (by kernel_rfl) (X_then ?_))
                                  refine W_seq ?_
                                  refine W.pre (K' := [(0, _), (2, _), (4, _), (7, _), (8, _), (75, _), (116, _), (127, _)]) (L' := [(0, _), (101, _), (204, _), (400, _), (401, _), (402, _), (404, _), (405, _)]) ?_ ⟨rfl, ⟨rfl, ⟨rfl, ⟨rfl, ⟨rfl, ⟨rfl, ⟨rfl, ⟨rfl, trivial⟩⟩⟩⟩⟩⟩⟩⟩ ⟨rfl, ⟨rfl, ⟨rfl, ⟨rfl, ⟨rfl, ⟨rfl, ⟨rfl, ⟨rfl, trivial⟩⟩⟩⟩⟩⟩⟩⟩
                                  refine W_regL (WL_pure rfl rfl (by decide) (Pu_assign rfl rfl) (WL_nil (X_then ?_)))
                                  refine W_ret ?_
                                  refine X_join [402, 404] 402 (datP (ys.take x ++ (((setSl v131 ho131 b), d) : EB) :: ys.drop x)) rfl (by decide) (fun h hs => dat_ins hs) ?_
                                  have hz1 : (ys.drop (x)).take ((sls ys).length - (x)) = ys.drop (x) := List.take_of_length_le (by rw [List.length_drop]; omega)
                                  refine X_turn (P' := rowB2 v144 (sls (ys.take x ++ (((setSl v131 ho131 b), d) : EB) :: ys.drop x))) 204 rfl (fun h hp => (congrFun (rowB2_of (sls (ys.take x ++ (((setSl v131 ho131 b), d) : EB) :: ys.drop x)) (by simp [sls] <;> omega) (by rw [hz1]; simp [sls, recC])) h).mp hp) ?_
                                  exact X_ret [400, 204, 402] (Ps := [_, _, _]) (res1 Try.results20 rfl) rfl (by decide) ⟨v144, (ys.take x ++ (((setSl v131 ho131 b), d) : EB) :: ys.drop x), by rw [hP], hoN, by rw [hP]; exact ins_zs hpl, rfl⟩
                                exact AHs_nil
                              exact AHs_nil
                            exact AHs_nil
                          exact AHs_nil
                        exact AHs_nil
                    exact AHs_nil
                  refine AHs_cons rfl rfl rfl (by decide) (OpT_run (Pu_loadB (r := 300) rfl Try.isAgg3 rfl rfl rfl) ⟨⟨rfl, ⟨rfl, trivial⟩⟩, ?_⟩) ?_
                  ·
                    refine (AH_ready [1] (by kernel_rfl) (by decide) ?_)
                    refine AHs_cons rfl rfl rfl (by decide) (OpT_call 400 [0, 101, 204] [300, 301, 302] rfl Try.call25 rfl rfl rfl (by decide) (by decide) (refTotal_spec g room quota v2 ys (by omega) (by omega) _) (fun v118 Ps118 hR118 => ?_)) ?_
                    ·
                      obtain ⟨rfl, rfl⟩ := hR118
                      refine ⟨⟨rfl, ⟨rfl, trivial⟩⟩, ?_⟩
                      skip
                      refine (AH_take 5 rfl (by kernel_rfl) (by kernel_rfl) (by kernel_rfl) rfl rfl (by decide) (Pu_bin rfl rfl rfl (run_add _ _ _ _ _ (by omega))) (AH_take 10 rfl (by kernel_rfl) (by kernel_rfl) (by kernel_rfl) rfl rfl (by decide) (Pu_bin rfl rfl rfl (run_gtr _ _ _ _ _ _)) (AH_done (by kernel_rfl) (X_then ?_))))
                      refine W_cond rfl (fun hc127 => ?_) (fun hc127 => ?_)
                      ·
                        have hgt := of_decide_eq_true hc127
                        have hP : putA room quota (zs.map toBk) (toBk (b, d)) now = (16, ys.map toBk) := by
                          unfold putA
                          rw [if_neg hq1, if_neg hlen, toBk_key, ← hA]
                          simp only [hfn]
                          exact (if_neg (show ¬ quota - (usedA b.src (ys.map toBk) : Int) < (d.length : Int) by omega)).trans (if_pos (show room - (totA (ys.map toBk) : Int) < (d.length : Int) by omega))
                        refine W_seq ?_
                        refine W.pre (K' := [(0, _), (2, _), (4, _), (7, _), (8, _), (75, _), (116, _), (127, _)]) (L' := [(0, _), (101, _), (204, _), (400, _), (401, _), (402, _)]) ?_ ⟨rfl, ⟨rfl, ⟨rfl, ⟨rfl, ⟨rfl, ⟨rfl, ⟨rfl, ⟨rfl, trivial⟩⟩⟩⟩⟩⟩⟩⟩ ⟨rfl, ⟨rfl, ⟨rfl, ⟨rfl, ⟨rfl, ⟨rfl, trivial⟩⟩⟩⟩⟩⟩
                        refine W_regL (WL_pure rfl rfl (by decide) (Pu_assign rfl rfl) (WL_nil (X_then ?_)))
                        refine W_ret (X_then_ret ?_)
                        exact X_ret [400, 401, 402] (Ps := [_, _, _]) (res1 Try.results20 rfl) rfl (by decide) ⟨v2, ys, by rw [hP], hv2, by rw [hP], rfl⟩
                      ·
                        have hge2 := of_decide_eq_false hc127
                        have hP : putA room quota (zs.map toBk) (toBk (b, d)) now = (0, insA (toBk (b, d)) (ys.map toBk)) := by
                          unfold putA
                          rw [if_neg hq1, if_neg hlen, toBk_key, ← hA]
                          simp only [hfn]
                          exact (if_neg (show ¬ quota - (usedA b.src (ys.map toBk) : Int) < (d.length : Int) by omega)).trans (if_neg (show ¬ room - (totA (ys.map toBk) : Int) < (d.length : Int) by omega))
                        refine W_skip (X_then ?_)
                        refine W_seq ?_
                        refine W.pre (K' := [(0, _), (2, _), (4, _), (7, _), (8, _), (75, _), (116, _), (127, _)]) (L' := [(0, _), (101, _), (204, _), (400, _), (401, _), (402, _)]) ?_ ⟨rfl, ⟨rfl, ⟨rfl, ⟨rfl, ⟨rfl, ⟨rfl, ⟨rfl, ⟨rfl, trivial⟩⟩⟩⟩⟩⟩⟩⟩ ⟨rfl, ⟨rfl, ⟨rfl, ⟨rfl, ⟨rfl, ⟨rfl, trivial⟩⟩⟩⟩⟩⟩
                        refine W_regL (WL_cons rfl rfl (by decide) (OpT_buildOnes (r := 404) (bs []) rfl rfl Try.runUnderlying38 Try.sizeOf5 Try.zeroValue5 rfl rfl (by decide) rfl (bs_cells _) (fun v128 => (WL_pure rfl rfl (by decide) (Pu_fieldAddrB (off := 32) rfl rfl (by kernel_rfl)) (WL_pure rfl rfl (by decide) (Pu_loadB (r := 101) rfl Try.isAgg38 rfl rfl (bk_data b.len)) (WL_cons rfl rfl (by decide) (OpT_append (r := 404) (r2 := 0) rfl Try.underlying38 TI.hi5 TI.hz5 TI.hs5 TI.hby5 TI.hzs5 (by decide) rfl rfl rfl rfl hF (bs_one _) (by simp; unfold maxLen; omega) (by simp; omega) (fun v131 => ?_))))))))
                        refine WL_fact (r := 404) rfl (fun h hp => rd_one (rowP_rd hp)) (fun ho131 => ?_)
                        refine (WL_pure rfl rfl (by decide) (Pu_fieldAddrB (off := 32) rfl rfl (by kernel_rfl)) (WL_cons0 rfl rfl (OpT_storeB1 (r := 101) rfl Try.sizeOf38 rfl rfl rfl ho131 (by rw [bvC_length]; decide) (bk_set_data b.len _) ?_)))
                        refine (WL_nil (X_then ?_))
                        refine W_seq ?_
                        refine W.pre (K' := [(0, _), (2, _), (4, _), (7, _), (8, _), (75, _), (116, _), (127, _)]) (L' := [(0, _), (101, _), (204, _), (400, _), (401, _), (402, _), (404, _)]) ?_ ⟨rfl, ⟨rfl, ⟨rfl, ⟨rfl, ⟨rfl, ⟨rfl, ⟨rfl, ⟨rfl, trivial⟩⟩⟩⟩⟩⟩⟩⟩ ⟨rfl, ⟨rfl, ⟨rfl, ⟨rfl, ⟨rfl, ⟨rfl, ⟨rfl, trivial⟩⟩⟩⟩⟩⟩⟩
                        refine W_draw (N := 15) (by kernel_rfl) rfl [(0, _), (101, _), (401, _)] ⟨rfl, ⟨rfl, ⟨rfl, trivial⟩⟩⟩ ?_
                        refine (AH_take 0 rfl (by kernel_rfl) (by kernel_rfl) (by kernel_rfl) rfl rfl (by decide) (Pu_move rfl rfl) (AH_take 1 rfl (by kernel_rfl) (by kernel_rfl) (by kernel_rfl) rfl rfl (by decide) (Pu_move rfl rfl) (AH_take 2 rfl (by kernel_rfl) (by kernel_rfl) (by kernel_rfl) rfl rfl (by decide) (Pu_loadBN (r := 101) rfl Try.isAgg40 Try.sizeOf40 rfl rfl (bvC_length (setSl v131 ho131 b)) (load_all (bvC_length (setSl v131 ho131 b)))) (AH_take 5 rfl (by kernel_rfl) (by kernel_rfl) (by kernel_rfl) rfl rfl (by decide) (Pu_move rfl rfl) (AH_take 6 rfl (by kernel_rfl) (by kernel_rfl) (by kernel_rfl) rfl rfl (by decide) (Pu_nilCheck rfl rfl) (AH_take 7 rfl (by kernel_rfl) (by kernel_rfl) (by kernel_rfl) rfl rfl (by decide) (Pu_fieldAddrB (off := 2) rfl rfl (by kernel_rfl)) (AH_take 9 rfl (by kernel_rfl) (by kernel_rfl) (by kernel_rfl) rfl rfl (by decide) (Pu_move rfl rfl) (AH_ready [3, 8] (by kernel_rfl) (by decide) ?_))))))))
                        refine AHs_cons rfl rfl rfl (by decide) (OpT_buildRows (r := 405) [bvC (setSl v131 ho131 b)] rfl rfl Try.runUnderlying32 Try.sizeOf40 Try.zeroValue40 rfl (by decide) rfl (by decide) (by intro r hr; simp at hr; rw [hr, bvC_length]) rfl (fun v136 => ⟨⟨rfl, ⟨rfl, ⟨rfl, trivial⟩⟩⟩, ?_⟩)) ?_
                        ·
                          refine (AH_ready [4, 8] (by kernel_rfl) (by decide) ?_)
                          refine AHs_cons rfl rfl rfl (by decide) (OpT_append (r := 204) (r2 := 405) rfl Try.underlying32 TI.hi40 TI.hz40 TI.hs40 TI.hby40 TI.hzs40 (by decide) rfl rfl rfl rfl (fun _ h => rowP_rd h) (by rw [List.flatten_cons, List.flatten_nil, List.append_nil]; exact bvC_one _) (by simp; unfold maxLen; omega) (by simp; omega) (fun v137 => ?_)) ?_
                          ·
                            refine ⟨⟨rfl, ⟨rfl, ⟨rfl, trivial⟩⟩⟩, ?_⟩
                            refine (AH_ready [8] (by kernel_rfl) (by decide) ?_)
                            refine AHs_cons rfl rfl rfl (by decide) (OpT_run (Pu_loadB (r := 400) rfl Try.isAgg32 rfl rfl rfl) ⟨⟨rfl, ⟨rfl, ⟨rfl, trivial⟩⟩⟩, ?_⟩) ?_
                            ·
                              refine (AH_take 10 rfl (by kernel_rfl) (by kernel_rfl) (by kernel_rfl) rfl rfl (by decide) (Pu_slice (r := 401) (a := x) (b := (sls ys).length) rfl Try.runUnderlying32 Try.sizeOf40 rfl rfl (fun _ h => rowP_rd h) (.inr ⟨_, _, _, rfl, rfl, rfl⟩) (.inl ⟨rfl, rfl⟩) (by omega) (Nat.le_refl _)) (AH_ready [11] (by kernel_rfl) (by decide) ?_))
                              refine AHs_cons rfl rfl rfl (by decide) (OpT_append (r := 204) (r2 := 401) rfl Try.underlying32 TI.hi40 TI.hz40 TI.hs40 TI.hby40 TI.hzs40 (by decide) rfl rfl rfl rfl (fun h hp => rdP_cast (rdP_sub (rowP_rd hp) (by omega) (by omega)) (sub_rows ys x ((sls ys).length - x)) rfl) (recC_ones bvC_one) (by simp; unfold maxLen; omega) (by simp; omega) (fun v144 => ?_)) ?_
                              ·
                                refine ⟨⟨rfl, ⟨rfl, ⟨rfl, trivial⟩⟩⟩, ?_⟩
                                refine AH_fact (r := 204) rfl (fun h hp => rd_one (rowP_rd hp)) (fun hoN => ?_)
                                refine (AH_take 12 rfl (by kernel_rfl) (by kernel_rfl) (by kernel_rfl) rfl rfl (by decide) (Pu_nilCheck rfl rfl) (AH_take 13 rfl (by kernel_rfl) (by kernel_rfl) (by kernel_rfl) rfl rfl (by decide) (Pu_fieldAddrB (off := 2) rfl rfl (by kernel_rfl)) (AH_ready [14] (by kernel_rfl) (by decide) ?_)))
                                refine AHs_cons0 rfl rfl rfl (OpT_storeB1 (r := 400) rfl Try.sizeOf32 rfl rfl rfl hoN (by simp) rfl ?_) ?_
                                ·
                                  refine ⟨⟨rfl, ⟨rfl, ⟨rfl, trivial⟩⟩⟩, ?_⟩
                                  refine (AH_done (by kernel_rfl) (X_then ?_))
                                  refine W_seq ?_
                                  refine W.pre (K' := [(0, _), (2, _), (4, _), (7, _), (8, _), (75, _), (116, _), (127, _)]) (L' := [(0, _), (101, _), (204, _), (400, _), (401, _), (402, _), (404, _), (405, _)]) ?_ ⟨rfl, ⟨rfl, ⟨rfl, ⟨rfl, ⟨rfl, ⟨rfl, ⟨rfl, ⟨rfl, trivial⟩⟩⟩⟩⟩⟩⟩⟩ ⟨rfl, ⟨rfl, ⟨rfl, ⟨rfl, ⟨rfl, ⟨rfl, ⟨rfl, ⟨rfl, trivial⟩⟩⟩⟩⟩⟩⟩⟩
                                  refine W_regL (WL_pure rfl rfl (by decide) (Pu_assign rfl rfl) (WL_nil (X_then ?_)))
                                  refine W_ret ?_
                                  refine X_join [402, 404] 402 (datP (ys.take x ++ (((setSl v131 ho131 b), d) : EB) :: ys.drop x)) rfl (by decide) (fun h hs => dat_ins hs) ?_
                                  have hz1 : (ys.drop (x)).take ((sls ys).length - (x)) = ys.drop (x) := List.take_of_length_le (by rw [List.length_drop]; omega)
                                  refine X_turn (P' := rowB2 v144 (sls (ys.take x ++ (((setSl v131 ho131 b), d) : EB) :: ys.drop x))) 204 rfl (fun h hp => (congrFun (rowB2_of (sls (ys.take x ++ (((setSl v131 ho131 b), d) : EB) :: ys.drop x)) (by simp [sls] <;> omega) (by rw [hz1]; simp [sls, recC])) h).mp hp) ?_
                                  exact X_ret [400, 204, 402] (Ps := [_, _, _]) (res1 Try.results20 rfl) rfl (by decide) ⟨v144, (ys.take x ++ (((setSl v131 ho131 b), d) : EB) :: ys.drop x), by rw [hP], hoN, by rw [hP]; exact ins_zs hpl, rfl⟩
                                exact AHs_nil
                              exact AHs_nil
                            exact AHs_nil
                          refine AHs_cons rfl rfl rfl (by decide) (OpT_run (Pu_loadB (r := 400) rfl Try.isAgg32 rfl rfl rfl) ⟨⟨rfl, ⟨rfl, ⟨rfl, trivial⟩⟩⟩, ?_⟩) ?_
                          ·
                            refine (AH_take 10 rfl (by kernel_rfl) (by kernel_rfl) (by kernel_rfl) rfl rfl (by decide) (Pu_slice (r := 401) (a := x) (b := (sls ys).length) rfl Try.runUnderlying32 Try.sizeOf40 rfl rfl (fun _ h => rowP_rd h) (.inr ⟨_, _, _, rfl, rfl, rfl⟩) (.inl ⟨rfl, rfl⟩) (by omega) (Nat.le_refl _)) (AH_ready [4] (by kernel_rfl) (by decide) ?_))
                            refine AHs_cons rfl rfl rfl (by decide) (OpT_append (r := 204) (r2 := 405) rfl Try.underlying32 TI.hi40 TI.hz40 TI.hs40 TI.hby40 TI.hzs40 (by decide) rfl rfl rfl rfl (fun _ h => rowP_rd h) (by rw [List.flatten_cons, List.flatten_nil, List.append_nil]; exact bvC_one _) (by simp; unfold maxLen; omega) (by simp; omega) (fun v137 => ?_)) ?_
                            ·
                              refine ⟨⟨rfl, ⟨rfl, ⟨rfl, trivial⟩⟩⟩, ?_⟩
                              refine (AH_ready [11] (by kernel_rfl) (by decide) ?_)
                              refine AHs_cons rfl rfl rfl (by decide) (OpT_append (r := 204) (r2 := 401) rfl Try.underlying32 TI.hi40 TI.hz40 TI.hs40 TI.hby40 TI.hzs40 (by decide) rfl rfl rfl rfl (fun h hp => rdP_cast (rdP_sub (rowP_rd hp) (by omega) (by omega)) (sub_rows ys x ((sls ys).length - x)) rfl) (recC_ones bvC_one) (by simp; unfold maxLen; omega) (by simp; omega) (fun v144 => ?_)) ?_
                              ·
                                refine ⟨⟨rfl, ⟨rfl, ⟨rfl, trivial⟩⟩⟩, ?_⟩
                                refine AH_fact (r := 204) rfl (fun h hp => rd_one (rowP_rd hp)) (fun hoN => ?_)
                                refine (AH_take 12 rfl (by kernel_rfl) (by kernel_rfl) (by kernel_rfl) rfl rfl (by decide) (Pu_nilCheck rfl rfl) (AH_take 13 rfl (by kernel_rfl) (by kernel_rfl) (by kernel_rfl) rfl rfl (by decide) (Pu_fieldAddrB (off := 2) rfl rfl (by kernel_rfl)) (AH_ready [14] (by kernel_rfl) (by decide) ?_)))
                                refine AHs_cons0 rfl rfl rfl (OpT_storeB1 (r := 400) rfl Try.sizeOf32 rfl rfl rfl hoN (by simp) rfl ?_) ?_
                                ·
                                  refine ⟨⟨rfl, ⟨rfl, ⟨rfl, trivial⟩⟩⟩, ?_⟩
                                  refine (AH_done (by kernel_rfl) (X_then ?_))
                                  refine W_seq ?_
                                  refine W.pre (K' := [(0, _), (2, _), (4, _), (7, _), (8, _), (75, _), (116, _), (127, _)]) (L' := [(0, _), (101, _), (204, _), (400, _), (401, _), (402, _), (404, _), (405, _)]) ?_ ⟨rfl, ⟨rfl, ⟨rfl, ⟨rfl, ⟨rfl, ⟨rfl, ⟨rfl, ⟨rfl, trivial⟩⟩⟩⟩⟩⟩⟩⟩ ⟨rfl, ⟨rfl, ⟨rfl, ⟨rfl, ⟨rfl, ⟨rfl, ⟨rfl, ⟨rfl, trivial⟩⟩⟩⟩⟩⟩⟩⟩
                                  refine W_regL (WL_pure rfl rfl (by decide) (Pu_assign rfl rfl) (WL_nil (X_then ?_)))
                                  refine W_ret ?_
                                  refine X_join [402, 404] 402 (datP (ys.take x ++ (((setSl v131 ho131 b), d) : EB) :: ys.drop x)) rfl (by decide) (fun h hs => dat_ins hs) ?_
                                  have hz1 : (ys.drop (x)).take ((sls ys).length - (x)) = ys.drop (x) := List.take_of_length_le (by rw [List.length_drop]; omega)
                                  refine X_turn (P' := rowB2 v144 (sls (ys.take x ++ (((setSl v131 ho131 b), d) : EB) :: ys.drop x))) 204 rfl (fun h hp => (congrFun (rowB2_of (sls (ys.take x ++ (((setSl v131 ho131 b), d) : EB) :: ys.drop x)) (by simp [sls] <;> omega) (by rw [hz1]; simp [sls, recC])) h).mp hp) ?_
                                  exact X_ret [400, 204, 402] (Ps := [_, _, _]) (res1 Try.results20 rfl) rfl (by decide) ⟨v144, (ys.take x ++ (((setSl v131 ho131 b), d) : EB) :: ys.drop x), by rw [hP], hoN, by rw [hP]; exact ins_zs hpl, rfl⟩
                                exact AHs_nil
                              exact AHs_nil
                            exact AHs_nil
                          exact AHs_nil
                        refine AHs_cons rfl rfl rfl (by decide) (OpT_run (Pu_loadB (r := 400) rfl Try.isAgg32 rfl rfl rfl) ⟨⟨rfl, ⟨rfl, ⟨rfl, trivial⟩⟩⟩, ?_⟩) ?_
                        ·
                          refine (AH_take 10 rfl (by kernel_rfl) (by kernel_rfl) (by kernel_rfl) rfl rfl (by decide) (Pu_slice (r := 401) (a := x) (b := (sls ys).length) rfl Try.runUnderlying32 Try.sizeOf40 rfl rfl (fun _ h => rowP_rd h) (.inr ⟨_, _, _, rfl, rfl, rfl⟩) (.inl ⟨rfl, rfl⟩) (by omega) (Nat.le_refl _)) (AH_ready [3] (by kernel_rfl) (by decide) ?_))
                          refine AHs_cons rfl rfl rfl (by decide) (OpT_buildRows (r := 405) [bvC (setSl v131 ho131 b)] rfl rfl Try.runUnderlying32 Try.sizeOf40 Try.zeroValue40 rfl (by decide) rfl (by decide) (by intro r hr; simp at hr; rw [hr, bvC_length]) rfl (fun v136 => ⟨⟨rfl, ⟨rfl, ⟨rfl, trivial⟩⟩⟩, ?_⟩)) ?_
                          ·
                            refine (AH_ready [4] (by kernel_rfl) (by decide) ?_)
                            refine AHs_cons rfl rfl rfl (by decide) (OpT_append (r := 204) (r2 := 405) rfl Try.underlying32 TI.hi40 TI.hz40 TI.hs40 TI.hby40 TI.hzs40 (by decide) rfl rfl rfl rfl (fun _ h => rowP_rd h) (by rw [List.flatten_cons, List.flatten_nil, List.append_nil]; exact bvC_one _) (by simp; unfold maxLen; omega) (by simp; omega) (fun v137 => ?_)) ?_
                            ·
                              refine ⟨⟨rfl, ⟨rfl, ⟨rfl, trivial⟩⟩⟩, ?_⟩
                              refine (AH_ready [11] (by kernel_rfl) (by decide) ?_)
                              refine AHs_cons rfl rfl rfl (by decide) (OpT_append (r := 204) (r2 := 401) rfl Try.underlying32 TI.hi40 TI.hz40 TI.hs40 TI.hby40 TI.hzs40 (by decide) rfl rfl rfl rfl (fun h hp => rdP_cast (rdP_sub (rowP_rd hp) (by omega) (by omega)) (sub_rows ys x ((sls ys).length - x)) rfl) (recC_ones bvC_one) (by simp; unfold maxLen; omega) (by simp; omega) (fun v144 => ?_)) ?_
                              ·
                                refine ⟨⟨rfl, ⟨rfl, ⟨rfl, trivial⟩⟩⟩, ?_⟩
                                refine AH_fact (r := 204) rfl (fun h hp => rd_one (rowP_rd hp)) (fun hoN => ?_)
                                refine (AH_take 12 rfl (by kernel_rfl) (by kernel_rfl) (by kernel_rfl) rfl rfl (by decide) (Pu_nilCheck rfl rfl) (AH_take 13 rfl (by kernel_rfl) (by kernel_rfl) (by kernel_rfl) rfl rfl (by decide) (Pu_fieldAddrB (off := 2) rfl rfl (by kernel_rfl)) (AH_ready [14] (by kernel_rfl) (by decide) ?_)))
                                refine AHs_cons0 rfl rfl rfl (OpT_storeB1 (r := 400) rfl Try.sizeOf32 rfl rfl rfl hoN (by simp) rfl ?_) ?_
                                ·
                                  refine ⟨⟨rfl, ⟨rfl, ⟨rfl, trivial⟩⟩⟩, ?_⟩
                                  refine (AH_done (by kernel_rfl) (X_then ?_))
                                  refine W_seq ?_
                                  refine W.pre (K' := [(0, _), (2, _), (4, _), (7, _), (8, _), (75, _), (116, _), (127, _)]) (L' := [(0, _), (101, _), (204, _), (400, _), (401, _), (402, _), (404, _), (405, _)]) ?_ ⟨rfl, ⟨rfl, ⟨rfl, ⟨rfl, ⟨rfl, ⟨rfl, ⟨rfl, ⟨rfl, trivial⟩⟩⟩⟩⟩⟩⟩⟩ ⟨rfl, ⟨rfl, ⟨rfl, ⟨rfl, ⟨rfl, ⟨rfl, ⟨rfl, ⟨rfl, trivial⟩⟩⟩⟩⟩⟩⟩⟩
                                  refine W_regL (WL_pure rfl rfl (by decide) (Pu_assign rfl rfl) (WL_nil (X_then ?_)))
                                  refine W_ret ?_
                                  refine X_join [402, 404] 402 (datP (ys.take x ++ (((setSl v131 ho131 b), d) : EB) :: ys.drop x)) rfl (by decide) (fun h hs => dat_ins hs) ?_
                                  have hz1 : (ys.drop (x)).take ((sls ys).length - (x)) = ys.drop (x) := List.take_of_length_le (by rw [List.length_drop]; omega)
                                  refine X_turn (P' := rowB2 v144 (sls (ys.take x ++ (((setSl v131 ho131 b), d) : EB) :: ys.drop x))) 204 rfl (fun h hp => (congrFun (rowB2_of (sls (ys.take x ++ (((setSl v131 ho131 b), d) : EB) :: ys.drop x)) (by simp [sls] <;> omega) (by rw [hz1]; simp [sls, recC])) h).mp hp) ?_
                                  exact X_ret [400, 204, 402] (Ps := [_, _, _]) (res1 Try.results20 rfl) rfl (by decide) ⟨v144, (ys.take x ++ (((setSl v131 ho131 b), d) : EB) :: ys.drop x), by rw [hP], hoN, by rw [hP]; exact ins_zs hpl, rfl⟩
                                exact AHs_nil
                              exact AHs_nil
                            exact AHs_nil
                          exact AHs_nil
                        exact AHs_nil
                    exact AHs_nil
                  exact AHs_nil
              exact AHs_nil
            exact AHs_nil
        ·
          have hge : x = ys.length := by have := of_decide_eq_false hsp10; omega
          refine W_draw (N := 20) (by kernel_rfl) rfl [(0, _), (101, _), (200, _), (201, _)] ⟨rfl, ⟨rfl, ⟨rfl, ⟨rfl, trivial⟩⟩⟩⟩ ?_
          refine (AH_take 0 rfl (by kernel_rfl) (by kernel_rfl) (by kernel_rfl) rfl rfl (by decide) (Pu_move rfl rfl) (AH_take 1 rfl (by kernel_rfl) (by kernel_rfl) (by kernel_rfl) rfl rfl (by decide) (Pu_move rfl rfl) (AH_take 2 rfl (by kernel_rfl) (by kernel_rfl) (by kernel_rfl) rfl rfl (by decide) (Pu_nilCheck rfl rfl) (AH_take 3 rfl (by kernel_rfl) (by kernel_rfl) (by kernel_rfl) rfl rfl (by decide) (Pu_fieldAddrB (off := 2) rfl rfl (by kernel_rfl)) (AH_take 4 rfl (by kernel_rfl) (by kernel_rfl) (by kernel_rfl) rfl rfl (by decide) (Pu_loadB (r := 200) rfl Try.isAgg32 rfl rfl rfl) (AH_take 5 rfl (by kernel_rfl) (by kernel_rfl) (by kernel_rfl) rfl rfl (by decide) (Pu_len (r := 201) rfl Try.runUnderlying32 rfl rfl (fun _ h => rowP_rd h)) (AH_take 6 rfl (by kernel_rfl) (by kernel_rfl) (by kernel_rfl) rfl rfl (by decide) (Pu_bin rfl rfl rfl (run_lss _ _ _ _ _ _)) (AH_take 7 rfl (by kernel_rfl) (by kernel_rfl) (by kernel_rfl) rfl rfl (by decide) (Pu_move rfl rfl) (AH_takeF 8 rfl (by kernel_rfl) (by kernel_rfl) (by kernel_rfl) rfl rfl rfl (by rw [hsp10]; rfl) rfl (by decide) (AH_takeF 9 rfl (by kernel_rfl) (by kernel_rfl) (by kernel_rfl) rfl rfl rfl (by rw [hsp10]; rfl) rfl (by decide) (AH_takeF 10 rfl (by kernel_rfl) (by kernel_rfl) (by kernel_rfl) rfl rfl rfl (by rw [hsp10]; rfl) rfl (by decide) (AH_takeF 11 rfl (by kernel_rfl) (by kernel_rfl) (by kernel_rfl) rfl rfl rfl (by rw [hsp10]; rfl) rfl (by decide) (AH_takeF 12 rfl (by kernel_rfl) (by kernel_rfl) (by kernel_rfl) rfl rfl rfl (by rw [hsp10]; rfl) rfl (by decide) (AH_takeF 13 rfl (by kernel_rfl) (by kernel_rfl) (by kernel_rfl) rfl rfl rfl (by rw [hsp10]; rfl) rfl (by decide) (AH_takeF 14 rfl (by kernel_rfl) (by kernel_rfl) (by kernel_rfl) rfl rfl rfl (by rw [hsp10]; rfl) rfl (by decide) (AH_takeF 15 rfl (by kernel_rfl) (by kernel_rfl) (by kernel_rfl) rfl rfl rfl (by rw [hsp10]; rfl) rfl (by decide) (AH_takeF 16 rfl (by kernel_rfl) (by kernel_rfl) (by kernel_rfl) rfl rfl rfl (by rw [hsp10]; rfl) rfl (by decide) (AH_takeF 17 rfl (by kernel_rfl) (by kernel_rfl) (by kernel_rfl) rfl rfl rfl (by rw [hsp10]; rfl) rfl (by decide) (AH_takeF 18 rfl (by kernel_rfl) (by kernel_rfl) (by kernel_rfl) rfl rfl rfl (by rw [hsp10]; rfl) rfl (by decide) (AH_take 19 rfl (by kernel_rfl) (by kernel_rfl) (by kernel_rfl) rfl rfl (by decide) (Pu_pickF rfl rfl hsp10 rfl) (AH_done (by kernel_rfl) (X_then ?_))))))))))))))))))))))
          refine W_false rfl (rfl) ?_
          refine W_skip (X_then ?_)
          refine W_seq ?_
          refine W_seq ?_
          refine W.pre (K' := [(0, _), (2, _), (4, _), (7, _), (8, _), (75, _)]) (L' := [(0, _), (101, _), (200, _), (201, _), (202, _), (204, _)]) ?_ ⟨rfl, ⟨rfl, ⟨rfl, ⟨rfl, ⟨rfl, ⟨rfl, trivial⟩⟩⟩⟩⟩⟩ ⟨rfl, ⟨rfl, ⟨rfl, ⟨rfl, ⟨rfl, ⟨rfl, trivial⟩⟩⟩⟩⟩⟩
          have hfn := absent_zs hpl hsl (fun h => absurd h (by omega))
          have hul := usedE_le b.src ys
          have hue : usedE b.src ys = usedA b.src (ys.map toBk) := usedE_eq _ _
          have hte : totE ys = totA (ys.map toBk) := totE_eq _
          refine W_draw (N := 13) (by kernel_rfl) rfl [(0, _), (101, _)] ⟨rfl, ⟨rfl, trivial⟩⟩ ?_
          refine (AH_take 0 rfl (by kernel_rfl) (by kernel_rfl) (by kernel_rfl) rfl rfl (by decide) (Pu_move rfl rfl) (AH_take 1 rfl (by kernel_rfl) (by kernel_rfl) (by kernel_rfl) rfl rfl (by decide) (Pu_fieldAddrB (off := 33) rfl rfl (by kernel_rfl)) (AH_take 2 rfl (by kernel_rfl) (by kernel_rfl) (by kernel_rfl) rfl rfl (by decide) (Pu_loadB (r := 101) rfl Try.isAgg3 rfl rfl (bk_src b.len)) (AH_take 4 rfl (by kernel_rfl) (by kernel_rfl) (by kernel_rfl) rfl rfl (by decide) (Pu_fieldAddrB (off := 32) rfl rfl (by kernel_rfl)) (AH_take 5 rfl (by kernel_rfl) (by kernel_rfl) (by kernel_rfl) rfl rfl (by decide) (Pu_loadB (r := 101) rfl Try.isAgg38 rfl rfl (bk_data b.len)) (AH_take 6 rfl (by kernel_rfl) (by kernel_rfl) (by kernel_rfl) rfl rfl (by decide) (Pu_len (r := 0) rfl Try.runUnderlying38 rfl rfl hF) (AH_take 8 rfl (by kernel_rfl) (by kernel_rfl) (by kernel_rfl) rfl rfl (by decide) (Pu_move rfl rfl) (AH_take 9 rfl (by kernel_rfl) (by kernel_rfl) (by kernel_rfl) rfl rfl (by decide) (Pu_nilCheck rfl rfl) (AH_take 10 rfl (by kernel_rfl) (by kernel_rfl) (by kernel_rfl) rfl rfl (by decide) (Pu_fieldAddrB (off := 1) rfl rfl (by kernel_rfl)) (AH_ready [3, 11] (by kernel_rfl) (by decide) ?_))))))))))
          refine AHs_cons rfl rfl rfl (by decide) (OpT_call 300 [0, 101, 204] [200, 201, 202] rfl Try.call26 rfl rfl rfl (by decide) (by decide) (refUsed_spec g room quota v2 ys b.src (by omega) (by omega) _) (fun v107 Ps107 hR107 => ?_)) ?_
          ·
            obtain ⟨rfl, rfl⟩ := hR107
            refine ⟨⟨rfl, ⟨rfl, trivial⟩⟩, ?_⟩
            skip
            refine (AH_take 7 rfl (by kernel_rfl) (by kernel_rfl) (by kernel_rfl) rfl rfl (by decide) (Pu_bin rfl rfl rfl (run_add _ _ _ _ _ (by omega))) (AH_ready [11] (by kernel_rfl) (by decide) ?_))
            refine AHs_cons rfl rfl rfl (by decide) (OpT_run (Pu_loadB (r := 300) rfl Try.isAgg3 rfl rfl rfl) ⟨⟨rfl, ⟨rfl, trivial⟩⟩, ?_⟩) ?_
            ·
              refine (AH_take 12 rfl (by kernel_rfl) (by kernel_rfl) (by kernel_rfl) rfl rfl (by decide) (Pu_bin rfl rfl rfl (run_gtr _ _ _ _ _ _)) (AH_done (by kernel_rfl) (X_then ?_)))
              refine W_cond rfl (fun hc116 => ?_) (fun hc116 => ?_)
              ·
                have hgt := of_decide_eq_true hc116
                have hP : putA room quota (zs.map toBk) (toBk (b, d)) now = (15, ys.map toBk) := by
                  unfold putA
                  rw [if_neg hq1, if_neg hlen, toBk_key, ← hA]
                  simp only [hfn]
                  exact if_pos (show quota - (usedA b.src (ys.map toBk) : Int) < (d.length : Int) by omega)
                refine W_seq ?_
                refine W.pre (K' := [(0, _), (2, _), (4, _), (7, _), (8, _), (75, _), (116, _)]) (L' := [(0, _), (101, _), (204, _), (300, _), (301, _), (302, _)]) ?_ ⟨rfl, ⟨rfl, ⟨rfl, ⟨rfl, ⟨rfl, ⟨rfl, ⟨rfl, trivial⟩⟩⟩⟩⟩⟩⟩ ⟨rfl, ⟨rfl, ⟨rfl, ⟨rfl, ⟨rfl, ⟨rfl, trivial⟩⟩⟩⟩⟩⟩
                refine W_regL (WL_pure rfl rfl (by decide) (Pu_assign rfl rfl) (WL_nil (X_then ?_)))
                refine W_ret (X_then_ret ?_)
                exact X_ret [300, 301, 302] (Ps := [_, _, _]) (res1 Try.results20 rfl) rfl (by decide) ⟨v2, ys, by rw [hP], hv2, by rw [hP], rfl⟩
              ·
                have hge1 := of_decide_eq_false hc116
                refine W_skip (X_then ?_)
                refine W_seq ?_
                refine W_seq ?_
                refine W.pre (K' := [(0, _), (2, _), (4, _), (7, _), (8, _), (75, _), (116, _)]) (L' := [(0, _), (101, _), (204, _), (300, _), (301, _), (302, _)]) ?_ ⟨rfl, ⟨rfl, ⟨rfl, ⟨rfl, ⟨rfl, ⟨rfl, ⟨rfl, trivial⟩⟩⟩⟩⟩⟩⟩ ⟨rfl, ⟨rfl, ⟨rfl, ⟨rfl, ⟨rfl, ⟨rfl, trivial⟩⟩⟩⟩⟩⟩
                refine W_draw (N := 11) (by kernel_rfl) rfl [(0, _), (101, _)] ⟨rfl, ⟨rfl, trivial⟩⟩ ?_
                refine (AH_take 0 rfl (by kernel_rfl) (by kernel_rfl) (by kernel_rfl) rfl rfl (by decide) (Pu_move rfl rfl) (AH_take 2 rfl (by kernel_rfl) (by kernel_rfl) (by kernel_rfl) rfl rfl (by decide) (Pu_fieldAddrB (off := 32) rfl rfl (by kernel_rfl)) (AH_take 3 rfl (by kernel_rfl) (by kernel_rfl) (by kernel_rfl) rfl rfl (by decide) (Pu_loadB (r := 101) rfl Try.isAgg38 rfl rfl (bk_data b.len)) (AH_take 4 rfl (by kernel_rfl) (by kernel_rfl) (by kernel_rfl) rfl rfl (by decide) (Pu_len (r := 0) rfl Try.runUnderlying38 rfl rfl hF) (AH_take 6 rfl (by kernel_rfl) (by kernel_rfl) (by kernel_rfl) rfl rfl (by decide) (Pu_move rfl rfl) (AH_take 7 rfl (by kernel_rfl) (by kernel_rfl) (by kernel_rfl) rfl rfl (by decide) (Pu_nilCheck rfl rfl) (AH_take 8 rfl (by kernel_rfl) (by kernel_rfl) (by kernel_rfl) rfl rfl (by decide) (Pu_fieldAddrB (off := 0) rfl rfl (by kernel_rfl)) (AH_ready [1, 9] (by kernel_rfl) (by decide) ?_))))))))
                refine AHs_cons rfl rfl rfl (by decide) (OpT_call 400 [0, 101, 204] [300, 301, 302] rfl Try.call25 rfl rfl rfl (by decide) (by decide) (refTotal_spec g room quota v2 ys (by omega) (by omega) _) (fun v118 Ps118 hR118 => ?_)) ?_
                ·
                  obtain ⟨rfl, rfl⟩ := hR118
                  refine ⟨⟨rfl, ⟨rfl, trivial⟩⟩, ?_⟩
                  skip
                  refine (AH_take 5 rfl (by kernel_rfl) (by kernel_rfl) (by kernel_rfl) rfl rfl (by decide) (Pu_bin rfl rfl rfl (run_add _ _ _ _ _ (by omega))) (AH_ready [9] (by kernel_rfl) (by decide) ?_))
                  refine AHs_cons rfl rfl rfl (by decide) (OpT_run (Pu_loadB (r := 400) rfl Try.isAgg3 rfl rfl rfl) ⟨⟨rfl, ⟨rfl, trivial⟩⟩, ?_⟩) ?_
                  ·
                    refine (AH_take 10 rfl (by kernel_rfl) (by kernel_rfl) (by kernel_rfl) rfl rfl (by decide) (Pu_bin rfl rfl rfl (run_gtr _ _ _ _ _ _)) (AH_done (by kernel_rfl) (X_then ?_)))
                    refine W_cond rfl (fun hc127 => ?_) (fun hc127 => ?_)
                    ·
                      have hgt := of_decide_eq_true hc127
                      have hP : putA room quota (zs.map toBk) (toBk (b, d)) now = (16, ys.map toBk) := by
                        unfold putA
                        rw [if_neg hq1, if_neg hlen, toBk_key, ← hA]
                        simp only [hfn]
                        exact (if_neg (show ¬ quota - (usedA b.src (ys.map toBk) : Int) < (d.length : Int) by omega)).trans (if_pos (show room - (totA (ys.map toBk) : Int) < (d.length : Int) by omega))
                      refine W_seq ?_
                      refine W.pre (K' := [(0, _), (2, _), (4, _), (7, _), (8, _), (75, _), (116, _), (127, _)]) (L' := [(0, _), (101, _), (204, _), (400, _), (401, _), (402, _)]) ?_ ⟨rfl, ⟨rfl, ⟨rfl, ⟨rfl, ⟨rfl, ⟨rfl, ⟨rfl, ⟨rfl, trivial⟩⟩⟩⟩⟩⟩⟩⟩ ⟨rfl, ⟨rfl, ⟨rfl, ⟨rfl, ⟨rfl, ⟨rfl, trivial⟩⟩⟩⟩⟩⟩
                      refine W_regL (WL_pure rfl rfl (by decide) (Pu_assign rfl rfl) (WL_nil (X_then ?_)))
                      refine W_ret (X_then_ret ?_)
                      exact X_ret [400, 401, 402] (Ps := [_, _, _]) (res1 Try.results20 rfl) rfl (by decide) ⟨v2, ys, by rw [hP], hv2, by rw [hP], rfl⟩
                    ·
                      have hge2 := of_decide_eq_false hc127
                      have hP : putA room quota (zs.map toBk) (toBk (b, d)) now = (0, insA (toBk (b, d)) (ys.map toBk)) := by
                        unfold putA
                        rw [if_neg hq1, if_neg hlen, toBk_key, ← hA]
                        simp only [hfn]
                        exact (if_neg (show ¬ quota - (usedA b.src (ys.map toBk) : Int) < (d.length : Int) by omega)).trans (if_neg (show ¬ room - (totA (ys.map toBk) : Int) < (d.length : Int) by omega))
                      refine W_skip (X_then ?_)
                      refine W_seq ?_
                      refine W.pre (K' := [(0, _), (2, _), (4, _), (7, _), (8, _), (75, _), (116, _), (127, _)]) (L' := [(0, _), (101, _), (204, _), (400, _), (401, _), (402, _)]) ?_ ⟨rfl, ⟨rfl, ⟨rfl, ⟨rfl, ⟨rfl, ⟨rfl, ⟨rfl, ⟨rfl, trivial⟩⟩⟩⟩⟩⟩⟩⟩ ⟨rfl, ⟨rfl, ⟨rfl, ⟨rfl, ⟨rfl, ⟨rfl, trivial⟩⟩⟩⟩⟩⟩
                      refine W_regL (WL_cons rfl rfl (by decide) (OpT_buildOnes (r := 404) (bs []) rfl rfl Try.runUnderlying38 Try.sizeOf5 Try.zeroValue5 rfl rfl (by decide) rfl (bs_cells _) (fun v128 => (WL_pure rfl rfl (by decide) (Pu_fieldAddrB (off := 32) rfl rfl (by kernel_rfl)) (WL_pure rfl rfl (by decide) (Pu_loadB (r := 101) rfl Try.isAgg38 rfl rfl (bk_data b.len)) (WL_cons rfl rfl (by decide) (OpT_append (r := 404) (r2 := 0) rfl Try.underlying38 TI.hi5 TI.hz5 TI.hs5 TI.hby5 TI.hzs5 (by decide) rfl rfl rfl rfl hF (bs_one _) (by simp; unfold maxLen; omega) (by simp; omega) (fun v131 => ?_))))))))
                      refine WL_fact (r := 404) rfl (fun h hp => rd_one (rowP_rd hp)) (fun ho131 => ?_)
                      refine (WL_pure rfl rfl (by decide) (Pu_fieldAddrB (off := 32) rfl rfl (by kernel_rfl)) (WL_cons0 rfl rfl (OpT_storeB1 (r := 101) rfl Try.sizeOf38 rfl rfl rfl ho131 (by rw [bvC_length]; decide) (bk_set_data b.len _) ?_)))
                      refine (WL_nil (X_then ?_))
                      refine W_seq ?_
                      refine W.pre (K' := [(0, _), (2, _), (4, _), (7, _), (8, _), (75, _), (116, _), (127, _)]) (L' := [(0, _), (101, _), (204, _), (400, _), (401, _), (402, _), (404, _)]) ?_ ⟨rfl, ⟨rfl, ⟨rfl, ⟨rfl, ⟨rfl, ⟨rfl, ⟨rfl, ⟨rfl, trivial⟩⟩⟩⟩⟩⟩⟩⟩ ⟨rfl, ⟨rfl, ⟨rfl, ⟨rfl, ⟨rfl, ⟨rfl, ⟨rfl, trivial⟩⟩⟩⟩⟩⟩⟩
                      refine W_draw (N := 15) (by kernel_rfl) rfl [(0, _), (101, _), (401, _)] ⟨rfl, ⟨rfl, ⟨rfl, trivial⟩⟩⟩ ?_
                      refine (AH_take 0 rfl (by kernel_rfl) (by kernel_rfl) (by kernel_rfl) rfl rfl (by decide) (Pu_move rfl rfl) (AH_take 1 rfl (by kernel_rfl) (by kernel_rfl) (by kernel_rfl) rfl rfl (by decide) (Pu_move rfl rfl) (AH_take 2 rfl (by kernel_rfl) (by kernel_rfl) (by kernel_rfl) rfl rfl (by decide) (Pu_loadBN (r := 101) rfl Try.isAgg40 Try.sizeOf40 rfl rfl (bvC_length (setSl v131 ho131 b)) (load_all (bvC_length (setSl v131 ho131 b)))) (AH_take 5 rfl (by kernel_rfl) (by kernel_rfl) (by kernel_rfl) rfl rfl (by decide) (Pu_move rfl rfl) (AH_take 6 rfl (by kernel_rfl) (by kernel_rfl) (by kernel_rfl) rfl rfl (by decide) (Pu_nilCheck rfl rfl) (AH_take 7 rfl (by kernel_rfl) (by kernel_rfl) (by kernel_rfl) rfl rfl (by decide) (Pu_fieldAddrB (off := 2) rfl rfl (by kernel_rfl)) (AH_take 9 rfl (by kernel_rfl) (by kernel_rfl) (by kernel_rfl) rfl rfl (by decide) (Pu_move rfl rfl) (AH_ready [3, 8] (by kernel_rfl) (by decide) ?_))))))))
                      refine AHs_cons rfl rfl rfl (by decide) (OpT_buildRows (r := 405) [bvC (setSl v131 ho131 b)] rfl rfl Try.runUnderlying32 Try.sizeOf40 Try.zeroValue40 rfl (by decide) rfl (by decide) (by intro r hr; simp at hr; rw [hr, bvC_length]) rfl (fun v136 => ⟨⟨rfl, ⟨rfl, ⟨rfl, trivial⟩⟩⟩, ?_⟩)) ?_
                      ·
                        refine (AH_ready [4, 8] (by kernel_rfl) (by decide) ?_)
                        refine AHs_cons rfl rfl rfl (by decide) (OpT_append (r := 204) (r2 := 405) rfl Try.underlying32 TI.hi40 TI.hz40 TI.hs40 TI.hby40 TI.hzs40 (by decide) rfl rfl rfl rfl (fun _ h => rowP_rd h) (by rw [List.flatten_cons, List.flatten_nil, List.append_nil]; exact bvC_one _) (by simp; unfold maxLen; omega) (by simp; omega) (fun v137 => ?_)) ?_
                        ·
                          refine ⟨⟨rfl, ⟨rfl, ⟨rfl, trivial⟩⟩⟩, ?_⟩
                          refine (AH_ready [8] (by kernel_rfl) (by decide) ?_)
                          refine AHs_cons rfl rfl rfl (by decide) (OpT_run (Pu_loadB (r := 400) rfl Try.isAgg32 rfl rfl rfl) ⟨⟨rfl, ⟨rfl, ⟨rfl, trivial⟩⟩⟩, ?_⟩) ?_
                          ·
                            refine (AH_take 10 rfl (by kernel_rfl) (by kernel_rfl) (by kernel_rfl) rfl rfl (by decide) (Pu_slice (r := 401) (a := x) (b := (sls ys).length) rfl Try.runUnderlying32 Try.sizeOf40 rfl rfl (fun _ h => rowP_rd h) (.inr ⟨_, _, _, rfl, rfl, rfl⟩) (.inl ⟨rfl, rfl⟩) (by omega) (Nat.le_refl _)) (AH_ready [11] (by kernel_rfl) (by decide) ?_))
                            refine AHs_cons rfl rfl rfl (by decide) (OpT_append (r := 204) (r2 := 401) rfl Try.underlying32 TI.hi40 TI.hz40 TI.hs40 TI.hby40 TI.hzs40 (by decide) rfl rfl rfl rfl (fun h hp => rdP_cast (rdP_sub (rowP_rd hp) (by omega) (by omega)) (sub_rows ys x ((sls ys).length - x)) rfl) (recC_ones bvC_one) (by simp; unfold maxLen; omega) (by simp; omega) (fun v144 => ?_)) ?_
                            ·
                              refine ⟨⟨rfl, ⟨rfl, ⟨rfl, trivial⟩⟩⟩, ?_⟩
                              refine AH_fact (r := 204) rfl (fun h hp => rd_one (rowP_rd hp)) (fun hoN => ?_)
                              refine (AH_take 12 rfl (by kernel_rfl) (by kernel_rfl) (by kernel_rfl) rfl rfl (by decide) (Pu_nilCheck rfl rfl) (AH_take 13 rfl (by kernel_rfl) (by kernel_rfl) (by kernel_rfl) rfl rfl (by decide) (Pu_fieldAddrB (off := 2) rfl rfl (by kernel_rfl)) (AH_ready [14] (by kernel_rfl) (by decide) ?_)))
                              refine AHs_cons0 rfl rfl rfl (OpT_storeB1 (r := 400) rfl Try.sizeOf32 rfl rfl rfl hoN (by simp) rfl ?_) ?_
                              ·
                                refine ⟨⟨rfl, ⟨rfl, ⟨rfl, trivial⟩⟩⟩, ?_⟩
                                refine (AH_done (by kernel_rfl) (X_then ?_))
                                refine W_seq ?_
                                refine W.pre (K' := [(0, _), (2, _), (4, _), (7, _), (8, _), (75, _), (116, _), (127, _)]) (L' := [(0, _), (101, _), (204, _), (400, _), (401, _), (402, _), (404, _), (405, _)]) ?_ ⟨rfl, ⟨rfl, ⟨rfl, ⟨rfl, ⟨rfl, ⟨rfl, ⟨rfl, ⟨rfl, trivial⟩⟩⟩⟩⟩⟩⟩⟩ ⟨rfl, ⟨rfl, ⟨rfl, ⟨rfl, ⟨rfl, ⟨rfl, ⟨rfl, ⟨rfl, trivial⟩⟩⟩⟩⟩⟩⟩⟩
                                refine W_regL (WL_pure rfl rfl (by decide) (Pu_assign rfl rfl) (WL_nil (X_then ?_)))
                                refine W_ret ?_
                                refine X_join [402, 404] 402 (datP (ys.take x ++ (((setSl v131 ho131 b), d) : EB) :: ys.drop x)) rfl (by decide) (fun h hs => dat_ins hs) ?_
                                have hz1 : (ys.drop (x)).take ((sls ys).length - (x)) = ys.drop (x) := List.take_of_length_le (by rw [List.length_drop]; omega)
                                refine X_turn (P' := rowB2 v144 (sls (ys.take x ++ (((setSl v131 ho131 b), d) : EB) :: ys.drop x))) 204 rfl (fun h hp => (congrFun (rowB2_of (sls (ys.take x ++ (((setSl v131 ho131 b), d) : EB) :: ys.drop x)) (by simp [sls] <;> omega) (by rw [hz1]; simp [sls, recC])) h).mp hp) ?_
                                exact X_ret [400, 204, 402] (Ps := [_, _, _]) (res1 Try.results20 rfl) rfl (by decide) ⟨v144, (ys.take x ++ (((setSl v131 ho131 b), d) : EB) :: ys.drop x), by rw [hP], hoN, by rw [hP]; exact ins_zs hpl, rfl⟩
                              exact AHs_nil
                            exact AHs_nil
                          exact AHs_nil
                        refine AHs_cons rfl rfl rfl (by decide) (OpT_run (Pu_loadB (r := 400) rfl Try.isAgg32 rfl rfl rfl) ⟨⟨rfl, ⟨rfl, ⟨rfl, trivial⟩⟩⟩, ?_⟩) ?_
                        ·
                          refine (AH_take 10 rfl (by kernel_rfl) (by kernel_rfl) (by kernel_rfl) rfl rfl (by decide) (Pu_slice (r := 401) (a := x) (b := (sls ys).length) rfl Try.runUnderlying32 Try.sizeOf40 rfl rfl (fun _ h => rowP_rd h) (.inr ⟨_, _, _, rfl, rfl, rfl⟩) (.inl ⟨rfl, rfl⟩) (by omega) (Nat.le_refl _)) (AH_ready [4] (by kernel_rfl) (by decide) ?_))
                          refine AHs_cons rfl rfl rfl (by decide) (OpT_append (r := 204) (r2 := 405) rfl Try.underlying32 TI.hi40 TI.hz40 TI.hs40 TI.hby40 TI.hzs40 (by decide) rfl rfl rfl rfl (fun _ h => rowP_rd h) (by rw [List.flatten_cons, List.flatten_nil, List.append_nil]; exact bvC_one _) (by simp; unfold maxLen; omega) (by simp; omega) (fun v137 => ?_)) ?_
                          ·
                            refine ⟨⟨rfl, ⟨rfl, ⟨rfl, trivial⟩⟩⟩, ?_⟩
                            refine (AH_ready [11] (by kernel_rfl) (by decide) ?_)
                            refine AHs_cons rfl rfl rfl (by decide) (OpT_append (r := 204) (r2 := 401) rfl Try.underlying32 TI.hi40 TI.hz40 TI.hs40 TI.hby40 TI.hzs40 (by decide) rfl rfl rfl rfl (fun h hp => rdP_cast (rdP_sub (rowP_rd hp) (by omega) (by omega)) (sub_rows ys x ((sls ys).length - x)) rfl) (recC_ones bvC_one) (by simp; unfold maxLen; omega) (by simp; omega) (fun v144 => ?_)) ?_
                            ·
                              refine ⟨⟨rfl, ⟨rfl, ⟨rfl, trivial⟩⟩⟩, ?_⟩
                              refine AH_fact (r := 204) rfl (fun h hp => rd_one (rowP_rd hp)) (fun hoN => ?_)
                              refine (AH_take 12 rfl (by kernel_rfl) (by kernel_rfl) (by kernel_rfl) rfl rfl (by decide) (Pu_nilCheck rfl rfl) (AH_take 13 rfl (by kernel_rfl) (by kernel_rfl) (by kernel_rfl) rfl rfl (by decide) (Pu_fieldAddrB (off := 2) rfl rfl (by kernel_rfl)) (AH_ready [14] (by kernel_rfl) (by decide) ?_)))
                              refine AHs_cons0 rfl rfl rfl (OpT_storeB1 (r := 400) rfl Try.sizeOf32 rfl rfl rfl hoN (by simp) rfl ?_) ?_
                              ·
                                refine ⟨⟨rfl, ⟨rfl, ⟨rfl, trivial⟩⟩⟩, ?_⟩
                                refine (AH_done (by kernel_rfl) (X_then ?_))
                                refine W_seq ?_
                                refine W.pre (K' := [(0, _), (2, _), (4, _), (7, _), (8, _), (75, _), (116, _), (127, _)]) (L' := [(0, _), (101, _), (204, _), (400, _), (401, _), (402, _), (404, _), (405, _)]) ?_ ⟨rfl, ⟨rfl, ⟨rfl, ⟨rfl, ⟨rfl, ⟨rfl, ⟨rfl, ⟨rfl, trivial⟩⟩⟩⟩⟩⟩⟩⟩ ⟨rfl, ⟨rfl, ⟨rfl, ⟨rfl, ⟨rfl, ⟨rfl, ⟨rfl, ⟨rfl, trivial⟩⟩⟩⟩⟩⟩⟩⟩
                                refine W_regL (WL_pure rfl rfl (by decide) (Pu_assign rfl rfl) (WL_nil (X_then ?_)))
                                refine W_ret ?_
                                refine X_join [402, 404] 402 (datP (ys.take x ++ (((setSl v131 ho131 b), d) : EB) :: ys.drop x)) rfl (by decide) (fun h hs => dat_ins hs) ?_
                                have hz1 : (ys.drop (x)).take ((sls ys).length - (x)) = ys.drop (x) := List.take_of_length_le (by rw [List.length_drop]; omega)
                                refine X_turn (P' := rowB2 v144 (sls (ys.take x ++ (((setSl v131 ho131 b), d) : EB) :: ys.drop x))) 204 rfl (fun h hp => (congrFun (rowB2_of (sls (ys.take x ++ (((setSl v131 ho131 b), d) : EB) :: ys.drop x)) (by simp [sls] <;> omega) (by rw [hz1]; simp [sls, recC])) h).mp hp) ?_
                                exact X_ret [400, 204, 402] (Ps := [_, _, _]) (res1 Try.results20 rfl) rfl (by decide) ⟨v144, (ys.take x ++ (((setSl v131 ho131 b), d) : EB) :: ys.drop x), by rw [hP], hoN, by rw [hP]; exact ins_zs hpl, rfl⟩
                              exact AHs_nil
                            exact AHs_nil
                          exact AHs_nil
                        exact AHs_nil
                      refine AHs_cons rfl rfl rfl (by decide) (OpT_run (Pu_loadB (r := 400) rfl Try.isAgg32 rfl rfl rfl) ⟨⟨rfl, ⟨rfl, ⟨rfl, trivial⟩⟩⟩, ?_⟩) ?_
                      ·
                        refine (AH_take 10 rfl (by kernel_rfl) (by kernel_rfl) (by kernel_rfl) rfl rfl (by decide) (Pu_slice (r := 401) (a := x) (b := (sls ys).length) rfl Try.runUnderlying32 Try.sizeOf40 rfl rfl (fun _ h => rowP_rd h) (.inr ⟨_, _, _, rfl, rfl, rfl⟩) (.inl ⟨rfl, rfl⟩) (by omega) (Nat.le_refl _)) (AH_ready [3] (by kernel_rfl) (by decide) ?_))
                        refine AHs_cons rfl rfl rfl (by decide) (OpT_buildRows (r := 405) [bvC (setSl v131 ho131 b)] rfl rfl Try.runUnderlying32 Try.sizeOf40 Try.zeroValue40 rfl (by decide) rfl (by decide) (by intro r hr; simp at hr; rw [hr, bvC_length]) rfl (fun v136 => ⟨⟨rfl, ⟨rfl, ⟨rfl, trivial⟩⟩⟩, ?_⟩)) ?_
                        ·
                          refine (AH_ready [4] (by kernel_rfl) (by decide) ?_)
                          refine AHs_cons rfl rfl rfl (by decide) (OpT_append (r := 204) (r2 := 405) rfl Try.underlying32 TI.hi40 TI.hz40 TI.hs40 TI.hby40 TI.hzs40 (by decide) rfl rfl rfl rfl (fun _ h => rowP_rd h) (by rw [List.flatten_cons, List.flatten_nil, List.append_nil]; exact bvC_one _) (by simp; unfold maxLen; omega) (by simp; omega) (fun v137 => ?_)) ?_
                          ·
                            refine ⟨⟨rfl, ⟨rfl, ⟨rfl, trivial⟩⟩⟩, ?_⟩
                            refine (AH_ready [11] (by kernel_rfl) (by decide) ?_)
                            refine AHs_cons rfl rfl rfl (by decide) (OpT_append (r := 204) (r2 := 401) rfl Try.underlying32 TI.hi40 TI.hz40 TI.hs40 TI.hby40 TI.hzs40 (by decide) rfl rfl rfl rfl (fun h hp => rdP_cast (rdP_sub (rowP_rd hp) (by omega) (by omega)) (sub_rows ys x ((sls ys).length - x)) rfl) (recC_ones bvC_one) (by simp; unfold maxLen; omega) (by simp; omega) (fun v144 => ?_)) ?_
                            ·
                              refine ⟨⟨rfl, ⟨rfl, ⟨rfl, trivial⟩⟩⟩, ?_⟩
                              refine AH_fact (r := 204) rfl (fun h hp => rd_one (rowP_rd hp)) (fun hoN => ?_)
                              refine (AH_take 12 rfl (by kernel_rfl) (by kernel_rfl) (by kernel_rfl) rfl rfl (by decide) (Pu_nilCheck rfl rfl) (AH_take 13 rfl (by kernel_rfl) (by kernel_rfl) (by kernel_rfl) rfl rfl (by decide) (Pu_fieldAddrB (off := 2) rfl rfl (by kernel_rfl)) (AH_ready [14] (by kernel_rfl) (by decide) ?_)))
                              refine AHs_cons0 rfl rfl rfl (OpT_storeB1 (r := 400) rfl Try.sizeOf32 rfl rfl rfl hoN (by simp) rfl ?_) ?_
                              ·
                                refine ⟨⟨rfl, ⟨rfl, ⟨rfl, trivial⟩⟩⟩, ?_⟩
                                refine (AH_done (by kernel_rfl) (X_then ?_))
                                refine W_seq ?_
                                refine W.pre (K' := [(0, _), (2, _), (4, _), (7, _), (8, _), (75, _), (116, _), (127, _)]) (L' := [(0, _), (101, _), (204, _), (400, _), (401, _), (402, _), (404, _), (405, _)]) ?_ ⟨rfl, ⟨rfl, ⟨rfl, ⟨rfl, ⟨rfl, ⟨rfl, ⟨rfl, ⟨rfl, trivial⟩⟩⟩⟩⟩⟩⟩⟩ ⟨rfl, ⟨rfl, ⟨rfl, ⟨rfl, ⟨rfl, ⟨rfl, ⟨rfl, ⟨rfl, trivial⟩⟩⟩⟩⟩⟩⟩⟩
                                refine W_regL (WL_pure rfl rfl (by decide) (Pu_assign rfl rfl) (WL_nil (X_then ?_)))
                                refine W_ret ?_
                                refine X_join [402, 404] 402 (datP (ys.take x ++ (((setSl v131 ho131 b), d) : EB) :: ys.drop x)) rfl (by decide) (fun h hs => dat_ins hs) ?_
                                have hz1 : (ys.drop (x)).take ((sls ys).length - (x)) = ys.drop (x) := List.take_of_length_le (by rw [List.length_drop]; omega)
                                refine X_turn (P' := rowB2 v144 (sls (ys.take x ++ (((setSl v131 ho131 b), d) : EB) :: ys.drop x))) 204 rfl (fun h hp => (congrFun (rowB2_of (sls (ys.take x ++ (((setSl v131 ho131 b), d) : EB) :: ys.drop x)) (by simp [sls] <;> omega) (by rw [hz1]; simp [sls, recC])) h).mp hp) ?_
                                exact X_ret [400, 204, 402] (Ps := [_, _, _]) (res1 Try.results20 rfl) rfl (by decide) ⟨v144, (ys.take x ++ (((setSl v131 ho131 b), d) : EB) :: ys.drop x), by rw [hP], hoN, by rw [hP]; exact ins_zs hpl, rfl⟩
                              exact AHs_nil
                            exact AHs_nil
                          exact AHs_nil
                        exact AHs_nil
                      exact AHs_nil
                  exact AHs_nil
                refine AHs_cons rfl rfl rfl (by decide) (OpT_run (Pu_loadB (r := 300) rfl Try.isAgg3 rfl rfl rfl) ⟨⟨rfl, ⟨rfl, trivial⟩⟩, ?_⟩) ?_
                ·
                  refine (AH_ready [1] (by kernel_rfl) (by decide) ?_)
                  refine AHs_cons rfl rfl rfl (by decide) (OpT_call 400 [0, 101, 204] [300, 301, 302] rfl Try.call25 rfl rfl rfl (by decide) (by decide) (refTotal_spec g room quota v2 ys (by omega) (by omega) _) (fun v118 Ps118 hR118 => ?_)) ?_
                  ·
                    obtain ⟨rfl, rfl⟩ := hR118
                    refine ⟨⟨rfl, ⟨rfl, trivial⟩⟩, ?_⟩
                    skip
                    refine (AH_take 5 rfl (by kernel_rfl) (by kernel_rfl) (by kernel_rfl) rfl rfl (by decide) (Pu_bin rfl rfl rfl (run_add _ _ _ _ _ (by omega))) (AH_take 10 rfl (by kernel_rfl) (by kernel_rfl) (by kernel_rfl) rfl rfl (by decide) (Pu_bin rfl rfl rfl (run_gtr _ _ _ _ _ _)) (AH_done (by kernel_rfl) (X_then ?_))))
                    refine W_cond rfl (fun hc127 => ?_) (fun hc127 => ?_)
                    ·
                      have hgt := of_decide_eq_true hc127
                      have hP : putA room quota (zs.map toBk) (toBk (b, d)) now = (16, ys.map toBk) := by
                        unfold putA
                        rw [if_neg hq1, if_neg hlen, toBk_key, ← hA]
                        simp only [hfn]
                        exact (if_neg (show ¬ quota - (usedA b.src (ys.map toBk) : Int) < (d.length : Int) by omega)).trans (if_pos (show room - (totA (ys.map toBk) : Int) < (d.length : Int) by omega))
                      refine W_seq ?_
                      refine W.pre (K' := [(0, _), (2, _), (4, _), (7, _), (8, _), (75, _), (116, _), (127, _)]) (L' := [(0, _), (101, _), (204, _), (400, _), (401, _), (402, _)]) ?_ ⟨rfl, ⟨rfl, ⟨rfl, ⟨rfl, ⟨rfl, ⟨rfl, ⟨rfl, ⟨rfl, trivial⟩⟩⟩⟩⟩⟩⟩⟩ ⟨rfl, ⟨rfl, ⟨rfl, ⟨rfl, ⟨rfl, ⟨rfl, trivial⟩⟩⟩⟩⟩⟩
                      refine W_regL (WL_pure rfl rfl (by decide) (Pu_assign rfl rfl) (WL_nil (X_then ?_)))
                      refine W_ret (X_then_ret ?_)
                      exact X_ret [400, 401, 402] (Ps := [_, _, _]) (res1 Try.results20 rfl) rfl (by decide) ⟨v2, ys, by rw [hP], hv2, by rw [hP], rfl⟩
                    ·
                      have hge2 := of_decide_eq_false hc127
                      have hP : putA room quota (zs.map toBk) (toBk (b, d)) now = (0, insA (toBk (b, d)) (ys.map toBk)) := by
                        unfold putA
                        rw [if_neg hq1, if_neg hlen, toBk_key, ← hA]
                        simp only [hfn]
                        exact (if_neg (show ¬ quota - (usedA b.src (ys.map toBk) : Int) < (d.length : Int) by omega)).trans (if_neg (show ¬ room - (totA (ys.map toBk) : Int) < (d.length : Int) by omega))
                      refine W_skip (X_then ?_)
                      refine W_seq ?_
                      refine W.pre (K' := [(0, _), (2, _), (4, _), (7, _), (8, _), (75, _), (116, _), (127, _)]) (L' := [(0, _), (101, _), (204, _), (400, _), (401, _), (402, _)]) ?_ ⟨rfl, ⟨rfl, ⟨rfl, ⟨rfl, ⟨rfl, ⟨rfl, ⟨rfl, ⟨rfl, trivial⟩⟩⟩⟩⟩⟩⟩⟩ ⟨rfl, ⟨rfl, ⟨rfl, ⟨rfl, ⟨rfl, ⟨rfl, trivial⟩⟩⟩⟩⟩⟩
                      refine W_regL (WL_cons rfl rfl (by decide) (OpT_buildOnes (r := 404) (bs []) rfl rfl Try.runUnderlying38 Try.sizeOf5 Try.zeroValue5 rfl rfl (by decide) rfl (bs_cells _) (fun v128 => (WL_pure rfl rfl (by decide) (Pu_fieldAddrB (off := 32) rfl rfl (by kernel_rfl)) (WL_pure rfl rfl (by decide) (Pu_loadB (r := 101) rfl Try.isAgg38 rfl rfl (bk_data b.len)) (WL_cons rfl rfl (by decide) (OpT_append (r := 404) (r2 := 0) rfl Try.underlying38 TI.hi5 TI.hz5 TI.hs5 TI.hby5 TI.hzs5 (by decide) rfl rfl rfl rfl hF (bs_one _) (by simp; unfold maxLen; omega) (by simp; omega) (fun v131 => ?_))))))))
                      refine WL_fact (r := 404) rfl (fun h hp => rd_one (rowP_rd hp)) (fun ho131 => ?_)
                      refine (WL_pure rfl rfl (by decide) (Pu_fieldAddrB (off := 32) rfl rfl (by kernel_rfl)) (WL_cons0 rfl rfl (OpT_storeB1 (r := 101) rfl Try.sizeOf38 rfl rfl rfl ho131 (by rw [bvC_length]; decide) (bk_set_data b.len _) ?_)))
                      refine (WL_nil (X_then ?_))
                      refine W_seq ?_
                      refine W.pre (K' := [(0, _), (2, _), (4, _), (7, _), (8, _), (75, _), (116, _), (127, _)]) (L' := [(0, _), (101, _), (204, _), (400, _), (401, _), (402, _), (404, _)]) ?_ ⟨rfl, ⟨rfl, ⟨rfl, ⟨rfl, ⟨rfl, ⟨rfl, ⟨rfl, ⟨rfl, trivial⟩⟩⟩⟩⟩⟩⟩⟩ ⟨rfl, ⟨rfl, ⟨rfl, ⟨rfl, ⟨rfl, ⟨rfl, ⟨rfl, trivial⟩⟩⟩⟩⟩⟩⟩
                      refine W_draw (N := 15) (by kernel_rfl) rfl [(0, _), (101, _), (401, _)] ⟨rfl, ⟨rfl, ⟨rfl, trivial⟩⟩⟩ ?_
                      refine (AH_take 0 rfl (by kernel_rfl) (by kernel_rfl) (by kernel_rfl) rfl rfl (by decide) (Pu_move rfl rfl) (AH_take 1 rfl (by kernel_rfl) (by kernel_rfl) (by kernel_rfl) rfl rfl (by decide) (Pu_move rfl rfl) (AH_take 2 rfl (by kernel_rfl) (by kernel_rfl) (by kernel_rfl) rfl rfl (by decide) (Pu_loadBN (r := 101) rfl Try.isAgg40 Try.sizeOf40 rfl rfl (bvC_length (setSl v131 ho131 b)) (load_all (bvC_length (setSl v131 ho131 b)))) (AH_take 5 rfl (by kernel_rfl) (by kernel_rfl) (by kernel_rfl) rfl rfl (by decide) (Pu_move rfl rfl) (AH_take 6 rfl (by kernel_rfl) (by kernel_rfl) (by kernel_rfl) rfl rfl (by decide) (Pu_nilCheck rfl rfl) (AH_take 7 rfl (by kernel_rfl) (by kernel_rfl) (by kernel_rfl) rfl rfl (by decide) (Pu_fieldAddrB (off := 2) rfl rfl (by kernel_rfl)) (AH_take 9 rfl (by kernel_rfl) (by kernel_rfl) (by kernel_rfl) rfl rfl (by decide) (Pu_move rfl rfl) (AH_ready [3, 8] (by kernel_rfl) (by decide) ?_))))))))
                      refine AHs_cons rfl rfl rfl (by decide) (OpT_buildRows (r := 405) [bvC (setSl v131 ho131 b)] rfl rfl Try.runUnderlying32 Try.sizeOf40 Try.zeroValue40 rfl (by decide) rfl (by decide) (by intro r hr; simp at hr; rw [hr, bvC_length]) rfl (fun v136 => ⟨⟨rfl, ⟨rfl, ⟨rfl, trivial⟩⟩⟩, ?_⟩)) ?_
                      ·
                        refine (AH_ready [4, 8] (by kernel_rfl) (by decide) ?_)
                        refine AHs_cons rfl rfl rfl (by decide) (OpT_append (r := 204) (r2 := 405) rfl Try.underlying32 TI.hi40 TI.hz40 TI.hs40 TI.hby40 TI.hzs40 (by decide) rfl rfl rfl rfl (fun _ h => rowP_rd h) (by rw [List.flatten_cons, List.flatten_nil, List.append_nil]; exact bvC_one _) (by simp; unfold maxLen; omega) (by simp; omega) (fun v137 => ?_)) ?_
                        ·
                          refine ⟨⟨rfl, ⟨rfl, ⟨rfl, trivial⟩⟩⟩, ?_⟩
                          refine (AH_ready [8] (by kernel_rfl) (by decide) ?_)
                          refine AHs_cons rfl rfl rfl (by decide) (OpT_run (Pu_loadB (r := 400) rfl Try.isAgg32 rfl rfl rfl) ⟨⟨rfl, ⟨rfl, ⟨rfl, trivial⟩⟩⟩, ?_⟩) ?_
                          ·
                            refine (AH_take 10 rfl (by kernel_rfl) (by kernel_rfl) (by kernel_rfl) rfl rfl (by decide) (Pu_slice (r := 401) (a := x) (b := (sls ys).length) rfl Try.runUnderlying32 Try.sizeOf40 rfl rfl (fun _ h => rowP_rd h) (.inr ⟨_, _, _, rfl, rfl, rfl⟩) (.inl ⟨rfl, rfl⟩) (by omega) (Nat.le_refl _)) (AH_ready [11] (by kernel_rfl) (by decide) ?_))
                            refine AHs_cons rfl rfl rfl (by decide) (OpT_append (r := 204) (r2 := 401) rfl Try.underlying32 TI.hi40 TI.hz40 TI.hs40 TI.hby40 TI.hzs40 (by decide) rfl rfl rfl rfl (fun h hp => rdP_cast (rdP_sub (rowP_rd hp) (by omega) (by omega)) (sub_rows ys x ((sls ys).length - x)) rfl) (recC_ones bvC_one) (by simp; unfold maxLen; omega) (by simp; omega) (fun v144 => ?_)) ?_
                            ·
                              refine ⟨⟨rfl, ⟨rfl, ⟨rfl, trivial⟩⟩⟩, ?_⟩
                              refine AH_fact (r := 204) rfl (fun h hp => rd_one (rowP_rd hp)) (fun hoN => ?_)
                              refine (AH_take 12 rfl (by kernel_rfl) (by kernel_rfl) (by kernel_rfl) rfl rfl (by decide) (Pu_nilCheck rfl rfl) (AH_take 13 rfl (by kernel_rfl) (by kernel_rfl) (by kernel_rfl) rfl rfl (by decide) (Pu_fieldAddrB (off := 2) rfl rfl (by kernel_rfl)) (AH_ready [14] (by kernel_rfl) (by decide) ?_)))
                              refine AHs_cons0 rfl rfl rfl (OpT_storeB1 (r := 400) rfl Try.sizeOf32 rfl rfl rfl hoN (by simp) rfl ?_) ?_
                              ·
                                refine ⟨⟨rfl, ⟨rfl, ⟨rfl, trivial⟩⟩⟩, ?_⟩
                                refine (AH_done (by kernel_rfl) (X_then ?_))
                                refine W_seq ?_
                                refine W.pre (K' := [(0, _), (2, _), (4, _), (7, _), (8, _), (75, _), (116, _), (127, _)]) (L' := [(0, _), (101, _), (204, _), (400, _), (401, _), (402, _), (404, _), (405, _)]) ?_ ⟨rfl, ⟨rfl, ⟨rfl, ⟨rfl, ⟨rfl, ⟨rfl, ⟨rfl, ⟨rfl, trivial⟩⟩⟩⟩⟩⟩⟩⟩ ⟨rfl, ⟨rfl, ⟨rfl, ⟨rfl, ⟨rfl, ⟨rfl, ⟨rfl, ⟨rfl, trivial⟩⟩⟩⟩⟩⟩⟩⟩
                                refine W_regL (WL_pure rfl rfl (by decide) (Pu_assign rfl rfl) (WL_nil (X_then ?_)))
                                refine W_ret ?_
                                refine X_join [402, 404] 402 (datP (ys.take x ++ (((setSl v131 ho131 b), d) : EB) :: ys.drop x)) rfl (by decide) (fun h hs => dat_ins hs) ?_
                                have hz1 : (ys.drop (x)).take ((sls ys).length - (x)) = ys.drop (x) := List.take_of_length_le (by rw [List.length_drop]; omega)
                                refine X_turn (P' := rowB2 v144 (sls (ys.take x ++ (((setSl v131 ho131 b), d) : EB) :: ys.drop x))) 204 rfl (fun h hp => (congrFun (rowB2_of (sls (ys.take x ++ (((setSl v131 ho131 b), d) : EB) :: ys.drop x)) (by simp [sls] <;> omega) (by rw [hz1]; simp [sls, recC])) h).mp hp) ?_
                                exact X_ret [400, 204, 402] (Ps := [_, _, _]) (res1 Try.results20 rfl) rfl (by decide) ⟨v144, (ys.take x ++ (((setSl v131 ho131 b), d) : EB) :: ys.drop x), by rw [hP], hoN, by rw [hP]; exact ins_zs hpl, rfl⟩
                              exact AHs_nil
                            exact AHs_nil
                          exact AHs_nil
                        refine AHs_cons rfl rfl rfl (by decide) (OpT_run (Pu_loadB (r := 400) rfl Try.isAgg32 rfl rfl rfl) ⟨⟨rfl, ⟨rfl, ⟨rfl, trivial⟩⟩⟩, ?_⟩) ?_
                        ·
                          refine (AH_take 10 rfl (by kernel_rfl) (by kernel_rfl) (by kernel_rfl) rfl rfl (by decide) (Pu_slice (r := 401) (a := x) (b := (sls ys).length) rfl Try.runUnderlying32 Try.sizeOf40 rfl rfl (fun _ h => rowP_rd h) (.inr ⟨_, _, _, rfl, rfl, rfl⟩) (.inl ⟨rfl, rfl⟩) (by omega) (Nat.le_refl _)) (AH_ready [4] (by kernel_rfl) (by decide) ?_))
                          refine AHs_cons rfl rfl rfl (by decide) (OpT_append (r := 204) (r2 := 405) rfl Try.underlying32 TI.hi40 TI.hz40 TI.hs40 TI.hby40 TI.hzs40 (by decide) rfl rfl rfl rfl (fun _ h => rowP_rd h) (by rw [List.flatten_cons, List.flatten_nil, List.append_nil]; exact bvC_one _) (by simp; unfold maxLen; omega) (by simp; omega) (fun v137 => ?_)) ?_
                          ·
                            refine ⟨⟨rfl, ⟨rfl, ⟨rfl, trivial⟩⟩⟩, ?_⟩
                            refine (AH_ready [11] (by kernel_rfl) (by decide) ?_)
                            refine AHs_cons rfl rfl rfl (by decide) (OpT_append (r := 204) (r2 := 401) rfl Try.underlying32 TI.hi40 TI.hz40 TI.hs40 TI.hby40 TI.hzs40 (by decide) rfl rfl rfl rfl (fun h hp => rdP_cast (rdP_sub (rowP_rd hp) (by omega) (by omega)) (sub_rows ys x ((sls ys).length - x)) rfl) (recC_ones bvC_one) (by simp; unfold maxLen; omega) (by simp; omega) (fun v144 => ?_)) ?_
                            ·
                              refine ⟨⟨rfl, ⟨rfl, ⟨rfl, trivial⟩⟩⟩, ?_⟩
                              refine AH_fact (r := 204) rfl (fun h hp => rd_one (rowP_rd hp)) (fun hoN => ?_)
                              refine (AH_take 12 rfl (by kernel_rfl) (by kernel_rfl) (by kernel_rfl) rfl rfl (by decide) (Pu_nilCheck rfl rfl) (AH_take 13 rfl (by kernel_rfl) (by kernel_rfl) (by kernel_rfl) rfl rfl (by decide) (Pu_fieldAddrB (off := 2) rfl rfl (by kernel_rfl)) (AH_ready [14] (by kernel_rfl) (by decide) ?_)))
                              refine AHs_cons0 rfl rfl rfl (OpT_storeB1 (r := 400) rfl Try.sizeOf32 rfl rfl rfl hoN (by simp) rfl ?_) ?_
                              ·
                                refine ⟨⟨rfl, ⟨rfl, ⟨rfl, trivial⟩⟩⟩, ?_⟩
                                refine (AH_done (by kernel_rfl) (X_then ?_))
                                refine W_seq ?_
                                refine W.pre (K' := [(0, _), (2, _), (4, _), (7, _), (8, _), (75, _), (116, _), (127, _)]) (L' := [(0, _), (101, _), (204, _), (400, _), (401, _), (402, _), (404, _), (405, _)]) ?_ ⟨rfl, ⟨rfl, ⟨rfl, ⟨rfl, ⟨rfl, ⟨rfl, ⟨rfl, ⟨rfl, trivial⟩⟩⟩⟩⟩⟩⟩⟩ ⟨rfl, ⟨rfl, ⟨rfl, ⟨rfl, ⟨rfl, ⟨rfl, ⟨rfl, ⟨rfl, trivial⟩⟩⟩⟩⟩⟩⟩⟩
                                refine W_regL (WL_pure rfl rfl (by decide) (Pu_assign rfl rfl) (WL_nil (X_then ?_)))
                                refine W_ret ?_
                                refine X_join [402, 404] 402 (datP (ys.take x ++ (((setSl v131 ho131 b), d) : EB) :: ys.drop x)) rfl (by decide) (fun h hs => dat_ins hs) ?_
                                have hz1 : (ys.drop (x)).take ((sls ys).length - (x)) = ys.drop (x) := List.take_of_length_le (by rw [List.length_drop]; omega)
                                refine X_turn (P' := rowB2 v144 (sls (ys.take x ++ (((setSl v131 ho131 b), d) : EB) :: ys.drop x))) 204 rfl (fun h hp => (congrFun (rowB2_of (sls (ys.take x ++ (((setSl v131 ho131 b), d) : EB) :: ys.drop x)) (by simp [sls] <;> omega) (by rw [hz1]; simp [sls, recC])) h).mp hp) ?_
                                exact X_ret [400, 204, 402] (Ps := [_, _, _]) (res1 Try.results20 rfl) rfl (by decide) ⟨v144, (ys.take x ++ (((setSl v131 ho131 b), d) : EB) :: ys.drop x), by rw [hP], hoN, by rw [hP]; exact ins_zs hpl, rfl⟩
                              exact AHs_nil
                            exact AHs_nil
                          exact AHs_nil
                        exact AHs_nil
                      refine AHs_cons rfl rfl rfl (by decide) (OpT_run (Pu_loadB (r := 400) rfl Try.isAgg32 rfl rfl rfl) ⟨⟨rfl, ⟨rfl, ⟨rfl, trivial⟩⟩⟩, ?_⟩) ?_
                      ·
                        refine (AH_take 10 rfl (by kernel_rfl) (by kernel_rfl) (by kernel_rfl) rfl rfl (by decide) (Pu_slice (r := 401) (a := x) (b := (sls ys).length) rfl Try.runUnderlying32 Try.sizeOf40 rfl rfl (fun _ h => rowP_rd h) (.inr ⟨_, _, _, rfl, rfl, rfl⟩) (.inl ⟨rfl, rfl⟩) (by omega) (Nat.le_refl _)) (AH_ready [3] (by kernel_rfl) (by decide) ?_))
                        refine AHs_cons rfl rfl rfl (by decide) (OpT_buildRows (r := 405) [bvC (setSl v131 ho131 b)] rfl rfl Try.runUnderlying32 Try.sizeOf40 Try.zeroValue40 rfl (by decide) rfl (by decide) (by intro r hr; simp at hr; rw [hr, bvC_length]) rfl (fun v136 => ⟨⟨rfl, ⟨rfl, ⟨rfl, trivial⟩⟩⟩, ?_⟩)) ?_
                        ·
                          refine (AH_ready [4] (by kernel_rfl) (by decide) ?_)
                          refine AHs_cons rfl rfl rfl (by decide) (OpT_append (r := 204) (r2 := 405) rfl Try.underlying32 TI.hi40 TI.hz40 TI.hs40 TI.hby40 TI.hzs40 (by decide) rfl rfl rfl rfl (fun _ h => rowP_rd h) (by rw [List.flatten_cons, List.flatten_nil, List.append_nil]; exact bvC_one _) (by simp; unfold maxLen; omega) (by simp; omega) (fun v137 => ?_)) ?_
                          ·
                            refine ⟨⟨rfl, ⟨rfl, ⟨rfl, trivial⟩⟩⟩, ?_⟩
                            refine (AH_ready [11] (by kernel_rfl) (by decide) ?_)
                            refine AHs_cons rfl rfl rfl (by decide) (OpT_append (r := 204) (r2 := 401) rfl Try.underlying32 TI.hi40 TI.hz40 TI.hs40 TI.hby40 TI.hzs40 (by decide) rfl rfl rfl rfl (fun h hp => rdP_cast (rdP_sub (rowP_rd hp) (by omega) (by omega)) (sub_rows ys x ((sls ys).length - x)) rfl) (recC_ones bvC_one) (by simp; unfold maxLen; omega) (by simp; omega) (fun v144 => ?_)) ?_
                            ·
                              refine ⟨⟨rfl, ⟨rfl, ⟨rfl, trivial⟩⟩⟩, ?_⟩
                              refine AH_fact (r := 204) rfl (fun h hp => rd_one (rowP_rd hp)) (fun hoN => ?_)
                              refine (AH_take 12 rfl (by kernel_rfl) (by kernel_rfl) (by kernel_rfl) rfl rfl (by decide) (Pu_nilCheck rfl rfl) (AH_take 13 rfl (by kernel_rfl) (by kernel_rfl) (by kernel_rfl) rfl rfl (by decide) (Pu_fieldAddrB (off := 2) rfl rfl (by kernel_rfl)) (AH_ready [14] (by kernel_rfl) (by decide) ?_)))
                              refine AHs_cons0 rfl rfl rfl (OpT_storeB1 (r := 400) rfl Try.sizeOf32 rfl rfl rfl hoN (by simp) rfl ?_) ?_
                              ·
                                refine ⟨⟨rfl, ⟨rfl, ⟨rfl, trivial⟩⟩⟩, ?_⟩
                                refine (AH_done (by kernel_rfl) (X_then ?_))
                                refine W_seq ?_
                                refine W.pre (K' := [(0, _), (2, _), (4, _), (7, _), (8, _), (75, _), (116, _), (127, _)]) (L' := [(0, _), (101, _), (204, _), (400, _), (401, _), (402, _), (404, _), (405, _)]) ?_ ⟨rfl, ⟨rfl, ⟨rfl, ⟨rfl, ⟨rfl, ⟨rfl, ⟨rfl, ⟨rfl, trivial⟩⟩⟩⟩⟩⟩⟩⟩ ⟨rfl, ⟨rfl, ⟨rfl, ⟨rfl, ⟨rfl, ⟨rfl, ⟨rfl, ⟨rfl, trivial⟩⟩⟩⟩⟩⟩⟩⟩
                                refine W_regL (WL_pure rfl rfl (by decide) (Pu_assign rfl rfl) (WL_nil (X_then ?_)))
                                refine W_ret ?_
                                refine X_join [402, 404] 402 (datP (ys.take x ++ (((setSl v131 ho131 b), d) : EB) :: ys.drop x)) rfl (by decide) (fun h hs => dat_ins hs) ?_
                                have hz1 : (ys.drop (x)).take ((sls ys).length - (x)) = ys.drop (x) := List.take_of_length_le (by rw [List.length_drop]; omega)
                                refine X_turn (P' := rowB2 v144 (sls (ys.take x ++ (((setSl v131 ho131 b), d) : EB) :: ys.drop x))) 204 rfl (fun h hp => (congrFun (rowB2_of (sls (ys.take x ++ (((setSl v131 ho131 b), d) : EB) :: ys.drop x)) (by simp [sls] <;> omega) (by rw [hz1]; simp [sls, recC])) h).mp hp) ?_
                                exact X_ret [400, 204, 402] (Ps := [_, _, _]) (res1 Try.results20 rfl) rfl (by decide) ⟨v144, (ys.take x ++ (((setSl v131 ho131 b), d) : EB) :: ys.drop x), by rw [hP], hoN, by rw [hP]; exact ins_zs hpl, rfl⟩
                              exact AHs_nil
                            exact AHs_nil
                          exact AHs_nil
                        exact AHs_nil
                      exact AHs_nil
                  exact AHs_nil
                exact AHs_nil
            exact AHs_nil
          refine AHs_cons rfl rfl rfl (by decide) (OpT_run (Pu_loadB (r := 200) rfl Try.isAgg3 rfl rfl rfl) ⟨⟨rfl, ⟨rfl, trivial⟩⟩, ?_⟩) ?_
          ·
            refine (AH_ready [3] (by kernel_rfl) (by decide) ?_)
            refine AHs_cons rfl rfl rfl (by decide) (OpT_call 300 [0, 101, 204] [200, 201, 202] rfl Try.call26 rfl rfl rfl (by decide) (by decide) (refUsed_spec g room quota v2 ys b.src (by omega) (by omega) _) (fun v107 Ps107 hR107 => ?_)) ?_
            ·
              obtain ⟨rfl, rfl⟩ := hR107
              refine ⟨⟨rfl, ⟨rfl, trivial⟩⟩, ?_⟩
              skip
              refine (AH_take 7 rfl (by kernel_rfl) (by kernel_rfl) (by kernel_rfl) rfl rfl (by decide) (Pu_bin rfl rfl rfl (run_add _ _ _ _ _ (by omega))) (AH_take 12 rfl (by kernel_rfl) (by kernel_rfl) (by kernel_rfl) rfl rfl (by decide) (Pu_bin rfl rfl rfl (run_gtr _ _ _ _ _ _)) (AH_done (by kernel_rfl) (X_then ?_))))
              refine W_cond rfl (fun hc116 => ?_) (fun hc116 => ?_)
              ·
                have hgt := of_decide_eq_true hc116
                have hP : putA room quota (zs.map toBk) (toBk (b, d)) now = (15, ys.map toBk) := by
                  unfold putA
                  rw [if_neg hq1, if_neg hlen, toBk_key, ← hA]
                  simp only [hfn]
                  exact if_pos (show quota - (usedA b.src (ys.map toBk) : Int) < (d.length : Int) by omega)
                refine W_seq ?_
                refine W.pre (K' := [(0, _), (2, _), (4, _), (7, _), (8, _), (75, _), (116, _)]) (L' := [(0, _), (101, _), (204, _), (300, _), (301, _), (302, _)]) ?_ ⟨rfl, ⟨rfl, ⟨rfl, ⟨rfl, ⟨rfl, ⟨rfl, ⟨rfl, trivial⟩⟩⟩⟩⟩⟩⟩ ⟨rfl, ⟨rfl, ⟨rfl, ⟨rfl, ⟨rfl, ⟨rfl, trivial⟩⟩⟩⟩⟩⟩
                refine W_regL (WL_pure rfl rfl (by decide) (Pu_assign rfl rfl) (WL_nil (X_then ?_)))
                refine W_ret (X_then_ret ?_)
                exact X_ret [300, 301, 302] (Ps := [_, _, _]) (res1 Try.results20 rfl) rfl (by decide) ⟨v2, ys, by rw [hP], hv2, by rw [hP], rfl⟩
              ·
                have hge1 := of_decide_eq_false hc116
                refine W_skip (X_then ?_)
                refine W_seq ?_
                refine W_seq ?_
                refine W.pre (K' := [(0, _), (2, _), (4, _), (7, _), (8, _), (75, _), (116, _)]) (L' := [(0, _), (101, _), (204, _), (300, _), (301, _), (302, _)]) ?_ ⟨rfl, ⟨rfl, ⟨rfl, ⟨rfl, ⟨rfl, ⟨rfl, ⟨rfl, trivial⟩⟩⟩⟩⟩⟩⟩ ⟨rfl, ⟨rfl, ⟨rfl, ⟨rfl, ⟨rfl, ⟨rfl, trivial⟩⟩⟩⟩⟩⟩
                refine W_draw (N := 11) (by kernel_rfl) rfl [(0, _), (101, _)] ⟨rfl, ⟨rfl, trivial⟩⟩ ?_
                refine (AH_take 0 rfl (by kernel_rfl) (by kernel_rfl) (by kernel_rfl) rfl rfl (by decide) (Pu_move rfl rfl) (AH_take 2 rfl (by kernel_rfl) (by kernel_rfl) (by kernel_rfl) rfl rfl (by decide) (Pu_fieldAddrB (off := 32) rfl rfl (by kernel_rfl)) (AH_take 3 rfl (by kernel_rfl) (by kernel_rfl) (by kernel_rfl) rfl rfl (by decide) (Pu_loadB (r := 101) rfl Try.isAgg38 rfl rfl (bk_data b.len)) (AH_take 4 rfl (by kernel_rfl) (by kernel_rfl) (by kernel_rfl) rfl rfl (by decide) (Pu_len (r := 0) rfl Try.runUnderlying38 rfl rfl hF) (AH_take 6 rfl (by kernel_rfl) (by kernel_rfl) (by kernel_rfl) rfl rfl (by decide) (Pu_move rfl rfl) (AH_take 7 rfl (by kernel_rfl) (by kernel_rfl) (by kernel_rfl) rfl rfl (by decide) (Pu_nilCheck rfl rfl) (AH_take 8 rfl (by kernel_rfl) (by kernel_rfl) (by kernel_rfl) rfl rfl (by decide) (Pu_fieldAddrB (off := 0) rfl rfl (by kernel_rfl)) (AH_ready [1, 9] (by kernel_rfl) (by decide) ?_))))))))
                refine AHs_cons rfl rfl rfl (by decide) (OpT_call 400 [0, 101, 204] [300, 301, 302] rfl Try.call25 rfl rfl rfl (by decide) (by decide) (refTotal_spec g room quota v2 ys (by omega) (by omega) _) (fun v118 Ps118 hR118 => ?_)) ?_
                ·
                  obtain ⟨rfl, rfl⟩ := hR118
                  refine ⟨⟨rfl, ⟨rfl, trivial⟩⟩, ?_⟩
                  skip
                  refine (AH_take 5 rfl (by kernel_rfl) (by kernel_rfl) (by kernel_rfl) rfl rfl (by decide) (Pu_bin rfl rfl rfl (run_add _ _ _ _ _ (by omega))) (AH_ready [9] (by kernel_rfl) (by decide) ?_))
                  refine AHs_cons rfl rfl rfl (by decide) (OpT_run (Pu_loadB (r := 400) rfl Try.isAgg3 rfl rfl rfl) ⟨⟨rfl, ⟨rfl, trivial⟩⟩, ?_⟩) ?_
                  ·
                    refine (AH_take 10 rfl (by kernel_rfl) (by kernel_rfl) (by kernel_rfl) rfl rfl (by decide) (Pu_bin rfl rfl rfl (run_gtr _ _ _ _ _ _)) (AH_done (by kernel_rfl) (X_then ?_)))
                    refine W_cond rfl (fun hc127 => ?_) (fun hc127 => ?_)
                    ·
                      have hgt := of_decide_eq_true hc127
                      have hP : putA room quota (zs.map toBk) (toBk (b, d)) now = (16, ys.map toBk) := by
                        unfold putA
                        rw [if_neg hq1, if_neg hlen, toBk_key, ← hA]
                        simp only [hfn]
                        exact (if_neg (show ¬ quota - (usedA b.src (ys.map toBk) : Int) < (d.length : Int) by omega)).trans (if_pos (show room - (totA (ys.map toBk) : Int) < (d.length : Int) by omega))
                      refine W_seq ?_
                      refine W.pre (K' := [(0, _), (2, _), (4, _), (7, _), (8, _), (75, _), (116, _), (127, _)]) (L' := [(0, _), (101, _), (204, _), (400, _), (401, _), (402, _)]) ?_ ⟨rfl, ⟨rfl, ⟨rfl, ⟨rfl, ⟨rfl, ⟨rfl, ⟨rfl, ⟨rfl, trivial⟩⟩⟩⟩⟩⟩⟩⟩ ⟨rfl, ⟨rfl, ⟨rfl, ⟨rfl, ⟨rfl, ⟨rfl, trivial⟩⟩⟩⟩⟩⟩
                      refine W_regL (WL_pure rfl rfl (by decide) (Pu_assign rfl rfl) (WL_nil (X_then ?_)))
                      refine W_ret (X_then_ret ?_)
                      exact X_ret [400, 401, 402] (Ps := [_, _, _]) (res1 Try.results20 rfl) rfl (by decide) ⟨v2, ys, by rw [hP], hv2, by rw [hP], rfl⟩
                    ·
                      have hge2 := of_decide_eq_false hc127
                      have hP : putA room quota (zs.map toBk) (toBk (b, d)) now = (0, insA (toBk (b, d)) (ys.map toBk)) := by
                        unfold putA
                        rw [if_neg hq1, if_neg hlen, toBk_key, ← hA]
                        simp only [hfn]
                        exact (if_neg (show ¬ quota - (usedA b.src (ys.map toBk) : Int) < (d.length : Int) by omega)).trans (if_neg (show ¬ room - (totA (ys.map toBk) : Int) < (d.length : Int) by omega))
                      refine W_skip (X_then ?_)
                      refine W_seq ?_
                      refine W.pre (K' := [(0, _), (2, _), (4, _), (7, _), (8, _), (75, _), (116, _), (127, _)]) (L' := [(0, _), (101, _), (204, _), (400, _), (401, _), (402, _)]) ?_ ⟨rfl, ⟨rfl, ⟨rfl, ⟨rfl, ⟨rfl, ⟨rfl, ⟨rfl, ⟨rfl, trivial⟩⟩⟩⟩⟩⟩⟩⟩ ⟨rfl, ⟨rfl, ⟨rfl, ⟨rfl, ⟨rfl, ⟨rfl, trivial⟩⟩⟩⟩⟩⟩
                      refine W_regL (WL_cons rfl rfl (by decide) (OpT_buildOnes (r := 404) (bs []) rfl rfl Try.runUnderlying38 Try.sizeOf5 Try.zeroValue5 rfl rfl (by decide) rfl (bs_cells _) (fun v128 => (WL_pure rfl rfl (by decide) (Pu_fieldAddrB (off := 32) rfl rfl (by kernel_rfl)) (WL_pure rfl rfl (by decide) (Pu_loadB (r := 101) rfl Try.isAgg38 rfl rfl (bk_data b.len)) (WL_cons rfl rfl (by decide) (OpT_append (r := 404) (r2 := 0) rfl Try.underlying38 TI.hi5 TI.hz5 TI.hs5 TI.hby5 TI.hzs5 (by decide) rfl rfl rfl rfl hF (bs_one _) (by simp; unfold maxLen; omega) (by simp; omega) (fun v131 => ?_))))))))
                      refine WL_fact (r := 404) rfl (fun h hp => rd_one (rowP_rd hp)) (fun ho131 => ?_)
                      refine (WL_pure rfl rfl (by decide) (Pu_fieldAddrB (off := 32) rfl rfl (by kernel_rfl)) (WL_cons0 rfl rfl (OpT_storeB1 (r := 101) rfl Try.sizeOf38 rfl rfl rfl ho131 (by rw [bvC_length]; decide) (bk_set_data b.len _) ?_)))
                      refine (WL_nil (X_then ?_))
                      refine W_seq ?_
                      refine W.pre (K' := [(0, _), (2, _), (4, _), (7, _), (8, _), (75, _), (116, _), (127, _)]) (L' := [(0, _), (101, _), (204, _), (400, _), (401, _), (402, _), (404, _)]) ?_ ⟨rfl, ⟨rfl, ⟨rfl, ⟨rfl, ⟨rfl, ⟨rfl, ⟨rfl, ⟨rfl, trivial⟩⟩⟩⟩⟩⟩⟩⟩ ⟨rfl, ⟨rfl, ⟨rfl, ⟨rfl, ⟨rfl, ⟨rfl, ⟨rfl, trivial⟩⟩⟩⟩⟩⟩⟩
                      refine W_draw (N := 15) (by kernel_rfl) rfl [(0, _), (101, _), (401, _)] ⟨rfl, ⟨rfl, ⟨rfl, trivial⟩⟩⟩ ?_
                      refine (AH_take 0 rfl (by kernel_rfl) (by kernel_rfl) (by kernel_rfl) rfl rfl (by decide) (Pu_move rfl rfl) (AH_take 1 rfl (by kernel_rfl) (by kernel_rfl) (by kernel_rfl) rfl rfl (by decide) (Pu_move rfl rfl) (AH_take 2 rfl (by kernel_rfl) (by kernel_rfl) (by kernel_rfl) rfl rfl (by decide) (Pu_loadBN (r := 101) rfl Try.isAgg40 Try.sizeOf40 rfl rfl (bvC_length (setSl v131 ho131 b)) (load_all (bvC_length (setSl v131 ho131 b)))) (AH_take 5 rfl (by kernel_rfl) (by kernel_rfl) (by kernel_rfl) rfl rfl (by decide) (Pu_move rfl rfl) (AH_take 6 rfl (by kernel_rfl) (by kernel_rfl) (by kernel_rfl) rfl rfl (by decide) (Pu_nilCheck rfl rfl) (AH_take 7 rfl (by kernel_rfl) (by kernel_rfl) (by kernel_rfl) rfl rfl (by decide) (Pu_fieldAddrB (off := 2) rfl rfl (by kernel_rfl)) (AH_take 9 rfl (by kernel_rfl) (by kernel_rfl) (by kernel_rfl) rfl rfl (by decide) (Pu_move rfl rfl) (AH_ready [3, 8] (by kernel_rfl) (by decide) ?_))))))))
                      refine AHs_cons rfl rfl rfl (by decide) (OpT_buildRows (r := 405) [bvC (setSl v131 ho131 b)] rfl rfl Try.runUnderlying32 Try.sizeOf40 Try.zeroValue40 rfl (by decide) rfl (by decide) (by intro r hr; simp at hr; rw [hr, bvC_length]) rfl (fun v136 => ⟨⟨rfl, ⟨rfl, ⟨rfl, trivial⟩⟩⟩, ?_⟩)) ?_
                      ·
                        refine (AH_ready [4, 8] (by kernel_rfl) (by decide) ?_)
                        refine AHs_cons rfl rfl rfl (by decide) (OpT_append (r := 204) (r2 := 405) rfl Try.underlying32 TI.hi40 TI.hz40 TI.hs40 TI.hby40 TI.hzs40 (by decide) rfl rfl rfl rfl (fun _ h => rowP_rd h) (by rw [List.flatten_cons, List.flatten_nil, List.append_nil]; exact bvC_one _) (by simp; unfold maxLen; omega) (by simp; omega) (fun v137 => ?_)) ?_
                        ·
                          refine ⟨⟨rfl, ⟨rfl, ⟨rfl, trivial⟩⟩⟩, ?_⟩
                          refine (AH_ready [8] (by kernel_rfl) (by decide) ?_)
                          refine AHs_cons rfl rfl rfl (by decide) (OpT_run (Pu_loadB (r := 400) rfl Try.isAgg32 rfl rfl rfl) ⟨⟨rfl, ⟨rfl, ⟨rfl, trivial⟩⟩⟩, ?_⟩) ?_
                          ·
                            refine (AH_take 10 rfl (by kernel_rfl) (by kernel_rfl) (by kernel_rfl) rfl rfl (by decide) (Pu_slice (r := 401) (a := x) (b := (sls ys).length) rfl Try.runUnderlying32 Try.sizeOf40 rfl rfl (fun _ h => rowP_rd h) (.inr ⟨_, _, _, rfl, rfl, rfl⟩) (.inl ⟨rfl, rfl⟩) (by omega) (Nat.le_refl _)) (AH_ready [11] (by kernel_rfl) (by decide) ?_))
                            refine AHs_cons rfl rfl rfl (by decide) (OpT_append (r := 204) (r2 := 401) rfl Try.underlying32 TI.hi40 TI.hz40 TI.hs40 TI.hby40 TI.hzs40 (by decide) rfl rfl rfl rfl (fun h hp => rdP_cast (rdP_sub (rowP_rd hp) (by omega) (by omega)) (sub_rows ys x ((sls ys).length - x)) rfl) (recC_ones bvC_one) (by simp; unfold maxLen; omega) (by simp; omega) (fun v144 => ?_)) ?_
                            ·
                              refine ⟨⟨rfl, ⟨rfl, ⟨rfl, trivial⟩⟩⟩, ?_⟩
                              refine AH_fact (r := 204) rfl (fun h hp => rd_one (rowP_rd hp)) (fun hoN => ?_)
                              refine (AH_take 12 rfl (by kernel_rfl) (by kernel_rfl) (by kernel_rfl) rfl rfl (by decide) (Pu_nilCheck rfl rfl) (AH_take 13 rfl (by kernel_rfl) (by kernel_rfl) (by kernel_rfl) rfl rfl (by decide) (Pu_fieldAddrB (off := 2) rfl rfl (by kernel_rfl)) (AH_ready [14] (by kernel_rfl) (by decide) ?_)))
                              refine AHs_cons0 rfl rfl rfl (OpT_storeB1 (r := 400) rfl Try.sizeOf32 rfl rfl rfl hoN (by simp) rfl ?_) ?_
                              ·
                                refine ⟨⟨rfl, ⟨rfl, ⟨rfl, trivial⟩⟩⟩, ?_⟩
                                refine (AH_done (by kernel_rfl) (X_then ?_))
                                refine W_seq ?_
                                refine W.pre (K' := [(0, _), (2, _), (4, _), (7, _), (8, _), (75, _), (116, _), (127, _)]) (L' := [(0, _), (101, _), (204, _), (400, _), (401, _), (402, _), (404, _), (405, _)]) ?_ ⟨rfl, ⟨rfl, ⟨rfl, ⟨rfl, ⟨rfl, ⟨rfl, ⟨rfl, ⟨rfl, trivial⟩⟩⟩⟩⟩⟩⟩⟩ ⟨rfl, ⟨rfl, ⟨rfl, ⟨rfl, ⟨rfl, ⟨rfl, ⟨rfl, ⟨rfl, trivial⟩⟩⟩⟩⟩⟩⟩⟩
                                refine W_regL (WL_pure rfl rfl (by decide) (Pu_assign rfl rfl) (WL_nil (X_then ?_)))
                                refine W_ret ?_
                                refine X_join [402, 404] 402 (datP (ys.take x ++ (((setSl v131 ho131 b), d) : EB) :: ys.drop x)) rfl (by decide) (fun h hs => dat_ins hs) ?_
                                have hz1 : (ys.drop (x)).take ((sls ys).length - (x)) = ys.drop (x) := List.take_of_length_le (by rw [List.length_drop]; omega)
                                refine X_turn (P' := rowB2 v144 (sls (ys.take x ++ (((setSl v131 ho131 b), d) : EB) :: ys.drop x))) 204 rfl (fun h hp => (congrFun (rowB2_of (sls (ys.take x ++ (((setSl v131 ho131 b), d) : EB) :: ys.drop x)) (by simp [sls] <;> omega) (by rw [hz1]; simp [sls, recC])) h).mp hp) ?_
                                exact X_ret [400, 204, 402] (Ps := [_, _, _]) (res1 Try.results20 rfl) rfl (by decide) ⟨v144, (ys.take x ++ (((setSl v131 ho131 b), d) : EB) :: ys.drop x), by rw [hP], hoN, by rw [hP]; exact ins_zs hpl, rfl⟩
                              exact AHs_nil
                            exact AHs_nil
                          exact AHs_nil
                        refine AHs_cons rfl rfl rfl (by decide) (OpT_run (Pu_loadB (r := 400) rfl Try.isAgg32 rfl rfl rfl) ⟨⟨rfl, ⟨rfl, ⟨rfl, trivial⟩⟩⟩, ?_⟩) ?_
                        ·
                          refine (AH_take 10 rfl (by kernel_rfl) (by kernel_rfl) (by kernel_rfl) rfl rfl (by decide) (Pu_slice (r := 401) (a := x) (b := (sls ys).length) rfl Try.runUnderlying32 Try.sizeOf40 rfl rfl (fun _ h => rowP_rd h) (.inr ⟨_, _, _, rfl, rfl, rfl⟩) (.inl ⟨rfl, rfl⟩) (by omega) (Nat.le_refl _)) (AH_ready [4] (by kernel_rfl) (by decide) ?_))
                          refine AHs_cons rfl rfl rfl (by decide) (OpT_append (r := 204) (r2 := 405) rfl Try.underlying32 TI.hi40 TI.hz40 TI.hs40 TI.hby40 TI.hzs40 (by decide) rfl rfl rfl rfl (fun _ h => rowP_rd h) (by rw [List.flatten_cons, List.flatten_nil, List.append_nil]; exact bvC_one _) (by simp; unfold maxLen; omega) (by simp; omega) (fun v137 => ?_)) ?_
                          ·
                            refine ⟨⟨rfl, ⟨rfl, ⟨rfl, trivial⟩⟩⟩, ?_⟩
                            refine (AH_ready [11] (by kernel_rfl) (by decide) ?_)
                            refine AHs_cons rfl rfl rfl (by decide) (OpT_append (r := 204) (r2 := 401) rfl Try.underlying32 TI.hi40 TI.hz40 TI.hs40 TI.hby40 TI.hzs40 (by decide) rfl rfl rfl rfl (fun h hp => rdP_cast (rdP_sub (rowP_rd hp) (by omega) (by omega)) (sub_rows ys x ((sls ys).length - x)) rfl) (recC_ones bvC_one) (by simp; unfold maxLen; omega) (by simp; omega) (fun v144 => ?_)) ?_
                            ·
                              refine ⟨⟨rfl, ⟨rfl, ⟨rfl, trivial⟩⟩⟩, ?_⟩
                              refine AH_fact (r := 204) rfl (fun h hp => rd_one (rowP_rd hp)) (fun hoN => ?_)
                              refine (AH_take 12 rfl (by kernel_rfl) (by kernel_rfl) (by kernel_rfl) rfl rfl (by decide) (Pu_nilCheck rfl rfl) (AH_take 13 rfl (by kernel_rfl) (by kernel_rfl) (by kernel_rfl) rfl rfl (by decide) (Pu_fieldAddrB (off := 2) rfl rfl (by kernel_rfl)) (AH_ready [14] (by kernel_rfl) (by decide) ?_)))
                              refine AHs_cons0 rfl rfl rfl (OpT_storeB1 (r := 400) rfl Try.sizeOf32 rfl rfl rfl hoN (by simp) rfl ?_) ?_
                              ·
                                refine ⟨⟨rfl, ⟨rfl, ⟨rfl, trivial⟩⟩⟩, ?_⟩
                                refine (AH_done (by kernel_rfl) (X_then ?_))
                                refine W_seq ?_
                                refine W.pre (K' := [(0, _), (2, _), (4, _), (7, _), (8, _), (75, _), (116, _), (127, _)]) (L' := [(0, _), (101, _), (204, _), (400, _), (401, _), (402, _), (404, _), (405, _)]) ?_ ⟨rfl, ⟨rfl, ⟨rfl, ⟨rfl, ⟨rfl, ⟨rfl, ⟨rfl, ⟨rfl, trivial⟩⟩⟩⟩⟩⟩⟩⟩ ⟨rfl, ⟨rfl, ⟨rfl, ⟨rfl, ⟨rfl, ⟨rfl, ⟨rfl, ⟨rfl, trivial⟩⟩⟩⟩⟩⟩⟩⟩
                                refine W_regL (WL_pure rfl rfl (by decide) (Pu_assign rfl rfl) (WL_nil (X_then ?_)))
                                refine W_ret ?_
                                refine X_join [402, 404] 402 (datP (ys.take x ++ (((setSl v131 ho131 b), d) : EB) :: ys.drop x)) rfl (by decide) (fun h hs => dat_ins hs) ?_
                                have hz1 : (ys.drop (x)).take ((sls ys).length - (x)) = ys.drop (x) := List.take_of_length_le (by rw [List.length_drop]; omega)
                                refine X_turn (P' := rowB2 v144 (sls (ys.take x ++ (((setSl v131 ho131 b), d) : EB) :: ys.drop x))) 204 rfl (fun h hp => (congrFun (rowB2_of (sls (ys.take x ++ (((setSl v131 ho131 b), d) : EB) :: ys.drop x)) (by simp [sls] <;> omega) (by rw [hz1]; simp [sls, recC])) h).mp hp) ?_
                                exact X_ret [400, 204, 402] (Ps := [_, _, _]) (res1 Try.results20 rfl) rfl (by decide) ⟨v144, (ys.take x ++ (((setSl v131 ho131 b), d) : EB) :: ys.drop x), by rw [hP], hoN, by rw [hP]; exact ins_zs hpl, rfl⟩
                              exact AHs_nil
                            exact AHs_nil
                          exact AHs_nil
                        exact AHs_nil
                      refine AHs_cons rfl rfl rfl (by decide) (OpT_run (Pu_loadB (r := 400) rfl Try.isAgg32 rfl rfl rfl) ⟨⟨rfl, ⟨rfl, ⟨rfl, trivial⟩⟩⟩, ?_⟩) ?_
                      ·
                        refine (AH_take 10 rfl (by kernel_rfl) (by kernel_rfl) (by kernel_rfl) rfl rfl (by decide) (Pu_slice (r := 401) (a := x) (b := (sls ys).length) rfl Try.runUnderlying32 Try.sizeOf40 rfl rfl (fun _ h => rowP_rd h) (.inr ⟨_, _, _, rfl, rfl, rfl⟩) (.inl ⟨rfl, rfl⟩) (by omega) (Nat.le_refl _)) (AH_ready [3] (by kernel_rfl) (by decide) ?_))
                        refine AHs_cons rfl rfl rfl (by decide) (OpT_buildRows (r := 405) [bvC (setSl v131 ho131 b)] rfl rfl Try.runUnderlying32 Try.sizeOf40 Try.zeroValue40 rfl (by decide) rfl (by decide) (by intro r hr; simp at hr; rw [hr, bvC_length]) rfl (fun v136 => ⟨⟨rfl, ⟨rfl, ⟨rfl, trivial⟩⟩⟩, ?_⟩)) ?_
                        ·
                          refine (AH_ready [4] (by kernel_rfl) (by decide) ?_)
                          refine AHs_cons rfl rfl rfl (by decide) (OpT_append (r := 204) (r2 := 405) rfl Try.underlying32 TI.hi40 TI.hz40 TI.hs40 TI.hby40 TI.hzs40 (by decide) rfl rfl rfl rfl (fun _ h => rowP_rd h) (by rw [List.flatten_cons, List.flatten_nil, List.append_nil]; exact bvC_one _) (by simp; unfold maxLen; omega) (by simp; omega) (fun v137 => ?_)) ?_
                          ·
                            refine ⟨⟨rfl, ⟨rfl, ⟨rfl, trivial⟩⟩⟩, ?_⟩
                            refine (AH_ready [11] (by kernel_rfl) (by decide) ?_)
                            refine AHs_cons rfl rfl rfl (by decide) (OpT_append (r := 204) (r2 := 401) rfl Try.underlying32 TI.hi40 TI.hz40 TI.hs40 TI.hby40 TI.hzs40 (by decide) rfl rfl rfl rfl (fun h hp => rdP_cast (rdP_sub (rowP_rd hp) (by omega) (by omega)) (sub_rows ys x ((sls ys).length - x)) rfl) (recC_ones bvC_one) (by simp; unfold maxLen; omega) (by simp; omega) (fun v144 => ?_)) ?_
                            ·
                              refine ⟨⟨rfl, ⟨rfl, ⟨rfl, trivial⟩⟩⟩, ?_⟩
                              refine AH_fact (r := 204) rfl (fun h hp => rd_one (rowP_rd hp)) (fun hoN => ?_)
                              refine (AH_take 12 rfl (by kernel_rfl) (by kernel_rfl) (by kernel_rfl) rfl rfl (by decide) (Pu_nilCheck rfl rfl) (AH_take 13 rfl (by kernel_rfl) (by kernel_rfl) (by kernel_rfl) rfl rfl (by decide) (Pu_fieldAddrB (off := 2) rfl rfl (by kernel_rfl)) (AH_ready [14] (by kernel_rfl) (by decide) ?_)))
                              refine AHs_cons0 rfl rfl rfl (OpT_storeB1 (r := 400) rfl Try.sizeOf32 rfl rfl rfl hoN (by simp) rfl ?_) ?_
                              ·
                                refine ⟨⟨rfl, ⟨rfl, ⟨rfl, trivial⟩⟩⟩, ?_⟩
                                refine (AH_done (by kernel_rfl) (X_then ?_))
                                refine W_seq ?_
                                refine W.pre (K' := [(0, _), (2, _), (4, _), (7, _), (8, _), (75, _), (116, _), (127, _)]) (L' := [(0, _), (101, _), (204, _), (400, _), (401, _), (402, _), (404, _), (405, _)]) ?_ ⟨rfl, ⟨rfl, ⟨rfl, ⟨rfl, ⟨rfl, ⟨rfl, ⟨rfl, ⟨rfl, trivial⟩⟩⟩⟩⟩⟩⟩⟩ ⟨rfl, ⟨rfl, ⟨rfl, ⟨rfl, ⟨rfl, ⟨rfl, ⟨rfl, ⟨rfl, trivial⟩⟩⟩⟩⟩⟩⟩⟩
                                refine W_regL (WL_pure rfl rfl (by decide) (Pu_assign rfl rfl) (WL_nil (X_then ?_)))
                                refine W_ret ?_
                                refine X_join [402, 404] 402 (datP (ys.take x ++ (((setSl v131 ho131 b), d) : EB) :: ys.drop x)) rfl (by decide) (fun h hs => dat_ins hs) ?_
                                have hz1 : (ys.drop (x)).take ((sls ys).length - (x)) = ys.drop (x) := List.take_of_length_le (by rw [List.length_drop]; omega)
                                refine X_turn (P' := rowB2 v144 (sls (ys.take x ++ (((setSl v131 ho131 b), d) : EB) :: ys.drop x))) 204 rfl (fun h hp => (congrFun (rowB2_of (sls (ys.take x ++ (((setSl v131 ho131 b), d) : EB) :: ys.drop x)) (by simp [sls] <;> omega) (by rw [hz1]; simp [sls, recC])) h).mp hp) ?_
                                exact X_ret [400, 204, 402] (Ps := [_, _, _]) (res1 Try.results20 rfl) rfl (by decide) ⟨v144, (ys.take x ++ (((setSl v131 ho131 b), d) : EB) :: ys.drop x), by rw [hP], hoN, by rw [hP]; exact ins_zs hpl, rfl⟩
                              exact AHs_nil
                            exact AHs_nil
                          exact AHs_nil
                        exact AHs_nil
                      exact AHs_nil
                  exact AHs_nil
                refine AHs_cons rfl rfl rfl (by decide) (OpT_run (Pu_loadB (r := 300) rfl Try.isAgg3 rfl rfl rfl) ⟨⟨rfl, ⟨rfl, trivial⟩⟩, ?_⟩) ?_
                ·
                  refine (AH_ready [1] (by kernel_rfl) (by decide) ?_)
                  refine AHs_cons rfl rfl rfl (by decide) (OpT_call 400 [0, 101, 204] [300, 301, 302] rfl Try.call25 rfl rfl rfl (by decide) (by decide) (refTotal_spec g room quota v2 ys (by omega) (by omega) _) (fun v118 Ps118 hR118 => ?_)) ?_
                  ·
                    obtain ⟨rfl, rfl⟩ := hR118
                    refine ⟨⟨rfl, ⟨rfl, trivial⟩⟩, ?_⟩
                    skip
                    refine (AH_take 5 rfl (by kernel_rfl) (by kernel_rfl) (by kernel_rfl) rfl rfl (by decide) (Pu_bin rfl rfl rfl (run_add _ _ _ _ _ (by omega))) (AH_take 10 rfl (by kernel_rfl) (by kernel_rfl) (by kernel_rfl) rfl rfl (by decide) (Pu_bin rfl rfl rfl (run_gtr _ _ _ _ _ _)) (AH_done (by kernel_rfl) (X_then ?_))))
                    refine W_cond rfl (fun hc127 => ?_) (fun hc127 => ?_)
                    ·
                      have hgt := of_decide_eq_true hc127
                      have hP : putA room quota (zs.map toBk) (toBk (b, d)) now = (16, ys.map toBk) := by
                        unfold putA
                        rw [if_neg hq1, if_neg hlen, toBk_key, ← hA]
                        simp only [hfn]
                        exact (if_neg (show ¬ quota - (usedA b.src (ys.map toBk) : Int) < (d.length : Int) by omega)).trans (if_pos (show room - (totA (ys.map toBk) : Int) < (d.length : Int) by omega))
                      refine W_seq ?_
                      refine W.pre (K' := [(0, _), (2, _), (4, _), (7, _), (8, _), (75, _), (116, _), (127, _)]) (L' := [(0, _), (101, _), (204, _), (400, _), (401, _), (402, _)]) ?_ ⟨rfl, ⟨rfl, ⟨rfl, ⟨rfl, ⟨rfl, ⟨rfl, ⟨rfl, ⟨rfl, trivial⟩⟩⟩⟩⟩⟩⟩⟩ ⟨rfl, ⟨rfl, ⟨rfl, ⟨rfl, ⟨rfl, ⟨rfl, trivial⟩⟩⟩⟩⟩⟩
                      refine W_regL (WL_pure rfl rfl (by decide) (Pu_assign rfl rfl) (WL_nil (X_then ?_)))
                      refine W_ret (X_then_ret ?_)
                      exact X_ret [400, 401, 402] (Ps := [_, _, _]) (res1 Try.results20 rfl) rfl (by decide) ⟨v2, ys, by rw [hP], hv2, by rw [hP], rfl⟩
                    ·
                      have hge2 := of_decide_eq_false hc127
                      have hP : putA room quota (zs.map toBk) (toBk (b, d)) now = (0, insA (toBk (b, d)) (ys.map toBk)) := by
                        unfold putA
                        rw [if_neg hq1, if_neg hlen, toBk_key, ← hA]
                        simp only [hfn]
                        exact (if_neg (show ¬ quota - (usedA b.src (ys.map toBk) : Int) < (d.length : Int) by omega)).trans (if_neg (show ¬ room - (totA (ys.map toBk) : Int) < (d.length : Int) by omega))
                      refine W_skip (X_then ?_)
                      refine W_seq ?_
                      refine W.pre (K' := [(0, _), (2, _), (4, _), (7, _), (8, _), (75, _), (116, _), (127, _)]) (L' := [(0, _), (101, _), (204, _), (400, _), (401, _), (402, _)]) ?_ ⟨rfl, ⟨rfl, ⟨rfl, ⟨rfl, ⟨rfl, ⟨rfl, ⟨rfl, ⟨rfl, trivial⟩⟩⟩⟩⟩⟩⟩⟩ ⟨rfl, ⟨rfl, ⟨rfl, ⟨rfl, ⟨rfl, ⟨rfl, trivial⟩⟩⟩⟩⟩⟩
                      refine W_regL (WL_cons rfl rfl (by decide) (OpT_buildOnes (r := 404) (bs []) rfl rfl Try.runUnderlying38 Try.sizeOf5 Try.zeroValue5 rfl rfl (by decide) rfl (bs_cells _) (fun v128 => (WL_pure rfl rfl (by decide) (Pu_fieldAddrB (off := 32) rfl rfl (by kernel_rfl)) (WL_pure rfl rfl (by decide) (Pu_loadB (r := 101) rfl Try.isAgg38 rfl rfl (bk_data b.len)) (WL_cons rfl rfl (by decide) (OpT_append (r := 404) (r2 := 0) rfl Try.underlying38 TI.hi5 TI.hz5 TI.hs5 TI.hby5 TI.hzs5 (by decide) rfl rfl rfl rfl hF (bs_one _) (by simp; unfold maxLen; omega) (by simp; omega) (fun v131 => ?_))))))))
                      refine WL_fact (r := 404) rfl (fun h hp => rd_one (rowP_rd hp)) (fun ho131 => ?_)
                      refine (WL_pure rfl rfl (by decide) (Pu_fieldAddrB (off := 32) rfl rfl (by kernel_rfl)) (WL_cons0 rfl rfl (OpT_storeB1 (r := 101) rfl Try.sizeOf38 rfl rfl rfl ho131 (by rw [bvC_length]; decide) (bk_set_data b.len _) ?_)))
                      refine (WL_nil (X_then ?_))
                      refine W_seq ?_
                      refine W.pre (K' := [(0, _), (2, _), (4, _), (7, _), (8, _), (75, _), (116, _), (127, _)]) (L' := [(0, _), (101, _), (204, _), (400, _), (401, _), (402, _), (404, _)]) ?_ ⟨rfl, ⟨rfl, ⟨rfl, ⟨rfl, ⟨rfl, ⟨rfl, ⟨rfl, ⟨rfl, trivial⟩⟩⟩⟩⟩⟩⟩⟩ ⟨rfl, ⟨rfl, ⟨rfl, ⟨rfl, ⟨rfl, ⟨rfl, ⟨rfl, trivial⟩⟩⟩⟩⟩⟩⟩
                      refine W_draw (N := 15) (by kernel_rfl) rfl [(0, _), (101, _), (401, _)] ⟨rfl, ⟨rfl, ⟨rfl, trivial⟩⟩⟩ ?_
                      refine (AH_take 0 rfl (by kernel_rfl) (by kernel_rfl) (by kernel_rfl) rfl rfl (by decide) (Pu_move rfl rfl) (AH_take 1 rfl (by kernel_rfl) (by kernel_rfl) (by kernel_rfl) rfl rfl (by decide) (Pu_move rfl rfl) (AH_take 2 rfl (by kernel_rfl) (by kernel_rfl) (by kernel_rfl) rfl rfl (by decide) (Pu_loadBN (r := 101) rfl Try.isAgg40 Try.sizeOf40 rfl rfl (bvC_length (setSl v131 ho131 b)) (load_all (bvC_length (setSl v131 ho131 b)))) (AH_take 5 rfl (by kernel_rfl) (by kernel_rfl) (by kernel_rfl) rfl rfl (by decide) (Pu_move rfl rfl) (AH_take 6 rfl (by kernel_rfl) (by kernel_rfl) (by kernel_rfl) rfl rfl (by decide) (Pu_nilCheck rfl rfl) (AH_take 7 rfl (by kernel_rfl) (by kernel_rfl) (by kernel_rfl) rfl rfl (by decide) (Pu_fieldAddrB (off := 2) rfl rfl (by kernel_rfl)) (AH_take 9 rfl (by kernel_rfl) (by kernel_rfl) (by kernel_rfl) rfl rfl (by decide) (Pu_move rfl rfl) (AH_ready [3, 8] (by kernel_rfl) (by decide) ?_))))))))
                      refine AHs_cons rfl rfl rfl (by decide) (OpT_buildRows (r := 405) [bvC (setSl v131 ho131 b)] rfl rfl Try.runUnderlying32 Try.sizeOf40 Try.zeroValue40 rfl (by decide) rfl (by decide) (by intro r hr; simp at hr; rw [hr, bvC_length]) rfl (fun v136 => ⟨⟨rfl, ⟨rfl, ⟨rfl, trivial⟩⟩⟩, ?_⟩)) ?_
                      ·
                        refine (AH_ready [4, 8] (by kernel_rfl) (by decide) ?_)
                        refine AHs_cons rfl rfl rfl (by decide) (OpT_append (r := 204) (r2 := 405) rfl Try.underlying32 TI.hi40 TI.hz40 TI.hs40 TI.hby40 TI.hzs40 (by decide) rfl rfl rfl rfl (fun _ h => rowP_rd h) (by rw [List.flatten_cons, List.flatten_nil, List.append_nil]; exact bvC_one _) (by simp; unfold maxLen; omega) (by simp; omega) (fun v137 => ?_)) ?_
                        ·
                          refine ⟨⟨rfl, ⟨rfl, ⟨rfl, trivial⟩⟩⟩, ?_⟩
                          refine (AH_ready [8] (by kernel_rfl) (by decide) ?_)
                          refine AHs_cons rfl rfl rfl (by decide) (OpT_run (Pu_loadB (r := 400) rfl Try.isAgg32 rfl rfl rfl) ⟨⟨rfl, ⟨rfl, ⟨rfl, trivial⟩⟩⟩, ?_⟩) ?_
                          ·
                            refine (AH_take 10 rfl (by kernel_rfl) (by kernel_rfl) (by kernel_rfl) rfl rfl (by decide) (Pu_slice (r := 401) (a := x) (b := (sls ys).length) rfl Try.runUnderlying32 Try.sizeOf40 rfl rfl (fun _ h => rowP_rd h) (.inr ⟨_, _, _, rfl, rfl, rfl⟩) (.inl ⟨rfl, rfl⟩) (by omega) (Nat.le_refl _)) (AH_ready [11] (by kernel_rfl) (by decide) ?_))
                            refine AHs_cons rfl rfl rfl (by decide) (OpT_append (r := 204) (r2 := 401) rfl Try.underlying32 TI.hi40 TI.hz40 TI.hs40 TI.hby40 TI.hzs40 (by decide) rfl rfl rfl rfl (fun h hp => rdP_cast (rdP_sub (rowP_rd hp) (by omega) (by omega)) (sub_rows ys x ((sls ys).length - x)) rfl) (recC_ones bvC_one) (by simp; unfold maxLen; omega) (by simp; omega) (fun v144 => ?_)) ?_
                            ·
                              refine ⟨⟨rfl, ⟨rfl, ⟨rfl, trivial⟩⟩⟩, ?_⟩
                              refine AH_fact (r := 204) rfl (fun h hp => rd_one (rowP_rd hp)) (fun hoN => ?_)
                              refine (AH_take 12 rfl (by kernel_rfl) (by kernel_rfl) (by kernel_rfl) rfl rfl (by decide) (Pu_nilCheck rfl rfl) (AH_take 13 rfl (by kernel_rfl) (by kernel_rfl) (by kernel_rfl) rfl rfl (by decide) (Pu_fieldAddrB (off := 2) rfl rfl (by kernel_rfl)) (AH_ready [14] (by kernel_rfl) (by decide) ?_)))
                              refine AHs_cons0 rfl rfl rfl (OpT_storeB1 (r := 400) rfl Try.sizeOf32 rfl rfl rfl hoN (by simp) rfl ?_) ?_
                              ·
                                refine ⟨⟨rfl, ⟨rfl, ⟨rfl, trivial⟩⟩⟩, ?_⟩
                                refine (AH_done (by kernel_rfl) (X_then ?_))
                                refine W_seq ?_
                                refine W.pre (K' := [(0, _), (2, _), (4, _), (7, _), (8, _), (75, _), (116, _), (127, _)]) (L' := [(0, _), (101, _), (204, _), (400, _), (401, _), (402, _), (404, _), (405, _)]) ?_ ⟨rfl, ⟨rfl, ⟨rfl, ⟨rfl, ⟨rfl, ⟨rfl, ⟨rfl, ⟨rfl, trivial⟩⟩⟩⟩⟩⟩⟩⟩ ⟨rfl, ⟨rfl, ⟨rfl, ⟨rfl, ⟨rfl, ⟨rfl, ⟨rfl, ⟨rfl, trivial⟩⟩⟩⟩⟩⟩⟩⟩
                                refine W_regL (WL_pure rfl rfl (by decide) (Pu_assign rfl rfl) (WL_nil (X_then ?_)))
                                refine W_ret ?_
                                refine X_join [402, 404] 402 (datP (ys.take x ++ (((setSl v131 ho131 b), d) : EB) :: ys.drop x)) rfl (by decide) (fun h hs => dat_ins hs) ?_
                                have hz1 : (ys.drop (x)).take ((sls ys).length - (x)) = ys.drop (x) := List.take_of_length_le (by rw [List.length_drop]; omega)
                                refine X_turn (P' := rowB2 v144 (sls (ys.take x ++ (((setSl v131 ho131 b), d) : EB) :: ys.drop x))) 204 rfl (fun h hp => (congrFun (rowB2_of (sls (ys.take x ++ (((setSl v131 ho131 b), d) : EB) :: ys.drop x)) (by simp [sls] <;> omega) (by rw [hz1]; simp [sls, recC])) h).mp hp) ?_
                                exact X_ret [400, 204, 402] (Ps := [_, _, _]) (res1 Try.results20 rfl) rfl (by decide) ⟨v144, (ys.take x ++ (((setSl v131 ho131 b), d) : EB) :: ys.drop x), by rw [hP], hoN, by rw [hP]; exact ins_zs hpl, rfl⟩
                              exact AHs_nil
                            exact AHs_nil
                          exact AHs_nil
                        refine AHs_cons rfl rfl rfl (by decide) (OpT_run (Pu_loadB (r := 400) rfl Try.isAgg32 rfl rfl rfl) ⟨⟨rfl, ⟨rfl, ⟨rfl, trivial⟩⟩⟩, ?_⟩) ?_
                        ·
                          refine (AH_take 10 rfl (by kernel_rfl) (by kernel_rfl) (by kernel_rfl) rfl rfl (by decide) (Pu_slice (r := 401) (a := x) (b := (sls ys).length) rfl Try.runUnderlying32 Try.sizeOf40 rfl rfl (fun _ h => rowP_rd h) (.inr ⟨_, _, _, rfl, rfl, rfl⟩) (.inl ⟨rfl, rfl⟩) (by omega) (Nat.le_refl _)) (AH_ready [4] (by kernel_rfl) (by decide) ?_))
                          refine AHs_cons rfl rfl rfl (by decide) (OpT_append (r := 204) (r2 := 405) rfl Try.underlying32 TI.hi40 TI.hz40 TI.hs40 TI.hby40 TI.hzs40 (by decide) rfl rfl rfl rfl (fun _ h => rowP_rd h) (by rw [List.flatten_cons, List.flatten_nil, List.append_nil]; exact bvC_one _) (by simp; unfold maxLen; omega) (by simp; omega) (fun v137 => ?_)) ?_
                          ·
                            refine ⟨⟨rfl, ⟨rfl, ⟨rfl, trivial⟩⟩⟩, ?_⟩
                            refine (AH_ready [11] (by kernel_rfl) (by decide) ?_)
                            refine AHs_cons rfl rfl rfl (by decide) (OpT_append (r := 204) (r2 := 401) rfl Try.underlying32 TI.hi40 TI.hz40 TI.hs40 TI.hby40 TI.hzs40 (by decide) rfl rfl rfl rfl (fun h hp => rdP_cast (rdP_sub (rowP_rd hp) (by omega) (by omega)) (sub_rows ys x ((sls ys).length - x)) rfl) (recC_ones bvC_one) (by simp; unfold maxLen; omega) (by simp; omega) (fun v144 => ?_)) ?_
                            ·
                              refine ⟨⟨rfl, ⟨rfl, ⟨rfl, trivial⟩⟩⟩, ?_⟩
                              refine AH_fact (r := 204) rfl (fun h hp => rd_one (rowP_rd hp)) (fun hoN => ?_)
                              refine (AH_take 12 rfl (by kernel_rfl) (by kernel_rfl) (by kernel_rfl) rfl rfl (by decide) (Pu_nilCheck rfl rfl) (AH_take 13 rfl (by kernel_rfl) (by kernel_rfl) (by kernel_rfl) rfl rfl (by decide) (Pu_fieldAddrB (off := 2) rfl rfl (by kernel_rfl)) (AH_ready [14] (by kernel_rfl) (by decide) ?_)))
                              refine AHs_cons0 rfl rfl rfl (OpT_storeB1 (r := 400) rfl Try.sizeOf32 rfl rfl rfl hoN (by simp) rfl ?_) ?_
                              ·
                                refine ⟨⟨rfl, ⟨rfl, ⟨rfl, trivial⟩⟩⟩, ?_⟩
                                refine (AH_done (by kernel_rfl) (X_then ?_))
                                refine W_seq ?_
                                refine W.pre (K' := [(0, _), (2, _), (4, _), (7, _), (8, _), (75, _), (116, _), (127, _)]) (L' := [(0, _), (101, _), (204, _), (400, _), (401, _), (402, _), (404, _), (405, _)]) ?_ ⟨rfl, ⟨rfl, ⟨rfl, ⟨rfl, ⟨rfl, ⟨rfl, ⟨rfl, ⟨rfl, trivial⟩⟩⟩⟩⟩⟩⟩⟩ ⟨rfl, ⟨rfl, ⟨rfl, ⟨rfl, ⟨rfl, ⟨rfl, ⟨rfl, ⟨rfl, trivial⟩⟩⟩⟩⟩⟩⟩⟩
                                refine W_regL (WL_pure rfl rfl (by decide) (Pu_assign rfl rfl) (WL_nil (X_then ?_)))
                                refine W_ret ?_
                                refine X_join [402, 404] 402 (datP (ys.take x ++ (((setSl v131 ho131 b), d) : EB) :: ys.drop x)) rfl (by decide) (fun h hs => dat_ins hs) ?_
                                have hz1 : (ys.drop (x)).take ((sls ys).length - (x)) = ys.drop (x) := List.take_of_length_le (by rw [List.length_drop]; omega)
                                refine X_turn (P' := rowB2 v144 (sls (ys.take x ++ (((setSl v131 ho131 b), d) : EB) :: ys.drop x))) 204 rfl (fun h hp => (congrFun (rowB2_of (sls (ys.take x ++ (((setSl v131 ho131 b), d) : EB) :: ys.drop x)) (by simp [sls] <;> omega) (by rw [hz1]; simp [sls, recC])) h).mp hp) ?_
                                exact X_ret [400, 204, 402] (Ps := [_, _, _]) (res1 Try.results20 rfl) rfl (by decide) ⟨v144, (ys.take x ++ (((setSl v131 ho131 b), d) : EB) :: ys.drop x), by rw [hP], hoN, by rw [hP]; exact ins_zs hpl, rfl⟩
                              exact AHs_nil
                            exact AHs_nil
                          exact AHs_nil
                        exact AHs_nil
                      refine AHs_cons rfl rfl rfl (by decide) (OpT_run (Pu_loadB (r := 400) rfl Try.isAgg32 rfl rfl rfl) ⟨⟨rfl, ⟨rfl, ⟨rfl, trivial⟩⟩⟩, ?_⟩) ?_
                      ·
                        refine (AH_take 10 rfl (by kernel_rfl) (by kernel_rfl) (by kernel_rfl) rfl rfl (by decide) (Pu_slice (r := 401) (a := x) (b := (sls ys).length) rfl Try.runUnderlying32 Try.sizeOf40 rfl rfl (fun _ h => rowP_rd h) (.inr ⟨_, _, _, rfl, rfl, rfl⟩) (.inl ⟨rfl, rfl⟩) (by omega) (Nat.le_refl _)) (AH_ready [3] (by kernel_rfl) (by decide) ?_))
                        refine AHs_cons rfl rfl rfl (by decide) (OpT_buildRows (r := 405) [bvC (setSl v131 ho131 b)] rfl rfl Try.runUnderlying32 Try.sizeOf40 Try.zeroValue40 rfl (by decide) rfl (by decide) (by intro r hr; simp at hr; rw [hr, bvC_length]) rfl (fun v136 => ⟨⟨rfl, ⟨rfl, ⟨rfl, trivial⟩⟩⟩, ?_⟩)) ?_
                        ·
                          refine (AH_ready [4] (by kernel_rfl) (by decide) ?_)
                          refine AHs_cons rfl rfl rfl (by decide) (OpT_append (r := 204) (r2 := 405) rfl Try.underlying32 TI.hi40 TI.hz40 TI.hs40 TI.hby40 TI.hzs40 (by decide) rfl rfl rfl rfl (fun _ h => rowP_rd h) (by rw [List.flatten_cons, List.flatten_nil, List.append_nil]; exact bvC_one _) (by simp; unfold maxLen; omega) (by simp; omega) (fun v137 => ?_)) ?_
                          ·
                            refine ⟨⟨rfl, ⟨rfl, ⟨rfl, trivial⟩⟩⟩, ?_⟩
                            refine (AH_ready [11] (by kernel_rfl) (by decide) ?_)
                            refine AHs_cons rfl rfl rfl (by decide) (OpT_append (r := 204) (r2 := 401) rfl Try.underlying32 TI.hi40 TI.hz40 TI.hs40 TI.hby40 TI.hzs40 (by decide) rfl rfl rfl rfl (fun h hp => rdP_cast (rdP_sub (rowP_rd hp) (by omega) (by omega)) (sub_rows ys x ((sls ys).length - x)) rfl) (recC_ones bvC_one) (by simp; unfold maxLen; omega) (by simp; omega) (fun v144 => ?_)) ?_
                            ·
                              refine ⟨⟨rfl, ⟨rfl, ⟨rfl, trivial⟩⟩⟩, ?_⟩
                              refine AH_fact (r := 204) rfl (fun h hp => rd_one (rowP_rd hp)) (fun hoN => ?_)
                              refine (AH_take 12 rfl (by kernel_rfl) (by kernel_rfl) (by kernel_rfl) rfl rfl (by decide) (Pu_nilCheck rfl rfl) (AH_take 13 rfl (by kernel_rfl) (by kernel_rfl) (by kernel_rfl) rfl rfl (by decide) (Pu_fieldAddrB (off := 2) rfl rfl (by kernel_rfl)) (AH_ready [14] (by kernel_rfl) (by decide) ?_)))
                              refine AHs_cons0 rfl rfl rfl (OpT_storeB1 (r := 400) rfl Try.sizeOf32 rfl rfl rfl hoN (by simp) rfl ?_) ?_
                              ·
                                refine ⟨⟨rfl, ⟨rfl, ⟨rfl, trivial⟩⟩⟩, ?_⟩
                                refine (AH_done (by kernel_rfl) (X_then ?_))
                                refine W_seq ?_
                                refine W.pre (K' := [(0, _), (2, _), (4, _), (7, _), (8, _), (75, _), (116, _), (127, _)]) (L' := [(0, _), (101, _), (204, _), (400, _), (401, _), (402, _), (404, _), (405, _)]) ?_ ⟨rfl, ⟨rfl, ⟨rfl, ⟨rfl, ⟨rfl, ⟨rfl, ⟨rfl, ⟨rfl, trivial⟩⟩⟩⟩⟩⟩⟩⟩ ⟨rfl, ⟨rfl, ⟨rfl, ⟨rfl, ⟨rfl, ⟨rfl, ⟨rfl, ⟨rfl, trivial⟩⟩⟩⟩⟩⟩⟩⟩
                                refine W_regL (WL_pure rfl rfl (by decide) (Pu_assign rfl rfl) (WL_nil (X_then ?_)))
                                refine W_ret ?_
                                refine X_join [402, 404] 402 (datP (ys.take x ++ (((setSl v131 ho131 b), d) : EB) :: ys.drop x)) rfl (by decide) (fun h hs => dat_ins hs) ?_
                                have hz1 : (ys.drop (x)).take ((sls ys).length - (x)) = ys.drop (x) := List.take_of_length_le (by rw [List.length_drop]; omega)
                                refine X_turn (P' := rowB2 v144 (sls (ys.take x ++ (((setSl v131 ho131 b), d) : EB) :: ys.drop x))) 204 rfl (fun h hp => (congrFun (rowB2_of (sls (ys.take x ++ (((setSl v131 ho131 b), d) : EB) :: ys.drop x)) (by simp [sls] <;> omega) (by rw [hz1]; simp [sls, recC])) h).mp hp) ?_
                                exact X_ret [400, 204, 402] (Ps := [_, _, _]) (res1 Try.results20 rfl) rfl (by decide) ⟨v144, (ys.take x ++ (((setSl v131 ho131 b), d) : EB) :: ys.drop x), by rw [hP], hoN, by rw [hP]; exact ins_zs hpl, rfl⟩
                              exact AHs_nil
                            exact AHs_nil
                          exact AHs_nil
                        exact AHs_nil
                      exact AHs_nil
                  exact AHs_nil
                exact AHs_nil
            exact AHs_nil
          exact AHs_nil
end Go.Proofs.Ytjopgnkffhfhkaa
