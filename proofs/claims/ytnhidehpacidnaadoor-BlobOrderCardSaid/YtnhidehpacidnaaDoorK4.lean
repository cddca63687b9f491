/- Texts of this proof, one behind the other: DirF, Open3, Open4, DirG, Dir2, DirH, LaidN. -/
import Derived.Test.YtnhidehpacidnaaDoorK3
import Derived.SizedLaws
import Derived.Test.YtnhidehpacidnaaDoorK2
import Derived.ChangeMaps5
import Derived.Test.YtnhidehpacidnaaDoorRows
import Derived.Lib.LaidU8
import Derived.Shelf.Vars
import Derived.MakeChecks
import Derived.ProofKit
/- Directories: the law of directories. -/
namespace Go.Proofs.YtnhidehpacidnaaDoor
open Go.RowKit Go.Lib
set_option linter.unusedVariables false
set_option linter.unusedSimpArgs false

theorem bs_set0 (l : List UInt8) (u : UInt8) (k : Nat) : (bs l).set k (bv u) = bs (l.set k u) := by simp [bs, List.map_set]
theorem two_at {a b : Value} {k : Nat} (h : k < 2) : [a, b][k]? = some ([a, b].getD k undef) := by
  have : k = 0 ∨ k = 1 := by omega
  rcases this with rfl | rfl <;> rfl
theorem blobDirs_law (v0 : Value) (ws : List Ent) (hEw : Ents ws) (v1 : Value) (qs : List Q) (node : List UInt8) (hnode : node.length = 32) (vat : Value) (at_ : List Int) (vby : Value) (by_ : List UInt8) (cut : Int) (hcut : -9223372036854775808 ≤ cut ∧ cut ≤ 9223372036854775807) (vr : Value) (raw : List UInt8)
    (F : HP) (hUp : Up F) (hW : ∀ h, F h → rdE v0 ws h) (hQ0 : ∀ h, F h → rdP 1 v1 qs.length (qs.map (·.1)) h) (hQ : ∀ q ∈ qs, ∀ h, F h → rdN q.1 q.2 h) (hAt : ∀ h, F h → rdN vat at_ h) (hBy : ∀ h, F h → rdB vby by_ h) (hRw : ∀ h, F h → rdB vr raw h) (hT : ∀ h, F h → tabsP h) :
    CallsS Tryd.prog 3 #[v0, v1, idV node, vat, vby, .int .i64 cut, vr] F [] (fun r Ps => r = .bool true ∧ Ps = []) := by
  refine callsS_enter Tryd.func3 rfl Tryd.ntmps3 (by simp) (fun E => ?_)
  refine W_seq ?_
  refine W.pre (K' := [(0, _), (1, _), (2, _), (3, _), (4, _), (5, _), (6, _)]) (L' := [(0, _)]) ?_ ⟨rfl, ⟨rfl, ⟨rfl, ⟨rfl, ⟨rfl, ⟨rfl, ⟨rfl, trivial⟩⟩⟩⟩⟩⟩⟩ ⟨rfl, trivial⟩
  refine W_regL (WL_cons rfl rfl (by decide) (OpT_box (r := 101) rfl rfl rfl (fun g101 => (WL_pure rfl rfl (by decide) (Pu_assign rfl rfl) (WL_nil (X_then ?_))))))
  refine W_seq ?_
  refine W_seq ?_
  refine W.pre (K' := [(0, _), (1, _), (2, _), (3, _), (4, _), (5, _), (6, _), (9, _), (14, _)]) (L' := [(0, _), (101, _)]) ?_ ⟨rfl, ⟨rfl, ⟨rfl, ⟨rfl, ⟨rfl, ⟨rfl, ⟨rfl, ⟨rfl, ⟨rfl, trivial⟩⟩⟩⟩⟩⟩⟩⟩⟩ ⟨rfl, ⟨rfl, trivial⟩⟩
  refine W_regL (WL_cons rfl rfl (by decide) (OpT_call 200 [0, 101] [] rfl Tryd.call5 rfl rfl rfl (by decide) (by decide) (known_spec _) (fun v31 Ps31 hR31 => ?_)))
  obtain ⟨rfl, rfl⟩ := hR31
  refine (WL_pure rfl rfl (by decide) (Pu_un rfl rfl (run_not _)) (WL_nil (X_then ?_)))
  refine W_false rfl (rfl) ?_
  refine W_skip (X_then ?_)
  refine W_seq ?_
  refine W_seq ?_
  refine W.pre (K' := [(0, _), (1, _), (2, _), (3, _), (4, _), (5, _), (6, _), (9, _), (14, _), (32, _)]) (L' := [(0, _), (101, _)]) ?_ ⟨rfl, ⟨rfl, ⟨rfl, ⟨rfl, ⟨rfl, ⟨rfl, ⟨rfl, ⟨rfl, ⟨rfl, ⟨rfl, trivial⟩⟩⟩⟩⟩⟩⟩⟩⟩⟩ ⟨rfl, ⟨rfl, trivial⟩⟩
  refine W_regL (WL_pure rfl rfl (by decide) (Pu_move rfl rfl) (WL_pure rfl rfl (by decide) (Pu_len (r := 0) rfl Tryd.runUnderlying22 rfl rfl hW) (WL_pure rfl rfl (by decide) (Pu_bin rfl rfl rfl (run_gtr _ _ _ _ _ _)) (WL_pure rfl rfl (by decide) (Pu_move rfl rfl) (WL_guardP rfl rfl rfl rfl (by decide) (fun hb => (Pu_move rfl rfl)) (WL_guardP rfl rfl rfl rfl (by decide) (fun hb => (Pu_len (r := 0) rfl Tryd.runUnderlying27 (ev_gv rfl hb) rfl hRw)) (WL_guardP rfl rfl rfl rfl (by decide) (fun hb => (Pu_bin rfl (ev_gv rfl hb) rfl (run_gtr _ _ _ _ _ _))) (WL_pure rfl rfl (by decide) (Pu_or rfl rfl rfl) (WL_pure rfl rfl (by decide) (Pu_move rfl rfl) (WL_guardP rfl rfl rfl rfl (by decide) (fun hb => (Pu_move rfl rfl)) (WL_guardP rfl rfl rfl rfl (by decide) (fun hb => (Pu_len (r := 0) rfl Tryd.runUnderlying23 (ev_gv rfl hb) rfl hQ0)) (WL_guardP rfl rfl rfl rfl (by decide) (fun hb => (Pu_bin rfl (ev_gv rfl hb) rfl (run_gtr _ _ _ _ _ _))) (WL_pure rfl rfl (by decide) (Pu_or rfl rfl rfl) (WL_nil (X_then ?_)))))))))))))))
  refine W_cond rfl (fun hc45 => ?_) (fun hc45 => ?_)
  ·
    refine W_seq ?_
    refine W.pre (K' := [(0, _), (1, _), (2, _), (3, _), (4, _), (5, _), (6, _), (9, _), (14, _), (32, _), (45, _)]) (L' := [(0, _), (101, _)]) ?_ ⟨rfl, ⟨rfl, ⟨rfl, ⟨rfl, ⟨rfl, ⟨rfl, ⟨rfl, ⟨rfl, ⟨rfl, ⟨rfl, ⟨rfl, trivial⟩⟩⟩⟩⟩⟩⟩⟩⟩⟩⟩ ⟨rfl, ⟨rfl, trivial⟩⟩
    refine W_regL (WL_pure rfl rfl (by decide) (Pu_assign rfl rfl) (WL_nil (X_then ?_)))
    refine W_ret (X_then_ret ?_)
    exact X_ret [] (Ps := []) (res1 Tryd.results3 rfl) rfl (by decide) ⟨rfl, rfl⟩
  ·
    simp only [Bool.or_eq_false_iff, decide_eq_false_iff_not] at hc45
    have hw25 : ws.length ≤ 25 := by omega
    have hr400 : raw.length ≤ 400 := by omega
    have hq22 : qs.length ≤ 22 := by omega
    refine W_skip (X_then ?_)
    refine W_seq ?_
    refine W_seq ?_
    refine W.pre (K' := [(0, _), (1, _), (2, _), (3, _), (4, _), (5, _), (6, _), (9, _), (14, _), (32, _), (45, _)]) (L' := [(0, _), (101, _)]) ?_ ⟨rfl, ⟨rfl, ⟨rfl, ⟨rfl, ⟨rfl, ⟨rfl, ⟨rfl, ⟨rfl, ⟨rfl, ⟨rfl, ⟨rfl, trivial⟩⟩⟩⟩⟩⟩⟩⟩⟩⟩⟩ ⟨rfl, ⟨rfl, trivial⟩⟩
    refine W_regL (WL_pure rfl rfl (by decide) (Pu_assign rfl rfl) (WL_nil (X_then ?_)))
    refine W_block ?_
    refine W_loop (α := Nat) (fun i => [(0, v0), (1, v1), (3, vat), (4, vby), (5, .int .i64 cut), (6, vr), (9, .pointer (some ⟨g101, 0, none⟩)), (15, .int .i64 (i : Int))]) (fun i => [(0, F), (101, blk g101 25 (bs node))]) (fun i => i ≤ ws.length ∧ ∀ k, k < i → (ws.getD k ent0).1.length ≤ 100) (fun i => ws.length - i) (0) ⟨Nat.zero_le _, fun k hk => by omega⟩ ⟨rfl, ⟨rfl, ⟨rfl, ⟨rfl, ⟨rfl, ⟨rfl, ⟨rfl, ⟨rfl, trivial⟩⟩⟩⟩⟩⟩⟩⟩ ⟨rfl, ⟨rfl, trivial⟩⟩ (fun x hx => ?_)
    obtain ⟨hxl, hmx⟩ := hx
    refine W_seq ?_
    refine W_seq ?_
    refine W.pre (K' := [(0, _), (1, _), (3, _), (4, _), (5, _), (6, _), (9, _), (15, _)]) (L' := [(0, _), (101, _)]) ?_ ⟨rfl, ⟨rfl, ⟨rfl, ⟨rfl, ⟨rfl, ⟨rfl, ⟨rfl, ⟨rfl, trivial⟩⟩⟩⟩⟩⟩⟩⟩ ⟨rfl, ⟨rfl, trivial⟩⟩
    refine W_regL (WL_pure rfl rfl (by decide) (Pu_move rfl rfl) (WL_pure rfl rfl (by decide) (Pu_move rfl rfl) (WL_pure rfl rfl (by decide) (Pu_len (r := 0) rfl Tryd.runUnderlying22 rfl rfl hW) (WL_pure rfl rfl (by decide) (Pu_bin rfl rfl rfl (run_lss _ _ _ _ _ _)) (WL_nil (X_then ?_))))))
    refine W_cond rfl (fun hc49 => ?_) (fun hc49 => ?_)
    ·
      have hlt : x < ws.length := by have := of_decide_eq_true hc49; omega
      refine W_skip (X_then ?_)
      refine W_seq ?_
      refine W_block ?_
      refine W_seq ?_
      refine W.pre (K' := [(0, _), (1, _), (3, _), (4, _), (5, _), (6, _), (9, _), (15, _), (49, _)]) (L' := [(0, _), (101, _)]) ?_ ⟨rfl, ⟨rfl, ⟨rfl, ⟨rfl, ⟨rfl, ⟨rfl, ⟨rfl, ⟨rfl, ⟨rfl, trivial⟩⟩⟩⟩⟩⟩⟩⟩⟩ ⟨rfl, ⟨rfl, trivial⟩⟩
      refine W_regL (WL_pure rfl rfl (by decide) (Pu_move rfl rfl) (WL_pure rfl rfl (by decide) (Pu_move rfl rfl) (WL_pure rfl rfl (by decide) (Pu_idxS (r := 0) rfl Tryd.runUnderlying22 Tryd.sizeOf30 rfl rfl rfl hW (by omega)) (WL_pure rfl rfl (by decide) (Pu_fieldAddrE (off := 0) rfl rfl (by kernel_rfl)) (WL_pure rfl rfl (by decide) (Pu_loadS (r := 0) rfl Tryd.isAgg9 rfl rfl hW (ent_name (k := x) hEw hlt)) (WL_pure rfl rfl (by decide) (Pu_lenStr rfl Tryd.underlying9 rfl) (WL_pure rfl rfl (by decide) (Pu_bin rfl rfl rfl (run_gtr _ _ _ _ _ _)) (WL_nil (X_then ?_)))))))))
      refine W_cond rfl (fun hc58 => ?_) (fun hc58 => ?_)
      ·
        refine W_seq ?_
        refine W.pre (K' := [(0, _), (1, _), (3, _), (4, _), (5, _), (6, _), (9, _), (15, _), (49, _), (58, _)]) (L' := [(0, _), (101, _)]) ?_ ⟨rfl, ⟨rfl, ⟨rfl, ⟨rfl, ⟨rfl, ⟨rfl, ⟨rfl, ⟨rfl, ⟨rfl, ⟨rfl, trivial⟩⟩⟩⟩⟩⟩⟩⟩⟩⟩ ⟨rfl, ⟨rfl, trivial⟩⟩
        refine W_regL (WL_pure rfl rfl (by decide) (Pu_assign rfl rfl) (WL_nil (X_then ?_)))
        refine W_ret (X_block_ret (X_then_ret (X_then_ret (X_block_ret (X_then_ret ?_)))))
        exact X_ret [] (Ps := []) (res1 Tryd.results3 rfl) rfl (by decide) ⟨rfl, rfl⟩
      ·
        have h100 : (ws.getD x ent0).1.length ≤ 100 := by have := of_decide_eq_false hc58; omega
        refine W_skip (X_block (X_then ?_))
        refine W.pre (K' := [(0, _), (1, _), (3, _), (4, _), (5, _), (6, _), (9, _), (15, _), (49, _), (58, _)]) (L' := [(0, _), (101, _)]) ?_ ⟨rfl, ⟨rfl, ⟨rfl, ⟨rfl, ⟨rfl, ⟨rfl, ⟨rfl, ⟨rfl, ⟨rfl, ⟨rfl, trivial⟩⟩⟩⟩⟩⟩⟩⟩⟩⟩ ⟨rfl, ⟨rfl, trivial⟩⟩
        refine W_regL (WL_pure rfl rfl (by decide) (Pu_move rfl rfl) (WL_pure rfl rfl (by decide) (Pu_bin rfl rfl rfl (run_add _ _ _ _ _ (by omega))) (WL_pure rfl rfl (by decide) (Pu_assign rfl rfl) (WL_nil ?_))))
        exact X_round (x + 1) ⟨hlt, fun k hk => by rcases Nat.lt_or_ge k x with h | h; exact hmx k h; obtain rfl : k = x := (by omega); exact h100⟩ (by omega) ⟨rfl, rfl, rfl, rfl, rfl, rfl, rfl, rfl, trivial⟩ ⟨rfl, rfl, trivial⟩
    ·
      have hge : ws.length ≤ x := by have := of_decide_eq_false hc49; omega
      have hw100 : ∀ e ∈ ws, e.1.length ≤ 100 := fun e he => by obtain ⟨k, hk, rfl⟩ := List.getElem_of_mem he; have := hmx k (by omega); simpa [List.getElem?_eq_getElem hk] using this
      refine W_exit (X_then_exit (X_then_exit (X_block_exit (X_then ?_))))
      refine W_seq ?_
      refine W.pre (K' := [(0, _), (1, _), (3, _), (4, _), (5, _), (6, _), (9, _), (15, _), (49, _)]) (L' := [(0, _), (101, _)]) ?_ ⟨rfl, ⟨rfl, ⟨rfl, ⟨rfl, ⟨rfl, ⟨rfl, ⟨rfl, ⟨rfl, ⟨rfl, trivial⟩⟩⟩⟩⟩⟩⟩⟩⟩ ⟨rfl, ⟨rfl, trivial⟩⟩
      refine W_regL (WL_pure rfl rfl (by decide) (Pu_assign rfl rfl) (WL_nil (X_then ?_)))
      refine W_seq ?_
      refine W_seq ?_
      refine W.pre (K' := [(0, _), (1, _), (3, _), (4, _), (5, _), (6, _), (9, _), (15, _), (16, _), (49, _)]) (L' := [(0, _), (101, _)]) ?_ ⟨rfl, ⟨rfl, ⟨rfl, ⟨rfl, ⟨rfl, ⟨rfl, ⟨rfl, ⟨rfl, ⟨rfl, ⟨rfl, trivial⟩⟩⟩⟩⟩⟩⟩⟩⟩⟩ ⟨rfl, ⟨rfl, trivial⟩⟩
      refine W_regL (WL_pure rfl rfl (by decide) (Pu_assign rfl rfl) (WL_nil (X_then ?_)))
      refine W_block ?_
      refine W_nilRow 201 30 33 ?_
      refine W_loop (α := Nat × Value × List Ent × List UInt8) (fun y => [(0, v0), (1, v1), (3, vat), (4, vby), (5, .int .i64 cut), (6, vr), (9, .pointer (some ⟨g101, 0, none⟩)), (16, y.2.1), (17, .int .i64 (y.1 : Int))]) (fun y => [(0, F), (101, blk g101 25 (bs y.2.2.2)), (201, rowE 30 y.2.1 y.2.2.1)]) (fun y => y.1 ≤ qs.length ∧ y.2.2.1.length ≤ y.1 ∧ Ents y.2.2.1 ∧ (∀ e ∈ y.2.2.1, e.1.length ≤ 100) ∧ y.2.2.2.length = 32) (fun y => qs.length - y.1) ((0, .slice none 0 0, [], node)) ⟨Nat.zero_le _, Nat.le_refl _, Ents.nil, fun e he => (by cases he), hnode⟩ ⟨rfl, ⟨rfl, ⟨rfl, ⟨rfl, ⟨rfl, ⟨rfl, ⟨rfl, ⟨rfl, ⟨rfl, trivial⟩⟩⟩⟩⟩⟩⟩⟩⟩ ⟨rfl, ⟨rfl, ⟨rfl, trivial⟩⟩⟩ (fun y hy => ?_)
      obtain ⟨hyl, hal, hEa, hn1, hnd⟩ := hy
      refine W_seq ?_
      refine W_seq ?_
      refine W.pre (K' := [(0, _), (1, _), (3, _), (4, _), (5, _), (6, _), (9, _), (16, _), (17, _)]) (L' := [(0, _), (101, _), (201, _)]) ?_ ⟨rfl, ⟨rfl, ⟨rfl, ⟨rfl, ⟨rfl, ⟨rfl, ⟨rfl, ⟨rfl, ⟨rfl, trivial⟩⟩⟩⟩⟩⟩⟩⟩⟩ ⟨rfl, ⟨rfl, ⟨rfl, trivial⟩⟩⟩
      refine W_regL (WL_pure rfl rfl (by decide) (Pu_move rfl rfl) (WL_pure rfl rfl (by decide) (Pu_move rfl rfl) (WL_pure rfl rfl (by decide) (Pu_len (r := 0) rfl Tryd.runUnderlying23 rfl rfl hQ0) (WL_pure rfl rfl (by decide) (Pu_bin rfl rfl rfl (run_lss _ _ _ _ _ _)) (WL_nil (X_then ?_))))))
      refine W_cond rfl (fun hc62 => ?_) (fun hc62 => ?_)
      ·
        have hlt : y.1 < qs.length := by have := of_decide_eq_true hc62; omega
        refine W_skip (X_then ?_)
        refine W_seq ?_
        refine W_block ?_
        refine W_seq ?_
        refine W.pre (K' := [(0, _), (1, _), (3, _), (4, _), (5, _), (6, _), (9, _), (16, _), (17, _), (62, _)]) (L' := [(0, _), (101, _), (201, _)]) ?_ ⟨rfl, ⟨rfl, ⟨rfl, ⟨rfl, ⟨rfl, ⟨rfl, ⟨rfl, ⟨rfl, ⟨rfl, ⟨rfl, trivial⟩⟩⟩⟩⟩⟩⟩⟩⟩⟩ ⟨rfl, ⟨rfl, ⟨rfl, trivial⟩⟩⟩
        refine W_regL (WL_pure rfl rfl (by decide) (Pu_move rfl rfl) (WL_pure rfl rfl (by decide) (Pu_move rfl rfl) (WL_pure rfl rfl (by decide) (Pu_idxS1 (r := 0) rfl Tryd.runUnderlying23 Tryd.sizeOf26 rfl rfl rfl hQ0 (by omega)) (WL_pure rfl rfl (by decide) (Pu_loadS (r := 0) rfl Tryd.isAgg26 rfl rfl hQ0 (vals_at hlt)) (WL_cons rfl rfl (by decide) (OpT_call 300 [0, 101, 201] [] rfl Tryd.call6 rfl rfl rfl (by decide) (by decide) (name_spec (qs.getD y.1 (undef, [])).1 (qs.getD y.1 (undef, [])).2 _ (rd_star 0 rfl (hQ _ (getD_memQ hlt)))) (fun v69 Ps69 hR69 => ?_)))))))
        obtain ⟨rfl, rfl⟩ := hR69
        refine (WL_pure rfl rfl (by decide) (Pu_assign rfl rfl) (WL_nil (X_then ?_)))
        refine W_seq ?_
        refine W.pre (K' := [(0, _), (1, _), (3, _), (4, _), (5, _), (6, _), (9, _), (16, _), (17, _), (18, _), (62, _)]) (L' := [(0, _), (101, _), (201, _)]) ?_ ⟨rfl, ⟨rfl, ⟨rfl, ⟨rfl, ⟨rfl, ⟨rfl, ⟨rfl, ⟨rfl, ⟨rfl, ⟨rfl, ⟨rfl, trivial⟩⟩⟩⟩⟩⟩⟩⟩⟩⟩⟩ ⟨rfl, ⟨rfl, ⟨rfl, trivial⟩⟩⟩
        refine W_regL (WL_pure rfl rfl (by decide) (Pu_move rfl rfl) (WL_pure rfl rfl (by decide) (Pu_len (r := 201) rfl Tryd.runUnderlying22 rfl rfl rowR_rd) (WL_pure rfl rfl (by decide) (Pu_bin rfl rfl rfl (run_eql _ _ _ _ _ _)) (WL_pure rfl rfl (by decide) (Pu_move rfl rfl) (WL_guardP rfl rfl rfl rfl (by decide) (fun hb => (Pu_move rfl rfl)) (WL_guardP rfl rfl rfl rfl (by decide) (fun hb => (Pu_move rfl rfl)) (WL_guardP rfl rfl rfl rfl (by decide) (fun hb => (Pu_len (r := 201) rfl Tryd.runUnderlying22 (ev_gv rfl hb) rfl rowR_rd)) (WL_guardP rfl rfl rfl rfl (by decide) (fun hb => (Pu_bin rfl (ev_gv rfl hb) rfl (run_sub _ _ _ _ _ (by have := of_decide_eq_false (beq_false_of hb); omega)))) (WL_guardP rfl rfl rfl rfl (by decide) (fun hb => (Pu_idxS (r := 201) rfl Tryd.runUnderlying22 Tryd.sizeOf30 (ev_gv rfl hb) (ev_gv rfl hb) rfl rowR_rd (by have := of_decide_eq_false (beq_false_of hb); omega))) (WL_guardP rfl rfl rfl rfl (by decide) (fun hb => (Pu_fieldAddrE (off := 0) rfl (ev_gv rfl hb) (by kernel_rfl))) (WL_guardP rfl rfl rfl rfl (by decide) (fun hb => (Pu_loadS (r := 201) rfl Tryd.isAgg9 (ev_gv rfl hb) rfl rowR_rd (by have h0 := of_decide_eq_false (beq_false_of hb); exact ent_nameZ hEa (k := y.2.2.1.length - 1) (by omega) (by omega)))) (WL_guardP rfl rfl rfl rfl (by decide) (fun hb => (Pu_move rfl rfl)) (WL_guardP rfl rfl rfl rfl (by decide) (fun hb => (Pu_bin rfl (ev_gv rfl hb) (ev_gv rfl hb) (run_lssStr _ _ _ _ _))) (WL_pure rfl rfl (by decide) (Pu_or rfl rfl rfl) (WL_nil (X_then ?_))))))))))))))))
        refine W_cond rfl (fun hc83 => ?_) (fun hc83 => ?_)
        ·
          refine W_seq ?_
          refine W.pre (K' := [(0, _), (1, _), (3, _), (4, _), (5, _), (6, _), (9, _), (16, _), (17, _), (18, _), (62, _), (83, _)]) (L' := [(0, _), (101, _), (201, _)]) ?_ ⟨rfl, ⟨rfl, ⟨rfl, ⟨rfl, ⟨rfl, ⟨rfl, ⟨rfl, ⟨rfl, ⟨rfl, ⟨rfl, ⟨rfl, ⟨rfl, trivial⟩⟩⟩⟩⟩⟩⟩⟩⟩⟩⟩⟩ ⟨rfl, ⟨rfl, ⟨rfl, trivial⟩⟩⟩
          refine W_regL (WL_pure rfl rfl (by decide) (Pu_idxA rfl Tryd.runUnderlying25 Tryd.sizeOf5 rfl rfl (by omega)) (WL_pure rfl rfl (by decide) (Pu_loadB (r := 101) rfl Tryd.isAgg5 rfl rfl (bs_at1 (k := 0) (by omega))) (WL_pure rfl rfl (by decide) (Pu_move rfl rfl) (WL_pure rfl rfl (by decide) (Pu_conv rfl rfl (conv_byte _ _ Tryd.runUnderlying3 Tryd.runUnderlying5)) (WL_pure rfl rfl (by decide) (Pu_bin rfl rfl rfl (run_addU8 _ _ _ _ _)) (WL_pure rfl rfl (by decide) (Pu_idxA rfl Tryd.runUnderlying25 Tryd.sizeOf5 rfl rfl (by omega)) (WL_cons0 rfl rfl (OpT_storeB1 (r := 101) rfl Tryd.sizeOf5 rfl rfl rfl rfl (by rw [bs_length]; show 0 < _; omega) (bs_set0 _ _ 0) ?_))))))))
          refine (WL_nil (X_then ?_))
          refine W.pre (K' := [(0, _), (1, _), (3, _), (4, _), (5, _), (6, _), (9, _), (16, _), (17, _), (18, _), (62, _), (83, _)]) (L' := [(0, _), (101, _), (201, _)]) ?_ ⟨rfl, ⟨rfl, ⟨rfl, ⟨rfl, ⟨rfl, ⟨rfl, ⟨rfl, ⟨rfl, ⟨rfl, ⟨rfl, ⟨rfl, ⟨rfl, trivial⟩⟩⟩⟩⟩⟩⟩⟩⟩⟩⟩⟩ ⟨rfl, ⟨rfl, ⟨rfl, trivial⟩⟩⟩
          unfold rowE rowR
          refine W_regL (WL_pure rfl rfl (by decide) (Pu_move rfl rfl) (WL_pure rfl rfl (by decide) (Pu_move rfl rfl) (WL_pure rfl rfl (by decide) (Pu_loadBN (r := 101) rfl Tryd.isAgg25 Tryd.sizeOf25 rfl rfl ((bs_length _).trans (by rw [List.length_set]; exact hnd)) (load_all ((bs_length _).trans (by rw [List.length_set]; exact hnd)))) (WL_pure rfl rfl (by decide) (Pu_build (V := .agg (entF (nameN (qs.getD y.1 (undef, [])).2, y.2.2.2.set 0 (at0 y.2.2.2 0 + byte (y.1 : Int)))).toArray) [(0, 1), (1, 32)] (entC [] zeroId) rfl rfl (by kernel_rfl) (by kernel_rfl) (.one rfl rfl (by simp [entC, bs_length, zeroId_length]) rfl (.many rfl ((bs_length _).trans (by rw [List.length_set]; exact hnd)) (by simp [entC, bs_length, zeroId_length]) rfl (.nil _))) (congrArg (fun q : List Value => Value.agg q.toArray) (ent_build (by rw [List.length_set]; exact hnd)))) (WL_cons rfl rfl (by decide) (OpT_buildRows (r := 301) [entF (nameN (qs.getD y.1 (undef, [])).2, y.2.2.2.set 0 (at0 y.2.2.2 0 + byte (y.1 : Int)))] rfl rfl Tryd.runUnderlying22 Tryd.sizeOf30 Tryd.zeroValue30 rfl (by decide) rfl (by decide) (by intro r hr; simp only [List.mem_cons, List.mem_nil_iff, or_false] at hr; rw [hr]; exact entC_length (by rw [List.length_set]; exact hnd)) rfl (fun v94 => (WL_cons rfl rfl (by decide) (OpT_append (r := 201) (r2 := 301) rfl Tryd.underlying22 TI.hi30 TI.hz30 TI.hs30 TI.hby30 TI.hzs30 (by decide) rfl rfl rfl rfl (fun _ h => rowP_rd h) (by rw [List.flatten_cons, List.flatten_nil, List.append_nil]; exact entF_one _) (by unfold maxLen; omega) (by omega) (fun v95 => ?_))))))))))
          refine (WL_pure rfl rfl (by decide) (Pu_assign rfl rfl) (WL_nil (X_block (X_then ?_))))
          refine W.pre (K' := [(0, _), (1, _), (3, _), (4, _), (5, _), (6, _), (9, _), (16, _), (17, _), (18, _), (62, _), (83, _)]) (L' := [(0, _), (101, _), (201, _), (301, _)]) ?_ ⟨rfl, ⟨rfl, ⟨rfl, ⟨rfl, ⟨rfl, ⟨rfl, ⟨rfl, ⟨rfl, ⟨rfl, ⟨rfl, ⟨rfl, ⟨rfl, trivial⟩⟩⟩⟩⟩⟩⟩⟩⟩⟩⟩⟩ ⟨rfl, ⟨rfl, ⟨rfl, ⟨rfl, trivial⟩⟩⟩⟩
          refine W_regL (WL_pure rfl rfl (by decide) (Pu_move rfl rfl) (WL_pure rfl rfl (by decide) (Pu_bin rfl rfl rfl (run_add _ _ _ _ _ (by omega))) (WL_pure rfl rfl (by decide) (Pu_assign rfl rfl) (WL_nil ?_))))
          exact X_round (y.1 + 1, v95, y.2.2.1 ++ [(nameN (qs.getD y.1 (undef, [])).2, y.2.2.2.set 0 (at0 y.2.2.2 0 + byte (y.1 : Int)))], y.2.2.2.set 0 (at0 y.2.2.2 0 + byte (y.1 : Int))) ⟨hlt, by simp; omega, hEa.snoc (by simp [hnd]), fun e he => by rcases List.mem_append.1 he with he | he; exact hn1 e he; simp at he; rw [he]; exact Nat.le_trans (nameN_len _) (by omega), by simp [hnd]⟩ (by dsimp only; omega) ⟨rfl, ⟨rfl, ⟨rfl, ⟨rfl, ⟨rfl, ⟨rfl, ⟨rfl, ⟨rfl, ⟨rfl, trivial⟩⟩⟩⟩⟩⟩⟩⟩⟩ ⟨rfl, rfl, look_eq rfl (rowR_of (y.2.2.1 ++ [(nameN (qs.getD y.1 (undef, [])).2, y.2.2.2.set 0 (at0 y.2.2.2 0 + byte (y.1 : Int)))]) (by simp) (by rw [recC_append, recC_one, List.flatten_cons, List.flatten_nil, List.append_nil])), trivial⟩
        ·
          refine W_skip (X_block (X_then ?_))
          refine W.pre (K' := [(0, _), (1, _), (3, _), (4, _), (5, _), (6, _), (9, _), (16, _), (17, _), (18, _), (62, _), (83, _)]) (L' := [(0, _), (101, _), (201, _)]) ?_ ⟨rfl, ⟨rfl, ⟨rfl, ⟨rfl, ⟨rfl, ⟨rfl, ⟨rfl, ⟨rfl, ⟨rfl, ⟨rfl, ⟨rfl, ⟨rfl, trivial⟩⟩⟩⟩⟩⟩⟩⟩⟩⟩⟩⟩ ⟨rfl, ⟨rfl, ⟨rfl, trivial⟩⟩⟩
          refine W_regL (WL_pure rfl rfl (by decide) (Pu_move rfl rfl) (WL_pure rfl rfl (by decide) (Pu_bin rfl rfl rfl (run_add _ _ _ _ _ (by omega))) (WL_pure rfl rfl (by decide) (Pu_assign rfl rfl) (WL_nil ?_))))
          exact X_round (y.1 + 1, y.2.1, y.2.2.1, y.2.2.2) ⟨hlt, by dsimp only; omega, hEa, hn1, hnd⟩ (by dsimp only; omega) ⟨rfl, ⟨rfl, ⟨rfl, ⟨rfl, ⟨rfl, ⟨rfl, ⟨rfl, ⟨rfl, ⟨rfl, trivial⟩⟩⟩⟩⟩⟩⟩⟩⟩ ⟨rfl, rfl, rfl, trivial⟩
      ·
        refine W_exit (X_then_exit (X_then_exit (X_block_exit (X_then ?_))))
        refine W_seq ?_
        refine W.pre (K' := [(0, _), (1, _), (3, _), (4, _), (5, _), (6, _), (9, _), (16, _), (17, _), (62, _)]) (L' := [(0, _), (101, _), (201, _)]) ?_ ⟨rfl, ⟨rfl, ⟨rfl, ⟨rfl, ⟨rfl, ⟨rfl, ⟨rfl, ⟨rfl, ⟨rfl, ⟨rfl, trivial⟩⟩⟩⟩⟩⟩⟩⟩⟩⟩ ⟨rfl, ⟨rfl, ⟨rfl, trivial⟩⟩⟩
        refine W_fact (r := 201) rfl (fun h hp => rd_one (rowR_rd h hp)) (fun hs16 => ?_)
        refine W_fact (r := 0) rfl (fun h hp => rd_one (hW h hp)) (fun hs0 => ?_)
        refine W_regL (WL_pure rfl rfl (by decide) (Pu_move rfl rfl) (WL_pure rfl rfl (by decide) (Pu_move rfl rfl) (WL_cons rfl rfl (by decide) (OpT_buildOnes (r := 202) [_, _] rfl rfl Tryd.runUnderlying32 Tryd.sizeOf22 Tryd.zeroValue22 rfl rfl (by decide) rfl (by intro u hu; simp only [List.mem_cons, List.not_mem_nil, or_false] at hu; rcases hu with rfl | rfl <;> (apply cells_one; assumption)) (fun v98 => (WL_pure rfl rfl (by decide) (Pu_assign rfl rfl) (WL_nil (X_then ?_))))))))
        refine W_seq ?_
        refine W_seq ?_
        refine W.pre (K' := [(0, _), (1, _), (3, _), (4, _), (5, _), (6, _), (9, _), (16, _), (17, _), (19, _), (62, _)]) (L' := [(0, _), (101, _), (201, _), (202, _)]) ?_ ⟨rfl, ⟨rfl, ⟨rfl, ⟨rfl, ⟨rfl, ⟨rfl, ⟨rfl, ⟨rfl, ⟨rfl, ⟨rfl, ⟨rfl, trivial⟩⟩⟩⟩⟩⟩⟩⟩⟩⟩⟩ ⟨rfl, ⟨rfl, ⟨rfl, ⟨rfl, trivial⟩⟩⟩⟩
        refine W_regL (WL_pure rfl rfl (by decide) (Pu_assign rfl rfl) (WL_nil (X_then ?_)))
        refine W_block ?_
        refine W_packU [0, 101, 201, 202] rfl (by decide) (fun G hG hGU => ?_)
        have hG1 : ∀ h, G h → rdP 1 v98 2 [y.2.1, v0] h := hG.rd 3 rfl (fun _ h => rowP_rd h)
        have hGF : ∀ h, G h → F h := hG.up 0 rfl hUp
        have hGe : ∀ i, i < 2 → (∀ h, G h → rdE ([y.2.1, v0].getD i undef) ([y.2.2.1, ws].getD i []) h) ∧ Ents ([y.2.2.1, ws].getD i []) ∧ ([y.2.2.1, ws].getD i []).length ≤ 25 ∧ ∀ e ∈ [y.2.2.1, ws].getD i [], e.1.length ≤ 100 := by
          intro i hi
          have : i = 0 ∨ i = 1 := by omega
          rcases this with rfl | rfl
          · exact ⟨hG.rd 2 rfl rowR_rd, hEa, by show y.2.2.1.length ≤ 25; omega, hn1⟩
          · exact ⟨fun h hg => hW h (hGF h hg), hEw, hw25, hw100⟩
        refine W_loop (α := Nat) (fun k => [(3, vat), (4, vby), (5, .int .i64 cut), (6, vr), (19, v98), (20, .int .i64 (k : Int))]) (fun k => [(0, G)]) (fun k => k ≤ 2) (fun k => 2 - k) (0) (by omega) ⟨rfl, ⟨rfl, ⟨rfl, ⟨rfl, ⟨rfl, ⟨rfl, trivial⟩⟩⟩⟩⟩⟩ ⟨rfl, trivial⟩ (fun z hz => ?_)
        refine W_seq ?_
        refine W_seq ?_
        refine W.pre (K' := [(3, _), (4, _), (5, _), (6, _), (19, _), (20, _)]) (L' := [(0, _)]) ?_ ⟨rfl, ⟨rfl, ⟨rfl, ⟨rfl, ⟨rfl, ⟨rfl, trivial⟩⟩⟩⟩⟩⟩ ⟨rfl, trivial⟩
        refine W_regL (WL_pure rfl rfl (by decide) (Pu_move rfl rfl) (WL_pure rfl rfl (by decide) (Pu_bin rfl rfl rfl (run_lss _ _ _ _ _ _)) (WL_nil (X_then ?_))))
        refine W_cond rfl (fun hc100 => ?_) (fun hc100 => ?_)
        ·
          have hlt2 : z < 2 := by have := of_decide_eq_true hc100; omega
          obtain ⟨he1, he2, he3, he4⟩ := hGe z hlt2
          obtain ⟨es, hes⟩ : ∃ es, [y.2.2.1, ws].getD z [] = es := ⟨_, rfl⟩
          obtain ⟨ve, hve⟩ : ∃ ve, [y.2.1, v0].getD z undef = ve := ⟨_, rfl⟩
          rw [hes] at he1 he2 he3 he4
          rw [hve] at he1
          have hRl := dirR_len he2
          refine W_skip (X_then ?_)
          refine W_seq ?_
          refine W_block ?_
          refine W_seq ?_
          refine W.pre (K' := [(3, _), (4, _), (5, _), (6, _), (19, _), (20, _), (100, _)]) (L' := [(0, _)]) ?_ ⟨rfl, ⟨rfl, ⟨rfl, ⟨rfl, ⟨rfl, ⟨rfl, ⟨rfl, trivial⟩⟩⟩⟩⟩⟩⟩ ⟨rfl, trivial⟩
          refine W_regL (WL_pure rfl rfl (by decide) (Pu_move rfl rfl) (WL_pure rfl rfl (by decide) (Pu_move rfl rfl) (WL_pure rfl rfl (by decide) (Pu_idxS1 (r := 0) rfl Tryd.runUnderlying32 Tryd.sizeOf22 rfl rfl rfl hG1 (by omega)) (WL_pure rfl rfl (by decide) (Pu_loadS (r := 0) rfl Tryd.isAgg22 rfl rfl hG1 ((two_at (k := z) hlt2).trans (congrArg some hve))) (WL_cons rfl rfl (by decide) (OpT_call 300 [0] [] rfl Tryd.call7 rfl rfl rfl (by decide) (by decide) (dir_spec ve es he2 (by omega) (fun e he => by have := he4 e he; omega) _ (rd_star 0 rfl he1) (tabs_star 0 rfl (fun h hp => hT h (hGF h hp)))) (fun v108 Ps108 hR108 => ?_)))))))
          obtain ⟨w22, rfl, rfl⟩ := hR108
          refine (WL_pure rfl rfl (by decide) (Pu_move rfl rfl) (WL_pure rfl rfl (by decide) (Pu_extract rfl rfl rfl) (WL_pure rfl rfl (by decide) (Pu_extract rfl rfl rfl) (WL_pure rfl rfl (by decide) (Pu_assign rfl rfl) (WL_pure rfl rfl (by decide) (Pu_assign rfl rfl) (WL_nil (X_then ?_)))))))
          refine W_seq ?_
          refine W.pre (K' := [(3, _), (4, _), (5, _), (6, _), (19, _), (20, _), (21, _), (22, _), (100, _)]) (L' := [(0, _), (300, _)]) ?_ ⟨rfl, ⟨rfl, ⟨rfl, ⟨rfl, ⟨rfl, ⟨rfl, ⟨rfl, ⟨rfl, ⟨rfl, trivial⟩⟩⟩⟩⟩⟩⟩⟩⟩ ⟨rfl, ⟨rfl, trivial⟩⟩
          refine W_regL (WL_pure rfl rfl (by decide) (Pu_move rfl rfl) (WL_pure rfl rfl (by decide) (Pu_move rfl rfl) (WL_pure rfl rfl (by decide) (Pu_idxS1 (r := 0) rfl Tryd.runUnderlying32 Tryd.sizeOf22 rfl rfl rfl hG1 (by omega)) (WL_pure rfl rfl (by decide) (Pu_loadS (r := 0) rfl Tryd.isAgg22 rfl rfl hG1 ((two_at (k := z) hlt2).trans (congrArg some hve))) (WL_cons rfl rfl (by decide) (OpT_call 400 [0, 300] [] rfl Tryd.call8 rfl rfl rfl (by decide) (by decide) (refDir_spec ve es he2 (by omega) (fun e he => by have := he4 e he; omega) _ (rd_star 0 rfl he1)) (fun v116 Ps116 hR116 => ?_)))))))
          obtain ⟨w23, rfl, rfl⟩ := hR116
          refine (WL_pure rfl rfl (by decide) (Pu_move rfl rfl) (WL_pure rfl rfl (by decide) (Pu_extract rfl rfl rfl) (WL_pure rfl rfl (by decide) (Pu_extract rfl rfl rfl) (WL_pure rfl rfl (by decide) (Pu_assign rfl rfl) (WL_pure rfl rfl (by decide) (Pu_assign rfl rfl) (WL_nil (X_then ?_)))))))
          refine W_seq ?_
          refine W_seq ?_
          refine W.pre (K' := [(3, _), (4, _), (5, _), (6, _), (19, _), (20, _), (21, _), (22, _), (23, _), (24, _), (100, _)]) (L' := [(0, _), (300, _), (400, _)]) ?_ ⟨rfl, ⟨rfl, ⟨rfl, ⟨rfl, ⟨rfl, ⟨rfl, ⟨rfl, ⟨rfl, ⟨rfl, ⟨rfl, ⟨rfl, trivial⟩⟩⟩⟩⟩⟩⟩⟩⟩⟩⟩ ⟨rfl, ⟨rfl, ⟨rfl, trivial⟩⟩⟩
          refine W_regL (WL_pure rfl rfl (by decide) (Pu_move rfl rfl) (WL_pure rfl rfl (by decide) (Pu_convBS (r := 300) rfl Tryd.underlying27 Tryd.underlying5 Tryd.underlying9 rfl rfl rowB_rd) (WL_pure rfl rfl (by decide) (Pu_move rfl rfl) (WL_pure rfl rfl (by decide) (Pu_convBS (r := 400) rfl Tryd.underlying27 Tryd.underlying5 Tryd.underlying9 rfl rfl rowB_rd) (WL_pure rfl rfl (by decide) (Pu_bin rfl rfl rfl (run_strNe _ _ _ _ _)) (WL_pure rfl rfl (by decide) (Pu_move rfl rfl) (WL_guardP rfl rfl rfl rfl (by decide) (fun hb => (Pu_move rfl rfl)) (WL_guardP rfl rfl rfl rfl (by decide) (fun hb => (Pu_move rfl rfl)) (WL_guardP rfl rfl rfl rfl (by decide) (fun hb => (Pu_bin rfl (ev_gv rfl hb) (ev_gv rfl hb) (run_neq _ _ _ _ _ _))) (WL_pure rfl rfl (by decide) (Pu_or rfl rfl rfl) (WL_nil (X_then ?_))))))))))))
          refine W_false rfl (by simp) ?_
          refine W_skip (X_then ?_)
          refine W_seq ?_
          refine W.pre (K' := [(3, _), (4, _), (5, _), (6, _), (19, _), (20, _), (21, _), (22, _), (23, _), (24, _), (100, _), (128, _)]) (L' := [(0, _), (300, _), (400, _)]) ?_ ⟨rfl, ⟨rfl, ⟨rfl, ⟨rfl, ⟨rfl, ⟨rfl, ⟨rfl, ⟨rfl, ⟨rfl, ⟨rfl, ⟨rfl, ⟨rfl, trivial⟩⟩⟩⟩⟩⟩⟩⟩⟩⟩⟩⟩ ⟨rfl, ⟨rfl, ⟨rfl, trivial⟩⟩⟩
          refine W_regL (WL_pure rfl rfl (by decide) (Pu_move rfl rfl) (WL_pure rfl rfl (by decide) (Pu_move rfl rfl) (WL_pure rfl rfl (by decide) (Pu_move rfl rfl) (WL_pure rfl rfl (by decide) (Pu_move rfl rfl) (WL_pure rfl rfl (by decide) (Pu_move rfl rfl) (WL_cons rfl rfl (by decide) (OpT_call 500 [0, 300, 400] [] rfl Tryd.call9 rfl rfl rfl (by decide) (by decide) (bend_spec _ _ _ _ (dirR es) at_ by_ cut raw _ (rd_star 2 rfl rowB_rd) (rd_star 0 rfl (fun h hp => hAt h (hGF h hp))) (rd_star 0 rfl (fun h hp => hBy h (hGF h hp))) (rd_star 0 rfl (fun h hp => hRw h (hGF h hp))) (by omega) (by omega) hcut) (fun v134 Ps134 hR134 => ?_))))))))
          obtain ⟨vx, vy, PX, rfl, hPX⟩ := hR134
          refine (WL_pure rfl rfl (by decide) (Pu_assign rfl rfl) (WL_nil (X_then ?_)))
          refine W_seq ?_
          refine W.pre (K' := [(3, _), (4, _), (5, _), (6, _), (19, _), (20, _), (21, _), (22, _), (23, _), (24, _), (25, _), (100, _), (128, _)]) (L' := [(0, _), (300, _), (400, _), (500, _), (501, _), (502, _)]) ?_ ⟨rfl, ⟨rfl, ⟨rfl, ⟨rfl, ⟨rfl, ⟨rfl, ⟨rfl, ⟨rfl, ⟨rfl, ⟨rfl, ⟨rfl, ⟨rfl, ⟨rfl, trivial⟩⟩⟩⟩⟩⟩⟩⟩⟩⟩⟩⟩⟩ ⟨rfl, ⟨rfl, ⟨rfl, ⟨rfl, ⟨rfl, ⟨rfl, trivial⟩⟩⟩⟩⟩⟩
          refine W_regL (WL_pure rfl rfl (by decide) (Pu_assign rfl rfl) (WL_nil (X_then ?_)))
          refine W_block ?_
          refine W_packU [0, 300, 400, 500, 501, 502] rfl (by decide) (fun H hH hHU => ?_)
          have hHG : ∀ h, H h → G h := hH.up 0 rfl hGU
          have hH1 : ∀ h, H h → rdP 1 v134 4 [vx, vy, vr, w23] h := hH.rd 3 rfl (fun _ h => rowP_rd h)
          have hbe := bent_len (dirR es) at_ by_ cut
          have hH2 : ∀ i, i < 4 → (∀ h, H h → rdB ([vx, vy, vr, w23].getD i undef) ([bentX (dirR es) at_ by_ cut, bentX (dirR es) at_ by_ cut ++ raw, raw, dirR es].getD i []) h) ∧ ([bentX (dirR es) at_ by_ cut, bentX (dirR es) at_ by_ cut ++ raw, raw, dirR es].getD i []).length ≤ 10000 := by
            intro i hi
            have : i = 0 ∨ i = 1 ∨ i = 2 ∨ i = 3 := by omega
            rcases this with rfl | rfl | rfl | rfl
            · exact ⟨hH.rd 4 rfl hPX, by show (bentX _ _ _ _).length ≤ _; omega⟩
            · exact ⟨hH.rd 5 rfl rowB_rd, by show (bentX _ _ _ _ ++ raw).length ≤ _; rw [List.length_append]; omega⟩
            · exact ⟨fun h hg => hRw h (hGF h (hHG h hg)), by show raw.length ≤ _; omega⟩
            · exact ⟨hH.rd 2 rfl rowB_rd, by show (dirR es).length ≤ _; omega⟩
          refine W_loop (α := Nat) (fun k => [(3, vat), (4, vby), (5, .int .i64 cut), (6, vr), (19, v98), (20, .int .i64 (z : Int)), (22, .int .i64 (dirE es : Int)), (25, v134), (26, .int .i64 (k : Int))]) (fun k => [(0, H)]) (fun k => k ≤ 4) (fun k => 4 - k) (0) (by omega) ⟨rfl, ⟨rfl, ⟨rfl, ⟨rfl, ⟨rfl, ⟨rfl, ⟨rfl, ⟨rfl, ⟨rfl, trivial⟩⟩⟩⟩⟩⟩⟩⟩⟩ ⟨rfl, trivial⟩ (fun u hu => ?_)
          refine W_seq ?_
          refine W_seq ?_
          refine W.pre (K' := [(3, _), (4, _), (5, _), (6, _), (19, _), (20, _), (22, _), (25, _), (26, _)]) (L' := [(0, _)]) ?_ ⟨rfl, ⟨rfl, ⟨rfl, ⟨rfl, ⟨rfl, ⟨rfl, ⟨rfl, ⟨rfl, ⟨rfl, trivial⟩⟩⟩⟩⟩⟩⟩⟩⟩ ⟨rfl, trivial⟩
          refine W_regL (WL_pure rfl rfl (by decide) (Pu_move rfl rfl) (WL_pure rfl rfl (by decide) (Pu_move rfl rfl) (WL_pure rfl rfl (by decide) (Pu_len (r := 0) rfl Tryd.runUnderlying38 rfl rfl hH1) (WL_pure rfl rfl (by decide) (Pu_bin rfl rfl rfl (run_lss _ _ _ _ _ _)) (WL_nil (X_then ?_))))))
          refine W_cond rfl (fun hc138 => ?_) (fun hc138 => ?_)
          ·
            have hlt4 : u < 4 := by have := of_decide_eq_true hc138; omega
            obtain ⟨hb1, hb2⟩ := hH2 u hlt4
            refine W_skip (X_then ?_)
            refine W_seq ?_
            refine W_block ?_
            refine W_seq ?_
            refine W.pre (K' := [(3, _), (4, _), (5, _), (6, _), (19, _), (20, _), (22, _), (25, _), (26, _), (138, _)]) (L' := [(0, _)]) ?_ ⟨rfl, ⟨rfl, ⟨rfl, ⟨rfl, ⟨rfl, ⟨rfl, ⟨rfl, ⟨rfl, ⟨rfl, ⟨rfl, trivial⟩⟩⟩⟩⟩⟩⟩⟩⟩⟩ ⟨rfl, trivial⟩
            refine W_regL (WL_pure rfl rfl (by decide) (Pu_move rfl rfl) (WL_pure rfl rfl (by decide) (Pu_move rfl rfl) (WL_pure rfl rfl (by decide) (Pu_idxS1 (r := 0) rfl Tryd.runUnderlying38 Tryd.sizeOf27 rfl rfl rfl hH1 (by omega)) (WL_pure rfl rfl (by decide) (Pu_loadS (r := 0) rfl Tryd.isAgg27 rfl rfl hH1 (four_at (k := u) hlt4)) (WL_cons rfl rfl (by decide) (OpT_call 600 [0] [] rfl Tryd.call10 rfl rfl rfl (by decide) (by decide) (parseDir_spec _ ([bentX (dirR es) at_ by_ cut, bentX (dirR es) at_ by_ cut ++ raw, raw, dirR es].getD u []) (by omega) _ (rd_star 0 rfl hb1) (tabs_star 0 rfl (fun h hp => hT h (hGF h (hHG h hp))))) (fun v146 Ps146 hR146 => ?_)))))))
            obtain ⟨w30, rfl, rfl⟩ := hR146
            refine (WL_pure rfl rfl (by decide) (Pu_move rfl rfl) (WL_pure rfl rfl (by decide) (Pu_extract rfl rfl rfl) (WL_pure rfl rfl (by decide) (Pu_extract rfl rfl rfl) (WL_pure rfl rfl (by decide) (Pu_assign rfl rfl) (WL_pure rfl rfl (by decide) (Pu_assign rfl rfl) (WL_nil (X_then ?_)))))))
            refine W_seq ?_
            refine W.pre (K' := [(3, _), (4, _), (5, _), (6, _), (19, _), (20, _), (22, _), (25, _), (26, _), (27, _), (28, _), (138, _)]) (L' := [(0, _), (600, _)]) ?_ ⟨rfl, ⟨rfl, ⟨rfl, ⟨rfl, ⟨rfl, ⟨rfl, ⟨rfl, ⟨rfl, ⟨rfl, ⟨rfl, ⟨rfl, ⟨rfl, trivial⟩⟩⟩⟩⟩⟩⟩⟩⟩⟩⟩⟩ ⟨rfl, ⟨rfl, trivial⟩⟩
            refine W_regL (WL_pure rfl rfl (by decide) (Pu_move rfl rfl) (WL_pure rfl rfl (by decide) (Pu_move rfl rfl) (WL_pure rfl rfl (by decide) (Pu_idxS1 (r := 0) rfl Tryd.runUnderlying38 Tryd.sizeOf27 rfl rfl rfl hH1 (by omega)) (WL_pure rfl rfl (by decide) (Pu_loadS (r := 0) rfl Tryd.isAgg27 rfl rfl hH1 (four_at (k := u) hlt4)) (WL_cons rfl rfl (by decide) (OpT_call 700 [0, 600] [] rfl Tryd.call11 rfl rfl rfl (by decide) (by decide) (refParseDir_spec _ ([bentX (dirR es) at_ by_ cut, bentX (dirR es) at_ by_ cut ++ raw, raw, dirR es].getD u []) (by omega) _ (rd_star 0 rfl hb1)) (fun v154 Ps154 hR154 => ?_)))))))
            obtain ⟨w31, rfl, rfl⟩ := hR154
            refine (WL_pure rfl rfl (by decide) (Pu_move rfl rfl) (WL_pure rfl rfl (by decide) (Pu_extract rfl rfl rfl) (WL_pure rfl rfl (by decide) (Pu_extract rfl rfl rfl) (WL_pure rfl rfl (by decide) (Pu_assign rfl rfl) (WL_pure rfl rfl (by decide) (Pu_assign rfl rfl) (WL_nil (X_then ?_)))))))
            refine W_seq ?_
            refine W.pre (K' := [(3, _), (4, _), (5, _), (6, _), (19, _), (20, _), (22, _), (25, _), (26, _), (27, _), (28, _), (29, _), (30, _), (138, _)]) (L' := [(0, _), (600, _), (700, _)]) ?_ ⟨rfl, ⟨rfl, ⟨rfl, ⟨rfl, ⟨rfl, ⟨rfl, ⟨rfl, ⟨rfl, ⟨rfl, ⟨rfl, ⟨rfl, ⟨rfl, ⟨rfl, ⟨rfl, trivial⟩⟩⟩⟩⟩⟩⟩⟩⟩⟩⟩⟩⟩⟩ ⟨rfl, ⟨rfl, ⟨rfl, trivial⟩⟩⟩
            have hpl := par_len _ ([bentX (dirR es) at_ by_ cut, bentX (dirR es) at_ by_ cut ++ raw, raw, dirR es].getD u []) [] (Nat.le_refl _)
            refine W_regL (WL_pure rfl rfl (by decide) (Pu_move rfl rfl) (WL_pure rfl rfl (by decide) (Pu_move rfl rfl) (WL_cons rfl rfl (by decide) (OpT_call 800 [0, 600, 700] [] rfl Tryd.call12 rfl rfl rfl (by decide) (by decide) (entries_spec _ _ _ _ (hpl.2 Ents.nil) (hpl.2 Ents.nil) (by have := hpl.1; simp only [List.length_nil] at this; omega) _ (rd_star 1 rfl rowR_rd) (rd_star 2 rfl rowR_rd)) (fun v159 Ps159 hR159 => ?_)))))
            obtain ⟨rfl, rfl⟩ := hR159
            refine (WL_pure rfl rfl (by decide) (Pu_un rfl rfl (run_not _)) (WL_pure rfl rfl (by decide) (Pu_move rfl rfl) (WL_guardP rfl rfl rfl rfl (by decide) (fun hb => (Pu_move rfl rfl)) (WL_guardP rfl rfl rfl rfl (by decide) (fun hb => (Pu_move rfl rfl)) (WL_guardP rfl rfl rfl rfl (by decide) (fun hb => (Pu_bin rfl (ev_gv rfl hb) (ev_gv rfl hb) (run_neq _ _ _ _ _ _))) (WL_pure rfl rfl (by decide) (Pu_or rfl rfl rfl) (WL_pure rfl rfl (by decide) (Pu_move rfl rfl) (WL_guardP rfl rfl rfl rfl (by decide) (fun hb => (Pu_move rfl rfl)) (WL_guardP rfl rfl rfl rfl (by decide) (fun hb => (Pu_bin rfl (ev_gv rfl hb) rfl (run_eql _ _ _ _ _ _))) (WL_guardP rfl rfl rfl rfl (by decide) (fun hb => (Pu_move rfl (ev_gv rfl hb))) (WL_guardP2 rfl rfl rfl rfl (by decide) (fun hb => (Pu_move rfl rfl)) (WL_guardP2 rfl rfl rfl rfl (by decide) (fun hb => (Pu_bin rfl (ev_gv rfl hb) rfl (run_eql _ _ _ _ _ _))) (WL_guardP rfl rfl rfl rfl (by decide) (fun hb => (Pu_and2 hb rfl (ev_gv rfl hb) rfl)) (WL_guardP rfl rfl rfl rfl (by decide) (fun hb => (Pu_move rfl (ev_gv rfl hb))) (WL_guardP2 rfl rfl rfl rfl (by decide) (fun hb => (Pu_move rfl rfl)) (WL_guardP2 rfl rfl rfl rfl (by decide) (fun hb => (Pu_move rfl rfl)) (WL_guardP2 rfl rfl rfl rfl (by decide) (fun hb => (Pu_move rfl rfl)) (WL_guardP2 rfl rfl rfl rfl (by decide) (fun hb => (Pu_idxS1 (r := 0) rfl Tryd.runUnderlying32 Tryd.sizeOf22 (ev_gv rfl hb) (ev_gv rfl hb) rfl (fun h hp => hG1 h (hHG h hp)) (by omega))) (WL_guardP2 rfl rfl rfl rfl (by decide) (fun hb => (Pu_loadS (r := 0) rfl Tryd.isAgg22 (ev_gv rfl hb) rfl (fun h hp => hG1 h (hHG h hp)) ((two_at (k := z) hlt2).trans (congrArg some hve)))) (WL_guard2 (V := .bool ((par ([bentX (dirR es) at_ by_ cut, bentX (dirR es) at_ by_ cut ++ raw, raw, dirR es].getD u []) []).1 == es)) rfl rfl rfl rfl (by decide) (fun hb => (OpT_call 900 [0, 600, 700] [] rfl Tryd.call12 (evL_cons (ev_gv rfl hb) (evL_cons (ev_gv rfl hb) evL_nil)) rfl rfl (by decide) (by decide) (entries_spec _ ve _ es (hpl.2 Ents.nil) he2 (by have := hpl.1; simp only [List.length_nil] at this; omega) _ (rd_star 1 rfl rowR_rd) (rd_star 0 rfl (fun h hp => he1 h (hHG h hp)))) (fun v179 Ps179 hR179 => ⟨hR179.1, fun w hw => by rw [hR179.2] at hw; exact hw.sub (AllIn.look ⟨rfl, rfl, rfl, trivial⟩)⟩))) ?_))))))))))))))))))))
            refine (WL_guardP2 rfl rfl rfl rfl (by decide) (fun hb => (Pu_un rfl (ev_gv rfl hb) (run_not _))) (WL_guardP rfl rfl rfl rfl (by decide) (fun hb => (Pu_and2 hb rfl (ev_gv rfl hb) rfl)) (WL_pure rfl rfl (by decide) (Pu_or rfl rfl rfl) (WL_nil (X_then ?_)))))
            refine W_false rfl (dirs_end he2 (rows := [bentX (dirR es) at_ by_ cut, bentX (dirR es) at_ by_ cut ++ raw, raw, dirR es]) rfl _ rfl) ?_
            refine W_skip (X_block (X_then ?_))
            refine W.pre (K' := [(3, _), (4, _), (5, _), (6, _), (19, _), (20, _), (22, _), (25, _), (26, _), (27, _), (28, _), (29, _), (30, _), (138, _), (182, _)]) (L' := [(0, _), (600, _), (700, _)]) ?_ ⟨rfl, ⟨rfl, ⟨rfl, ⟨rfl, ⟨rfl, ⟨rfl, ⟨rfl, ⟨rfl, ⟨rfl, ⟨rfl, ⟨rfl, ⟨rfl, ⟨rfl, ⟨rfl, ⟨rfl, trivial⟩⟩⟩⟩⟩⟩⟩⟩⟩⟩⟩⟩⟩⟩⟩ ⟨rfl, ⟨rfl, ⟨rfl, trivial⟩⟩⟩
            refine W_regL (WL_pure rfl rfl (by decide) (Pu_move rfl rfl) (WL_pure rfl rfl (by decide) (Pu_bin rfl rfl rfl (run_add _ _ _ _ _ (by omega))) (WL_pure rfl rfl (by decide) (Pu_assign rfl rfl) (WL_nil ?_))))
            exact X_round (u + 1) (by omega) (by omega) ⟨rfl, ⟨rfl, ⟨rfl, ⟨rfl, ⟨rfl, ⟨rfl, ⟨rfl, ⟨rfl, ⟨rfl, trivial⟩⟩⟩⟩⟩⟩⟩⟩⟩ ⟨rfl, trivial⟩
          ·
            refine W_exit (X_then_exit (X_then_exit (X_block_exit (X_block (X_then ?_)))))
            refine W.pre (K' := [(3, _), (4, _), (5, _), (6, _), (19, _), (20, _), (22, _), (25, _), (26, _), (138, _)]) (L' := [(0, _)]) ?_ ⟨rfl, ⟨rfl, ⟨rfl, ⟨rfl, ⟨rfl, ⟨rfl, ⟨rfl, ⟨rfl, ⟨rfl, ⟨rfl, trivial⟩⟩⟩⟩⟩⟩⟩⟩⟩⟩ ⟨rfl, trivial⟩
            refine W_regL (WL_pure rfl rfl (by decide) (Pu_move rfl rfl) (WL_pure rfl rfl (by decide) (Pu_bin rfl rfl rfl (run_add _ _ _ _ _ (by omega))) (WL_pure rfl rfl (by decide) (Pu_assign rfl rfl) (WL_nil ?_))))
            refine X_turn 0 rfl hHG ?_
            exact X_round (z + 1) (by omega) (by omega) ⟨rfl, rfl, rfl, rfl, rfl, rfl, trivial⟩ ⟨rfl, trivial⟩
        ·
          refine W_exit (X_then_exit (X_then_exit (X_block_exit (X_then ?_))))
          refine W_seq ?_
          refine W.pre (K' := [(3, _), (4, _), (5, _), (6, _), (19, _), (20, _), (100, _)]) (L' := [(0, _)]) ?_ ⟨rfl, ⟨rfl, ⟨rfl, ⟨rfl, ⟨rfl, ⟨rfl, ⟨rfl, trivial⟩⟩⟩⟩⟩⟩⟩ ⟨rfl, trivial⟩
          refine W_regL (WL_pure rfl rfl (by decide) (Pu_assign rfl rfl) (WL_nil (X_then ?_)))
          refine W_ret ?_
          refine X_turn 0 rfl hGF ?_
          exact X_ret [] (Ps := []) (res1 Tryd.results3 rfl) rfl (by decide) ⟨rfl, rfl⟩
end Go.Proofs.YtnhidehpacidnaaDoor
/- How long an argument may be: the reach. -/
namespace Go.Proofs.YtnhidehpacidnaaDoor
open Go.RowKit Go.ChangeShapes Go.WideShapes Go.Deep
set_option linter.unusedVariables false
section
variable {H : Type} {enc : TypeId × Value → H} {P : Program} {w : World} {base : Nat} {spare : Nat → Bool} {held : Bool}
theorem sz_slice {t e : TypeId} {fuel : Nat} {v : Value} {d : DataW H} {ps : List MemPlace} (ht : P.underlying t = some (.slice e)) (h : DataW.trod enc P w base spare held fuel t [v] = some (d, ps)) (hb : 1 ≤ P.bytesOf e) (hw : ∀ n ∈ d.weights P t, n ≤ reachBytes)
    {n size : Nat} {xs : List Value} (hr : Rd w size v n xs) : n ≤ 140737488351232 := by
  obtain ⟨_, A, c, hv, _⟩ := hr
  rcases open_slice ht h with ⟨h1, _⟩ | ⟨a, len, cap, m, k, D, Pl, h1, hb2, hl, hm, hmm, hx, hi⟩
  · injection h1 with h1
    rw [hv] at h1
    injection h1 with _ h1 _
    omega
  · injection h1 with h1
    rw [hv] at h1
    injection h1 with _ h1 _
    subst h1
    injection hx with hx _
    have := hw _ (show _ ∈ d.weights P t by rw [hx]; unfold DataW.weights; simp only [ht]; exact List.mem_cons_self)
    simp only [List.length_map, List.length_range] at this
    have hle : n ≤ n * P.bytesOf e := Nat.le_mul_of_pos_right _ hb
    have h2 : n * P.bytesOf e ≤ reachBytes := by
      refine Nat.le_trans (Nat.mul_le_mul_right _ ?_) this
      omega
    have : reachBytes = 140737488351232 := rfl
    omega
end
end Go.Proofs.YtnhidehpacidnaaDoor
/- From a reading of an argument to plain facts: strings, slices of strings, slices of slices of ints. -/
namespace Go.Proofs.YtnhidehpacidnaaDoor
open Go.RowKit Go.ChangeShapes Go.WideShapes Go.Deep
set_option linter.unusedVariables false
section
variable {H : Type} {enc : TypeId × Value → H} {P : Program} {w : World} {base b0 : Nat} {spare : Nat → Bool} {held : Bool} {r : Reach} {t : TypeId} {v : Value} {d : DataW H} {ps : List MemPlace}
theorem op_str (ht : P.underlying t = some .string) (hv : Value.okWide P w r b0 t v) (h : DataW.Trod enc P w base spare held t v d ps) : ∃ l : List UInt8, v = sV l ∧ l.length ≤ maxLen := by
  obtain ⟨s, rfl, _, _, hs⟩ := Go.ChangeMaps.open_string ht hv h
  refine ⟨s.data.toList, by rw [sV, ← strB_data], ?_⟩
  rw [← strB_size, ← strB_data]
  exact hs
theorem strs_of (vs : List Value) (h : ∀ u ∈ vs, ∃ l : List UInt8, u = sV l) : ∃ ls : List (List UInt8), vs = ss ls := by
  induction vs with
  | nil => exact ⟨[], rfl⟩
  | cons u vs ih =>
    obtain ⟨ls, rfl⟩ := ih fun u hu => h u (by simp [hu])
    obtain ⟨l, rfl⟩ := h u (by simp)
    exact ⟨l :: ls, rfl⟩
theorem rdS_of {e : TypeId} {fuel : Nat} {x : DataW H × List MemPlace} (ht : P.underlying t = some (.slice e)) (he : P.underlying e = some .string) (hc : P.cellsOf e = 1) (h : DataW.trod enc P w base spare held fuel t [v] = some x) :
    ∃ ls : List (List UInt8), Rd w 1 v ls.length (ss ls) ∧ ls.length ≤ maxLen := by
  obtain ⟨vs, hr, hm, hu⟩ := slice1_of ht hc h
  obtain ⟨ls, rfl⟩ := strs_of vs fun u hmem => by
    obtain ⟨n, y, hy⟩ := hu u hmem
    obtain ⟨s, h1, _⟩ := DataW.trod_string he hy
    injection h1 with h1
    exact ⟨s.data.toList, by rw [sV, ← strB_data, h1]⟩
  rw [ss_length] at hr hm
  exact ⟨ls, hr, hm⟩
theorem rdRI_of {e b : TypeId} {fuel : Nat} {x : DataW H × List MemPlace} (ht : P.underlying t = some (.slice e)) (he : P.underlying e = some (.slice b)) (hb : P.underlying b = some (.int .i64)) (hc : P.cellsOf e = 1) (hcb : P.cellsOf b = 1) (h : DataW.trod enc P w base spare held fuel t [v] = some x) :
    ∃ qs : List (Value × List Int), (Rd w 1 v qs.length (qs.map (·.1)) ∧ ∀ q ∈ qs, Rd w 1 q.1 q.2.length (is q.2)) ∧ qs.length ≤ maxLen := by
  obtain ⟨vs, hr, hm, hu⟩ := slice1_of ht hc h
  obtain ⟨qs, rfl, hq⟩ := pairs_of (R := fun v l => RdI w v l) vs fun u hmem => by
    obtain ⟨n, y, hy⟩ := hu u hmem
    obtain ⟨l, hl, _⟩ := rdI_of he hb hcb hy
    exact ⟨l, hl⟩
  rw [List.length_map] at hr hm
  exact ⟨qs, ⟨hr, hq⟩, hm⟩
end
end Go.Proofs.YtnhidehpacidnaaDoor
/- Directories: what the arguments are. -/
namespace Go.Proofs.YtnhidehpacidnaaDoor
open Go.RowKit Go.Lib
set_option linter.unusedVariables false
set_option linter.unusedSimpArgs false


section
open Go.Deep Go.RowKit Go.ChangeShapes Go.WideShapes
variable {H : Type} {enc : TypeId × Value → H} {w : World} {base b0 : Nat} {spare : Nat → Bool} {held : Bool} {r : Reach} {v : Value} {d : DataW H} {ps : List MemPlace}
theorem tr_ent {cs : List Value} (hc : Tr enc Tryd.prog w base spare held 30 cs) : ∃ e : Ent, cs = entF e ∧ e.2.length = 32 := by
  obtain ⟨hl, hf⟩ := hc.struct Tryd.underlying30
  rw [show (Tryd.prog).cellsOf 30 = 33 by kernel_rfl] at hl
  have h0 := hf 0 _ rfl
  obtain ⟨b, hb, hbl⟩ := (hf 1 _ rfl).bytes Tryd.underlying25 Tryd.underlying5 (by kernel_rfl) (by kernel_rfl)
  replace h0 : Tr enc Tryd.prog w base spare held 9 ((cs.drop 0).take ((Tryd.prog).cellsOf 9)) := h0
  replace hb : (cs.drop 1).take ((Tryd.prog).cellsOf 25) = bs b := hb
  rw [show (Tryd.prog).cellsOf 9 = 1 by kernel_rfl] at h0
  rw [show (Tryd.prog).cellsOf 25 = 32 by kernel_rfl] at hb
  obtain ⟨f, x, h0⟩ := h0
  obtain ⟨s, h1, _⟩ := DataW.trod_string Tryd.underlying9 h0
  match cs, hl with
  | c :: cs, hl =>
    simp only [List.drop_zero, List.take_succ_cons, List.take_zero, List.drop_succ_cons] at h1 hb
    injection h1 with h1
    refine ⟨(s.data.toList, b), ?_, hbl⟩
    simp only [List.length_cons] at hl
    rw [List.take_of_length_le (by omega)] at hb
    rw [h1, hb]
    show _ = entC _ _
    unfold entC sV
    rw [← strB_data]
theorem rdEs_of {fuel : Nat} {x : DataW H × List MemPlace} (h : DataW.trod enc Tryd.prog w base spare held fuel 22 [v] = some x) :
    ∃ l : List Ent, (Ents l ∧ Rd w 33 v l.length (recC entF l)) ∧ l.length ≤ maxLen := by
  obtain ⟨rs, h1, h2, h3⟩ := rowsT_of Tryd.underlying22 (show (Tryd.prog).cellsOf 30 = 33 by kernel_rfl) (by decide) h
  obtain ⟨l, hl, hE⟩ : ∃ l : List Ent, rs = l.map entF ∧ Ents l := by
    clear h1 h2 h
    induction rs with
    | nil => exact ⟨[], rfl, Ents.nil⟩
    | cons r rs ih =>
      obtain ⟨l, rfl, hE⟩ := ih fun r hr => h3 r (by simp [hr])
      obtain ⟨e, rfl, he⟩ := tr_ent (h3 r (by simp)).2
      exact ⟨e :: l, rfl, fun z hz => by rcases List.mem_cons.1 hz with rfl | hz; exact he; exact hE z hz⟩
  subst hl
  rw [List.length_map] at h1 h2
  exact ⟨l, ⟨hE, h1⟩, h2⟩
theorem op_id (hv : Value.okWide Tryd.prog w r b0 25 v) (h : DataW.Trod enc Tryd.prog w base spare held 25 v d ps) : ∃ l : List UInt8, v = idV l ∧ l.length = 32 := by
  obtain ⟨cs, rfl, hc⟩ := op_array Tryd.underlying25 hv h
  obtain ⟨l, rfl, hl⟩ := hc.bytes Tryd.underlying25 Tryd.underlying5 (by kernel_rfl) (by kernel_rfl)
  exact ⟨l, rfl, hl⟩
end
theorem blobDirs_any (W : World) (hT : ∀ h, orig W h → tabsP h) (v0 : Value) (l0 : List Ent) (hr0 : Ents l0 ∧ Rd W 33 v0 l0.length (recC entF l0)) (hl0 : l0.length ≤ maxLen) (v1 : Value) (l1 : List Q) (hr1 : Rd W 1 v1 l1.length (l1.map (·.1)) ∧ ∀ q ∈ l1, Rd W 1 q.1 q.2.length (is q.2)) (hl1 : l1.length ≤ maxLen) (a2 : List UInt8) (hi2 : a2.length = 32)
    (v3 : Value) (l3 : List Int) (hr3 : RdI W v3 l3) (hz3 : I64 l3) (hl3 : l3.length ≤ maxLen) (v4 : Value) (l4 : List UInt8) (hr4 : RdB W v4 l4) (hl4 : l4.length ≤ maxLen) (a5 : Int) (lo5 : -9223372036854775808 ≤ a5) (hi5 : a5 ≤ 9223372036854775807) (v6 : Value) (l6 : List UInt8) (hr6 : RdB W v6 l6) (hl6 : l6.length ≤ maxLen) :
    Calls Tryd.prog 3 #[v0, v1, idV a2, v3, v4, .int .i64 a5, v6] W fun e W' => e = .returned (.bool true) ∧ Chg [] W W' :=
  calls_law ((blobDirs_law v0 l0 hr0.1 v1 l1 a2 hi2 v3 l3 v4 l4 a5 ⟨lo5, hi5⟩ v6 l6 (orig W) (up_orig W) (fun h hp => Rd.orig hr0.2 h hp) (fun h hp => Rd.orig hr1.1 h hp) (fun q hq h hp => Rd.orig (hr1.2 q hq) h hp) (fun h hp => Rd.orig hr3 h hp) (fun h hp => Rd.orig hr4 h hp) (fun h hp => Rd.orig hr6 h hp) hT).imp fun v Ps h => h.1)
end Go.Proofs.YtnhidehpacidnaaDoor
/- Directories whose names do not rise, or are none, in plain words. -/
namespace Go.Proofs.YtnhidehpacidnaaDoor
open Go.RowKit Go.Lib
set_option linter.unusedVariables false
set_option linter.unusedSimpArgs false
def OrdS (i : Nat) (acc : List Ent) : Prop := acc.length ≤ i ∧ Ents acc ∧ (∀ e ∈ acc, checkN e.1 = 0 ∧ e.1.length ≤ 49 ∧ e.2 = zeroId) ∧ riseP (nms acc) acc.length
theorem OrdS.init : OrdS 0 [] := by
  refine ⟨Nat.le_refl _, Ents.nil, ?_, ?_⟩
  · intro e he; cases he
  · intro j hj h1; cases hj
theorem OrdS.keep {i : Nat} {acc : List Ent} (h : OrdS i acc) : OrdS (i + 1) acc := ⟨Nat.le_succ_of_le h.1, h.2⟩
theorem nms_app (a b : List Ent) : nms (a ++ b) = nms a ++ nms b := by simp [nms]
theorem getD_left {α : Type} {a b : List α} {k : Nat} {d : α} (h : k < a.length) : (a ++ b).getD k d = a.getD k d := by simp [List.getElem?_append_left h]
theorem getD_last {α : Type} {a : List α} {x d : α} : (a ++ [x]).getD a.length d = x := by simp
theorem OrdS.more {i : Nat} {acc : List Ent} (h : OrdS i acc) {zs : List Int} (hc : (decide ((acc.length : Int) = 0) || Op.bytesLess (acc.getD (acc.length - 1) ent0).1 (nameN zs)) = true) : OrdS (i + 1) (acc ++ [(nameN zs, zeroId)]) := by
  obtain ⟨h1, h2, h3, h4⟩ := h
  refine ⟨by simp; omega, h2.snoc zeroId_length, fun e he => ?_, ?_⟩
  · rcases List.mem_append.1 he with he | he
    · exact h3 e he
    · simp at he; subst he; exact ⟨check_name zs, nameN_len zs, rfl⟩
  · have hl : (acc ++ [(nameN zs, zeroId)]).length = acc.length + 1 := by simp
    rw [hl]
    have hn : nms (acc ++ [(nameN zs, zeroId)]) = nms acc ++ [nameN zs] := by rw [nms_app]; rfl
    rw [hn]
    refine riseP_succ (fun j hj hj1 => ?_) (fun hk => ?_)
    · rw [getD_left (by rw [nms_length]; omega), getD_left (by rw [nms_length]; omega)]
      exact h4 j hj hj1
    · rw [getD_left (by rw [nms_length]; omega)]
      have h5 : (nms acc ++ [nameN zs]).getD acc.length [] = nameN zs := by
        have := getD_last (a := nms acc) (x := nameN zs) (d := ([] : List UInt8))
        rwa [nms_length] at this
      rw [h5, nms_at (by omega)]
      simp only [Bool.or_eq_true, decide_eq_true_eq] at hc
      exact hc.resolve_left (by omega)
theorem less_asym {a b : List UInt8} (h : Op.bytesLess a b = true) : Op.bytesLess b a = false := by
  have := less_tri a b
  rw [h] at this
  simp at this
  exact this.1
/-- What the last loops ask of a row of entries. -/
def Fit (es : List Ent) (want : Nat) : Prop := 2 ≤ es.length ∧ es.length ≤ 20 ∧ Ents es ∧ (∀ e ∈ es, e.1.length ≤ 49 ∧ e.2 = zeroId) ∧ dirE es = want ∧ want ≠ 0
theorem set_mem {α : Type} {es : List α} {k : Nat} {x y : α} (h : y ∈ es.set k x) : y ∈ es ∨ y = x := List.mem_or_eq_of_mem_set h
theorem nms_set (es : List Ent) (k : Nat) (x : Ent) : nms (es.set k x) = (nms es).set k x.1 := by simp [nms, List.map_set]
theorem getD_set_same {α : Type} {es : List α} {k : Nat} {x d : α} (h : k < es.length) : (es.set k x).getD k d = x := by simp [h]
theorem getD_set_other {α : Type} {es : List α} {k j : Nat} {x d : α} (h : k ≠ j) : (es.set k x).getD j d = es.getD j d := by simp [List.getElem?_set, h]
theorem fit_fall {es es' : List Ent} {i k : Nat} (h : OrdS i es) (h2 : 2 ≤ es.length) (h20 : es.length ≤ 20) (hl : es'.length = es.length) (hm : ∀ e ∈ es', e ∈ es) (hk1 : 1 ≤ k) (hk : k < es.length) (hf : Op.bytesLess (es'.getD (k - 1) ent0).1 (es'.getD k ent0).1 = false) : Fit es' 1 := by
  obtain ⟨_, hE, hg, _⟩ := h
  refine ⟨by omega, by omega, fun e he => hE e (hm e he), fun e he => ⟨(hg e (hm e he)).2.1, (hg e (hm e he)).2.2⟩, ?_, by decide⟩
  refine dirE_fall (firstBad_all fun x hx => ?_) ?_
  · obtain ⟨e, he, rfl⟩ := List.mem_map.1 hx
    exact (hg e (hm e he)).1
  · exact riseP_not hk1 (by omega) (by rw [nms_at (by omega), nms_at (by omega)]; exact hf)
theorem fit_swap {es : List Ent} {i k : Nat} (h : OrdS i es) (h2 : 2 ≤ es.length) (h20 : es.length ≤ 20) (hk : k < es.length - 1) : Fit ((es.set k (es.getD (k + 1) ent0)).set (k + 1) (es.getD k ent0)) 1 := by
  refine fit_fall h h2 h20 (by simp) (fun e he => ?_) (k := k + 1) (by omega) (by omega) ?_
  · rcases set_mem he with he | he
    · rcases set_mem he with he | he
      · exact he
      · rw [he]; exact getD_mem' (by omega)
    · rw [he]; exact getD_mem' (by omega)
  · rw [Nat.add_sub_cancel, getD_set_same (by rw [List.length_set]; omega), getD_set_other (by omega), getD_set_same (by omega)]
    have := h.2.2.2 (k + 1) (by omega) (by omega)
    rw [Nat.add_sub_cancel, nms_at (by omega), nms_at (by omega)] at this
    exact less_asym this
theorem fit_dup {es : List Ent} {i k : Nat} (h : OrdS i es) (h2 : 2 ≤ es.length) (h20 : es.length ≤ 20) (hk : k < es.length - 1) : Fit (es.set (k + 1) (es.getD k ent0)) 1 := by
  refine fit_fall h h2 h20 (by simp) (fun e he => ?_) (k := k + 1) (by omega) (by omega) ?_
  · rcases set_mem he with he | he
    · exact he
    · rw [he]; exact getD_mem' (by omega)
  · rw [Nat.add_sub_cancel, getD_set_same (by omega), getD_set_other (by omega)]
    exact less_irr _
theorem firstBad_only {ns : List (List UInt8)} {k : Nat} (hk : k < ns.length) (hb : checkN (ns.getD k []) ≠ 0) : (∀ j, j < k → checkN (ns.getD j []) = 0) → firstBad ns = checkN (ns.getD k []) := by
  intro ho
  have key : ∀ j, j ≤ k → firstBad ns = firstBad (ns.drop j) := by
    intro j
    induction j with
    | zero => intro _; rfl
    | succ j ih =>
      intro hj
      rw [ih (by omega), firstBad_good (by omega) (by rw [ho j (by omega)]; rfl)]
  rw [key k (Nat.le_refl _), firstBad_bad hk (by omega)]
theorem fit_name {es : List Ent} {i k : Nat} (h : OrdS i es) (h2 : 2 ≤ es.length) (h20 : es.length ≤ 20) (hk : k < es.length - 1) {nm : List UInt8} (hn : checkN nm = 10) (hnl : nm.length ≤ 49) : Fit (es.set k (nm, (es.getD k ent0).2)) 10 := by
  obtain ⟨_, hE, hg, _⟩ := h
  have hmem := getD_mem' (d := ent0) (show k < es.length by omega)
  refine ⟨by simpa using h2, by simpa using h20, fun e he => ?_, fun e he => ?_, ?_, by decide⟩
  · rcases set_mem he with he | he
    · exact hE e he
    · rw [he]; show (es.getD k ent0).2.length = 32; exact hE _ hmem
  · rcases set_mem he with he | he
    · exact ⟨(hg e he).2.1, (hg e he).2.2⟩
    · rw [he]; exact ⟨hnl, (hg (es.getD k ent0) hmem).2.2⟩
  · have hsame : (nms (es.set k (nm, (es.getD k ent0).2))).getD k [] = nm := by rw [nms_set, getD_set_same (by rw [nms_length]; omega)]
    have hf : firstBad (nms (es.set k (nm, (es.getD k ent0).2))) = 10 := by
      rw [firstBad_only (k := k) (by rw [nms_length]; simp; omega) (by rw [hsame, hn]; decide), hsame, hn]
      intro j hj
      rw [nms_set, getD_set_other (by omega), nms_at (by omega)]
      exact (hg _ (getD_mem' (by omega))).1
    rw [dirE_bad (by rw [hf]; decide), hf]
theorem rawTo_succ {es : List Ent} {k : Nat} (h : k < es.length) (hz : (es.getD k ent0).2 = zeroId) : dirTo es (k + 1) = dirTo es k ++ [byte ((es.getD k ent0).1.length : Int)] ++ (es.getD k ent0).1 ++ zeroId := by rw [dirTo_succ h, hz]
theorem fit_parse {es : List Ent} {want : Nat} (h : Fit es want) : par (dirB es) [] = ([], want) ∧ dirR es = [] ∧ (dirB es).length ≤ 2000 := by
  obtain ⟨h1, h2, h3, h4, h5, h6⟩ := h
  refine ⟨?_, ?_, ?_⟩
  · rw [par_dirB h3 (fun e he => by have := (h4 e he).1; omega), List.nil_append]
    unfold finP
    rw [if_pos (by rw [h5]; exact h6), h5]
  · unfold dirR; rw [if_neg (by rw [h5]; exact h6)]
  · have := dirTo_len h3 (fun e he => (h4 e he).1) es.length
    rw [dirTo_all] at this
    omega
theorem one_set {xs : List Value} {k : Nat} {u : Value} (h : k < xs.length) : xs.set k u = over xs k [u] := (over_one xs k u h).symm
theorem ent_setName {es : List Ent} (hE : Ents es) {k : Nat} (hk : k < es.length) (nm : List UInt8) : (recC entF es).set (k * 33 + 0) (sV nm) = recC entF (es.set k (nm, (es.getD k ent0).2)) := by
  have hl := recC_length hE.len
  rw [one_set (by rw [hl]; omega)]
  refine recC_setF (d := ent0) hE.len hk (by simp) ?_
  show over (entC _ _) 0 [sV nm] = entC nm _
  simp [over, entC]
theorem checkN_ab : checkN [97, 47, 98] = 10 ∧ checkN [] = 10 := by decide +kernel
end Go.Proofs.YtnhidehpacidnaaDoor
/- Directories: the law of their order. -/
namespace Go.Proofs.YtnhidehpacidnaaDoor
open Go.RowKit Go.Lib
set_option linter.unusedVariables false
set_option linter.unusedSimpArgs false

theorem blobOrder_law (v0 : Value) (qs : List Q) (which at' : Int) (F : HP) (hQ0 : ∀ h, F h → rdP 1 v0 qs.length (qs.map (·.1)) h) (hQ : ∀ q ∈ qs, ∀ h, F h → rdN q.1 q.2 h) (hT : ∀ h, F h → tabsP h) :
    CallsS Tryd.prog 4 #[v0, .int .i64 which, .int .i64 at'] F [] (fun r Ps => r = .bool true ∧ Ps = []) := by
  refine callsS_enter Tryd.func4 rfl Tryd.ntmps4 (by simp) (fun E => ?_)
  refine W_seq ?_
  refine W.pre (K' := [(0, _), (1, _), (2, _)]) (L' := [(0, _)]) ?_ ⟨rfl, ⟨rfl, ⟨rfl, trivial⟩⟩⟩ ⟨rfl, trivial⟩
  refine W_regL (WL_pure rfl rfl (by decide) (Pu_assign rfl rfl) (WL_nil (X_then ?_)))
  refine W_seq ?_
  refine W_seq ?_
  refine W.pre (K' := [(0, _), (1, _), (2, _), (6, _)]) (L' := [(0, _)]) ?_ ⟨rfl, ⟨rfl, ⟨rfl, ⟨rfl, trivial⟩⟩⟩⟩ ⟨rfl, trivial⟩
  refine W_regL (WL_cons rfl rfl (by decide) (OpT_call 200 [0] [] rfl Tryd.call5 rfl rfl rfl (by decide) (by decide) (known_spec _) (fun v18 Ps18 hR18 => ?_)))
  obtain ⟨rfl, rfl⟩ := hR18
  refine (WL_pure rfl rfl (by decide) (Pu_un rfl rfl (run_not _)) (WL_nil (X_then ?_)))
  refine W_false rfl (rfl) ?_
  refine W_skip (X_then ?_)
  refine W_seq ?_
  refine W_seq ?_
  refine W.pre (K' := [(0, _), (1, _), (2, _), (6, _), (19, _)]) (L' := [(0, _)]) ?_ ⟨rfl, ⟨rfl, ⟨rfl, ⟨rfl, ⟨rfl, trivial⟩⟩⟩⟩⟩ ⟨rfl, trivial⟩
  refine W_regL (WL_pure rfl rfl (by decide) (Pu_move rfl rfl) (WL_pure rfl rfl (by decide) (Pu_len (r := 0) rfl Tryd.runUnderlying23 rfl rfl hQ0) (WL_pure rfl rfl (by decide) (Pu_bin rfl rfl rfl (run_gtr _ _ _ _ _ _)) (WL_nil (X_then ?_)))))
  refine W_cond rfl (fun hc22 => ?_) (fun hc22 => ?_)
  ·
    refine W_seq ?_
    refine W.pre (K' := [(0, _), (1, _), (2, _), (6, _), (19, _), (22, _)]) (L' := [(0, _)]) ?_ ⟨rfl, ⟨rfl, ⟨rfl, ⟨rfl, ⟨rfl, ⟨rfl, trivial⟩⟩⟩⟩⟩⟩ ⟨rfl, trivial⟩
    refine W_regL (WL_pure rfl rfl (by decide) (Pu_assign rfl rfl) (WL_nil (X_then ?_)))
    refine W_ret (X_then_ret ?_)
    exact X_ret [] (Ps := []) (res1 Tryd.results4 rfl) rfl (by decide) ⟨rfl, rfl⟩
  ·
    have hq22 : qs.length ≤ 22 := by have := of_decide_eq_false hc22; omega
    refine W_skip (X_then ?_)
    refine W_seq ?_
    refine W.pre (K' := [(0, _), (1, _), (2, _), (6, _), (19, _), (22, _)]) (L' := [(0, _)]) ?_ ⟨rfl, ⟨rfl, ⟨rfl, ⟨rfl, ⟨rfl, ⟨rfl, trivial⟩⟩⟩⟩⟩⟩ ⟨rfl, trivial⟩
    refine W_regL (WL_pure rfl rfl (by decide) (Pu_assign rfl rfl) (WL_nil (X_then ?_)))
    refine W_seq ?_
    refine W_seq ?_
    refine W.pre (K' := [(0, _), (1, _), (2, _), (6, _), (7, _), (19, _), (22, _)]) (L' := [(0, _)]) ?_ ⟨rfl, ⟨rfl, ⟨rfl, ⟨rfl, ⟨rfl, ⟨rfl, ⟨rfl, trivial⟩⟩⟩⟩⟩⟩⟩ ⟨rfl, trivial⟩
    refine W_regL (WL_pure rfl rfl (by decide) (Pu_assign rfl rfl) (WL_nil (X_then ?_)))
    refine W_block ?_
    refine W_nilRow 201 30 33 ?_
    refine W_loop (α := Nat × Value × List Ent) (fun y => [(0, v0), (1, .int .i64 which), (2, .int .i64 at'), (7, y.2.1), (8, .int .i64 (y.1 : Int))]) (fun y => [(0, F), (201, rowE 30 y.2.1 y.2.2)]) (fun y => OrdS y.1 y.2.2 ∧ y.1 ≤ qs.length) (fun y => qs.length - y.1) ((0, .slice none 0 0, [])) ⟨OrdS.init, Nat.zero_le _⟩ ⟨rfl, ⟨rfl, ⟨rfl, ⟨rfl, ⟨rfl, trivial⟩⟩⟩⟩⟩ ⟨rfl, ⟨rfl, trivial⟩⟩ (fun y hy => ?_)
    obtain ⟨hord, hyl⟩ := hy
    have hal := hord.1
    have hEa := hord.2.1
    refine W_seq ?_
    refine W_seq ?_
    refine W.pre (K' := [(0, _), (1, _), (2, _), (7, _), (8, _)]) (L' := [(0, _), (201, _)]) ?_ ⟨rfl, ⟨rfl, ⟨rfl, ⟨rfl, ⟨rfl, trivial⟩⟩⟩⟩⟩ ⟨rfl, ⟨rfl, trivial⟩⟩
    refine W_regL (WL_pure rfl rfl (by decide) (Pu_move rfl rfl) (WL_pure rfl rfl (by decide) (Pu_move rfl rfl) (WL_pure rfl rfl (by decide) (Pu_len (r := 0) rfl Tryd.runUnderlying23 rfl rfl hQ0) (WL_pure rfl rfl (by decide) (Pu_bin rfl rfl rfl (run_lss _ _ _ _ _ _)) (WL_nil (X_then ?_))))))
    refine W_cond rfl (fun hc26 => ?_) (fun hc26 => ?_)
    ·
      have hlt : y.1 < qs.length := by have := of_decide_eq_true hc26; omega
      refine W_skip (X_then ?_)
      refine W_seq ?_
      refine W_block ?_
      refine W_seq ?_
      refine W.pre (K' := [(0, _), (1, _), (2, _), (7, _), (8, _), (26, _)]) (L' := [(0, _), (201, _)]) ?_ ⟨rfl, ⟨rfl, ⟨rfl, ⟨rfl, ⟨rfl, ⟨rfl, trivial⟩⟩⟩⟩⟩⟩ ⟨rfl, ⟨rfl, trivial⟩⟩
      refine W_regL (WL_pure rfl rfl (by decide) (Pu_move rfl rfl) (WL_pure rfl rfl (by decide) (Pu_move rfl rfl) (WL_pure rfl rfl (by decide) (Pu_idxS1 (r := 0) rfl Tryd.runUnderlying23 Tryd.sizeOf26 rfl rfl rfl hQ0 (by omega)) (WL_pure rfl rfl (by decide) (Pu_loadS (r := 0) rfl Tryd.isAgg26 rfl rfl hQ0 (vals_at hlt)) (WL_cons rfl rfl (by decide) (OpT_call 300 [0, 201] [] rfl Tryd.call6 rfl rfl rfl (by decide) (by decide) (name_spec (qs.getD y.1 (undef, [])).1 (qs.getD y.1 (undef, [])).2 _ (rd_star 0 rfl (hQ _ (getD_memQ hlt)))) (fun v33 Ps33 hR33 => ?_)))))))
      obtain ⟨rfl, rfl⟩ := hR33
      refine (WL_pure rfl rfl (by decide) (Pu_assign rfl rfl) (WL_nil (X_then ?_)))
      refine W_seq ?_
      refine W.pre (K' := [(0, _), (1, _), (2, _), (7, _), (8, _), (9, _), (26, _)]) (L' := [(0, _), (201, _)]) ?_ ⟨rfl, ⟨rfl, ⟨rfl, ⟨rfl, ⟨rfl, ⟨rfl, ⟨rfl, trivial⟩⟩⟩⟩⟩⟩⟩ ⟨rfl, ⟨rfl, trivial⟩⟩
      refine W_regL (WL_pure rfl rfl (by decide) (Pu_move rfl rfl) (WL_pure rfl rfl (by decide) (Pu_len (r := 201) rfl Tryd.runUnderlying22 rfl rfl rowR_rd) (WL_pure rfl rfl (by decide) (Pu_bin rfl rfl rfl (run_eql _ _ _ _ _ _)) (WL_pure rfl rfl (by decide) (Pu_move rfl rfl) (WL_guardP rfl rfl rfl rfl (by decide) (fun hb => (Pu_move rfl rfl)) (WL_guardP rfl rfl rfl rfl (by decide) (fun hb => (Pu_move rfl rfl)) (WL_guardP rfl rfl rfl rfl (by decide) (fun hb => (Pu_len (r := 201) rfl Tryd.runUnderlying22 (ev_gv rfl hb) rfl rowR_rd)) (WL_guardP rfl rfl rfl rfl (by decide) (fun hb => (Pu_bin rfl (ev_gv rfl hb) rfl (run_sub _ _ _ _ _ (by have := of_decide_eq_false (beq_false_of hb); omega)))) (WL_guardP rfl rfl rfl rfl (by decide) (fun hb => (Pu_idxS (r := 201) rfl Tryd.runUnderlying22 Tryd.sizeOf30 (ev_gv rfl hb) (ev_gv rfl hb) rfl rowR_rd (by have := of_decide_eq_false (beq_false_of hb); omega))) (WL_guardP rfl rfl rfl rfl (by decide) (fun hb => (Pu_fieldAddrE (off := 0) rfl (ev_gv rfl hb) (by kernel_rfl))) (WL_guardP rfl rfl rfl rfl (by decide) (fun hb => (Pu_loadS (r := 201) rfl Tryd.isAgg9 (ev_gv rfl hb) rfl rowR_rd (by have h0 := of_decide_eq_false (beq_false_of hb); exact ent_nameZ hEa (k := y.2.2.length - 1) (by omega) (by omega)))) (WL_guardP rfl rfl rfl rfl (by decide) (fun hb => (Pu_move rfl rfl)) (WL_guardP rfl rfl rfl rfl (by decide) (fun hb => (Pu_bin rfl (ev_gv rfl hb) (ev_gv rfl hb) (run_lssStr _ _ _ _ _))) (WL_pure rfl rfl (by decide) (Pu_or rfl rfl rfl) (WL_nil (X_then ?_))))))))))))))))
      refine W_cond rfl (fun hc47 => ?_) (fun hc47 => ?_)
      ·
        refine W.pre (K' := [(0, _), (1, _), (2, _), (7, _), (8, _), (9, _), (26, _), (47, _)]) (L' := [(0, _), (201, _)]) ?_ ⟨rfl, ⟨rfl, ⟨rfl, ⟨rfl, ⟨rfl, ⟨rfl, ⟨rfl, ⟨rfl, trivial⟩⟩⟩⟩⟩⟩⟩⟩ ⟨rfl, ⟨rfl, trivial⟩⟩
        unfold rowE rowR
        refine W_regL (WL_pure rfl rfl (by decide) (Pu_move rfl rfl) (WL_pure rfl rfl (by decide) (Pu_move rfl rfl) (WL_pure rfl rfl (by decide) (Pu_build (V := .agg (entF (nameN (qs.getD y.1 (undef, [])).2, zeroId)).toArray) [(0, 1), (1, 32)] (entC [] zeroId) rfl rfl (by kernel_rfl) (by kernel_rfl) (.one rfl rfl (by simp [entC, bs_length, zeroId_length]) rfl (.nil _)) rfl) (WL_cons rfl rfl (by decide) (OpT_buildRows (r := 301) [entF (nameN (qs.getD y.1 (undef, [])).2, zeroId)] rfl rfl Tryd.runUnderlying22 Tryd.sizeOf30 Tryd.zeroValue30 rfl (by decide) rfl (by decide) (by intro r hr; simp only [List.mem_cons, List.mem_nil_iff, or_false] at hr; rw [hr]; exact entC_length zeroId_length) rfl (fun v51 => (WL_cons rfl rfl (by decide) (OpT_append (r := 201) (r2 := 301) rfl Tryd.underlying22 TI.hi30 TI.hz30 TI.hs30 TI.hby30 TI.hzs30 (by decide) rfl rfl rfl rfl (fun _ h => rowP_rd h) (by rw [List.flatten_cons, List.flatten_nil, List.append_nil]; exact entF_one _) (by unfold maxLen; omega) (by omega) (fun v52 => ?_)))))))))
        refine (WL_pure rfl rfl (by decide) (Pu_assign rfl rfl) (WL_nil (X_block (X_then ?_))))
        refine W.pre (K' := [(0, _), (1, _), (2, _), (7, _), (8, _), (9, _), (26, _), (47, _)]) (L' := [(0, _), (201, _), (301, _)]) ?_ ⟨rfl, ⟨rfl, ⟨rfl, ⟨rfl, ⟨rfl, ⟨rfl, ⟨rfl, ⟨rfl, trivial⟩⟩⟩⟩⟩⟩⟩⟩ ⟨rfl, ⟨rfl, ⟨rfl, trivial⟩⟩⟩
        refine W_regL (WL_pure rfl rfl (by decide) (Pu_move rfl rfl) (WL_pure rfl rfl (by decide) (Pu_bin rfl rfl rfl (run_add _ _ _ _ _ (by omega))) (WL_pure rfl rfl (by decide) (Pu_assign rfl rfl) (WL_nil ?_))))
        exact X_round (y.1 + 1, v52, y.2.2 ++ [(nameN (qs.getD y.1 (undef, [])).2, zeroId)]) ⟨OrdS.more hord hc47, hlt⟩ (by dsimp only; omega) ⟨rfl, rfl, rfl, rfl, rfl, trivial⟩ ⟨rfl, look_eq rfl (rowR_of (y.2.2 ++ [(nameN (qs.getD y.1 (undef, [])).2, zeroId)]) (by simp) (by rw [recC_append, recC_one, List.flatten_cons, List.flatten_nil, List.append_nil])), trivial⟩
      ·
        refine W_skip (X_block (X_then ?_))
        refine W.pre (K' := [(0, _), (1, _), (2, _), (7, _), (8, _), (9, _), (26, _), (47, _)]) (L' := [(0, _), (201, _)]) ?_ ⟨rfl, ⟨rfl, ⟨rfl, ⟨rfl, ⟨rfl, ⟨rfl, ⟨rfl, ⟨rfl, trivial⟩⟩⟩⟩⟩⟩⟩⟩ ⟨rfl, ⟨rfl, trivial⟩⟩
        refine W_regL (WL_pure rfl rfl (by decide) (Pu_move rfl rfl) (WL_pure rfl rfl (by decide) (Pu_bin rfl rfl rfl (run_add _ _ _ _ _ (by omega))) (WL_pure rfl rfl (by decide) (Pu_assign rfl rfl) (WL_nil ?_))))
        exact X_round (y.1 + 1, y.2.1, y.2.2) ⟨OrdS.keep hord, hlt⟩ (by dsimp only; omega) ⟨rfl, rfl, rfl, rfl, rfl, trivial⟩ ⟨rfl, rfl, trivial⟩
    ·
      refine W_exit (X_then_exit (X_then_exit (X_block_exit (X_then ?_))))
      refine W_seq ?_
      refine W_seq ?_
      refine W.pre (K' := [(0, _), (1, _), (2, _), (7, _), (8, _), (26, _)]) (L' := [(0, _), (201, _)]) ?_ ⟨rfl, ⟨rfl, ⟨rfl, ⟨rfl, ⟨rfl, ⟨rfl, trivial⟩⟩⟩⟩⟩⟩ ⟨rfl, ⟨rfl, trivial⟩⟩
      refine W_regL (WL_pure rfl rfl (by decide) (Pu_move rfl rfl) (WL_pure rfl rfl (by decide) (Pu_len (r := 201) rfl Tryd.runUnderlying22 rfl rfl rowR_rd) (WL_pure rfl rfl (by decide) (Pu_bin rfl rfl rfl (run_lss _ _ _ _ _ _)) (WL_pure rfl rfl (by decide) (Pu_move rfl rfl) (WL_guardP rfl rfl rfl rfl (by decide) (fun hb => (Pu_move rfl rfl)) (WL_guardP rfl rfl rfl rfl (by decide) (fun hb => (Pu_len (r := 201) rfl Tryd.runUnderlying22 (ev_gv rfl hb) rfl rowR_rd)) (WL_guardP rfl rfl rfl rfl (by decide) (fun hb => (Pu_bin rfl (ev_gv rfl hb) rfl (run_gtr _ _ _ _ _ _))) (WL_pure rfl rfl (by decide) (Pu_or rfl rfl rfl) (WL_nil (X_then ?_))))))))))
      refine W_cond rfl (fun hc60 => ?_) (fun hc60 => ?_)
      ·
        refine W_seq ?_
        refine W.pre (K' := [(0, _), (1, _), (2, _), (7, _), (8, _), (26, _), (60, _)]) (L' := [(0, _), (201, _)]) ?_ ⟨rfl, ⟨rfl, ⟨rfl, ⟨rfl, ⟨rfl, ⟨rfl, ⟨rfl, trivial⟩⟩⟩⟩⟩⟩⟩ ⟨rfl, ⟨rfl, trivial⟩⟩
        refine W_regL (WL_pure rfl rfl (by decide) (Pu_assign rfl rfl) (WL_nil (X_then ?_)))
        refine W_ret (X_then_ret ?_)
        exact X_ret [] (Ps := []) (res1 Tryd.results4 rfl) rfl (by decide) ⟨rfl, rfl⟩
      ·
        simp only [Bool.or_eq_false_iff, decide_eq_false_iff_not] at hc60
        obtain ⟨h2, h20⟩ : 2 ≤ y.2.2.length ∧ y.2.2.length ≤ 20 := by omega
        refine W_skip (X_then ?_)
        refine W_seq ?_
        refine W.pre (K' := [(0, _), (1, _), (2, _), (7, _), (8, _), (26, _), (60, _)]) (L' := [(0, _), (201, _)]) ?_ ⟨rfl, ⟨rfl, ⟨rfl, ⟨rfl, ⟨rfl, ⟨rfl, ⟨rfl, trivial⟩⟩⟩⟩⟩⟩⟩ ⟨rfl, ⟨rfl, trivial⟩⟩
        refine W_regL (WL_pure rfl rfl (by decide) (Pu_move rfl rfl) (WL_pure rfl rfl (by decide) (Pu_move rfl rfl) (WL_pure rfl rfl (by decide) (Pu_len (r := 201) rfl Tryd.runUnderlying22 rfl rfl rowR_rd) (WL_pure rfl rfl (by decide) (Pu_bin rfl rfl rfl (run_sub _ _ _ _ _ (by omega))) (WL_cons rfl rfl (by decide) (OpT_call 300 [0, 201] [] rfl Tryd.call13 rfl rfl rfl (by decide) (by decide) (within_spec at' ((y.2.2.length : Int) - 1) (by omega) (by omega) _) (fun v65 Ps65 hR65 => ?_)))))))
        obtain ⟨rfl, rfl⟩ := hR65
        have hm1 := Int.emod_nonneg at' (show ((y.2.2.length : Int) - 1) ≠ 0 by omega)
        have hm2 := Int.emod_lt_of_pos at' (show (0 : Int) < ((y.2.2.length : Int) - 1) by omega)
        obtain ⟨k, hk, hkl⟩ : ∃ k : Nat, at' % ((y.2.2.length : Int) - 1) = (k : Int) ∧ k < y.2.2.length - 1 := ⟨(at' % ((y.2.2.length : Int) - 1)).toNat, by omega, by omega⟩
        rw [hk]
        refine (WL_pure rfl rfl (by decide) (Pu_assign rfl rfl) (WL_nil (X_then ?_)))
        refine W_seq ?_
        refine W.pre (K' := [(0, _), (1, _), (2, _), (7, _), (8, _), (10, _), (26, _), (60, _)]) (L' := [(0, _), (201, _)]) ?_ ⟨rfl, ⟨rfl, ⟨rfl, ⟨rfl, ⟨rfl, ⟨rfl, ⟨rfl, ⟨rfl, trivial⟩⟩⟩⟩⟩⟩⟩⟩ ⟨rfl, ⟨rfl, trivial⟩⟩
        refine W_regL (WL_pure rfl rfl (by decide) (Pu_assign rfl rfl) (WL_nil (X_then ?_)))
        refine W_seq ?_
        refine W_seq ?_
        refine W.pre (K' := [(0, _), (1, _), (2, _), (7, _), (8, _), (10, _), (11, _), (26, _), (60, _)]) (L' := [(0, _), (201, _)]) ?_ ⟨rfl, ⟨rfl, ⟨rfl, ⟨rfl, ⟨rfl, ⟨rfl, ⟨rfl, ⟨rfl, ⟨rfl, trivial⟩⟩⟩⟩⟩⟩⟩⟩⟩ ⟨rfl, ⟨rfl, trivial⟩⟩
        refine W_regL (WL_pure rfl rfl (by decide) (Pu_move rfl rfl) (WL_cons rfl rfl (by decide) (OpT_call 400 [0, 201] [] rfl Tryd.call13 rfl rfl rfl (by decide) (by decide) (within_spec which 4 (by omega) (by omega) _) (fun v67 Ps67 hR67 => ?_))))
        obtain ⟨rfl, rfl⟩ := hR67
        obtain ⟨m, hm, hm4⟩ : ∃ m : Nat, which % 4 = (m : Int) ∧ m < 4 := ⟨(which % 4).toNat, by omega, by omega⟩
        rw [hm]
        refine (WL_nil (X_then ?_))
        refine W_block ?_
        refine W_seq ?_
        refine W.pre (K' := [(0, _), (1, _), (2, _), (7, _), (8, _), (10, _), (11, _), (26, _), (60, _), (67, _)]) (L' := [(0, _), (201, _)]) ?_ ⟨rfl, ⟨rfl, ⟨rfl, ⟨rfl, ⟨rfl, ⟨rfl, ⟨rfl, ⟨rfl, ⟨rfl, ⟨rfl, trivial⟩⟩⟩⟩⟩⟩⟩⟩⟩⟩ ⟨rfl, ⟨rfl, trivial⟩⟩
        refine W_regL (WL_pure rfl rfl (by decide) (Pu_bin rfl rfl rfl (run_eql _ _ _ _ _ _)) (WL_pure rfl rfl (by decide) (Pu_assign rfl rfl) (WL_nil (X_then ?_))))
        refine W_cond rfl (fun hc68 => ?_) (fun hc68 => ?_)
        ·
          have hq : m = 0 := by have := of_decide_eq_true hc68; omega
          refine W.pre (K' := [(0, _), (1, _), (2, _), (7, _), (8, _), (10, _), (11, _), (26, _), (60, _), (67, _), (68, _)]) (L' := [(0, _), (201, _)]) ?_ ⟨rfl, ⟨rfl, ⟨rfl, ⟨rfl, ⟨rfl, ⟨rfl, ⟨rfl, ⟨rfl, ⟨rfl, ⟨rfl, ⟨rfl, trivial⟩⟩⟩⟩⟩⟩⟩⟩⟩⟩⟩ ⟨rfl, ⟨rfl, trivial⟩⟩
          unfold rowE rowR
          refine W_draw (N := 18) (by kernel_rfl) rfl [(0, _)] ⟨rfl, trivial⟩ ?_
          refine (AH_take 0 rfl (by kernel_rfl) (by kernel_rfl) (by kernel_rfl) rfl rfl (by decide) (Pu_move rfl rfl) (AH_take 1 rfl (by kernel_rfl) (by kernel_rfl) (by kernel_rfl) rfl rfl (by decide) (Pu_move rfl rfl) (AH_take 2 rfl (by kernel_rfl) (by kernel_rfl) (by kernel_rfl) rfl rfl (by decide) (Pu_move rfl rfl) (AH_take 3 rfl (by kernel_rfl) (by kernel_rfl) (by kernel_rfl) rfl rfl (by decide) (Pu_move rfl rfl) (AH_take 4 rfl (by kernel_rfl) (by kernel_rfl) (by kernel_rfl) rfl rfl (by decide) (Pu_bin rfl rfl rfl (run_add _ _ _ _ _ (by omega))) (AH_take 5 rfl (by kernel_rfl) (by kernel_rfl) (by kernel_rfl) rfl rfl (by decide) (Pu_move rfl rfl) (AH_take 6 rfl (by kernel_rfl) (by kernel_rfl) (by kernel_rfl) rfl rfl (by decide) (Pu_move rfl rfl) (AH_take 7 rfl (by kernel_rfl) (by kernel_rfl) (by kernel_rfl) rfl rfl (by decide) (Pu_bin rfl rfl rfl (run_add _ _ _ _ _ (by omega))) (AH_take 10 rfl (by kernel_rfl) (by kernel_rfl) (by kernel_rfl) rfl rfl (by decide) (Pu_move rfl rfl) (AH_take 11 rfl (by kernel_rfl) (by kernel_rfl) (by kernel_rfl) rfl rfl (by decide) (Pu_move rfl rfl) (AH_ready [8, 12] (by kernel_rfl) (by decide) ?_)))))))))))
          refine AHs_cons rfl rfl rfl (by decide) (OpT_run (Pu_idxS (r := 201) rfl Tryd.runUnderlying22 Tryd.sizeOf30 rfl rfl rfl (fun _ h => rowP_rd h) (by omega)) ⟨⟨rfl, trivial⟩, ?_⟩) ?_
          ·
            refine (AH_ready [9, 12] (by kernel_rfl) (by decide) ?_)
            refine AHs_cons rfl rfl rfl (by decide) (OpT_run (Pu_loadSN (r := 201) rfl Tryd.isAgg30 Tryd.sizeOf30 rfl rfl (fun _ h => rowP_rd h) (entC_length (hEa.get (by omega))) (by decide) (ent_all (k := k + 1) hEa (by omega))) ⟨⟨rfl, trivial⟩, ?_⟩) ?_
            ·
              refine (AH_ready [12] (by kernel_rfl) (by decide) ?_)
              refine AHs_cons rfl rfl rfl (by decide) (OpT_run (Pu_idxS (r := 201) rfl Tryd.runUnderlying22 Tryd.sizeOf30 rfl rfl rfl (fun _ h => rowP_rd h) (by omega)) ⟨⟨rfl, trivial⟩, ?_⟩) ?_
              ·
                refine (AH_ready [13] (by kernel_rfl) (by decide) ?_)
                refine AHs_cons rfl rfl rfl (by decide) (OpT_run (Pu_loadSN (r := 201) rfl Tryd.isAgg30 Tryd.sizeOf30 rfl rfl (fun _ h => rowP_rd h) (entC_length (hEa.get (by omega))) (by decide) (ent_all (k := k) hEa (by omega))) ⟨⟨rfl, trivial⟩, ?_⟩) ?_
                ·
                  refine (AH_ready [14] (by kernel_rfl) (by decide) ?_)
                  refine AHs_cons rfl rfl rfl (by decide) (OpT_run (Pu_idxS (r := 201) rfl Tryd.runUnderlying22 Tryd.sizeOf30 rfl rfl rfl (fun _ h => rowP_rd h) (by omega)) ⟨⟨rfl, trivial⟩, ?_⟩) ?_
                  ·
                    refine (AH_ready [15] (by kernel_rfl) (by decide) ?_)
                    refine AHs_cons0 rfl rfl rfl (OpT_storeRec (r := 201) entF (k) (y.2.2.getD (k + 1) ent0) rfl Tryd.sizeOf30 rfl rfl rfl hEa.len (by omega) (entC_length (hEa.get (by omega))) (by decide) (entF_one _) ?_) ?_
                    ·
                      refine ⟨⟨rfl, trivial⟩, ?_⟩
                      refine (AH_ready [16] (by kernel_rfl) (by decide) ?_)
                      refine AHs_cons rfl rfl rfl (by decide) (OpT_run (Pu_idxS (r := 201) rfl Tryd.runUnderlying22 Tryd.sizeOf30 rfl rfl rfl (fun _ h => rowP_rd h) (by omega)) ⟨⟨rfl, trivial⟩, ?_⟩) ?_
                      ·
                        refine (AH_ready [17] (by kernel_rfl) (by decide) ?_)
                        refine AHs_cons0 rfl rfl rfl (OpT_storeRec (r := 201) entF (k + 1) (y.2.2.getD k ent0) rfl Tryd.sizeOf30 rfl rfl rfl (fun e he => by rcases set_mem he with he | he; exact hEa.len e he; rw [he]; exact entC_length (hEa.get (by omega))) (by rw [List.length_set]; omega) (entC_length (hEa.get (by omega))) (by decide) (entF_one _) ?_) ?_
                        ·
                          refine ⟨⟨rfl, trivial⟩, ?_⟩
                          refine (AH_done (by kernel_rfl) (X_block (X_then ?_)))
                          refine W_seq ?_
                          refine W.pre (K' := [(0, _), (1, _), (2, _), (7, _), (8, _), (10, _), (11, _), (26, _), (60, _), (67, _), (68, _)]) (L' := [(0, _), (201, _)]) ?_ ⟨rfl, ⟨rfl, ⟨rfl, ⟨rfl, ⟨rfl, ⟨rfl, ⟨rfl, ⟨rfl, ⟨rfl, ⟨rfl, ⟨rfl, trivial⟩⟩⟩⟩⟩⟩⟩⟩⟩⟩⟩ ⟨rfl, ⟨rfl, trivial⟩⟩
                          have hfit := fit_swap hord h2 h20 hkl
                          refine W_turn (P' := rowE 30 y.2.1 ((y.2.2.set k (y.2.2.getD (k + 1) ent0)).set (k + 1) (y.2.2.getD k ent0))) 201 rfl (fun h hp => (congrFun (rowR_of (n := y.2.2.length) (f := entF) (S := 33) ((y.2.2.set k (y.2.2.getD (k + 1) ent0)).set (k + 1) (y.2.2.getD k ent0)) (by simp only [List.length_set]) rfl) h).mp hp) ?_
                          generalize ((y.2.2.set k (y.2.2.getD (k + 1) ent0)).set (k + 1) (y.2.2.getD k ent0)) = es at *
                          obtain ⟨f1, f2, f3, f4, f5, f6⟩ := id hfit
                          obtain ⟨g1, g2, g3⟩ := fit_parse hfit
                          refine W_regL (WL_pure rfl rfl (by decide) (Pu_assign rfl rfl) (WL_nil (X_then ?_)))
                          refine W_seq ?_
                          refine W_seq ?_
                          refine W.pre (K' := [(0, _), (1, _), (2, _), (7, _), (8, _), (10, _), (11, _), (12, _), (26, _), (60, _), (67, _), (68, _)]) (L' := [(0, _), (201, _)]) ?_ ⟨rfl, ⟨rfl, ⟨rfl, ⟨rfl, ⟨rfl, ⟨rfl, ⟨rfl, ⟨rfl, ⟨rfl, ⟨rfl, ⟨rfl, ⟨rfl, trivial⟩⟩⟩⟩⟩⟩⟩⟩⟩⟩⟩⟩ ⟨rfl, ⟨rfl, trivial⟩⟩
                          refine W_regL (WL_pure rfl rfl (by decide) (Pu_assign rfl rfl) (WL_nil (X_then ?_)))
                          refine W_block ?_
                          refine W_nilRow 401 5 1 ?_
                          refine W_loop (α := Nat × Value) (fun x => [(7, y.2.1), (11, .int .i64 1), (12, x.2), (13, .int .i64 (x.1 : Int))]) (fun x => [(0, F), (201, rowE 30 y.2.1 es), (401, rowB 5 x.2 (dirTo es x.1))]) (fun x => x.1 ≤ es.length) (fun x => es.length - x.1) ((0, .slice none 0 0)) (Nat.zero_le _) ⟨rfl, ⟨rfl, ⟨rfl, ⟨rfl, trivial⟩⟩⟩⟩ ⟨rfl, ⟨rfl, ⟨rfl, trivial⟩⟩⟩ (fun x hx => ?_)
                          unfold rowB
                          have hxl : x.1 ≤ es.length := hx
                          have hdl := dirTo_len f3 (fun e he => (f4 e he).1) x.1
                          refine W_seq ?_
                          refine W_seq ?_
                          refine W.pre (K' := [(7, _), (11, _), (12, _), (13, _)]) (L' := [(0, _), (201, _), (401, _)]) ?_ ⟨rfl, ⟨rfl, ⟨rfl, ⟨rfl, trivial⟩⟩⟩⟩ ⟨rfl, ⟨rfl, ⟨rfl, trivial⟩⟩⟩
                          refine W_regL (WL_pure rfl rfl (by decide) (Pu_move rfl rfl) (WL_pure rfl rfl (by decide) (Pu_move rfl rfl) (WL_pure rfl rfl (by decide) (Pu_len (r := 201) rfl Tryd.runUnderlying22 rfl rfl rowR_rd) (WL_pure rfl rfl (by decide) (Pu_bin rfl rfl rfl (run_lss _ _ _ _ _ _)) (WL_nil (X_then ?_))))))
                          refine W_cond rfl (fun hc111 => ?_) (fun hc111 => ?_)
                          ·
                            have hlt : x.1 < es.length := by have := of_decide_eq_true hc111; omega
                            have hnl := (f4 _ (getD_mem' (d := ent0) hlt)).1
                            have hzz := (f4 _ (getD_mem' (d := ent0) hlt)).2
                            refine W_skip (X_then ?_)
                            refine W_seq ?_
                            refine W_block ?_
                            refine W.pre (K' := [(7, _), (11, _), (12, _), (13, _), (111, _)]) (L' := [(0, _), (201, _), (401, _)]) ?_ ⟨rfl, ⟨rfl, ⟨rfl, ⟨rfl, ⟨rfl, trivial⟩⟩⟩⟩⟩ ⟨rfl, ⟨rfl, ⟨rfl, trivial⟩⟩⟩
                            refine W_draw (N := 18) (by kernel_rfl) rfl [(0, _), (201, _)] ⟨rfl, ⟨rfl, trivial⟩⟩ ?_
                            refine (AH_take 0 rfl (by kernel_rfl) (by kernel_rfl) (by kernel_rfl) rfl rfl (by decide) (Pu_move rfl rfl) (AH_take 1 rfl (by kernel_rfl) (by kernel_rfl) (by kernel_rfl) rfl rfl (by decide) (Pu_move rfl rfl) (AH_take 2 rfl (by kernel_rfl) (by kernel_rfl) (by kernel_rfl) rfl rfl (by decide) (Pu_move rfl rfl) (AH_take 3 rfl (by kernel_rfl) (by kernel_rfl) (by kernel_rfl) rfl rfl (by decide) (Pu_idxS (r := 201) rfl Tryd.runUnderlying22 Tryd.sizeOf30 rfl rfl rfl rowR_rd (by omega)) (AH_take 4 rfl (by kernel_rfl) (by kernel_rfl) (by kernel_rfl) rfl rfl (by decide) (Pu_fieldAddrE (off := 0) rfl rfl (by kernel_rfl)) (AH_take 5 rfl (by kernel_rfl) (by kernel_rfl) (by kernel_rfl) rfl rfl (by decide) (Pu_loadS (r := 201) rfl Tryd.isAgg9 rfl rfl rowR_rd (ent_name (k := x.1) f3 hlt)) (AH_take 6 rfl (by kernel_rfl) (by kernel_rfl) (by kernel_rfl) rfl rfl (by decide) (Pu_lenStr rfl Tryd.underlying9 rfl) (AH_take 7 rfl (by kernel_rfl) (by kernel_rfl) (by kernel_rfl) rfl rfl (by decide) (Pu_conv rfl rfl (conv_byte _ _ Tryd.runUnderlying3 Tryd.runUnderlying5)) (AH_take 10 rfl (by kernel_rfl) (by kernel_rfl) (by kernel_rfl) rfl rfl (by decide) (Pu_move rfl rfl) (AH_take 11 rfl (by kernel_rfl) (by kernel_rfl) (by kernel_rfl) rfl rfl (by decide) (Pu_move rfl rfl) (AH_take 12 rfl (by kernel_rfl) (by kernel_rfl) (by kernel_rfl) rfl rfl (by decide) (Pu_idxS (r := 201) rfl Tryd.runUnderlying22 Tryd.sizeOf30 rfl rfl rfl rowR_rd (by omega)) (AH_take 13 rfl (by kernel_rfl) (by kernel_rfl) (by kernel_rfl) rfl rfl (by decide) (Pu_fieldAddrE (off := 0) rfl rfl (by kernel_rfl)) (AH_take 14 rfl (by kernel_rfl) (by kernel_rfl) (by kernel_rfl) rfl rfl (by decide) (Pu_loadS (r := 201) rfl Tryd.isAgg9 rfl rfl rowR_rd (ent_name (k := x.1) f3 hlt)) (AH_ready [8] (by kernel_rfl) (by decide) ?_))))))))))))))
                            refine AHs_cons rfl rfl rfl (by decide) (OpT_buildOnes (r := 402) (bs [byte ((es.getD x.1 ent0).1.length : Int)]) rfl rfl Tryd.runUnderlying27 Tryd.sizeOf5 Tryd.zeroValue5 rfl rfl (by decide) rfl (bs_cells _) (fun v122 => ⟨⟨rfl, ⟨rfl, trivial⟩⟩, ?_⟩)) ?_
                            ·
                              refine (AH_ready [9] (by kernel_rfl) (by decide) ?_)
                              refine AHs_cons rfl rfl rfl (by decide) (OpT_append (r := 401) (r2 := 402) rfl Tryd.underlying27 TI.hi5 TI.hz5 TI.hs5 TI.hby5 TI.hzs5 (by decide) rfl rfl rfl rfl (fun _ h => rowP_rd h) (bs_one _) (by unfold maxLen; omega) (by omega) (fun v123 => ?_)) ?_
                              ·
                                refine ⟨⟨rfl, ⟨rfl, trivial⟩⟩, ?_⟩
                                refine (AH_ready [15] (by kernel_rfl) (by decide) ?_)
                                refine AHs_cons rfl rfl rfl (by decide) (OpT_appendStr (r := 401) rfl Tryd.underlying27 Tryd.underlying9 TI.hi5 TI.hz5 TI.hs5 TI.hby5 TI.hzs5 rfl rfl rfl (by unfold maxLen; omega) (by omega) (fun v129 => ?_)) ?_
                                ·
                                  refine ⟨⟨rfl, ⟨rfl, trivial⟩⟩, ?_⟩
                                  refine (AH_ready [16] (by kernel_rfl) (by decide) ?_)
                                  refine AHs_cons rfl rfl rfl (by decide) (OpT_appendZ (r := 401) (m := 32) rfl Tryd.underlying27 Tryd.underlying3 TI.hi5 TI.hz5 TI.hs5 TI.hby5 rfl rfl rfl (by omega) rfl (by omega) (by unfold maxLen; omega) (by omega) (fun v130 => ?_)) ?_
                                  ·
                                    refine ⟨⟨rfl, ⟨rfl, trivial⟩⟩, ?_⟩
                                    refine (AH_take 17 rfl (by kernel_rfl) (by kernel_rfl) (by kernel_rfl) rfl rfl (by decide) (Pu_assign rfl rfl) (AH_done (by kernel_rfl) (X_block (X_then ?_))))
                                    refine W.pre (K' := [(7, _), (11, _), (12, _), (13, _), (111, _)]) (L' := [(0, _), (201, _), (401, _), (402, _)]) ?_ ⟨rfl, ⟨rfl, ⟨rfl, ⟨rfl, ⟨rfl, trivial⟩⟩⟩⟩⟩ ⟨rfl, ⟨rfl, ⟨rfl, ⟨rfl, trivial⟩⟩⟩⟩
                                    refine W_regL (WL_pure rfl rfl (by decide) (Pu_move rfl rfl) (WL_pure rfl rfl (by decide) (Pu_bin rfl rfl rfl (run_add _ _ _ _ _ (by omega))) (WL_pure rfl rfl (by decide) (Pu_assign rfl rfl) (WL_nil ?_))))
                                    exact X_round (x.1 + 1, v130) hlt (by dsimp only; omega) ⟨rfl, rfl, rfl, rfl, trivial⟩ ⟨rfl, rfl, look_eq rfl (rowB_of (dirTo es (x.1 + 1)) (by rw [rawTo_succ hlt hzz]; simp only [List.length_append, List.length_cons, List.length_nil, zeroId_length]) (by rw [rawTo_succ hlt hzz, bs_append, bs_append, bs_append]; rfl)), trivial⟩
                                  exact AHs_nil
                                exact AHs_nil
                              exact AHs_nil
                            exact AHs_nil
                          ·
                            obtain hfin : x.1 = es.length := by have := of_decide_eq_false hc111; omega
                            refine W_exit (X_then_exit (X_then_exit (X_block_exit (X_then ?_))))
                            refine W_seq ?_
                            refine W.pre (K' := [(7, _), (11, _), (12, _), (13, _), (111, _)]) (L' := [(0, _), (201, _), (401, _)]) ?_ ⟨rfl, ⟨rfl, ⟨rfl, ⟨rfl, ⟨rfl, trivial⟩⟩⟩⟩⟩ ⟨rfl, ⟨rfl, ⟨rfl, trivial⟩⟩⟩
                            refine W_regL (WL_pure rfl rfl (by decide) (Pu_move rfl rfl) (WL_cons rfl rfl (by decide) (OpT_call 500 [0, 201, 401] [] rfl Tryd.call7 rfl rfl rfl (by decide) (by decide) (dir_spec y.2.1 es f3 (by omega) (fun e he => by have := (f4 e he).1; omega) _ (rd_star 1 rfl rowR_rd) (tabs_star 0 rfl hT)) (fun v133 Ps133 hR133 => ?_))))
                            obtain ⟨w133, rfl, rfl⟩ := hR133
                            rw [f5, g2]
                            refine (WL_pure rfl rfl (by decide) (Pu_move rfl rfl) (WL_pure rfl rfl (by decide) (Pu_extract rfl rfl rfl) (WL_pure rfl rfl (by decide) (Pu_extract rfl rfl rfl) (WL_pure rfl rfl (by decide) (Pu_assign rfl rfl) (WL_pure rfl rfl (by decide) (Pu_assign rfl rfl) (WL_nil (X_then ?_)))))))
                            refine W_seq ?_
                            refine W.pre (K' := [(7, _), (11, _), (12, _), (13, _), (14, _), (15, _), (111, _)]) (L' := [(0, _), (201, _), (401, _), (500, _)]) ?_ ⟨rfl, ⟨rfl, ⟨rfl, ⟨rfl, ⟨rfl, ⟨rfl, ⟨rfl, trivial⟩⟩⟩⟩⟩⟩⟩ ⟨rfl, ⟨rfl, ⟨rfl, ⟨rfl, trivial⟩⟩⟩⟩
                            refine W_regL (WL_pure rfl rfl (by decide) (Pu_move rfl rfl) (WL_cons rfl rfl (by decide) (OpT_call 600 [0, 201, 401, 500] [] rfl Tryd.call10 rfl rfl rfl (by decide) (by decide) (parseDir_spec x.2 (dirTo es x.1) (by omega) _ (rd_star 2 rfl rowB_rd) (tabs_star 0 rfl hT)) (fun v138 Ps138 hR138 => ?_))))
                            obtain ⟨w138, rfl, rfl⟩ := hR138
                            rw [hfin, dirTo_all, g1]
                            refine (WL_pure rfl rfl (by decide) (Pu_move rfl rfl) (WL_pure rfl rfl (by decide) (Pu_extract rfl rfl rfl) (WL_pure rfl rfl (by decide) (Pu_extract rfl rfl rfl) (WL_pure rfl rfl (by decide) (Pu_assign rfl rfl) (WL_pure rfl rfl (by decide) (Pu_assign rfl rfl) (WL_nil (X_then ?_)))))))
                            refine W_seq ?_
                            refine W.pre (K' := [(7, _), (11, _), (12, _), (13, _), (14, _), (15, _), (16, _), (17, _), (111, _)]) (L' := [(0, _), (201, _), (401, _), (500, _), (600, _)]) ?_ ⟨rfl, ⟨rfl, ⟨rfl, ⟨rfl, ⟨rfl, ⟨rfl, ⟨rfl, ⟨rfl, ⟨rfl, trivial⟩⟩⟩⟩⟩⟩⟩⟩⟩ ⟨rfl, ⟨rfl, ⟨rfl, ⟨rfl, ⟨rfl, trivial⟩⟩⟩⟩⟩
                            refine W_regL (WL_pure rfl rfl (by decide) (Pu_move rfl rfl) (WL_pure rfl rfl (by decide) (Pu_move rfl rfl) (WL_pure rfl rfl (by decide) (Pu_bin rfl rfl rfl (run_eql _ _ _ _ _ _)) (WL_pure rfl rfl (by decide) (Pu_move rfl rfl) (WL_guardP rfl rfl rfl rfl (by decide) (fun hb => (Pu_move rfl rfl)) (WL_guardP rfl rfl rfl rfl (by decide) (fun hb => (Pu_len (r := 500) rfl Tryd.runUnderlying27 (ev_gv rfl hb) rfl rowB_rd)) (WL_guardP rfl rfl rfl rfl (by decide) (fun hb => (Pu_bin rfl (ev_gv rfl hb) rfl (run_eql _ _ _ _ _ _))) (WL_pure rfl rfl (by decide) (Pu_and rfl rfl rfl) (WL_pure rfl rfl (by decide) (Pu_move rfl rfl) (WL_guardP rfl rfl rfl rfl (by decide) (fun hb => (Pu_move rfl rfl)) (WL_guardP rfl rfl rfl rfl (by decide) (fun hb => (Pu_move rfl rfl)) (WL_guardP rfl rfl rfl rfl (by decide) (fun hb => (Pu_bin rfl (ev_gv rfl hb) (ev_gv rfl hb) (run_eql _ _ _ _ _ _))) (WL_pure rfl rfl (by decide) (Pu_and rfl rfl rfl) (WL_pure rfl rfl (by decide) (Pu_move rfl rfl) (WL_guardP rfl rfl rfl rfl (by decide) (fun hb => (Pu_move rfl rfl)) (WL_guardP rfl rfl rfl rfl (by decide) (fun hb => (Pu_len (r := 600) rfl Tryd.runUnderlying22 (ev_gv rfl hb) rfl rowR_rd)) (WL_guardP rfl rfl rfl rfl (by decide) (fun hb => (Pu_bin rfl (ev_gv rfl hb) rfl (run_eql _ _ _ _ _ _))) (WL_pure rfl rfl (by decide) (Pu_and rfl rfl rfl) (WL_pure rfl rfl (by decide) (Pu_assign rfl rfl) (WL_nil (X_then ?_)))))))))))))))))))))
                            refine W_ret ?_
                            exact X_ret [] (Ps := []) (res1 Tryd.results4 rfl) rfl (by decide) ⟨rfl, rfl⟩
                        exact AHs_nil
                      exact AHs_nil
                    exact AHs_nil
                  exact AHs_nil
                exact AHs_nil
              exact AHs_nil
            refine AHs_cons rfl rfl rfl (by decide) (OpT_run (Pu_idxS (r := 201) rfl Tryd.runUnderlying22 Tryd.sizeOf30 rfl rfl rfl (fun _ h => rowP_rd h) (by omega)) ⟨⟨rfl, trivial⟩, ?_⟩) ?_
            ·
              refine (AH_ready [9, 13] (by kernel_rfl) (by decide) ?_)
              refine AHs_cons rfl rfl rfl (by decide) (OpT_run (Pu_loadSN (r := 201) rfl Tryd.isAgg30 Tryd.sizeOf30 rfl rfl (fun _ h => rowP_rd h) (entC_length (hEa.get (by omega))) (by decide) (ent_all (k := k + 1) hEa (by omega))) ⟨⟨rfl, trivial⟩, ?_⟩) ?_
              ·
                refine (AH_ready [13] (by kernel_rfl) (by decide) ?_)
                refine AHs_cons rfl rfl rfl (by decide) (OpT_run (Pu_loadSN (r := 201) rfl Tryd.isAgg30 Tryd.sizeOf30 rfl rfl (fun _ h => rowP_rd h) (entC_length (hEa.get (by omega))) (by decide) (ent_all (k := k) hEa (by omega))) ⟨⟨rfl, trivial⟩, ?_⟩) ?_
                ·
                  refine (AH_ready [14] (by kernel_rfl) (by decide) ?_)
                  refine AHs_cons rfl rfl rfl (by decide) (OpT_run (Pu_idxS (r := 201) rfl Tryd.runUnderlying22 Tryd.sizeOf30 rfl rfl rfl (fun _ h => rowP_rd h) (by omega)) ⟨⟨rfl, trivial⟩, ?_⟩) ?_
                  ·
                    refine (AH_ready [15] (by kernel_rfl) (by decide) ?_)
                    refine AHs_cons0 rfl rfl rfl (OpT_storeRec (r := 201) entF (k) (y.2.2.getD (k + 1) ent0) rfl Tryd.sizeOf30 rfl rfl rfl hEa.len (by omega) (entC_length (hEa.get (by omega))) (by decide) (entF_one _) ?_) ?_
                    ·
                      refine ⟨⟨rfl, trivial⟩, ?_⟩
                      refine (AH_ready [16] (by kernel_rfl) (by decide) ?_)
                      refine AHs_cons rfl rfl rfl (by decide) (OpT_run (Pu_idxS (r := 201) rfl Tryd.runUnderlying22 Tryd.sizeOf30 rfl rfl rfl (fun _ h => rowP_rd h) (by omega)) ⟨⟨rfl, trivial⟩, ?_⟩) ?_
                      ·
                        refine (AH_ready [17] (by kernel_rfl) (by decide) ?_)
                        refine AHs_cons0 rfl rfl rfl (OpT_storeRec (r := 201) entF (k + 1) (y.2.2.getD k ent0) rfl Tryd.sizeOf30 rfl rfl rfl (fun e he => by rcases set_mem he with he | he; exact hEa.len e he; rw [he]; exact entC_length (hEa.get (by omega))) (by rw [List.length_set]; omega) (entC_length (hEa.get (by omega))) (by decide) (entF_one _) ?_) ?_
                        ·
                          refine ⟨⟨rfl, trivial⟩, ?_⟩
                          refine (AH_done (by kernel_rfl) (X_block (X_then ?_)))
                          refine W_seq ?_
                          refine W.pre (K' := [(0, _), (1, _), (2, _), (7, _), (8, _), (10, _), (11, _), (26, _), (60, _), (67, _), (68, _)]) (L' := [(0, _), (201, _)]) ?_ ⟨rfl, ⟨rfl, ⟨rfl, ⟨rfl, ⟨rfl, ⟨rfl, ⟨rfl, ⟨rfl, ⟨rfl, ⟨rfl, ⟨rfl, trivial⟩⟩⟩⟩⟩⟩⟩⟩⟩⟩⟩ ⟨rfl, ⟨rfl, trivial⟩⟩
                          have hfit := fit_swap hord h2 h20 hkl
                          refine W_turn (P' := rowE 30 y.2.1 ((y.2.2.set k (y.2.2.getD (k + 1) ent0)).set (k + 1) (y.2.2.getD k ent0))) 201 rfl (fun h hp => (congrFun (rowR_of (n := y.2.2.length) (f := entF) (S := 33) ((y.2.2.set k (y.2.2.getD (k + 1) ent0)).set (k + 1) (y.2.2.getD k ent0)) (by simp only [List.length_set]) rfl) h).mp hp) ?_
                          generalize ((y.2.2.set k (y.2.2.getD (k + 1) ent0)).set (k + 1) (y.2.2.getD k ent0)) = es at *
                          obtain ⟨f1, f2, f3, f4, f5, f6⟩ := id hfit
                          obtain ⟨g1, g2, g3⟩ := fit_parse hfit
                          refine W_regL (WL_pure rfl rfl (by decide) (Pu_assign rfl rfl) (WL_nil (X_then ?_)))
                          refine W_seq ?_
                          refine W_seq ?_
                          refine W.pre (K' := [(0, _), (1, _), (2, _), (7, _), (8, _), (10, _), (11, _), (12, _), (26, _), (60, _), (67, _), (68, _)]) (L' := [(0, _), (201, _)]) ?_ ⟨rfl, ⟨rfl, ⟨rfl, ⟨rfl, ⟨rfl, ⟨rfl, ⟨rfl, ⟨rfl, ⟨rfl, ⟨rfl, ⟨rfl, ⟨rfl, trivial⟩⟩⟩⟩⟩⟩⟩⟩⟩⟩⟩⟩ ⟨rfl, ⟨rfl, trivial⟩⟩
                          refine W_regL (WL_pure rfl rfl (by decide) (Pu_assign rfl rfl) (WL_nil (X_then ?_)))
                          refine W_block ?_
                          refine W_nilRow 401 5 1 ?_
                          refine W_loop (α := Nat × Value) (fun x => [(7, y.2.1), (11, .int .i64 1), (12, x.2), (13, .int .i64 (x.1 : Int))]) (fun x => [(0, F), (201, rowE 30 y.2.1 es), (401, rowB 5 x.2 (dirTo es x.1))]) (fun x => x.1 ≤ es.length) (fun x => es.length - x.1) ((0, .slice none 0 0)) (Nat.zero_le _) ⟨rfl, ⟨rfl, ⟨rfl, ⟨rfl, trivial⟩⟩⟩⟩ ⟨rfl, ⟨rfl, ⟨rfl, trivial⟩⟩⟩ (fun x hx => ?_)
                          unfold rowB
                          have hxl : x.1 ≤ es.length := hx
                          have hdl := dirTo_len f3 (fun e he => (f4 e he).1) x.1
                          refine W_seq ?_
                          refine W_seq ?_
                          refine W.pre (K' := [(7, _), (11, _), (12, _), (13, _)]) (L' := [(0, _), (201, _), (401, _)]) ?_ ⟨rfl, ⟨rfl, ⟨rfl, ⟨rfl, trivial⟩⟩⟩⟩ ⟨rfl, ⟨rfl, ⟨rfl, trivial⟩⟩⟩
                          refine W_regL (WL_pure rfl rfl (by decide) (Pu_move rfl rfl) (WL_pure rfl rfl (by decide) (Pu_move rfl rfl) (WL_pure rfl rfl (by decide) (Pu_len (r := 201) rfl Tryd.runUnderlying22 rfl rfl rowR_rd) (WL_pure rfl rfl (by decide) (Pu_bin rfl rfl rfl (run_lss _ _ _ _ _ _)) (WL_nil (X_then ?_))))))
                          refine W_cond rfl (fun hc111 => ?_) (fun hc111 => ?_)
                          ·
                            have hlt : x.1 < es.length := by have := of_decide_eq_true hc111; omega
                            have hnl := (f4 _ (getD_mem' (d := ent0) hlt)).1
                            have hzz := (f4 _ (getD_mem' (d := ent0) hlt)).2
                            refine W_skip (X_then ?_)
                            refine W_seq ?_
                            refine W_block ?_
                            refine W.pre (K' := [(7, _), (11, _), (12, _), (13, _), (111, _)]) (L' := [(0, _), (201, _), (401, _)]) ?_ ⟨rfl, ⟨rfl, ⟨rfl, ⟨rfl, ⟨rfl, trivial⟩⟩⟩⟩⟩ ⟨rfl, ⟨rfl, ⟨rfl, trivial⟩⟩⟩
                            refine W_draw (N := 18) (by kernel_rfl) rfl [(0, _), (201, _)] ⟨rfl, ⟨rfl, trivial⟩⟩ ?_
                            refine (AH_take 0 rfl (by kernel_rfl) (by kernel_rfl) (by kernel_rfl) rfl rfl (by decide) (Pu_move rfl rfl) (AH_take 1 rfl (by kernel_rfl) (by kernel_rfl) (by kernel_rfl) rfl rfl (by decide) (Pu_move rfl rfl) (AH_take 2 rfl (by kernel_rfl) (by kernel_rfl) (by kernel_rfl) rfl rfl (by decide) (Pu_move rfl rfl) (AH_take 3 rfl (by kernel_rfl) (by kernel_rfl) (by kernel_rfl) rfl rfl (by decide) (Pu_idxS (r := 201) rfl Tryd.runUnderlying22 Tryd.sizeOf30 rfl rfl rfl rowR_rd (by omega)) (AH_take 4 rfl (by kernel_rfl) (by kernel_rfl) (by kernel_rfl) rfl rfl (by decide) (Pu_fieldAddrE (off := 0) rfl rfl (by kernel_rfl)) (AH_take 5 rfl (by kernel_rfl) (by kernel_rfl) (by kernel_rfl) rfl rfl (by decide) (Pu_loadS (r := 201) rfl Tryd.isAgg9 rfl rfl rowR_rd (ent_name (k := x.1) f3 hlt)) (AH_take 6 rfl (by kernel_rfl) (by kernel_rfl) (by kernel_rfl) rfl rfl (by decide) (Pu_lenStr rfl Tryd.underlying9 rfl) (AH_take 7 rfl (by kernel_rfl) (by kernel_rfl) (by kernel_rfl) rfl rfl (by decide) (Pu_conv rfl rfl (conv_byte _ _ Tryd.runUnderlying3 Tryd.runUnderlying5)) (AH_take 10 rfl (by kernel_rfl) (by kernel_rfl) (by kernel_rfl) rfl rfl (by decide) (Pu_move rfl rfl) (AH_take 11 rfl (by kernel_rfl) (by kernel_rfl) (by kernel_rfl) rfl rfl (by decide) (Pu_move rfl rfl) (AH_take 12 rfl (by kernel_rfl) (by kernel_rfl) (by kernel_rfl) rfl rfl (by decide) (Pu_idxS (r := 201) rfl Tryd.runUnderlying22 Tryd.sizeOf30 rfl rfl rfl rowR_rd (by omega)) (AH_take 13 rfl (by kernel_rfl) (by kernel_rfl) (by kernel_rfl) rfl rfl (by decide) (Pu_fieldAddrE (off := 0) rfl rfl (by kernel_rfl)) (AH_take 14 rfl (by kernel_rfl) (by kernel_rfl) (by kernel_rfl) rfl rfl (by decide) (Pu_loadS (r := 201) rfl Tryd.isAgg9 rfl rfl rowR_rd (ent_name (k := x.1) f3 hlt)) (AH_ready [8] (by kernel_rfl) (by decide) ?_))))))))))))))
                            refine AHs_cons rfl rfl rfl (by decide) (OpT_buildOnes (r := 402) (bs [byte ((es.getD x.1 ent0).1.length : Int)]) rfl rfl Tryd.runUnderlying27 Tryd.sizeOf5 Tryd.zeroValue5 rfl rfl (by decide) rfl (bs_cells _) (fun v122 => ⟨⟨rfl, ⟨rfl, trivial⟩⟩, ?_⟩)) ?_
                            ·
                              refine (AH_ready [9] (by kernel_rfl) (by decide) ?_)
                              refine AHs_cons rfl rfl rfl (by decide) (OpT_append (r := 401) (r2 := 402) rfl Tryd.underlying27 TI.hi5 TI.hz5 TI.hs5 TI.hby5 TI.hzs5 (by decide) rfl rfl rfl rfl (fun _ h => rowP_rd h) (bs_one _) (by unfold maxLen; omega) (by omega) (fun v123 => ?_)) ?_
                              ·
                                refine ⟨⟨rfl, ⟨rfl, trivial⟩⟩, ?_⟩
                                refine (AH_ready [15] (by kernel_rfl) (by decide) ?_)
                                refine AHs_cons rfl rfl rfl (by decide) (OpT_appendStr (r := 401) rfl Tryd.underlying27 Tryd.underlying9 TI.hi5 TI.hz5 TI.hs5 TI.hby5 TI.hzs5 rfl rfl rfl (by unfold maxLen; omega) (by omega) (fun v129 => ?_)) ?_
                                ·
                                  refine ⟨⟨rfl, ⟨rfl, trivial⟩⟩, ?_⟩
                                  refine (AH_ready [16] (by kernel_rfl) (by decide) ?_)
                                  refine AHs_cons rfl rfl rfl (by decide) (OpT_appendZ (r := 401) (m := 32) rfl Tryd.underlying27 Tryd.underlying3 TI.hi5 TI.hz5 TI.hs5 TI.hby5 rfl rfl rfl (by omega) rfl (by omega) (by unfold maxLen; omega) (by omega) (fun v130 => ?_)) ?_
                                  ·
                                    refine ⟨⟨rfl, ⟨rfl, trivial⟩⟩, ?_⟩
                                    refine (AH_take 17 rfl (by kernel_rfl) (by kernel_rfl) (by kernel_rfl) rfl rfl (by decide) (Pu_assign rfl rfl) (AH_done (by kernel_rfl) (X_block (X_then ?_))))
                                    refine W.pre (K' := [(7, _), (11, _), (12, _), (13, _), (111, _)]) (L' := [(0, _), (201, _), (401, _), (402, _)]) ?_ ⟨rfl, ⟨rfl, ⟨rfl, ⟨rfl, ⟨rfl, trivial⟩⟩⟩⟩⟩ ⟨rfl, ⟨rfl, ⟨rfl, ⟨rfl, trivial⟩⟩⟩⟩
                                    refine W_regL (WL_pure rfl rfl (by decide) (Pu_move rfl rfl) (WL_pure rfl rfl (by decide) (Pu_bin rfl rfl rfl (run_add _ _ _ _ _ (by omega))) (WL_pure rfl rfl (by decide) (Pu_assign rfl rfl) (WL_nil ?_))))
                                    exact X_round (x.1 + 1, v130) hlt (by dsimp only; omega) ⟨rfl, rfl, rfl, rfl, trivial⟩ ⟨rfl, rfl, look_eq rfl (rowB_of (dirTo es (x.1 + 1)) (by rw [rawTo_succ hlt hzz]; simp only [List.length_append, List.length_cons, List.length_nil, zeroId_length]) (by rw [rawTo_succ hlt hzz, bs_append, bs_append, bs_append]; rfl)), trivial⟩
                                  exact AHs_nil
                                exact AHs_nil
                              exact AHs_nil
                            exact AHs_nil
                          ·
                            obtain hfin : x.1 = es.length := by have := of_decide_eq_false hc111; omega
                            refine W_exit (X_then_exit (X_then_exit (X_block_exit (X_then ?_))))
                            refine W_seq ?_
                            refine W.pre (K' := [(7, _), (11, _), (12, _), (13, _), (111, _)]) (L' := [(0, _), (201, _), (401, _)]) ?_ ⟨rfl, ⟨rfl, ⟨rfl, ⟨rfl, ⟨rfl, trivial⟩⟩⟩⟩⟩ ⟨rfl, ⟨rfl, ⟨rfl, trivial⟩⟩⟩
                            refine W_regL (WL_pure rfl rfl (by decide) (Pu_move rfl rfl) (WL_cons rfl rfl (by decide) (OpT_call 500 [0, 201, 401] [] rfl Tryd.call7 rfl rfl rfl (by decide) (by decide) (dir_spec y.2.1 es f3 (by omega) (fun e he => by have := (f4 e he).1; omega) _ (rd_star 1 rfl rowR_rd) (tabs_star 0 rfl hT)) (fun v133 Ps133 hR133 => ?_))))
                            obtain ⟨w133, rfl, rfl⟩ := hR133
                            rw [f5, g2]
                            refine (WL_pure rfl rfl (by decide) (Pu_move rfl rfl) (WL_pure rfl rfl (by decide) (Pu_extract rfl rfl rfl) (WL_pure rfl rfl (by decide) (Pu_extract rfl rfl rfl) (WL_pure rfl rfl (by decide) (Pu_assign rfl rfl) (WL_pure rfl rfl (by decide) (Pu_assign rfl rfl) (WL_nil (X_then ?_)))))))
                            refine W_seq ?_
                            refine W.pre (K' := [(7, _), (11, _), (12, _), (13, _), (14, _), (15, _), (111, _)]) (L' := [(0, _), (201, _), (401, _), (500, _)]) ?_ ⟨rfl, ⟨rfl, ⟨rfl, ⟨rfl, ⟨rfl, ⟨rfl, ⟨rfl, trivial⟩⟩⟩⟩⟩⟩⟩ ⟨rfl, ⟨rfl, ⟨rfl, ⟨rfl, trivial⟩⟩⟩⟩
                            refine W_regL (WL_pure rfl rfl (by decide) (Pu_move rfl rfl) (WL_cons rfl rfl (by decide) (OpT_call 600 [0, 201, 401, 500] [] rfl Tryd.call10 rfl rfl rfl (by decide) (by decide) (parseDir_spec x.2 (dirTo es x.1) (by omega) _ (rd_star 2 rfl rowB_rd) (tabs_star 0 rfl hT)) (fun v138 Ps138 hR138 => ?_))))
                            obtain ⟨w138, rfl, rfl⟩ := hR138
                            rw [hfin, dirTo_all, g1]
                            refine (WL_pure rfl rfl (by decide) (Pu_move rfl rfl) (WL_pure rfl rfl (by decide) (Pu_extract rfl rfl rfl) (WL_pure rfl rfl (by decide) (Pu_extract rfl rfl rfl) (WL_pure rfl rfl (by decide) (Pu_assign rfl rfl) (WL_pure rfl rfl (by decide) (Pu_assign rfl rfl) (WL_nil (X_then ?_)))))))
                            refine W_seq ?_
                            refine W.pre (K' := [(7, _), (11, _), (12, _), (13, _), (14, _), (15, _), (16, _), (17, _), (111, _)]) (L' := [(0, _), (201, _), (401, _), (500, _), (600, _)]) ?_ ⟨rfl, ⟨rfl, ⟨rfl, ⟨rfl, ⟨rfl, ⟨rfl, ⟨rfl, ⟨rfl, ⟨rfl, trivial⟩⟩⟩⟩⟩⟩⟩⟩⟩ ⟨rfl, ⟨rfl, ⟨rfl, ⟨rfl, ⟨rfl, trivial⟩⟩⟩⟩⟩
                            refine W_regL (WL_pure rfl rfl (by decide) (Pu_move rfl rfl) (WL_pure rfl rfl (by decide) (Pu_move rfl rfl) (WL_pure rfl rfl (by decide) (Pu_bin rfl rfl rfl (run_eql _ _ _ _ _ _)) (WL_pure rfl rfl (by decide) (Pu_move rfl rfl) (WL_guardP rfl rfl rfl rfl (by decide) (fun hb => (Pu_move rfl rfl)) (WL_guardP rfl rfl rfl rfl (by decide) (fun hb => (Pu_len (r := 500) rfl Tryd.runUnderlying27 (ev_gv rfl hb) rfl rowB_rd)) (WL_guardP rfl rfl rfl rfl (by decide) (fun hb => (Pu_bin rfl (ev_gv rfl hb) rfl (run_eql _ _ _ _ _ _))) (WL_pure rfl rfl (by decide) (Pu_and rfl rfl rfl) (WL_pure rfl rfl (by decide) (Pu_move rfl rfl) (WL_guardP rfl rfl rfl rfl (by decide) (fun hb => (Pu_move rfl rfl)) (WL_guardP rfl rfl rfl rfl (by decide) (fun hb => (Pu_move rfl rfl)) (WL_guardP rfl rfl rfl rfl (by decide) (fun hb => (Pu_bin rfl (ev_gv rfl hb) (ev_gv rfl hb) (run_eql _ _ _ _ _ _))) (WL_pure rfl rfl (by decide) (Pu_and rfl rfl rfl) (WL_pure rfl rfl (by decide) (Pu_move rfl rfl) (WL_guardP rfl rfl rfl rfl (by decide) (fun hb => (Pu_move rfl rfl)) (WL_guardP rfl rfl rfl rfl (by decide) (fun hb => (Pu_len (r := 600) rfl Tryd.runUnderlying22 (ev_gv rfl hb) rfl rowR_rd)) (WL_guardP rfl rfl rfl rfl (by decide) (fun hb => (Pu_bin rfl (ev_gv rfl hb) rfl (run_eql _ _ _ _ _ _))) (WL_pure rfl rfl (by decide) (Pu_and rfl rfl rfl) (WL_pure rfl rfl (by decide) (Pu_assign rfl rfl) (WL_nil (X_then ?_)))))))))))))))))))))
                            refine W_ret ?_
                            exact X_ret [] (Ps := []) (res1 Tryd.results4 rfl) rfl (by decide) ⟨rfl, rfl⟩
                        exact AHs_nil
                      exact AHs_nil
                    exact AHs_nil
                  exact AHs_nil
                exact AHs_nil
              refine AHs_cons rfl rfl rfl (by decide) (OpT_run (Pu_loadSN (r := 201) rfl Tryd.isAgg30 Tryd.sizeOf30 rfl rfl (fun _ h => rowP_rd h) (entC_length (hEa.get (by omega))) (by decide) (ent_all (k := k) hEa (by omega))) ⟨⟨rfl, trivial⟩, ?_⟩) ?_
              ·
                refine (AH_ready [9] (by kernel_rfl) (by decide) ?_)
                refine AHs_cons rfl rfl rfl (by decide) (OpT_run (Pu_loadSN (r := 201) rfl Tryd.isAgg30 Tryd.sizeOf30 rfl rfl (fun _ h => rowP_rd h) (entC_length (hEa.get (by omega))) (by decide) (ent_all (k := k + 1) hEa (by omega))) ⟨⟨rfl, trivial⟩, ?_⟩) ?_
                ·
                  refine (AH_ready [14] (by kernel_rfl) (by decide) ?_)
                  refine AHs_cons rfl rfl rfl (by decide) (OpT_run (Pu_idxS (r := 201) rfl Tryd.runUnderlying22 Tryd.sizeOf30 rfl rfl rfl (fun _ h => rowP_rd h) (by omega)) ⟨⟨rfl, trivial⟩, ?_⟩) ?_
                  ·
                    refine (AH_ready [15] (by kernel_rfl) (by decide) ?_)
                    refine AHs_cons0 rfl rfl rfl (OpT_storeRec (r := 201) entF (k) (y.2.2.getD (k + 1) ent0) rfl Tryd.sizeOf30 rfl rfl rfl hEa.len (by omega) (entC_length (hEa.get (by omega))) (by decide) (entF_one _) ?_) ?_
                    ·
                      refine ⟨⟨rfl, trivial⟩, ?_⟩
                      refine (AH_ready [16] (by kernel_rfl) (by decide) ?_)
                      refine AHs_cons rfl rfl rfl (by decide) (OpT_run (Pu_idxS (r := 201) rfl Tryd.runUnderlying22 Tryd.sizeOf30 rfl rfl rfl (fun _ h => rowP_rd h) (by omega)) ⟨⟨rfl, trivial⟩, ?_⟩) ?_
                      ·
                        refine (AH_ready [17] (by kernel_rfl) (by decide) ?_)
                        refine AHs_cons0 rfl rfl rfl (OpT_storeRec (r := 201) entF (k + 1) (y.2.2.getD k ent0) rfl Tryd.sizeOf30 rfl rfl rfl (fun e he => by rcases set_mem he with he | he; exact hEa.len e he; rw [he]; exact entC_length (hEa.get (by omega))) (by rw [List.length_set]; omega) (entC_length (hEa.get (by omega))) (by decide) (entF_one _) ?_) ?_
                        ·
                          refine ⟨⟨rfl, trivial⟩, ?_⟩
                          refine (AH_done (by kernel_rfl) (X_block (X_then ?_)))
                          refine W_seq ?_
                          refine W.pre (K' := [(0, _), (1, _), (2, _), (7, _), (8, _), (10, _), (11, _), (26, _), (60, _), (67, _), (68, _)]) (L' := [(0, _), (201, _)]) ?_ ⟨rfl, ⟨rfl, ⟨rfl, ⟨rfl, ⟨rfl, ⟨rfl, ⟨rfl, ⟨rfl, ⟨rfl, ⟨rfl, ⟨rfl, trivial⟩⟩⟩⟩⟩⟩⟩⟩⟩⟩⟩ ⟨rfl, ⟨rfl, trivial⟩⟩
                          have hfit := fit_swap hord h2 h20 hkl
                          refine W_turn (P' := rowE 30 y.2.1 ((y.2.2.set k (y.2.2.getD (k + 1) ent0)).set (k + 1) (y.2.2.getD k ent0))) 201 rfl (fun h hp => (congrFun (rowR_of (n := y.2.2.length) (f := entF) (S := 33) ((y.2.2.set k (y.2.2.getD (k + 1) ent0)).set (k + 1) (y.2.2.getD k ent0)) (by simp only [List.length_set]) rfl) h).mp hp) ?_
                          generalize ((y.2.2.set k (y.2.2.getD (k + 1) ent0)).set (k + 1) (y.2.2.getD k ent0)) = es at *
                          obtain ⟨f1, f2, f3, f4, f5, f6⟩ := id hfit
                          obtain ⟨g1, g2, g3⟩ := fit_parse hfit
                          refine W_regL (WL_pure rfl rfl (by decide) (Pu_assign rfl rfl) (WL_nil (X_then ?_)))
                          refine W_seq ?_
                          refine W_seq ?_
                          refine W.pre (K' := [(0, _), (1, _), (2, _), (7, _), (8, _), (10, _), (11, _), (12, _), (26, _), (60, _), (67, _), (68, _)]) (L' := [(0, _), (201, _)]) ?_ ⟨rfl, ⟨rfl, ⟨rfl, ⟨rfl, ⟨rfl, ⟨rfl, ⟨rfl, ⟨rfl, ⟨rfl, ⟨rfl, ⟨rfl, ⟨rfl, trivial⟩⟩⟩⟩⟩⟩⟩⟩⟩⟩⟩⟩ ⟨rfl, ⟨rfl, trivial⟩⟩
                          refine W_regL (WL_pure rfl rfl (by decide) (Pu_assign rfl rfl) (WL_nil (X_then ?_)))
                          refine W_block ?_
                          refine W_nilRow 401 5 1 ?_
                          refine W_loop (α := Nat × Value) (fun x => [(7, y.2.1), (11, .int .i64 1), (12, x.2), (13, .int .i64 (x.1 : Int))]) (fun x => [(0, F), (201, rowE 30 y.2.1 es), (401, rowB 5 x.2 (dirTo es x.1))]) (fun x => x.1 ≤ es.length) (fun x => es.length - x.1) ((0, .slice none 0 0)) (Nat.zero_le _) ⟨rfl, ⟨rfl, ⟨rfl, ⟨rfl, trivial⟩⟩⟩⟩ ⟨rfl, ⟨rfl, ⟨rfl, trivial⟩⟩⟩ (fun x hx => ?_)
                          unfold rowB
                          have hxl : x.1 ≤ es.length := hx
                          have hdl := dirTo_len f3 (fun e he => (f4 e he).1) x.1
                          refine W_seq ?_
                          refine W_seq ?_
                          refine W.pre (K' := [(7, _), (11, _), (12, _), (13, _)]) (L' := [(0, _), (201, _), (401, _)]) ?_ ⟨rfl, ⟨rfl, ⟨rfl, ⟨rfl, trivial⟩⟩⟩⟩ ⟨rfl, ⟨rfl, ⟨rfl, trivial⟩⟩⟩
                          refine W_regL (WL_pure rfl rfl (by decide) (Pu_move rfl rfl) (WL_pure rfl rfl (by decide) (Pu_move rfl rfl) (WL_pure rfl rfl (by decide) (Pu_len (r := 201) rfl Tryd.runUnderlying22 rfl rfl rowR_rd) (WL_pure rfl rfl (by decide) (Pu_bin rfl rfl rfl (run_lss _ _ _ _ _ _)) (WL_nil (X_then ?_))))))
                          refine W_cond rfl (fun hc111 => ?_) (fun hc111 => ?_)
                          ·
                            have hlt : x.1 < es.length := by have := of_decide_eq_true hc111; omega
                            have hnl := (f4 _ (getD_mem' (d := ent0) hlt)).1
                            have hzz := (f4 _ (getD_mem' (d := ent0) hlt)).2
                            refine W_skip (X_then ?_)
                            refine W_seq ?_
                            refine W_block ?_
                            refine W.pre (K' := [(7, _), (11, _), (12, _), (13, _), (111, _)]) (L' := [(0, _), (201, _), (401, _)]) ?_ ⟨rfl, ⟨rfl, ⟨rfl, ⟨rfl, ⟨rfl, trivial⟩⟩⟩⟩⟩ ⟨rfl, ⟨rfl, ⟨rfl, trivial⟩⟩⟩
                            refine W_draw (N := 18) (by kernel_rfl) rfl [(0, _), (201, _)] ⟨rfl, ⟨rfl, trivial⟩⟩ ?_
                            refine (AH_take 0 rfl (by kernel_rfl) (by kernel_rfl) (by kernel_rfl) rfl rfl (by decide) (Pu_move rfl rfl) (AH_take 1 rfl (by kernel_rfl) (by kernel_rfl) (by kernel_rfl) rfl rfl (by decide) (Pu_move rfl rfl) (AH_take 2 rfl (by kernel_rfl) (by kernel_rfl) (by kernel_rfl) rfl rfl (by decide) (Pu_move rfl rfl) (AH_take 3 rfl (by kernel_rfl) (by kernel_rfl) (by kernel_rfl) rfl rfl (by decide) (Pu_idxS (r := 201) rfl Tryd.runUnderlying22 Tryd.sizeOf30 rfl rfl rfl rowR_rd (by omega)) (AH_take 4 rfl (by kernel_rfl) (by kernel_rfl) (by kernel_rfl) rfl rfl (by decide) (Pu_fieldAddrE (off := 0) rfl rfl (by kernel_rfl)) (AH_take 5 rfl (by kernel_rfl) (by kernel_rfl) (by kernel_rfl) rfl rfl (by decide) (Pu_loadS (r := 201) rfl Tryd.isAgg9 rfl rfl rowR_rd (ent_name (k := x.1) f3 hlt)) (AH_take 6 rfl (by kernel_rfl) (by kernel_rfl) (by kernel_rfl) rfl rfl (by decide) (Pu_lenStr rfl Tryd.underlying9 rfl) (AH_take 7 rfl (by kernel_rfl) (by kernel_rfl) (by kernel_rfl) rfl rfl (by decide) (Pu_conv rfl rfl (conv_byte _ _ Tryd.runUnderlying3 Tryd.runUnderlying5)) (AH_take 10 rfl (by kernel_rfl) (by kernel_rfl) (by kernel_rfl) rfl rfl (by decide) (Pu_move rfl rfl) (AH_take 11 rfl (by kernel_rfl) (by kernel_rfl) (by kernel_rfl) rfl rfl (by decide) (Pu_move rfl rfl) (AH_take 12 rfl (by kernel_rfl) (by kernel_rfl) (by kernel_rfl) rfl rfl (by decide) (Pu_idxS (r := 201) rfl Tryd.runUnderlying22 Tryd.sizeOf30 rfl rfl rfl rowR_rd (by omega)) (AH_take 13 rfl (by kernel_rfl) (by kernel_rfl) (by kernel_rfl) rfl rfl (by decide) (Pu_fieldAddrE (off := 0) rfl rfl (by kernel_rfl)) (AH_take 14 rfl (by kernel_rfl) (by kernel_rfl) (by kernel_rfl) rfl rfl (by decide) (Pu_loadS (r := 201) rfl Tryd.isAgg9 rfl rfl rowR_rd (ent_name (k := x.1) f3 hlt)) (AH_ready [8] (by kernel_rfl) (by decide) ?_))))))))))))))
                            refine AHs_cons rfl rfl rfl (by decide) (OpT_buildOnes (r := 402) (bs [byte ((es.getD x.1 ent0).1.length : Int)]) rfl rfl Tryd.runUnderlying27 Tryd.sizeOf5 Tryd.zeroValue5 rfl rfl (by decide) rfl (bs_cells _) (fun v122 => ⟨⟨rfl, ⟨rfl, trivial⟩⟩, ?_⟩)) ?_
                            ·
                              refine (AH_ready [9] (by kernel_rfl) (by decide) ?_)
                              refine AHs_cons rfl rfl rfl (by decide) (OpT_append (r := 401) (r2 := 402) rfl Tryd.underlying27 TI.hi5 TI.hz5 TI.hs5 TI.hby5 TI.hzs5 (by decide) rfl rfl rfl rfl (fun _ h => rowP_rd h) (bs_one _) (by unfold maxLen; omega) (by omega) (fun v123 => ?_)) ?_
                              ·
                                refine ⟨⟨rfl, ⟨rfl, trivial⟩⟩, ?_⟩
                                refine (AH_ready [15] (by kernel_rfl) (by decide) ?_)
                                refine AHs_cons rfl rfl rfl (by decide) (OpT_appendStr (r := 401) rfl Tryd.underlying27 Tryd.underlying9 TI.hi5 TI.hz5 TI.hs5 TI.hby5 TI.hzs5 rfl rfl rfl (by unfold maxLen; omega) (by omega) (fun v129 => ?_)) ?_
                                ·
                                  refine ⟨⟨rfl, ⟨rfl, trivial⟩⟩, ?_⟩
                                  refine (AH_ready [16] (by kernel_rfl) (by decide) ?_)
                                  refine AHs_cons rfl rfl rfl (by decide) (OpT_appendZ (r := 401) (m := 32) rfl Tryd.underlying27 Tryd.underlying3 TI.hi5 TI.hz5 TI.hs5 TI.hby5 rfl rfl rfl (by omega) rfl (by omega) (by unfold maxLen; omega) (by omega) (fun v130 => ?_)) ?_
                                  ·
                                    refine ⟨⟨rfl, ⟨rfl, trivial⟩⟩, ?_⟩
                                    refine (AH_take 17 rfl (by kernel_rfl) (by kernel_rfl) (by kernel_rfl) rfl rfl (by decide) (Pu_assign rfl rfl) (AH_done (by kernel_rfl) (X_block (X_then ?_))))
                                    refine W.pre (K' := [(7, _), (11, _), (12, _), (13, _), (111, _)]) (L' := [(0, _), (201, _), (401, _), (402, _)]) ?_ ⟨rfl, ⟨rfl, ⟨rfl, ⟨rfl, ⟨rfl, trivial⟩⟩⟩⟩⟩ ⟨rfl, ⟨rfl, ⟨rfl, ⟨rfl, trivial⟩⟩⟩⟩
                                    refine W_regL (WL_pure rfl rfl (by decide) (Pu_move rfl rfl) (WL_pure rfl rfl (by decide) (Pu_bin rfl rfl rfl (run_add _ _ _ _ _ (by omega))) (WL_pure rfl rfl (by decide) (Pu_assign rfl rfl) (WL_nil ?_))))
                                    exact X_round (x.1 + 1, v130) hlt (by dsimp only; omega) ⟨rfl, rfl, rfl, rfl, trivial⟩ ⟨rfl, rfl, look_eq rfl (rowB_of (dirTo es (x.1 + 1)) (by rw [rawTo_succ hlt hzz]; simp only [List.length_append, List.length_cons, List.length_nil, zeroId_length]) (by rw [rawTo_succ hlt hzz, bs_append, bs_append, bs_append]; rfl)), trivial⟩
                                  exact AHs_nil
                                exact AHs_nil
                              exact AHs_nil
                            exact AHs_nil
                          ·
                            obtain hfin : x.1 = es.length := by have := of_decide_eq_false hc111; omega
                            refine W_exit (X_then_exit (X_then_exit (X_block_exit (X_then ?_))))
                            refine W_seq ?_
                            refine W.pre (K' := [(7, _), (11, _), (12, _), (13, _), (111, _)]) (L' := [(0, _), (201, _), (401, _)]) ?_ ⟨rfl, ⟨rfl, ⟨rfl, ⟨rfl, ⟨rfl, trivial⟩⟩⟩⟩⟩ ⟨rfl, ⟨rfl, ⟨rfl, trivial⟩⟩⟩
                            refine W_regL (WL_pure rfl rfl (by decide) (Pu_move rfl rfl) (WL_cons rfl rfl (by decide) (OpT_call 500 [0, 201, 401] [] rfl Tryd.call7 rfl rfl rfl (by decide) (by decide) (dir_spec y.2.1 es f3 (by omega) (fun e he => by have := (f4 e he).1; omega) _ (rd_star 1 rfl rowR_rd) (tabs_star 0 rfl hT)) (fun v133 Ps133 hR133 => ?_))))
                            obtain ⟨w133, rfl, rfl⟩ := hR133
                            rw [f5, g2]
                            refine (WL_pure rfl rfl (by decide) (Pu_move rfl rfl) (WL_pure rfl rfl (by decide) (Pu_extract rfl rfl rfl) (WL_pure rfl rfl (by decide) (Pu_extract rfl rfl rfl) (WL_pure rfl rfl (by decide) (Pu_assign rfl rfl) (WL_pure rfl rfl (by decide) (Pu_assign rfl rfl) (WL_nil (X_then ?_)))))))
                            refine W_seq ?_
                            refine W.pre (K' := [(7, _), (11, _), (12, _), (13, _), (14, _), (15, _), (111, _)]) (L' := [(0, _), (201, _), (401, _), (500, _)]) ?_ ⟨rfl, ⟨rfl, ⟨rfl, ⟨rfl, ⟨rfl, ⟨rfl, ⟨rfl, trivial⟩⟩⟩⟩⟩⟩⟩ ⟨rfl, ⟨rfl, ⟨rfl, ⟨rfl, trivial⟩⟩⟩⟩
                            refine W_regL (WL_pure rfl rfl (by decide) (Pu_move rfl rfl) (WL_cons rfl rfl (by decide) (OpT_call 600 [0, 201, 401, 500] [] rfl Tryd.call10 rfl rfl rfl (by decide) (by decide) (parseDir_spec x.2 (dirTo es x.1) (by omega) _ (rd_star 2 rfl rowB_rd) (tabs_star 0 rfl hT)) (fun v138 Ps138 hR138 => ?_))))
                            obtain ⟨w138, rfl, rfl⟩ := hR138
                            rw [hfin, dirTo_all, g1]
                            refine (WL_pure rfl rfl (by decide) (Pu_move rfl rfl) (WL_pure rfl rfl (by decide) (Pu_extract rfl rfl rfl) (WL_pure rfl rfl (by decide) (Pu_extract rfl rfl rfl) (WL_pure rfl rfl (by decide) (Pu_assign rfl rfl) (WL_pure rfl rfl (by decide) (Pu_assign rfl rfl) (WL_nil (X_then ?_)))))))
                            refine W_seq ?_
                            refine W.pre (K' := [(7, _), (11, _), (12, _), (13, _), (14, _), (15, _), (16, _), (17, _), (111, _)]) (L' := [(0, _), (201, _), (401, _), (500, _), (600, _)]) ?_ ⟨rfl, ⟨rfl, ⟨rfl, ⟨rfl, ⟨rfl, ⟨rfl, ⟨rfl, ⟨rfl, ⟨rfl, trivial⟩⟩⟩⟩⟩⟩⟩⟩⟩ ⟨rfl, ⟨rfl, ⟨rfl, ⟨rfl, ⟨rfl, trivial⟩⟩⟩⟩⟩
                            refine W_regL (WL_pure rfl rfl (by decide) (Pu_move rfl rfl) (WL_pure rfl rfl (by decide) (Pu_move rfl rfl) (WL_pure rfl rfl (by decide) (Pu_bin rfl rfl rfl (run_eql _ _ _ _ _ _)) (WL_pure rfl rfl (by decide) (Pu_move rfl rfl) (WL_guardP rfl rfl rfl rfl (by decide) (fun hb => (Pu_move rfl rfl)) (WL_guardP rfl rfl rfl rfl (by decide) (fun hb => (Pu_len (r := 500) rfl Tryd.runUnderlying27 (ev_gv rfl hb) rfl rowB_rd)) (WL_guardP rfl rfl rfl rfl (by decide) (fun hb => (Pu_bin rfl (ev_gv rfl hb) rfl (run_eql _ _ _ _ _ _))) (WL_pure rfl rfl (by decide) (Pu_and rfl rfl rfl) (WL_pure rfl rfl (by decide) (Pu_move rfl rfl) (WL_guardP rfl rfl rfl rfl (by decide) (fun hb => (Pu_move rfl rfl)) (WL_guardP rfl rfl rfl rfl (by decide) (fun hb => (Pu_move rfl rfl)) (WL_guardP rfl rfl rfl rfl (by decide) (fun hb => (Pu_bin rfl (ev_gv rfl hb) (ev_gv rfl hb) (run_eql _ _ _ _ _ _))) (WL_pure rfl rfl (by decide) (Pu_and rfl rfl rfl) (WL_pure rfl rfl (by decide) (Pu_move rfl rfl) (WL_guardP rfl rfl rfl rfl (by decide) (fun hb => (Pu_move rfl rfl)) (WL_guardP rfl rfl rfl rfl (by decide) (fun hb => (Pu_len (r := 600) rfl Tryd.runUnderlying22 (ev_gv rfl hb) rfl rowR_rd)) (WL_guardP rfl rfl rfl rfl (by decide) (fun hb => (Pu_bin rfl (ev_gv rfl hb) rfl (run_eql _ _ _ _ _ _))) (WL_pure rfl rfl (by decide) (Pu_and rfl rfl rfl) (WL_pure rfl rfl (by decide) (Pu_assign rfl rfl) (WL_nil (X_then ?_)))))))))))))))))))))
                            refine W_ret ?_
                            exact X_ret [] (Ps := []) (res1 Tryd.results4 rfl) rfl (by decide) ⟨rfl, rfl⟩
                        exact AHs_nil
                      exact AHs_nil
                    exact AHs_nil
                  exact AHs_nil
                exact AHs_nil
              exact AHs_nil
            exact AHs_nil
          refine AHs_cons rfl rfl rfl (by decide) (OpT_run (Pu_idxS (r := 201) rfl Tryd.runUnderlying22 Tryd.sizeOf30 rfl rfl rfl (fun _ h => rowP_rd h) (by omega)) ⟨⟨rfl, trivial⟩, ?_⟩) ?_
          ·
            refine (AH_ready [8, 13] (by kernel_rfl) (by decide) ?_)
            refine AHs_cons rfl rfl rfl (by decide) (OpT_run (Pu_idxS (r := 201) rfl Tryd.runUnderlying22 Tryd.sizeOf30 rfl rfl rfl (fun _ h => rowP_rd h) (by omega)) ⟨⟨rfl, trivial⟩, ?_⟩) ?_
            ·
              refine (AH_ready [9, 13] (by kernel_rfl) (by decide) ?_)
              refine AHs_cons rfl rfl rfl (by decide) (OpT_run (Pu_loadSN (r := 201) rfl Tryd.isAgg30 Tryd.sizeOf30 rfl rfl (fun _ h => rowP_rd h) (entC_length (hEa.get (by omega))) (by decide) (ent_all (k := k + 1) hEa (by omega))) ⟨⟨rfl, trivial⟩, ?_⟩) ?_
              ·
                refine (AH_ready [13] (by kernel_rfl) (by decide) ?_)
                refine AHs_cons rfl rfl rfl (by decide) (OpT_run (Pu_loadSN (r := 201) rfl Tryd.isAgg30 Tryd.sizeOf30 rfl rfl (fun _ h => rowP_rd h) (entC_length (hEa.get (by omega))) (by decide) (ent_all (k := k) hEa (by omega))) ⟨⟨rfl, trivial⟩, ?_⟩) ?_
                ·
                  refine (AH_ready [14] (by kernel_rfl) (by decide) ?_)
                  refine AHs_cons rfl rfl rfl (by decide) (OpT_run (Pu_idxS (r := 201) rfl Tryd.runUnderlying22 Tryd.sizeOf30 rfl rfl rfl (fun _ h => rowP_rd h) (by omega)) ⟨⟨rfl, trivial⟩, ?_⟩) ?_
                  ·
                    refine (AH_ready [15] (by kernel_rfl) (by decide) ?_)
                    refine AHs_cons0 rfl rfl rfl (OpT_storeRec (r := 201) entF (k) (y.2.2.getD (k + 1) ent0) rfl Tryd.sizeOf30 rfl rfl rfl hEa.len (by omega) (entC_length (hEa.get (by omega))) (by decide) (entF_one _) ?_) ?_
                    ·
                      refine ⟨⟨rfl, trivial⟩, ?_⟩
                      refine (AH_ready [16] (by kernel_rfl) (by decide) ?_)
                      refine AHs_cons rfl rfl rfl (by decide) (OpT_run (Pu_idxS (r := 201) rfl Tryd.runUnderlying22 Tryd.sizeOf30 rfl rfl rfl (fun _ h => rowP_rd h) (by omega)) ⟨⟨rfl, trivial⟩, ?_⟩) ?_
                      ·
                        refine (AH_ready [17] (by kernel_rfl) (by decide) ?_)
                        refine AHs_cons0 rfl rfl rfl (OpT_storeRec (r := 201) entF (k + 1) (y.2.2.getD k ent0) rfl Tryd.sizeOf30 rfl rfl rfl (fun e he => by rcases set_mem he with he | he; exact hEa.len e he; rw [he]; exact entC_length (hEa.get (by omega))) (by rw [List.length_set]; omega) (entC_length (hEa.get (by omega))) (by decide) (entF_one _) ?_) ?_
                        ·
                          refine ⟨⟨rfl, trivial⟩, ?_⟩
                          refine (AH_done (by kernel_rfl) (X_block (X_then ?_)))
                          refine W_seq ?_
                          refine W.pre (K' := [(0, _), (1, _), (2, _), (7, _), (8, _), (10, _), (11, _), (26, _), (60, _), (67, _), (68, _)]) (L' := [(0, _), (201, _)]) ?_ ⟨rfl, ⟨rfl, ⟨rfl, ⟨rfl, ⟨rfl, ⟨rfl, ⟨rfl, ⟨rfl, ⟨rfl, ⟨rfl, ⟨rfl, trivial⟩⟩⟩⟩⟩⟩⟩⟩⟩⟩⟩ ⟨rfl, ⟨rfl, trivial⟩⟩
                          have hfit := fit_swap hord h2 h20 hkl
                          refine W_turn (P' := rowE 30 y.2.1 ((y.2.2.set k (y.2.2.getD (k + 1) ent0)).set (k + 1) (y.2.2.getD k ent0))) 201 rfl (fun h hp => (congrFun (rowR_of (n := y.2.2.length) (f := entF) (S := 33) ((y.2.2.set k (y.2.2.getD (k + 1) ent0)).set (k + 1) (y.2.2.getD k ent0)) (by simp only [List.length_set]) rfl) h).mp hp) ?_
                          generalize ((y.2.2.set k (y.2.2.getD (k + 1) ent0)).set (k + 1) (y.2.2.getD k ent0)) = es at *
                          obtain ⟨f1, f2, f3, f4, f5, f6⟩ := id hfit
                          obtain ⟨g1, g2, g3⟩ := fit_parse hfit
                          refine W_regL (WL_pure rfl rfl (by decide) (Pu_assign rfl rfl) (WL_nil (X_then ?_)))
                          refine W_seq ?_
                          refine W_seq ?_
                          refine W.pre (K' := [(0, _), (1, _), (2, _), (7, _), (8, _), (10, _), (11, _), (12, _), (26, _), (60, _), (67, _), (68, _)]) (L' := [(0, _), (201, _)]) ?_ ⟨rfl, ⟨rfl, ⟨rfl, ⟨rfl, ⟨rfl, ⟨rfl, ⟨rfl, ⟨rfl, ⟨rfl, ⟨rfl, ⟨rfl, ⟨rfl, trivial⟩⟩⟩⟩⟩⟩⟩⟩⟩⟩⟩⟩ ⟨rfl, ⟨rfl, trivial⟩⟩
                          refine W_regL (WL_pure rfl rfl (by decide) (Pu_assign rfl rfl) (WL_nil (X_then ?_)))
                          refine W_block ?_
                          refine W_nilRow 401 5 1 ?_
                          refine W_loop (α := Nat × Value) (fun x => [(7, y.2.1), (11, .int .i64 1), (12, x.2), (13, .int .i64 (x.1 : Int))]) (fun x => [(0, F), (201, rowE 30 y.2.1 es), (401, rowB 5 x.2 (dirTo es x.1))]) (fun x => x.1 ≤ es.length) (fun x => es.length - x.1) ((0, .slice none 0 0)) (Nat.zero_le _) ⟨rfl, ⟨rfl, ⟨rfl, ⟨rfl, trivial⟩⟩⟩⟩ ⟨rfl, ⟨rfl, ⟨rfl, trivial⟩⟩⟩ (fun x hx => ?_)
                          unfold rowB
                          have hxl : x.1 ≤ es.length := hx
                          have hdl := dirTo_len f3 (fun e he => (f4 e he).1) x.1
                          refine W_seq ?_
                          refine W_seq ?_
                          refine W.pre (K' := [(7, _), (11, _), (12, _), (13, _)]) (L' := [(0, _), (201, _), (401, _)]) ?_ ⟨rfl, ⟨rfl, ⟨rfl, ⟨rfl, trivial⟩⟩⟩⟩ ⟨rfl, ⟨rfl, ⟨rfl, trivial⟩⟩⟩
                          refine W_regL (WL_pure rfl rfl (by decide) (Pu_move rfl rfl) (WL_pure rfl rfl (by decide) (Pu_move rfl rfl) (WL_pure rfl rfl (by decide) (Pu_len (r := 201) rfl Tryd.runUnderlying22 rfl rfl rowR_rd) (WL_pure rfl rfl (by decide) (Pu_bin rfl rfl rfl (run_lss _ _ _ _ _ _)) (WL_nil (X_then ?_))))))
                          refine W_cond rfl (fun hc111 => ?_) (fun hc111 => ?_)
                          ·
                            have hlt : x.1 < es.length := by have := of_decide_eq_true hc111; omega
                            have hnl := (f4 _ (getD_mem' (d := ent0) hlt)).1
                            have hzz := (f4 _ (getD_mem' (d := ent0) hlt)).2
                            refine W_skip (X_then ?_)
                            refine W_seq ?_
                            refine W_block ?_
                            refine W.pre (K' := [(7, _), (11, _), (12, _), (13, _), (111, _)]) (L' := [(0, _), (201, _), (401, _)]) ?_ ⟨rfl, ⟨rfl, ⟨rfl, ⟨rfl, ⟨rfl, trivial⟩⟩⟩⟩⟩ ⟨rfl, ⟨rfl, ⟨rfl, trivial⟩⟩⟩
                            refine W_draw (N := 18) (by kernel_rfl) rfl [(0, _), (201, _)] ⟨rfl, ⟨rfl, trivial⟩⟩ ?_
                            refine (AH_take 0 rfl (by kernel_rfl) (by kernel_rfl) (by kernel_rfl) rfl rfl (by decide) (Pu_move rfl rfl) (AH_take 1 rfl (by kernel_rfl) (by kernel_rfl) (by kernel_rfl) rfl rfl (by decide) (Pu_move rfl rfl) (AH_take 2 rfl (by kernel_rfl) (by kernel_rfl) (by kernel_rfl) rfl rfl (by decide) (Pu_move rfl rfl) (AH_take 3 rfl (by kernel_rfl) (by kernel_rfl) (by kernel_rfl) rfl rfl (by decide) (Pu_idxS (r := 201) rfl Tryd.runUnderlying22 Tryd.sizeOf30 rfl rfl rfl rowR_rd (by omega)) (AH_take 4 rfl (by kernel_rfl) (by kernel_rfl) (by kernel_rfl) rfl rfl (by decide) (Pu_fieldAddrE (off := 0) rfl rfl (by kernel_rfl)) (AH_take 5 rfl (by kernel_rfl) (by kernel_rfl) (by kernel_rfl) rfl rfl (by decide) (Pu_loadS (r := 201) rfl Tryd.isAgg9 rfl rfl rowR_rd (ent_name (k := x.1) f3 hlt)) (AH_take 6 rfl (by kernel_rfl) (by kernel_rfl) (by kernel_rfl) rfl rfl (by decide) (Pu_lenStr rfl Tryd.underlying9 rfl) (AH_take 7 rfl (by kernel_rfl) (by kernel_rfl) (by kernel_rfl) rfl rfl (by decide) (Pu_conv rfl rfl (conv_byte _ _ Tryd.runUnderlying3 Tryd.runUnderlying5)) (AH_take 10 rfl (by kernel_rfl) (by kernel_rfl) (by kernel_rfl) rfl rfl (by decide) (Pu_move rfl rfl) (AH_take 11 rfl (by kernel_rfl) (by kernel_rfl) (by kernel_rfl) rfl rfl (by decide) (Pu_move rfl rfl) (AH_take 12 rfl (by kernel_rfl) (by kernel_rfl) (by kernel_rfl) rfl rfl (by decide) (Pu_idxS (r := 201) rfl Tryd.runUnderlying22 Tryd.sizeOf30 rfl rfl rfl rowR_rd (by omega)) (AH_take 13 rfl (by kernel_rfl) (by kernel_rfl) (by kernel_rfl) rfl rfl (by decide) (Pu_fieldAddrE (off := 0) rfl rfl (by kernel_rfl)) (AH_take 14 rfl (by kernel_rfl) (by kernel_rfl) (by kernel_rfl) rfl rfl (by decide) (Pu_loadS (r := 201) rfl Tryd.isAgg9 rfl rfl rowR_rd (ent_name (k := x.1) f3 hlt)) (AH_ready [8] (by kernel_rfl) (by decide) ?_))))))))))))))
                            refine AHs_cons rfl rfl rfl (by decide) (OpT_buildOnes (r := 402) (bs [byte ((es.getD x.1 ent0).1.length : Int)]) rfl rfl Tryd.runUnderlying27 Tryd.sizeOf5 Tryd.zeroValue5 rfl rfl (by decide) rfl (bs_cells _) (fun v122 => ⟨⟨rfl, ⟨rfl, trivial⟩⟩, ?_⟩)) ?_
                            ·
                              refine (AH_ready [9] (by kernel_rfl) (by decide) ?_)
                              refine AHs_cons rfl rfl rfl (by decide) (OpT_append (r := 401) (r2 := 402) rfl Tryd.underlying27 TI.hi5 TI.hz5 TI.hs5 TI.hby5 TI.hzs5 (by decide) rfl rfl rfl rfl (fun _ h => rowP_rd h) (bs_one _) (by unfold maxLen; omega) (by omega) (fun v123 => ?_)) ?_
                              ·
                                refine ⟨⟨rfl, ⟨rfl, trivial⟩⟩, ?_⟩
                                refine (AH_ready [15] (by kernel_rfl) (by decide) ?_)
                                refine AHs_cons rfl rfl rfl (by decide) (OpT_appendStr (r := 401) rfl Tryd.underlying27 Tryd.underlying9 TI.hi5 TI.hz5 TI.hs5 TI.hby5 TI.hzs5 rfl rfl rfl (by unfold maxLen; omega) (by omega) (fun v129 => ?_)) ?_
                                ·
                                  refine ⟨⟨rfl, ⟨rfl, trivial⟩⟩, ?_⟩
                                  refine (AH_ready [16] (by kernel_rfl) (by decide) ?_)
                                  refine AHs_cons rfl rfl rfl (by decide) (OpT_appendZ (r := 401) (m := 32) rfl Tryd.underlying27 Tryd.underlying3 TI.hi5 TI.hz5 TI.hs5 TI.hby5 rfl rfl rfl (by omega) rfl (by omega) (by unfold maxLen; omega) (by omega) (fun v130 => ?_)) ?_
                                  ·
                                    refine ⟨⟨rfl, ⟨rfl, trivial⟩⟩, ?_⟩
                                    refine (AH_take 17 rfl (by kernel_rfl) (by kernel_rfl) (by kernel_rfl) rfl rfl (by decide) (Pu_assign rfl rfl) (AH_done (by kernel_rfl) (X_block (X_then ?_))))
                                    refine W.pre (K' := [(7, _), (11, _), (12, _), (13, _), (111, _)]) (L' := [(0, _), (201, _), (401, _), (402, _)]) ?_ ⟨rfl, ⟨rfl, ⟨rfl, ⟨rfl, ⟨rfl, trivial⟩⟩⟩⟩⟩ ⟨rfl, ⟨rfl, ⟨rfl, ⟨rfl, trivial⟩⟩⟩⟩
                                    refine W_regL (WL_pure rfl rfl (by decide) (Pu_move rfl rfl) (WL_pure rfl rfl (by decide) (Pu_bin rfl rfl rfl (run_add _ _ _ _ _ (by omega))) (WL_pure rfl rfl (by decide) (Pu_assign rfl rfl) (WL_nil ?_))))
                                    exact X_round (x.1 + 1, v130) hlt (by dsimp only; omega) ⟨rfl, rfl, rfl, rfl, trivial⟩ ⟨rfl, rfl, look_eq rfl (rowB_of (dirTo es (x.1 + 1)) (by rw [rawTo_succ hlt hzz]; simp only [List.length_append, List.length_cons, List.length_nil, zeroId_length]) (by rw [rawTo_succ hlt hzz, bs_append, bs_append, bs_append]; rfl)), trivial⟩
                                  exact AHs_nil
                                exact AHs_nil
                              exact AHs_nil
                            exact AHs_nil
                          ·
                            obtain hfin : x.1 = es.length := by have := of_decide_eq_false hc111; omega
                            refine W_exit (X_then_exit (X_then_exit (X_block_exit (X_then ?_))))
                            refine W_seq ?_
                            refine W.pre (K' := [(7, _), (11, _), (12, _), (13, _), (111, _)]) (L' := [(0, _), (201, _), (401, _)]) ?_ ⟨rfl, ⟨rfl, ⟨rfl, ⟨rfl, ⟨rfl, trivial⟩⟩⟩⟩⟩ ⟨rfl, ⟨rfl, ⟨rfl, trivial⟩⟩⟩
                            refine W_regL (WL_pure rfl rfl (by decide) (Pu_move rfl rfl) (WL_cons rfl rfl (by decide) (OpT_call 500 [0, 201, 401] [] rfl Tryd.call7 rfl rfl rfl (by decide) (by decide) (dir_spec y.2.1 es f3 (by omega) (fun e he => by have := (f4 e he).1; omega) _ (rd_star 1 rfl rowR_rd) (tabs_star 0 rfl hT)) (fun v133 Ps133 hR133 => ?_))))
                            obtain ⟨w133, rfl, rfl⟩ := hR133
                            rw [f5, g2]
                            refine (WL_pure rfl rfl (by decide) (Pu_move rfl rfl) (WL_pure rfl rfl (by decide) (Pu_extract rfl rfl rfl) (WL_pure rfl rfl (by decide) (Pu_extract rfl rfl rfl) (WL_pure rfl rfl (by decide) (Pu_assign rfl rfl) (WL_pure rfl rfl (by decide) (Pu_assign rfl rfl) (WL_nil (X_then ?_)))))))
                            refine W_seq ?_
                            refine W.pre (K' := [(7, _), (11, _), (12, _), (13, _), (14, _), (15, _), (111, _)]) (L' := [(0, _), (201, _), (401, _), (500, _)]) ?_ ⟨rfl, ⟨rfl, ⟨rfl, ⟨rfl, ⟨rfl, ⟨rfl, ⟨rfl, trivial⟩⟩⟩⟩⟩⟩⟩ ⟨rfl, ⟨rfl, ⟨rfl, ⟨rfl, trivial⟩⟩⟩⟩
                            refine W_regL (WL_pure rfl rfl (by decide) (Pu_move rfl rfl) (WL_cons rfl rfl (by decide) (OpT_call 600 [0, 201, 401, 500] [] rfl Tryd.call10 rfl rfl rfl (by decide) (by decide) (parseDir_spec x.2 (dirTo es x.1) (by omega) _ (rd_star 2 rfl rowB_rd) (tabs_star 0 rfl hT)) (fun v138 Ps138 hR138 => ?_))))
                            obtain ⟨w138, rfl, rfl⟩ := hR138
                            rw [hfin, dirTo_all, g1]
                            refine (WL_pure rfl rfl (by decide) (Pu_move rfl rfl) (WL_pure rfl rfl (by decide) (Pu_extract rfl rfl rfl) (WL_pure rfl rfl (by decide) (Pu_extract rfl rfl rfl) (WL_pure rfl rfl (by decide) (Pu_assign rfl rfl) (WL_pure rfl rfl (by decide) (Pu_assign rfl rfl) (WL_nil (X_then ?_)))))))
                            refine W_seq ?_
                            refine W.pre (K' := [(7, _), (11, _), (12, _), (13, _), (14, _), (15, _), (16, _), (17, _), (111, _)]) (L' := [(0, _), (201, _), (401, _), (500, _), (600, _)]) ?_ ⟨rfl, ⟨rfl, ⟨rfl, ⟨rfl, ⟨rfl, ⟨rfl, ⟨rfl, ⟨rfl, ⟨rfl, trivial⟩⟩⟩⟩⟩⟩⟩⟩⟩ ⟨rfl, ⟨rfl, ⟨rfl, ⟨rfl, ⟨rfl, trivial⟩⟩⟩⟩⟩
                            refine W_regL (WL_pure rfl rfl (by decide) (Pu_move rfl rfl) (WL_pure rfl rfl (by decide) (Pu_move rfl rfl) (WL_pure rfl rfl (by decide) (Pu_bin rfl rfl rfl (run_eql _ _ _ _ _ _)) (WL_pure rfl rfl (by decide) (Pu_move rfl rfl) (WL_guardP rfl rfl rfl rfl (by decide) (fun hb => (Pu_move rfl rfl)) (WL_guardP rfl rfl rfl rfl (by decide) (fun hb => (Pu_len (r := 500) rfl Tryd.runUnderlying27 (ev_gv rfl hb) rfl rowB_rd)) (WL_guardP rfl rfl rfl rfl (by decide) (fun hb => (Pu_bin rfl (ev_gv rfl hb) rfl (run_eql _ _ _ _ _ _))) (WL_pure rfl rfl (by decide) (Pu_and rfl rfl rfl) (WL_pure rfl rfl (by decide) (Pu_move rfl rfl) (WL_guardP rfl rfl rfl rfl (by decide) (fun hb => (Pu_move rfl rfl)) (WL_guardP rfl rfl rfl rfl (by decide) (fun hb => (Pu_move rfl rfl)) (WL_guardP rfl rfl rfl rfl (by decide) (fun hb => (Pu_bin rfl (ev_gv rfl hb) (ev_gv rfl hb) (run_eql _ _ _ _ _ _))) (WL_pure rfl rfl (by decide) (Pu_and rfl rfl rfl) (WL_pure rfl rfl (by decide) (Pu_move rfl rfl) (WL_guardP rfl rfl rfl rfl (by decide) (fun hb => (Pu_move rfl rfl)) (WL_guardP rfl rfl rfl rfl (by decide) (fun hb => (Pu_len (r := 600) rfl Tryd.runUnderlying22 (ev_gv rfl hb) rfl rowR_rd)) (WL_guardP rfl rfl rfl rfl (by decide) (fun hb => (Pu_bin rfl (ev_gv rfl hb) rfl (run_eql _ _ _ _ _ _))) (WL_pure rfl rfl (by decide) (Pu_and rfl rfl rfl) (WL_pure rfl rfl (by decide) (Pu_assign rfl rfl) (WL_nil (X_then ?_)))))))))))))))))))))
                            refine W_ret ?_
                            exact X_ret [] (Ps := []) (res1 Tryd.results4 rfl) rfl (by decide) ⟨rfl, rfl⟩
                        exact AHs_nil
                      exact AHs_nil
                    exact AHs_nil
                  exact AHs_nil
                exact AHs_nil
              refine AHs_cons rfl rfl rfl (by decide) (OpT_run (Pu_loadSN (r := 201) rfl Tryd.isAgg30 Tryd.sizeOf30 rfl rfl (fun _ h => rowP_rd h) (entC_length (hEa.get (by omega))) (by decide) (ent_all (k := k) hEa (by omega))) ⟨⟨rfl, trivial⟩, ?_⟩) ?_
              ·
                refine (AH_ready [9] (by kernel_rfl) (by decide) ?_)
                refine AHs_cons rfl rfl rfl (by decide) (OpT_run (Pu_loadSN (r := 201) rfl Tryd.isAgg30 Tryd.sizeOf30 rfl rfl (fun _ h => rowP_rd h) (entC_length (hEa.get (by omega))) (by decide) (ent_all (k := k + 1) hEa (by omega))) ⟨⟨rfl, trivial⟩, ?_⟩) ?_
                ·
                  refine (AH_ready [14] (by kernel_rfl) (by decide) ?_)
                  refine AHs_cons rfl rfl rfl (by decide) (OpT_run (Pu_idxS (r := 201) rfl Tryd.runUnderlying22 Tryd.sizeOf30 rfl rfl rfl (fun _ h => rowP_rd h) (by omega)) ⟨⟨rfl, trivial⟩, ?_⟩) ?_
                  ·
                    refine (AH_ready [15] (by kernel_rfl) (by decide) ?_)
                    refine AHs_cons0 rfl rfl rfl (OpT_storeRec (r := 201) entF (k) (y.2.2.getD (k + 1) ent0) rfl Tryd.sizeOf30 rfl rfl rfl hEa.len (by omega) (entC_length (hEa.get (by omega))) (by decide) (entF_one _) ?_) ?_
                    ·
                      refine ⟨⟨rfl, trivial⟩, ?_⟩
                      refine (AH_ready [16] (by kernel_rfl) (by decide) ?_)
                      refine AHs_cons rfl rfl rfl (by decide) (OpT_run (Pu_idxS (r := 201) rfl Tryd.runUnderlying22 Tryd.sizeOf30 rfl rfl rfl (fun _ h => rowP_rd h) (by omega)) ⟨⟨rfl, trivial⟩, ?_⟩) ?_
                      ·
                        refine (AH_ready [17] (by kernel_rfl) (by decide) ?_)
                        refine AHs_cons0 rfl rfl rfl (OpT_storeRec (r := 201) entF (k + 1) (y.2.2.getD k ent0) rfl Tryd.sizeOf30 rfl rfl rfl (fun e he => by rcases set_mem he with he | he; exact hEa.len e he; rw [he]; exact entC_length (hEa.get (by omega))) (by rw [List.length_set]; omega) (entC_length (hEa.get (by omega))) (by decide) (entF_one _) ?_) ?_
                        ·
                          refine ⟨⟨rfl, trivial⟩, ?_⟩
                          refine (AH_done (by kernel_rfl) (X_block (X_then ?_)))
                          refine W_seq ?_
                          refine W.pre (K' := [(0, _), (1, _), (2, _), (7, _), (8, _), (10, _), (11, _), (26, _), (60, _), (67, _), (68, _)]) (L' := [(0, _), (201, _)]) ?_ ⟨rfl, ⟨rfl, ⟨rfl, ⟨rfl, ⟨rfl, ⟨rfl, ⟨rfl, ⟨rfl, ⟨rfl, ⟨rfl, ⟨rfl, trivial⟩⟩⟩⟩⟩⟩⟩⟩⟩⟩⟩ ⟨rfl, ⟨rfl, trivial⟩⟩
                          have hfit := fit_swap hord h2 h20 hkl
                          refine W_turn (P' := rowE 30 y.2.1 ((y.2.2.set k (y.2.2.getD (k + 1) ent0)).set (k + 1) (y.2.2.getD k ent0))) 201 rfl (fun h hp => (congrFun (rowR_of (n := y.2.2.length) (f := entF) (S := 33) ((y.2.2.set k (y.2.2.getD (k + 1) ent0)).set (k + 1) (y.2.2.getD k ent0)) (by simp only [List.length_set]) rfl) h).mp hp) ?_
                          generalize ((y.2.2.set k (y.2.2.getD (k + 1) ent0)).set (k + 1) (y.2.2.getD k ent0)) = es at *
                          obtain ⟨f1, f2, f3, f4, f5, f6⟩ := id hfit
                          obtain ⟨g1, g2, g3⟩ := fit_parse hfit
                          refine W_regL (WL_pure rfl rfl (by decide) (Pu_assign rfl rfl) (WL_nil (X_then ?_)))
                          refine W_seq ?_
                          refine W_seq ?_
                          refine W.pre (K' := [(0, _), (1, _), (2, _), (7, _), (8, _), (10, _), (11, _), (12, _), (26, _), (60, _), (67, _), (68, _)]) (L' := [(0, _), (201, _)]) ?_ ⟨rfl, ⟨rfl, ⟨rfl, ⟨rfl, ⟨rfl, ⟨rfl, ⟨rfl, ⟨rfl, ⟨rfl, ⟨rfl, ⟨rfl, ⟨rfl, trivial⟩⟩⟩⟩⟩⟩⟩⟩⟩⟩⟩⟩ ⟨rfl, ⟨rfl, trivial⟩⟩
                          refine W_regL (WL_pure rfl rfl (by decide) (Pu_assign rfl rfl) (WL_nil (X_then ?_)))
                          refine W_block ?_
                          refine W_nilRow 401 5 1 ?_
                          refine W_loop (α := Nat × Value) (fun x => [(7, y.2.1), (11, .int .i64 1), (12, x.2), (13, .int .i64 (x.1 : Int))]) (fun x => [(0, F), (201, rowE 30 y.2.1 es), (401, rowB 5 x.2 (dirTo es x.1))]) (fun x => x.1 ≤ es.length) (fun x => es.length - x.1) ((0, .slice none 0 0)) (Nat.zero_le _) ⟨rfl, ⟨rfl, ⟨rfl, ⟨rfl, trivial⟩⟩⟩⟩ ⟨rfl, ⟨rfl, ⟨rfl, trivial⟩⟩⟩ (fun x hx => ?_)
                          unfold rowB
                          have hxl : x.1 ≤ es.length := hx
                          have hdl := dirTo_len f3 (fun e he => (f4 e he).1) x.1
                          refine W_seq ?_
                          refine W_seq ?_
                          refine W.pre (K' := [(7, _), (11, _), (12, _), (13, _)]) (L' := [(0, _), (201, _), (401, _)]) ?_ ⟨rfl, ⟨rfl, ⟨rfl, ⟨rfl, trivial⟩⟩⟩⟩ ⟨rfl, ⟨rfl, ⟨rfl, trivial⟩⟩⟩
                          refine W_regL (WL_pure rfl rfl (by decide) (Pu_move rfl rfl) (WL_pure rfl rfl (by decide) (Pu_move rfl rfl) (WL_pure rfl rfl (by decide) (Pu_len (r := 201) rfl Tryd.runUnderlying22 rfl rfl rowR_rd) (WL_pure rfl rfl (by decide) (Pu_bin rfl rfl rfl (run_lss _ _ _ _ _ _)) (WL_nil (X_then ?_))))))
                          refine W_cond rfl (fun hc111 => ?_) (fun hc111 => ?_)
                          ·
                            have hlt : x.1 < es.length := by have := of_decide_eq_true hc111; omega
                            have hnl := (f4 _ (getD_mem' (d := ent0) hlt)).1
                            have hzz := (f4 _ (getD_mem' (d := ent0) hlt)).2
                            refine W_skip (X_then ?_)
                            refine W_seq ?_
                            refine W_block ?_
                            refine W.pre (K' := [(7, _), (11, _), (12, _), (13, _), (111, _)]) (L' := [(0, _), (201, _), (401, _)]) ?_ ⟨rfl, ⟨rfl, ⟨rfl, ⟨rfl, ⟨rfl, trivial⟩⟩⟩⟩⟩ ⟨rfl, ⟨rfl, ⟨rfl, trivial⟩⟩⟩
                            refine W_draw (N := 18) (by kernel_rfl) rfl [(0, _), (201, _)] ⟨rfl, ⟨rfl, trivial⟩⟩ ?_
                            refine (AH_take 0 rfl (by kernel_rfl) (by kernel_rfl) (by kernel_rfl) rfl rfl (by decide) (Pu_move rfl rfl) (AH_take 1 rfl (by kernel_rfl) (by kernel_rfl) (by kernel_rfl) rfl rfl (by decide) (Pu_move rfl rfl) (AH_take 2 rfl (by kernel_rfl) (by kernel_rfl) (by kernel_rfl) rfl rfl (by decide) (Pu_move rfl rfl) (AH_take 3 rfl (by kernel_rfl) (by kernel_rfl) (by kernel_rfl) rfl rfl (by decide) (Pu_idxS (r := 201) rfl Tryd.runUnderlying22 Tryd.sizeOf30 rfl rfl rfl rowR_rd (by omega)) (AH_take 4 rfl (by kernel_rfl) (by kernel_rfl) (by kernel_rfl) rfl rfl (by decide) (Pu_fieldAddrE (off := 0) rfl rfl (by kernel_rfl)) (AH_take 5 rfl (by kernel_rfl) (by kernel_rfl) (by kernel_rfl) rfl rfl (by decide) (Pu_loadS (r := 201) rfl Tryd.isAgg9 rfl rfl rowR_rd (ent_name (k := x.1) f3 hlt)) (AH_take 6 rfl (by kernel_rfl) (by kernel_rfl) (by kernel_rfl) rfl rfl (by decide) (Pu_lenStr rfl Tryd.underlying9 rfl) (AH_take 7 rfl (by kernel_rfl) (by kernel_rfl) (by kernel_rfl) rfl rfl (by decide) (Pu_conv rfl rfl (conv_byte _ _ Tryd.runUnderlying3 Tryd.runUnderlying5)) (AH_take 10 rfl (by kernel_rfl) (by kernel_rfl) (by kernel_rfl) rfl rfl (by decide) (Pu_move rfl rfl) (AH_take 11 rfl (by kernel_rfl) (by kernel_rfl) (by kernel_rfl) rfl rfl (by decide) (Pu_move rfl rfl) (AH_take 12 rfl (by kernel_rfl) (by kernel_rfl) (by kernel_rfl) rfl rfl (by decide) (Pu_idxS (r := 201) rfl Tryd.runUnderlying22 Tryd.sizeOf30 rfl rfl rfl rowR_rd (by omega)) (AH_take 13 rfl (by kernel_rfl) (by kernel_rfl) (by kernel_rfl) rfl rfl (by decide) (Pu_fieldAddrE (off := 0) rfl rfl (by kernel_rfl)) (AH_take 14 rfl (by kernel_rfl) (by kernel_rfl) (by kernel_rfl) rfl rfl (by decide) (Pu_loadS (r := 201) rfl Tryd.isAgg9 rfl rfl rowR_rd (ent_name (k := x.1) f3 hlt)) (AH_ready [8] (by kernel_rfl) (by decide) ?_))))))))))))))
                            refine AHs_cons rfl rfl rfl (by decide) (OpT_buildOnes (r := 402) (bs [byte ((es.getD x.1 ent0).1.length : Int)]) rfl rfl Tryd.runUnderlying27 Tryd.sizeOf5 Tryd.zeroValue5 rfl rfl (by decide) rfl (bs_cells _) (fun v122 => ⟨⟨rfl, ⟨rfl, trivial⟩⟩, ?_⟩)) ?_
                            ·
                              refine (AH_ready [9] (by kernel_rfl) (by decide) ?_)
                              refine AHs_cons rfl rfl rfl (by decide) (OpT_append (r := 401) (r2 := 402) rfl Tryd.underlying27 TI.hi5 TI.hz5 TI.hs5 TI.hby5 TI.hzs5 (by decide) rfl rfl rfl rfl (fun _ h => rowP_rd h) (bs_one _) (by unfold maxLen; omega) (by omega) (fun v123 => ?_)) ?_
                              ·
                                refine ⟨⟨rfl, ⟨rfl, trivial⟩⟩, ?_⟩
                                refine (AH_ready [15] (by kernel_rfl) (by decide) ?_)
                                refine AHs_cons rfl rfl rfl (by decide) (OpT_appendStr (r := 401) rfl Tryd.underlying27 Tryd.underlying9 TI.hi5 TI.hz5 TI.hs5 TI.hby5 TI.hzs5 rfl rfl rfl (by unfold maxLen; omega) (by omega) (fun v129 => ?_)) ?_
                                ·
                                  refine ⟨⟨rfl, ⟨rfl, trivial⟩⟩, ?_⟩
                                  refine (AH_ready [16] (by kernel_rfl) (by decide) ?_)
                                  refine AHs_cons rfl rfl rfl (by decide) (OpT_appendZ (r := 401) (m := 32) rfl Tryd.underlying27 Tryd.underlying3 TI.hi5 TI.hz5 TI.hs5 TI.hby5 rfl rfl rfl (by omega) rfl (by omega) (by unfold maxLen; omega) (by omega) (fun v130 => ?_)) ?_
                                  ·
                                    refine ⟨⟨rfl, ⟨rfl, trivial⟩⟩, ?_⟩
                                    refine (AH_take 17 rfl (by kernel_rfl) (by kernel_rfl) (by kernel_rfl) rfl rfl (by decide) (Pu_assign rfl rfl) (AH_done (by kernel_rfl) (X_block (X_then ?_))))
                                    refine W.pre (K' := [(7, _), (11, _), (12, _), (13, _), (111, _)]) (L' := [(0, _), (201, _), (401, _), (402, _)]) ?_ ⟨rfl, ⟨rfl, ⟨rfl, ⟨rfl, ⟨rfl, trivial⟩⟩⟩⟩⟩ ⟨rfl, ⟨rfl, ⟨rfl, ⟨rfl, trivial⟩⟩⟩⟩
                                    refine W_regL (WL_pure rfl rfl (by decide) (Pu_move rfl rfl) (WL_pure rfl rfl (by decide) (Pu_bin rfl rfl rfl (run_add _ _ _ _ _ (by omega))) (WL_pure rfl rfl (by decide) (Pu_assign rfl rfl) (WL_nil ?_))))
                                    exact X_round (x.1 + 1, v130) hlt (by dsimp only; omega) ⟨rfl, rfl, rfl, rfl, trivial⟩ ⟨rfl, rfl, look_eq rfl (rowB_of (dirTo es (x.1 + 1)) (by rw [rawTo_succ hlt hzz]; simp only [List.length_append, List.length_cons, List.length_nil, zeroId_length]) (by rw [rawTo_succ hlt hzz, bs_append, bs_append, bs_append]; rfl)), trivial⟩
                                  exact AHs_nil
                                exact AHs_nil
                              exact AHs_nil
                            exact AHs_nil
                          ·
                            obtain hfin : x.1 = es.length := by have := of_decide_eq_false hc111; omega
                            refine W_exit (X_then_exit (X_then_exit (X_block_exit (X_then ?_))))
                            refine W_seq ?_
                            refine W.pre (K' := [(7, _), (11, _), (12, _), (13, _), (111, _)]) (L' := [(0, _), (201, _), (401, _)]) ?_ ⟨rfl, ⟨rfl, ⟨rfl, ⟨rfl, ⟨rfl, trivial⟩⟩⟩⟩⟩ ⟨rfl, ⟨rfl, ⟨rfl, trivial⟩⟩⟩
                            refine W_regL (WL_pure rfl rfl (by decide) (Pu_move rfl rfl) (WL_cons rfl rfl (by decide) (OpT_call 500 [0, 201, 401] [] rfl Tryd.call7 rfl rfl rfl (by decide) (by decide) (dir_spec y.2.1 es f3 (by omega) (fun e he => by have := (f4 e he).1; omega) _ (rd_star 1 rfl rowR_rd) (tabs_star 0 rfl hT)) (fun v133 Ps133 hR133 => ?_))))
                            obtain ⟨w133, rfl, rfl⟩ := hR133
                            rw [f5, g2]
                            refine (WL_pure rfl rfl (by decide) (Pu_move rfl rfl) (WL_pure rfl rfl (by decide) (Pu_extract rfl rfl rfl) (WL_pure rfl rfl (by decide) (Pu_extract rfl rfl rfl) (WL_pure rfl rfl (by decide) (Pu_assign rfl rfl) (WL_pure rfl rfl (by decide) (Pu_assign rfl rfl) (WL_nil (X_then ?_)))))))
                            refine W_seq ?_
                            refine W.pre (K' := [(7, _), (11, _), (12, _), (13, _), (14, _), (15, _), (111, _)]) (L' := [(0, _), (201, _), (401, _), (500, _)]) ?_ ⟨rfl, ⟨rfl, ⟨rfl, ⟨rfl, ⟨rfl, ⟨rfl, ⟨rfl, trivial⟩⟩⟩⟩⟩⟩⟩ ⟨rfl, ⟨rfl, ⟨rfl, ⟨rfl, trivial⟩⟩⟩⟩
                            refine W_regL (WL_pure rfl rfl (by decide) (Pu_move rfl rfl) (WL_cons rfl rfl (by decide) (OpT_call 600 [0, 201, 401, 500] [] rfl Tryd.call10 rfl rfl rfl (by decide) (by decide) (parseDir_spec x.2 (dirTo es x.1) (by omega) _ (rd_star 2 rfl rowB_rd) (tabs_star 0 rfl hT)) (fun v138 Ps138 hR138 => ?_))))
                            obtain ⟨w138, rfl, rfl⟩ := hR138
                            rw [hfin, dirTo_all, g1]
                            refine (WL_pure rfl rfl (by decide) (Pu_move rfl rfl) (WL_pure rfl rfl (by decide) (Pu_extract rfl rfl rfl) (WL_pure rfl rfl (by decide) (Pu_extract rfl rfl rfl) (WL_pure rfl rfl (by decide) (Pu_assign rfl rfl) (WL_pure rfl rfl (by decide) (Pu_assign rfl rfl) (WL_nil (X_then ?_)))))))
                            refine W_seq ?_
                            refine W.pre (K' := [(7, _), (11, _), (12, _), (13, _), (14, _), (15, _), (16, _), (17, _), (111, _)]) (L' := [(0, _), (201, _), (401, _), (500, _), (600, _)]) ?_ ⟨rfl, ⟨rfl, ⟨rfl, ⟨rfl, ⟨rfl, ⟨rfl, ⟨rfl, ⟨rfl, ⟨rfl, trivial⟩⟩⟩⟩⟩⟩⟩⟩⟩ ⟨rfl, ⟨rfl, ⟨rfl, ⟨rfl, ⟨rfl, trivial⟩⟩⟩⟩⟩
                            refine W_regL (WL_pure rfl rfl (by decide) (Pu_move rfl rfl) (WL_pure rfl rfl (by decide) (Pu_move rfl rfl) (WL_pure rfl rfl (by decide) (Pu_bin rfl rfl rfl (run_eql _ _ _ _ _ _)) (WL_pure rfl rfl (by decide) (Pu_move rfl rfl) (WL_guardP rfl rfl rfl rfl (by decide) (fun hb => (Pu_move rfl rfl)) (WL_guardP rfl rfl rfl rfl (by decide) (fun hb => (Pu_len (r := 500) rfl Tryd.runUnderlying27 (ev_gv rfl hb) rfl rowB_rd)) (WL_guardP rfl rfl rfl rfl (by decide) (fun hb => (Pu_bin rfl (ev_gv rfl hb) rfl (run_eql _ _ _ _ _ _))) (WL_pure rfl rfl (by decide) (Pu_and rfl rfl rfl) (WL_pure rfl rfl (by decide) (Pu_move rfl rfl) (WL_guardP rfl rfl rfl rfl (by decide) (fun hb => (Pu_move rfl rfl)) (WL_guardP rfl rfl rfl rfl (by decide) (fun hb => (Pu_move rfl rfl)) (WL_guardP rfl rfl rfl rfl (by decide) (fun hb => (Pu_bin rfl (ev_gv rfl hb) (ev_gv rfl hb) (run_eql _ _ _ _ _ _))) (WL_pure rfl rfl (by decide) (Pu_and rfl rfl rfl) (WL_pure rfl rfl (by decide) (Pu_move rfl rfl) (WL_guardP rfl rfl rfl rfl (by decide) (fun hb => (Pu_move rfl rfl)) (WL_guardP rfl rfl rfl rfl (by decide) (fun hb => (Pu_len (r := 600) rfl Tryd.runUnderlying22 (ev_gv rfl hb) rfl rowR_rd)) (WL_guardP rfl rfl rfl rfl (by decide) (fun hb => (Pu_bin rfl (ev_gv rfl hb) rfl (run_eql _ _ _ _ _ _))) (WL_pure rfl rfl (by decide) (Pu_and rfl rfl rfl) (WL_pure rfl rfl (by decide) (Pu_assign rfl rfl) (WL_nil (X_then ?_)))))))))))))))))))))
                            refine W_ret ?_
                            exact X_ret [] (Ps := []) (res1 Tryd.results4 rfl) rfl (by decide) ⟨rfl, rfl⟩
                        exact AHs_nil
                      exact AHs_nil
                    exact AHs_nil
                  exact AHs_nil
                exact AHs_nil
              exact AHs_nil
            refine AHs_cons rfl rfl rfl (by decide) (OpT_run (Pu_loadSN (r := 201) rfl Tryd.isAgg30 Tryd.sizeOf30 rfl rfl (fun _ h => rowP_rd h) (entC_length (hEa.get (by omega))) (by decide) (ent_all (k := k) hEa (by omega))) ⟨⟨rfl, trivial⟩, ?_⟩) ?_
            ·
              refine (AH_ready [8] (by kernel_rfl) (by decide) ?_)
              refine AHs_cons rfl rfl rfl (by decide) (OpT_run (Pu_idxS (r := 201) rfl Tryd.runUnderlying22 Tryd.sizeOf30 rfl rfl rfl (fun _ h => rowP_rd h) (by omega)) ⟨⟨rfl, trivial⟩, ?_⟩) ?_
              ·
                refine (AH_ready [9] (by kernel_rfl) (by decide) ?_)
                refine AHs_cons rfl rfl rfl (by decide) (OpT_run (Pu_loadSN (r := 201) rfl Tryd.isAgg30 Tryd.sizeOf30 rfl rfl (fun _ h => rowP_rd h) (entC_length (hEa.get (by omega))) (by decide) (ent_all (k := k + 1) hEa (by omega))) ⟨⟨rfl, trivial⟩, ?_⟩) ?_
                ·
                  refine (AH_ready [14] (by kernel_rfl) (by decide) ?_)
                  refine AHs_cons rfl rfl rfl (by decide) (OpT_run (Pu_idxS (r := 201) rfl Tryd.runUnderlying22 Tryd.sizeOf30 rfl rfl rfl (fun _ h => rowP_rd h) (by omega)) ⟨⟨rfl, trivial⟩, ?_⟩) ?_
                  ·
                    refine (AH_ready [15] (by kernel_rfl) (by decide) ?_)
                    refine AHs_cons0 rfl rfl rfl (OpT_storeRec (r := 201) entF (k) (y.2.2.getD (k + 1) ent0) rfl Tryd.sizeOf30 rfl rfl rfl hEa.len (by omega) (entC_length (hEa.get (by omega))) (by decide) (entF_one _) ?_) ?_
                    ·
                      refine ⟨⟨rfl, trivial⟩, ?_⟩
                      refine (AH_ready [16] (by kernel_rfl) (by decide) ?_)
                      refine AHs_cons rfl rfl rfl (by decide) (OpT_run (Pu_idxS (r := 201) rfl Tryd.runUnderlying22 Tryd.sizeOf30 rfl rfl rfl (fun _ h => rowP_rd h) (by omega)) ⟨⟨rfl, trivial⟩, ?_⟩) ?_
                      ·
                        refine (AH_ready [17] (by kernel_rfl) (by decide) ?_)
                        refine AHs_cons0 rfl rfl rfl (OpT_storeRec (r := 201) entF (k + 1) (y.2.2.getD k ent0) rfl Tryd.sizeOf30 rfl rfl rfl (fun e he => by rcases set_mem he with he | he; exact hEa.len e he; rw [he]; exact entC_length (hEa.get (by omega))) (by rw [List.length_set]; omega) (entC_length (hEa.get (by omega))) (by decide) (entF_one _) ?_) ?_
                        ·
                          refine ⟨⟨rfl, trivial⟩, ?_⟩
                          refine (AH_done (by kernel_rfl) (X_block (X_then ?_)))
                          refine W_seq ?_
                          refine W.pre (K' := [(0, _), (1, _), (2, _), (7, _), (8, _), (10, _), (11, _), (26, _), (60, _), (67, _), (68, _)]) (L' := [(0, _), (201, _)]) ?_ ⟨rfl, ⟨rfl, ⟨rfl, ⟨rfl, ⟨rfl, ⟨rfl, ⟨rfl, ⟨rfl, ⟨rfl, ⟨rfl, ⟨rfl, trivial⟩⟩⟩⟩⟩⟩⟩⟩⟩⟩⟩ ⟨rfl, ⟨rfl, trivial⟩⟩
                          have hfit := fit_swap hord h2 h20 hkl
                          refine W_turn (P' := rowE 30 y.2.1 ((y.2.2.set k (y.2.2.getD (k + 1) ent0)).set (k + 1) (y.2.2.getD k ent0))) 201 rfl (fun h hp => (congrFun (rowR_of (n := y.2.2.length) (f := entF) (S := 33) ((y.2.2.set k (y.2.2.getD (k + 1) ent0)).set (k + 1) (y.2.2.getD k ent0)) (by simp only [List.length_set]) rfl) h).mp hp) ?_
                          generalize ((y.2.2.set k (y.2.2.getD (k + 1) ent0)).set (k + 1) (y.2.2.getD k ent0)) = es at *
                          obtain ⟨f1, f2, f3, f4, f5, f6⟩ := id hfit
                          obtain ⟨g1, g2, g3⟩ := fit_parse hfit
                          refine W_regL (WL_pure rfl rfl (by decide) (Pu_assign rfl rfl) (WL_nil (X_then ?_)))
                          refine W_seq ?_
                          refine W_seq ?_
                          refine W.pre (K' := [(0, _), (1, _), (2, _), (7, _), (8, _), (10, _), (11, _), (12, _), (26, _), (60, _), (67, _), (68, _)]) (L' := [(0, _), (201, _)]) ?_ ⟨rfl, ⟨rfl, ⟨rfl, ⟨rfl, ⟨rfl, ⟨rfl, ⟨rfl, ⟨rfl, ⟨rfl, ⟨rfl, ⟨rfl, ⟨rfl, trivial⟩⟩⟩⟩⟩⟩⟩⟩⟩⟩⟩⟩ ⟨rfl, ⟨rfl, trivial⟩⟩
                          refine W_regL (WL_pure rfl rfl (by decide) (Pu_assign rfl rfl) (WL_nil (X_then ?_)))
                          refine W_block ?_
                          refine W_nilRow 401 5 1 ?_
                          refine W_loop (α := Nat × Value) (fun x => [(7, y.2.1), (11, .int .i64 1), (12, x.2), (13, .int .i64 (x.1 : Int))]) (fun x => [(0, F), (201, rowE 30 y.2.1 es), (401, rowB 5 x.2 (dirTo es x.1))]) (fun x => x.1 ≤ es.length) (fun x => es.length - x.1) ((0, .slice none 0 0)) (Nat.zero_le _) ⟨rfl, ⟨rfl, ⟨rfl, ⟨rfl, trivial⟩⟩⟩⟩ ⟨rfl, ⟨rfl, ⟨rfl, trivial⟩⟩⟩ (fun x hx => ?_)
                          unfold rowB
                          have hxl : x.1 ≤ es.length := hx
                          have hdl := dirTo_len f3 (fun e he => (f4 e he).1) x.1
                          refine W_seq ?_
                          refine W_seq ?_
                          refine W.pre (K' := [(7, _), (11, _), (12, _), (13, _)]) (L' := [(0, _), (201, _), (401, _)]) ?_ ⟨rfl, ⟨rfl, ⟨rfl, ⟨rfl, trivial⟩⟩⟩⟩ ⟨rfl, ⟨rfl, ⟨rfl, trivial⟩⟩⟩
                          refine W_regL (WL_pure rfl rfl (by decide) (Pu_move rfl rfl) (WL_pure rfl rfl (by decide) (Pu_move rfl rfl) (WL_pure rfl rfl (by decide) (Pu_len (r := 201) rfl Tryd.runUnderlying22 rfl rfl rowR_rd) (WL_pure rfl rfl (by decide) (Pu_bin rfl rfl rfl (run_lss _ _ _ _ _ _)) (WL_nil (X_then ?_))))))
                          refine W_cond rfl (fun hc111 => ?_) (fun hc111 => ?_)
                          ·
                            have hlt : x.1 < es.length := by have := of_decide_eq_true hc111; omega
                            have hnl := (f4 _ (getD_mem' (d := ent0) hlt)).1
                            have hzz := (f4 _ (getD_mem' (d := ent0) hlt)).2
                            refine W_skip (X_then ?_)
                            refine W_seq ?_
                            refine W_block ?_
                            refine W.pre (K' := [(7, _), (11, _), (12, _), (13, _), (111, _)]) (L' := [(0, _), (201, _), (401, _)]) ?_ ⟨rfl, ⟨rfl, ⟨rfl, ⟨rfl, ⟨rfl, trivial⟩⟩⟩⟩⟩ ⟨rfl, ⟨rfl, ⟨rfl, trivial⟩⟩⟩
                            refine W_draw (N := 18) (by kernel_rfl) rfl [(0, _), (201, _)] ⟨rfl, ⟨rfl, trivial⟩⟩ ?_
                            refine (AH_take 0 rfl (by kernel_rfl) (by kernel_rfl) (by kernel_rfl) rfl rfl (by decide) (Pu_move rfl rfl) (AH_take 1 rfl (by kernel_rfl) (by kernel_rfl) (by kernel_rfl) rfl rfl (by decide) (Pu_move rfl rfl) (AH_take 2 rfl (by kernel_rfl) (by kernel_rfl) (by kernel_rfl) rfl rfl (by decide) (Pu_move rfl rfl) (AH_take 3 rfl (by kernel_rfl) (by kernel_rfl) (by kernel_rfl) rfl rfl (by decide) (Pu_idxS (r := 201) rfl Tryd.runUnderlying22 Tryd.sizeOf30 rfl rfl rfl rowR_rd (by omega)) (AH_take 4 rfl (by kernel_rfl) (by kernel_rfl) (by kernel_rfl) rfl rfl (by decide) (Pu_fieldAddrE (off := 0) rfl rfl (by kernel_rfl)) (AH_take 5 rfl (by kernel_rfl) (by kernel_rfl) (by kernel_rfl) rfl rfl (by decide) (Pu_loadS (r := 201) rfl Tryd.isAgg9 rfl rfl rowR_rd (ent_name (k := x.1) f3 hlt)) (AH_take 6 rfl (by kernel_rfl) (by kernel_rfl) (by kernel_rfl) rfl rfl (by decide) (Pu_lenStr rfl Tryd.underlying9 rfl) (AH_take 7 rfl (by kernel_rfl) (by kernel_rfl) (by kernel_rfl) rfl rfl (by decide) (Pu_conv rfl rfl (conv_byte _ _ Tryd.runUnderlying3 Tryd.runUnderlying5)) (AH_take 10 rfl (by kernel_rfl) (by kernel_rfl) (by kernel_rfl) rfl rfl (by decide) (Pu_move rfl rfl) (AH_take 11 rfl (by kernel_rfl) (by kernel_rfl) (by kernel_rfl) rfl rfl (by decide) (Pu_move rfl rfl) (AH_take 12 rfl (by kernel_rfl) (by kernel_rfl) (by kernel_rfl) rfl rfl (by decide) (Pu_idxS (r := 201) rfl Tryd.runUnderlying22 Tryd.sizeOf30 rfl rfl rfl rowR_rd (by omega)) (AH_take 13 rfl (by kernel_rfl) (by kernel_rfl) (by kernel_rfl) rfl rfl (by decide) (Pu_fieldAddrE (off := 0) rfl rfl (by kernel_rfl)) (AH_take 14 rfl (by kernel_rfl) (by kernel_rfl) (by kernel_rfl) rfl rfl (by decide) (Pu_loadS (r := 201) rfl Tryd.isAgg9 rfl rfl rowR_rd (ent_name (k := x.1) f3 hlt)) (AH_ready [8] (by kernel_rfl) (by decide) ?_))))))))))))))
                            refine AHs_cons rfl rfl rfl (by decide) (OpT_buildOnes (r := 402) (bs [byte ((es.getD x.1 ent0).1.length : Int)]) rfl rfl Tryd.runUnderlying27 Tryd.sizeOf5 Tryd.zeroValue5 rfl rfl (by decide) rfl (bs_cells _) (fun v122 => ⟨⟨rfl, ⟨rfl, trivial⟩⟩, ?_⟩)) ?_
                            ·
                              refine (AH_ready [9] (by kernel_rfl) (by decide) ?_)
                              refine AHs_cons rfl rfl rfl (by decide) (OpT_append (r := 401) (r2 := 402) rfl Tryd.underlying27 TI.hi5 TI.hz5 TI.hs5 TI.hby5 TI.hzs5 (by decide) rfl rfl rfl rfl (fun _ h => rowP_rd h) (bs_one _) (by unfold maxLen; omega) (by omega) (fun v123 => ?_)) ?_
                              ·
                                refine ⟨⟨rfl, ⟨rfl, trivial⟩⟩, ?_⟩
                                refine (AH_ready [15] (by kernel_rfl) (by decide) ?_)
                                refine AHs_cons rfl rfl rfl (by decide) (OpT_appendStr (r := 401) rfl Tryd.underlying27 Tryd.underlying9 TI.hi5 TI.hz5 TI.hs5 TI.hby5 TI.hzs5 rfl rfl rfl (by unfold maxLen; omega) (by omega) (fun v129 => ?_)) ?_
                                ·
                                  refine ⟨⟨rfl, ⟨rfl, trivial⟩⟩, ?_⟩
                                  refine (AH_ready [16] (by kernel_rfl) (by decide) ?_)
                                  refine AHs_cons rfl rfl rfl (by decide) (OpT_appendZ (r := 401) (m := 32) rfl Tryd.underlying27 Tryd.underlying3 TI.hi5 TI.hz5 TI.hs5 TI.hby5 rfl rfl rfl (by omega) rfl (by omega) (by unfold maxLen; omega) (by omega) (fun v130 => ?_)) ?_
                                  ·
                                    refine ⟨⟨rfl, ⟨rfl, trivial⟩⟩, ?_⟩
                                    refine (AH_take 17 rfl (by kernel_rfl) (by kernel_rfl) (by kernel_rfl) rfl rfl (by decide) (Pu_assign rfl rfl) (AH_done (by kernel_rfl) (X_block (X_then ?_))))
                                    refine W.pre (K' := [(7, _), (11, _), (12, _), (13, _), (111, _)]) (L' := [(0, _), (201, _), (401, _), (402, _)]) ?_ ⟨rfl, ⟨rfl, ⟨rfl, ⟨rfl, ⟨rfl, trivial⟩⟩⟩⟩⟩ ⟨rfl, ⟨rfl, ⟨rfl, ⟨rfl, trivial⟩⟩⟩⟩
                                    refine W_regL (WL_pure rfl rfl (by decide) (Pu_move rfl rfl) (WL_pure rfl rfl (by decide) (Pu_bin rfl rfl rfl (run_add _ _ _ _ _ (by omega))) (WL_pure rfl rfl (by decide) (Pu_assign rfl rfl) (WL_nil ?_))))
                                    exact X_round (x.1 + 1, v130) hlt (by dsimp only; omega) ⟨rfl, rfl, rfl, rfl, trivial⟩ ⟨rfl, rfl, look_eq rfl (rowB_of (dirTo es (x.1 + 1)) (by rw [rawTo_succ hlt hzz]; simp only [List.length_append, List.length_cons, List.length_nil, zeroId_length]) (by rw [rawTo_succ hlt hzz, bs_append, bs_append, bs_append]; rfl)), trivial⟩
                                  exact AHs_nil
                                exact AHs_nil
                              exact AHs_nil
                            exact AHs_nil
                          ·
                            obtain hfin : x.1 = es.length := by have := of_decide_eq_false hc111; omega
                            refine W_exit (X_then_exit (X_then_exit (X_block_exit (X_then ?_))))
                            refine W_seq ?_
                            refine W.pre (K' := [(7, _), (11, _), (12, _), (13, _), (111, _)]) (L' := [(0, _), (201, _), (401, _)]) ?_ ⟨rfl, ⟨rfl, ⟨rfl, ⟨rfl, ⟨rfl, trivial⟩⟩⟩⟩⟩ ⟨rfl, ⟨rfl, ⟨rfl, trivial⟩⟩⟩
                            refine W_regL (WL_pure rfl rfl (by decide) (Pu_move rfl rfl) (WL_cons rfl rfl (by decide) (OpT_call 500 [0, 201, 401] [] rfl Tryd.call7 rfl rfl rfl (by decide) (by decide) (dir_spec y.2.1 es f3 (by omega) (fun e he => by have := (f4 e he).1; omega) _ (rd_star 1 rfl rowR_rd) (tabs_star 0 rfl hT)) (fun v133 Ps133 hR133 => ?_))))
                            obtain ⟨w133, rfl, rfl⟩ := hR133
                            rw [f5, g2]
                            refine (WL_pure rfl rfl (by decide) (Pu_move rfl rfl) (WL_pure rfl rfl (by decide) (Pu_extract rfl rfl rfl) (WL_pure rfl rfl (by decide) (Pu_extract rfl rfl rfl) (WL_pure rfl rfl (by decide) (Pu_assign rfl rfl) (WL_pure rfl rfl (by decide) (Pu_assign rfl rfl) (WL_nil (X_then ?_)))))))
                            refine W_seq ?_
                            refine W.pre (K' := [(7, _), (11, _), (12, _), (13, _), (14, _), (15, _), (111, _)]) (L' := [(0, _), (201, _), (401, _), (500, _)]) ?_ ⟨rfl, ⟨rfl, ⟨rfl, ⟨rfl, ⟨rfl, ⟨rfl, ⟨rfl, trivial⟩⟩⟩⟩⟩⟩⟩ ⟨rfl, ⟨rfl, ⟨rfl, ⟨rfl, trivial⟩⟩⟩⟩
                            refine W_regL (WL_pure rfl rfl (by decide) (Pu_move rfl rfl) (WL_cons rfl rfl (by decide) (OpT_call 600 [0, 201, 401, 500] [] rfl Tryd.call10 rfl rfl rfl (by decide) (by decide) (parseDir_spec x.2 (dirTo es x.1) (by omega) _ (rd_star 2 rfl rowB_rd) (tabs_star 0 rfl hT)) (fun v138 Ps138 hR138 => ?_))))
                            obtain ⟨w138, rfl, rfl⟩ := hR138
                            rw [hfin, dirTo_all, g1]
                            refine (WL_pure rfl rfl (by decide) (Pu_move rfl rfl) (WL_pure rfl rfl (by decide) (Pu_extract rfl rfl rfl) (WL_pure rfl rfl (by decide) (Pu_extract rfl rfl rfl) (WL_pure rfl rfl (by decide) (Pu_assign rfl rfl) (WL_pure rfl rfl (by decide) (Pu_assign rfl rfl) (WL_nil (X_then ?_)))))))
                            refine W_seq ?_
                            refine W.pre (K' := [(7, _), (11, _), (12, _), (13, _), (14, _), (15, _), (16, _), (17, _), (111, _)]) (L' := [(0, _), (201, _), (401, _), (500, _), (600, _)]) ?_ ⟨rfl, ⟨rfl, ⟨rfl, ⟨rfl, ⟨rfl, ⟨rfl, ⟨rfl, ⟨rfl, ⟨rfl, trivial⟩⟩⟩⟩⟩⟩⟩⟩⟩ ⟨rfl, ⟨rfl, ⟨rfl, ⟨rfl, ⟨rfl, trivial⟩⟩⟩⟩⟩
                            refine W_regL (WL_pure rfl rfl (by decide) (Pu_move rfl rfl) (WL_pure rfl rfl (by decide) (Pu_move rfl rfl) (WL_pure rfl rfl (by decide) (Pu_bin rfl rfl rfl (run_eql _ _ _ _ _ _)) (WL_pure rfl rfl (by decide) (Pu_move rfl rfl) (WL_guardP rfl rfl rfl rfl (by decide) (fun hb => (Pu_move rfl rfl)) (WL_guardP rfl rfl rfl rfl (by decide) (fun hb => (Pu_len (r := 500) rfl Tryd.runUnderlying27 (ev_gv rfl hb) rfl rowB_rd)) (WL_guardP rfl rfl rfl rfl (by decide) (fun hb => (Pu_bin rfl (ev_gv rfl hb) rfl (run_eql _ _ _ _ _ _))) (WL_pure rfl rfl (by decide) (Pu_and rfl rfl rfl) (WL_pure rfl rfl (by decide) (Pu_move rfl rfl) (WL_guardP rfl rfl rfl rfl (by decide) (fun hb => (Pu_move rfl rfl)) (WL_guardP rfl rfl rfl rfl (by decide) (fun hb => (Pu_move rfl rfl)) (WL_guardP rfl rfl rfl rfl (by decide) (fun hb => (Pu_bin rfl (ev_gv rfl hb) (ev_gv rfl hb) (run_eql _ _ _ _ _ _))) (WL_pure rfl rfl (by decide) (Pu_and rfl rfl rfl) (WL_pure rfl rfl (by decide) (Pu_move rfl rfl) (WL_guardP rfl rfl rfl rfl (by decide) (fun hb => (Pu_move rfl rfl)) (WL_guardP rfl rfl rfl rfl (by decide) (fun hb => (Pu_len (r := 600) rfl Tryd.runUnderlying22 (ev_gv rfl hb) rfl rowR_rd)) (WL_guardP rfl rfl rfl rfl (by decide) (fun hb => (Pu_bin rfl (ev_gv rfl hb) rfl (run_eql _ _ _ _ _ _))) (WL_pure rfl rfl (by decide) (Pu_and rfl rfl rfl) (WL_pure rfl rfl (by decide) (Pu_assign rfl rfl) (WL_nil (X_then ?_)))))))))))))))))))))
                            refine W_ret ?_
                            exact X_ret [] (Ps := []) (res1 Tryd.results4 rfl) rfl (by decide) ⟨rfl, rfl⟩
                        exact AHs_nil
                      exact AHs_nil
                    exact AHs_nil
                  exact AHs_nil
                exact AHs_nil
              exact AHs_nil
            exact AHs_nil
          exact AHs_nil
        ·
          have hq0 : ¬ m = 0 := by have := of_decide_eq_false hc68; omega
          refine W_seq ?_
          refine W.pre (K' := [(0, _), (1, _), (2, _), (7, _), (8, _), (10, _), (11, _), (26, _), (60, _), (67, _), (68, _)]) (L' := [(0, _), (201, _)]) ?_ ⟨rfl, ⟨rfl, ⟨rfl, ⟨rfl, ⟨rfl, ⟨rfl, ⟨rfl, ⟨rfl, ⟨rfl, ⟨rfl, ⟨rfl, trivial⟩⟩⟩⟩⟩⟩⟩⟩⟩⟩⟩ ⟨rfl, ⟨rfl, trivial⟩⟩
          refine W_regL (WL_pure rfl rfl (by decide) (Pu_bin rfl rfl rfl (run_eql _ _ _ _ _ _)) (WL_pure rfl rfl (by decide) (Pu_assign rfl rfl) (WL_nil (X_then ?_))))
          refine W_cond rfl (fun hc86 => ?_) (fun hc86 => ?_)
          ·
            have hq : m = 1 := by have := of_decide_eq_true hc86; omega
            refine W.pre (K' := [(0, _), (1, _), (2, _), (7, _), (8, _), (10, _), (11, _), (26, _), (60, _), (67, _), (68, _), (86, _)]) (L' := [(0, _), (201, _)]) ?_ ⟨rfl, ⟨rfl, ⟨rfl, ⟨rfl, ⟨rfl, ⟨rfl, ⟨rfl, ⟨rfl, ⟨rfl, ⟨rfl, ⟨rfl, ⟨rfl, trivial⟩⟩⟩⟩⟩⟩⟩⟩⟩⟩⟩⟩ ⟨rfl, ⟨rfl, trivial⟩⟩
            unfold rowE rowR
            refine W_regL (WL_pure rfl rfl (by decide) (Pu_move rfl rfl) (WL_pure rfl rfl (by decide) (Pu_move rfl rfl) (WL_pure rfl rfl (by decide) (Pu_bin rfl rfl rfl (run_add _ _ _ _ _ (by omega))) (WL_pure rfl rfl (by decide) (Pu_move rfl rfl) (WL_pure rfl rfl (by decide) (Pu_move rfl rfl) (WL_pure rfl rfl (by decide) (Pu_idxS (r := 201) rfl Tryd.runUnderlying22 Tryd.sizeOf30 rfl rfl rfl (fun _ h => rowP_rd h) (by omega)) (WL_pure rfl rfl (by decide) (Pu_loadSN (r := 201) rfl Tryd.isAgg30 Tryd.sizeOf30 rfl rfl (fun _ h => rowP_rd h) (entC_length (hEa.get (by omega))) (by decide) (ent_all (k := k) hEa (by omega))) (WL_pure rfl rfl (by decide) (Pu_idxS (r := 201) rfl Tryd.runUnderlying22 Tryd.sizeOf30 rfl rfl rfl (fun _ h => rowP_rd h) (by omega)) (WL_cons0 rfl rfl (OpT_storeRec (r := 201) entF (k + 1) (y.2.2.getD k ent0) rfl Tryd.sizeOf30 rfl rfl rfl hEa.len (by omega) (entC_length (hEa.get (by omega))) (by decide) (entF_one _) ?_))))))))))
            refine (WL_nil (X_block (X_then ?_)))
            refine W_seq ?_
            refine W.pre (K' := [(0, _), (1, _), (2, _), (7, _), (8, _), (10, _), (11, _), (26, _), (60, _), (67, _), (68, _), (86, _)]) (L' := [(0, _), (201, _)]) ?_ ⟨rfl, ⟨rfl, ⟨rfl, ⟨rfl, ⟨rfl, ⟨rfl, ⟨rfl, ⟨rfl, ⟨rfl, ⟨rfl, ⟨rfl, ⟨rfl, trivial⟩⟩⟩⟩⟩⟩⟩⟩⟩⟩⟩⟩ ⟨rfl, ⟨rfl, trivial⟩⟩
            have hfit := fit_dup hord h2 h20 hkl
            refine W_turn (P' := rowE 30 y.2.1 (y.2.2.set (k + 1) (y.2.2.getD k ent0))) 201 rfl (fun h hp => (congrFun (rowR_of (n := y.2.2.length) (f := entF) (S := 33) (y.2.2.set (k + 1) (y.2.2.getD k ent0)) (by simp only [List.length_set]) rfl) h).mp hp) ?_
            generalize (y.2.2.set (k + 1) (y.2.2.getD k ent0)) = es at *
            obtain ⟨f1, f2, f3, f4, f5, f6⟩ := id hfit
            obtain ⟨g1, g2, g3⟩ := fit_parse hfit
            refine W_regL (WL_pure rfl rfl (by decide) (Pu_assign rfl rfl) (WL_nil (X_then ?_)))
            refine W_seq ?_
            refine W_seq ?_
            refine W.pre (K' := [(0, _), (1, _), (2, _), (7, _), (8, _), (10, _), (11, _), (12, _), (26, _), (60, _), (67, _), (68, _), (86, _)]) (L' := [(0, _), (201, _)]) ?_ ⟨rfl, ⟨rfl, ⟨rfl, ⟨rfl, ⟨rfl, ⟨rfl, ⟨rfl, ⟨rfl, ⟨rfl, ⟨rfl, ⟨rfl, ⟨rfl, ⟨rfl, trivial⟩⟩⟩⟩⟩⟩⟩⟩⟩⟩⟩⟩⟩ ⟨rfl, ⟨rfl, trivial⟩⟩
            refine W_regL (WL_pure rfl rfl (by decide) (Pu_assign rfl rfl) (WL_nil (X_then ?_)))
            refine W_block ?_
            refine W_nilRow 401 5 1 ?_
            refine W_loop (α := Nat × Value) (fun x => [(7, y.2.1), (11, .int .i64 1), (12, x.2), (13, .int .i64 (x.1 : Int))]) (fun x => [(0, F), (201, rowE 30 y.2.1 es), (401, rowB 5 x.2 (dirTo es x.1))]) (fun x => x.1 ≤ es.length) (fun x => es.length - x.1) ((0, .slice none 0 0)) (Nat.zero_le _) ⟨rfl, ⟨rfl, ⟨rfl, ⟨rfl, trivial⟩⟩⟩⟩ ⟨rfl, ⟨rfl, ⟨rfl, trivial⟩⟩⟩ (fun x hx => ?_)
            unfold rowB
            have hxl : x.1 ≤ es.length := hx
            have hdl := dirTo_len f3 (fun e he => (f4 e he).1) x.1
            refine W_seq ?_
            refine W_seq ?_
            refine W.pre (K' := [(7, _), (11, _), (12, _), (13, _)]) (L' := [(0, _), (201, _), (401, _)]) ?_ ⟨rfl, ⟨rfl, ⟨rfl, ⟨rfl, trivial⟩⟩⟩⟩ ⟨rfl, ⟨rfl, ⟨rfl, trivial⟩⟩⟩
            refine W_regL (WL_pure rfl rfl (by decide) (Pu_move rfl rfl) (WL_pure rfl rfl (by decide) (Pu_move rfl rfl) (WL_pure rfl rfl (by decide) (Pu_len (r := 201) rfl Tryd.runUnderlying22 rfl rfl rowR_rd) (WL_pure rfl rfl (by decide) (Pu_bin rfl rfl rfl (run_lss _ _ _ _ _ _)) (WL_nil (X_then ?_))))))
            refine W_cond rfl (fun hc111 => ?_) (fun hc111 => ?_)
            ·
              have hlt : x.1 < es.length := by have := of_decide_eq_true hc111; omega
              have hnl := (f4 _ (getD_mem' (d := ent0) hlt)).1
              have hzz := (f4 _ (getD_mem' (d := ent0) hlt)).2
              refine W_skip (X_then ?_)
              refine W_seq ?_
              refine W_block ?_
              refine W.pre (K' := [(7, _), (11, _), (12, _), (13, _), (111, _)]) (L' := [(0, _), (201, _), (401, _)]) ?_ ⟨rfl, ⟨rfl, ⟨rfl, ⟨rfl, ⟨rfl, trivial⟩⟩⟩⟩⟩ ⟨rfl, ⟨rfl, ⟨rfl, trivial⟩⟩⟩
              refine W_draw (N := 18) (by kernel_rfl) rfl [(0, _), (201, _)] ⟨rfl, ⟨rfl, trivial⟩⟩ ?_
              refine (AH_take 0 rfl (by kernel_rfl) (by kernel_rfl) (by kernel_rfl) rfl rfl (by decide) (Pu_move rfl rfl) (AH_take 1 rfl (by kernel_rfl) (by kernel_rfl) (by kernel_rfl) rfl rfl (by decide) (Pu_move rfl rfl) (AH_take 2 rfl (by kernel_rfl) (by kernel_rfl) (by kernel_rfl) rfl rfl (by decide) (Pu_move rfl rfl) (AH_take 3 rfl (by kernel_rfl) (by kernel_rfl) (by kernel_rfl) rfl rfl (by decide) (Pu_idxS (r := 201) rfl Tryd.runUnderlying22 Tryd.sizeOf30 rfl rfl rfl rowR_rd (by omega)) (AH_take 4 rfl (by kernel_rfl) (by kernel_rfl) (by kernel_rfl) rfl rfl (by decide) (Pu_fieldAddrE (off := 0) rfl rfl (by kernel_rfl)) (AH_take 5 rfl (by kernel_rfl) (by kernel_rfl) (by kernel_rfl) rfl rfl (by decide) (Pu_loadS (r := 201) rfl Tryd.isAgg9 rfl rfl rowR_rd (ent_name (k := x.1) f3 hlt)) (AH_take 6 rfl (by kernel_rfl) (by kernel_rfl) (by kernel_rfl) rfl rfl (by decide) (Pu_lenStr rfl Tryd.underlying9 rfl) (AH_take 7 rfl (by kernel_rfl) (by kernel_rfl) (by kernel_rfl) rfl rfl (by decide) (Pu_conv rfl rfl (conv_byte _ _ Tryd.runUnderlying3 Tryd.runUnderlying5)) (AH_take 10 rfl (by kernel_rfl) (by kernel_rfl) (by kernel_rfl) rfl rfl (by decide) (Pu_move rfl rfl) (AH_take 11 rfl (by kernel_rfl) (by kernel_rfl) (by kernel_rfl) rfl rfl (by decide) (Pu_move rfl rfl) (AH_take 12 rfl (by kernel_rfl) (by kernel_rfl) (by kernel_rfl) rfl rfl (by decide) (Pu_idxS (r := 201) rfl Tryd.runUnderlying22 Tryd.sizeOf30 rfl rfl rfl rowR_rd (by omega)) (AH_take 13 rfl (by kernel_rfl) (by kernel_rfl) (by kernel_rfl) rfl rfl (by decide) (Pu_fieldAddrE (off := 0) rfl rfl (by kernel_rfl)) (AH_take 14 rfl (by kernel_rfl) (by kernel_rfl) (by kernel_rfl) rfl rfl (by decide) (Pu_loadS (r := 201) rfl Tryd.isAgg9 rfl rfl rowR_rd (ent_name (k := x.1) f3 hlt)) (AH_ready [8] (by kernel_rfl) (by decide) ?_))))))))))))))
              refine AHs_cons rfl rfl rfl (by decide) (OpT_buildOnes (r := 402) (bs [byte ((es.getD x.1 ent0).1.length : Int)]) rfl rfl Tryd.runUnderlying27 Tryd.sizeOf5 Tryd.zeroValue5 rfl rfl (by decide) rfl (bs_cells _) (fun v122 => ⟨⟨rfl, ⟨rfl, trivial⟩⟩, ?_⟩)) ?_
              ·
                refine (AH_ready [9] (by kernel_rfl) (by decide) ?_)
                refine AHs_cons rfl rfl rfl (by decide) (OpT_append (r := 401) (r2 := 402) rfl Tryd.underlying27 TI.hi5 TI.hz5 TI.hs5 TI.hby5 TI.hzs5 (by decide) rfl rfl rfl rfl (fun _ h => rowP_rd h) (bs_one _) (by unfold maxLen; omega) (by omega) (fun v123 => ?_)) ?_
                ·
                  refine ⟨⟨rfl, ⟨rfl, trivial⟩⟩, ?_⟩
                  refine (AH_ready [15] (by kernel_rfl) (by decide) ?_)
                  refine AHs_cons rfl rfl rfl (by decide) (OpT_appendStr (r := 401) rfl Tryd.underlying27 Tryd.underlying9 TI.hi5 TI.hz5 TI.hs5 TI.hby5 TI.hzs5 rfl rfl rfl (by unfold maxLen; omega) (by omega) (fun v129 => ?_)) ?_
                  ·
                    refine ⟨⟨rfl, ⟨rfl, trivial⟩⟩, ?_⟩
                    refine (AH_ready [16] (by kernel_rfl) (by decide) ?_)
                    refine AHs_cons rfl rfl rfl (by decide) (OpT_appendZ (r := 401) (m := 32) rfl Tryd.underlying27 Tryd.underlying3 TI.hi5 TI.hz5 TI.hs5 TI.hby5 rfl rfl rfl (by omega) rfl (by omega) (by unfold maxLen; omega) (by omega) (fun v130 => ?_)) ?_
                    ·
                      refine ⟨⟨rfl, ⟨rfl, trivial⟩⟩, ?_⟩
                      refine (AH_take 17 rfl (by kernel_rfl) (by kernel_rfl) (by kernel_rfl) rfl rfl (by decide) (Pu_assign rfl rfl) (AH_done (by kernel_rfl) (X_block (X_then ?_))))
                      refine W.pre (K' := [(7, _), (11, _), (12, _), (13, _), (111, _)]) (L' := [(0, _), (201, _), (401, _), (402, _)]) ?_ ⟨rfl, ⟨rfl, ⟨rfl, ⟨rfl, ⟨rfl, trivial⟩⟩⟩⟩⟩ ⟨rfl, ⟨rfl, ⟨rfl, ⟨rfl, trivial⟩⟩⟩⟩
                      refine W_regL (WL_pure rfl rfl (by decide) (Pu_move rfl rfl) (WL_pure rfl rfl (by decide) (Pu_bin rfl rfl rfl (run_add _ _ _ _ _ (by omega))) (WL_pure rfl rfl (by decide) (Pu_assign rfl rfl) (WL_nil ?_))))
                      exact X_round (x.1 + 1, v130) hlt (by dsimp only; omega) ⟨rfl, rfl, rfl, rfl, trivial⟩ ⟨rfl, rfl, look_eq rfl (rowB_of (dirTo es (x.1 + 1)) (by rw [rawTo_succ hlt hzz]; simp only [List.length_append, List.length_cons, List.length_nil, zeroId_length]) (by rw [rawTo_succ hlt hzz, bs_append, bs_append, bs_append]; rfl)), trivial⟩
                    exact AHs_nil
                  exact AHs_nil
                exact AHs_nil
              exact AHs_nil
            ·
              obtain hfin : x.1 = es.length := by have := of_decide_eq_false hc111; omega
              refine W_exit (X_then_exit (X_then_exit (X_block_exit (X_then ?_))))
              refine W_seq ?_
              refine W.pre (K' := [(7, _), (11, _), (12, _), (13, _), (111, _)]) (L' := [(0, _), (201, _), (401, _)]) ?_ ⟨rfl, ⟨rfl, ⟨rfl, ⟨rfl, ⟨rfl, trivial⟩⟩⟩⟩⟩ ⟨rfl, ⟨rfl, ⟨rfl, trivial⟩⟩⟩
              refine W_regL (WL_pure rfl rfl (by decide) (Pu_move rfl rfl) (WL_cons rfl rfl (by decide) (OpT_call 500 [0, 201, 401] [] rfl Tryd.call7 rfl rfl rfl (by decide) (by decide) (dir_spec y.2.1 es f3 (by omega) (fun e he => by have := (f4 e he).1; omega) _ (rd_star 1 rfl rowR_rd) (tabs_star 0 rfl hT)) (fun v133 Ps133 hR133 => ?_))))
              obtain ⟨w133, rfl, rfl⟩ := hR133
              rw [f5, g2]
              refine (WL_pure rfl rfl (by decide) (Pu_move rfl rfl) (WL_pure rfl rfl (by decide) (Pu_extract rfl rfl rfl) (WL_pure rfl rfl (by decide) (Pu_extract rfl rfl rfl) (WL_pure rfl rfl (by decide) (Pu_assign rfl rfl) (WL_pure rfl rfl (by decide) (Pu_assign rfl rfl) (WL_nil (X_then ?_)))))))
              refine W_seq ?_
              refine W.pre (K' := [(7, _), (11, _), (12, _), (13, _), (14, _), (15, _), (111, _)]) (L' := [(0, _), (201, _), (401, _), (500, _)]) ?_ ⟨rfl, ⟨rfl, ⟨rfl, ⟨rfl, ⟨rfl, ⟨rfl, ⟨rfl, trivial⟩⟩⟩⟩⟩⟩⟩ ⟨rfl, ⟨rfl, ⟨rfl, ⟨rfl, trivial⟩⟩⟩⟩
              refine W_regL (WL_pure rfl rfl (by decide) (Pu_move rfl rfl) (WL_cons rfl rfl (by decide) (OpT_call 600 [0, 201, 401, 500] [] rfl Tryd.call10 rfl rfl rfl (by decide) (by decide) (parseDir_spec x.2 (dirTo es x.1) (by omega) _ (rd_star 2 rfl rowB_rd) (tabs_star 0 rfl hT)) (fun v138 Ps138 hR138 => ?_))))
              obtain ⟨w138, rfl, rfl⟩ := hR138
              rw [hfin, dirTo_all, g1]
              refine (WL_pure rfl rfl (by decide) (Pu_move rfl rfl) (WL_pure rfl rfl (by decide) (Pu_extract rfl rfl rfl) (WL_pure rfl rfl (by decide) (Pu_extract rfl rfl rfl) (WL_pure rfl rfl (by decide) (Pu_assign rfl rfl) (WL_pure rfl rfl (by decide) (Pu_assign rfl rfl) (WL_nil (X_then ?_)))))))
              refine W_seq ?_
              refine W.pre (K' := [(7, _), (11, _), (12, _), (13, _), (14, _), (15, _), (16, _), (17, _), (111, _)]) (L' := [(0, _), (201, _), (401, _), (500, _), (600, _)]) ?_ ⟨rfl, ⟨rfl, ⟨rfl, ⟨rfl, ⟨rfl, ⟨rfl, ⟨rfl, ⟨rfl, ⟨rfl, trivial⟩⟩⟩⟩⟩⟩⟩⟩⟩ ⟨rfl, ⟨rfl, ⟨rfl, ⟨rfl, ⟨rfl, trivial⟩⟩⟩⟩⟩
              refine W_regL (WL_pure rfl rfl (by decide) (Pu_move rfl rfl) (WL_pure rfl rfl (by decide) (Pu_move rfl rfl) (WL_pure rfl rfl (by decide) (Pu_bin rfl rfl rfl (run_eql _ _ _ _ _ _)) (WL_pure rfl rfl (by decide) (Pu_move rfl rfl) (WL_guardP rfl rfl rfl rfl (by decide) (fun hb => (Pu_move rfl rfl)) (WL_guardP rfl rfl rfl rfl (by decide) (fun hb => (Pu_len (r := 500) rfl Tryd.runUnderlying27 (ev_gv rfl hb) rfl rowB_rd)) (WL_guardP rfl rfl rfl rfl (by decide) (fun hb => (Pu_bin rfl (ev_gv rfl hb) rfl (run_eql _ _ _ _ _ _))) (WL_pure rfl rfl (by decide) (Pu_and rfl rfl rfl) (WL_pure rfl rfl (by decide) (Pu_move rfl rfl) (WL_guardP rfl rfl rfl rfl (by decide) (fun hb => (Pu_move rfl rfl)) (WL_guardP rfl rfl rfl rfl (by decide) (fun hb => (Pu_move rfl rfl)) (WL_guardP rfl rfl rfl rfl (by decide) (fun hb => (Pu_bin rfl (ev_gv rfl hb) (ev_gv rfl hb) (run_eql _ _ _ _ _ _))) (WL_pure rfl rfl (by decide) (Pu_and rfl rfl rfl) (WL_pure rfl rfl (by decide) (Pu_move rfl rfl) (WL_guardP rfl rfl rfl rfl (by decide) (fun hb => (Pu_move rfl rfl)) (WL_guardP rfl rfl rfl rfl (by decide) (fun hb => (Pu_len (r := 600) rfl Tryd.runUnderlying22 (ev_gv rfl hb) rfl rowR_rd)) (WL_guardP rfl rfl rfl rfl (by decide) (fun hb => (Pu_bin rfl (ev_gv rfl hb) rfl (run_eql _ _ _ _ _ _))) (WL_pure rfl rfl (by decide) (Pu_and rfl rfl rfl) (WL_pure rfl rfl (by decide) (Pu_assign rfl rfl) (WL_nil (X_then ?_)))))))))))))))))))))
              refine W_ret ?_
              exact X_ret [] (Ps := []) (res1 Tryd.results4 rfl) rfl (by decide) ⟨rfl, rfl⟩
          ·
            have hq1 : ¬ m = 1 := by have := of_decide_eq_false hc86; omega
            refine W_seq ?_
            refine W.pre (K' := [(0, _), (1, _), (2, _), (7, _), (8, _), (10, _), (11, _), (26, _), (60, _), (67, _), (68, _), (86, _)]) (L' := [(0, _), (201, _)]) ?_ ⟨rfl, ⟨rfl, ⟨rfl, ⟨rfl, ⟨rfl, ⟨rfl, ⟨rfl, ⟨rfl, ⟨rfl, ⟨rfl, ⟨rfl, ⟨rfl, trivial⟩⟩⟩⟩⟩⟩⟩⟩⟩⟩⟩⟩ ⟨rfl, ⟨rfl, trivial⟩⟩
            refine W_regL (WL_pure rfl rfl (by decide) (Pu_bin rfl rfl rfl (run_eql _ _ _ _ _ _)) (WL_pure rfl rfl (by decide) (Pu_assign rfl rfl) (WL_nil (X_then ?_))))
            refine W_cond rfl (fun hc96 => ?_) (fun hc96 => ?_)
            ·
              have hq : m = 2 := by have := of_decide_eq_true hc96; omega
              refine W.pre (K' := [(0, _), (1, _), (2, _), (7, _), (8, _), (10, _), (11, _), (26, _), (60, _), (67, _), (68, _), (86, _), (96, _)]) (L' := [(0, _), (201, _)]) ?_ ⟨rfl, ⟨rfl, ⟨rfl, ⟨rfl, ⟨rfl, ⟨rfl, ⟨rfl, ⟨rfl, ⟨rfl, ⟨rfl, ⟨rfl, ⟨rfl, ⟨rfl, trivial⟩⟩⟩⟩⟩⟩⟩⟩⟩⟩⟩⟩⟩ ⟨rfl, ⟨rfl, trivial⟩⟩
              unfold rowE rowR
              refine W_regL (WL_pure rfl rfl (by decide) (Pu_move rfl rfl) (WL_pure rfl rfl (by decide) (Pu_move rfl rfl) (WL_pure rfl rfl (by decide) (Pu_idxS (r := 201) rfl Tryd.runUnderlying22 Tryd.sizeOf30 rfl rfl rfl (fun _ h => rowP_rd h) (by omega)) (WL_pure rfl rfl (by decide) (Pu_fieldAddrE (off := 0) rfl rfl (by kernel_rfl)) (WL_cons0 rfl rfl (OpT_storeS1 (r := 201) rfl Tryd.sizeOf9 rfl rfl rfl rfl (by rw [recC_length hEa.len]; show k * 33 + 0 < _; omega) (ent_setName (k := k) hEa (by omega) [97, 47, 98]) ?_))))))
              refine (WL_pure rfl rfl (by decide) (Pu_assign rfl rfl) (WL_nil (X_block (X_then ?_))))
              refine W_seq ?_
              refine W.pre (K' := [(0, _), (1, _), (2, _), (7, _), (8, _), (10, _), (11, _), (26, _), (60, _), (67, _), (68, _), (86, _), (96, _)]) (L' := [(0, _), (201, _)]) ?_ ⟨rfl, ⟨rfl, ⟨rfl, ⟨rfl, ⟨rfl, ⟨rfl, ⟨rfl, ⟨rfl, ⟨rfl, ⟨rfl, ⟨rfl, ⟨rfl, ⟨rfl, trivial⟩⟩⟩⟩⟩⟩⟩⟩⟩⟩⟩⟩⟩ ⟨rfl, ⟨rfl, trivial⟩⟩
              have hfit := fit_name hord h2 h20 hkl checkN_ab.1 (by decide)
              refine W_turn (P' := rowE 30 y.2.1 (y.2.2.set k ([97, 47, 98], (y.2.2.getD k ent0).2))) 201 rfl (fun h hp => (congrFun (rowR_of (n := y.2.2.length) (f := entF) (S := 33) (y.2.2.set k ([97, 47, 98], (y.2.2.getD k ent0).2)) (by simp only [List.length_set]) rfl) h).mp hp) ?_
              generalize (y.2.2.set k ([97, 47, 98], (y.2.2.getD k ent0).2)) = es at *
              obtain ⟨f1, f2, f3, f4, f5, f6⟩ := id hfit
              obtain ⟨g1, g2, g3⟩ := fit_parse hfit
              refine W_regL (WL_pure rfl rfl (by decide) (Pu_assign rfl rfl) (WL_nil (X_then ?_)))
              refine W_seq ?_
              refine W_seq ?_
              refine W.pre (K' := [(0, _), (1, _), (2, _), (7, _), (8, _), (10, _), (11, _), (12, _), (26, _), (60, _), (67, _), (68, _), (86, _), (96, _)]) (L' := [(0, _), (201, _)]) ?_ ⟨rfl, ⟨rfl, ⟨rfl, ⟨rfl, ⟨rfl, ⟨rfl, ⟨rfl, ⟨rfl, ⟨rfl, ⟨rfl, ⟨rfl, ⟨rfl, ⟨rfl, ⟨rfl, trivial⟩⟩⟩⟩⟩⟩⟩⟩⟩⟩⟩⟩⟩⟩ ⟨rfl, ⟨rfl, trivial⟩⟩
              refine W_regL (WL_pure rfl rfl (by decide) (Pu_assign rfl rfl) (WL_nil (X_then ?_)))
              refine W_block ?_
              refine W_nilRow 401 5 1 ?_
              refine W_loop (α := Nat × Value) (fun x => [(7, y.2.1), (11, .int .i64 10), (12, x.2), (13, .int .i64 (x.1 : Int))]) (fun x => [(0, F), (201, rowE 30 y.2.1 es), (401, rowB 5 x.2 (dirTo es x.1))]) (fun x => x.1 ≤ es.length) (fun x => es.length - x.1) ((0, .slice none 0 0)) (Nat.zero_le _) ⟨rfl, ⟨rfl, ⟨rfl, ⟨rfl, trivial⟩⟩⟩⟩ ⟨rfl, ⟨rfl, ⟨rfl, trivial⟩⟩⟩ (fun x hx => ?_)
              unfold rowB
              have hxl : x.1 ≤ es.length := hx
              have hdl := dirTo_len f3 (fun e he => (f4 e he).1) x.1
              refine W_seq ?_
              refine W_seq ?_
              refine W.pre (K' := [(7, _), (11, _), (12, _), (13, _)]) (L' := [(0, _), (201, _), (401, _)]) ?_ ⟨rfl, ⟨rfl, ⟨rfl, ⟨rfl, trivial⟩⟩⟩⟩ ⟨rfl, ⟨rfl, ⟨rfl, trivial⟩⟩⟩
              refine W_regL (WL_pure rfl rfl (by decide) (Pu_move rfl rfl) (WL_pure rfl rfl (by decide) (Pu_move rfl rfl) (WL_pure rfl rfl (by decide) (Pu_len (r := 201) rfl Tryd.runUnderlying22 rfl rfl rowR_rd) (WL_pure rfl rfl (by decide) (Pu_bin rfl rfl rfl (run_lss _ _ _ _ _ _)) (WL_nil (X_then ?_))))))
              refine W_cond rfl (fun hc111 => ?_) (fun hc111 => ?_)
              ·
                have hlt : x.1 < es.length := by have := of_decide_eq_true hc111; omega
                have hnl := (f4 _ (getD_mem' (d := ent0) hlt)).1
                have hzz := (f4 _ (getD_mem' (d := ent0) hlt)).2
                refine W_skip (X_then ?_)
                refine W_seq ?_
                refine W_block ?_
                refine W.pre (K' := [(7, _), (11, _), (12, _), (13, _), (111, _)]) (L' := [(0, _), (201, _), (401, _)]) ?_ ⟨rfl, ⟨rfl, ⟨rfl, ⟨rfl, ⟨rfl, trivial⟩⟩⟩⟩⟩ ⟨rfl, ⟨rfl, ⟨rfl, trivial⟩⟩⟩
                refine W_draw (N := 18) (by kernel_rfl) rfl [(0, _), (201, _)] ⟨rfl, ⟨rfl, trivial⟩⟩ ?_
                refine (AH_take 0 rfl (by kernel_rfl) (by kernel_rfl) (by kernel_rfl) rfl rfl (by decide) (Pu_move rfl rfl) (AH_take 1 rfl (by kernel_rfl) (by kernel_rfl) (by kernel_rfl) rfl rfl (by decide) (Pu_move rfl rfl) (AH_take 2 rfl (by kernel_rfl) (by kernel_rfl) (by kernel_rfl) rfl rfl (by decide) (Pu_move rfl rfl) (AH_take 3 rfl (by kernel_rfl) (by kernel_rfl) (by kernel_rfl) rfl rfl (by decide) (Pu_idxS (r := 201) rfl Tryd.runUnderlying22 Tryd.sizeOf30 rfl rfl rfl rowR_rd (by omega)) (AH_take 4 rfl (by kernel_rfl) (by kernel_rfl) (by kernel_rfl) rfl rfl (by decide) (Pu_fieldAddrE (off := 0) rfl rfl (by kernel_rfl)) (AH_take 5 rfl (by kernel_rfl) (by kernel_rfl) (by kernel_rfl) rfl rfl (by decide) (Pu_loadS (r := 201) rfl Tryd.isAgg9 rfl rfl rowR_rd (ent_name (k := x.1) f3 hlt)) (AH_take 6 rfl (by kernel_rfl) (by kernel_rfl) (by kernel_rfl) rfl rfl (by decide) (Pu_lenStr rfl Tryd.underlying9 rfl) (AH_take 7 rfl (by kernel_rfl) (by kernel_rfl) (by kernel_rfl) rfl rfl (by decide) (Pu_conv rfl rfl (conv_byte _ _ Tryd.runUnderlying3 Tryd.runUnderlying5)) (AH_take 10 rfl (by kernel_rfl) (by kernel_rfl) (by kernel_rfl) rfl rfl (by decide) (Pu_move rfl rfl) (AH_take 11 rfl (by kernel_rfl) (by kernel_rfl) (by kernel_rfl) rfl rfl (by decide) (Pu_move rfl rfl) (AH_take 12 rfl (by kernel_rfl) (by kernel_rfl) (by kernel_rfl) rfl rfl (by decide) (Pu_idxS (r := 201) rfl Tryd.runUnderlying22 Tryd.sizeOf30 rfl rfl rfl rowR_rd (by omega)) (AH_take 13 rfl (by kernel_rfl) (by kernel_rfl) (by kernel_rfl) rfl rfl (by decide) (Pu_fieldAddrE (off := 0) rfl rfl (by kernel_rfl)) (AH_take 14 rfl (by kernel_rfl) (by kernel_rfl) (by kernel_rfl) rfl rfl (by decide) (Pu_loadS (r := 201) rfl Tryd.isAgg9 rfl rfl rowR_rd (ent_name (k := x.1) f3 hlt)) (AH_ready [8] (by kernel_rfl) (by decide) ?_))))))))))))))
                refine AHs_cons rfl rfl rfl (by decide) (OpT_buildOnes (r := 402) (bs [byte ((es.getD x.1 ent0).1.length : Int)]) rfl rfl Tryd.runUnderlying27 Tryd.sizeOf5 Tryd.zeroValue5 rfl rfl (by decide) rfl (bs_cells _) (fun v122 => ⟨⟨rfl, ⟨rfl, trivial⟩⟩, ?_⟩)) ?_
                ·
                  refine (AH_ready [9] (by kernel_rfl) (by decide) ?_)
                  refine AHs_cons rfl rfl rfl (by decide) (OpT_append (r := 401) (r2 := 402) rfl Tryd.underlying27 TI.hi5 TI.hz5 TI.hs5 TI.hby5 TI.hzs5 (by decide) rfl rfl rfl rfl (fun _ h => rowP_rd h) (bs_one _) (by unfold maxLen; omega) (by omega) (fun v123 => ?_)) ?_
                  ·
                    refine ⟨⟨rfl, ⟨rfl, trivial⟩⟩, ?_⟩
                    refine (AH_ready [15] (by kernel_rfl) (by decide) ?_)
                    refine AHs_cons rfl rfl rfl (by decide) (OpT_appendStr (r := 401) rfl Tryd.underlying27 Tryd.underlying9 TI.hi5 TI.hz5 TI.hs5 TI.hby5 TI.hzs5 rfl rfl rfl (by unfold maxLen; omega) (by omega) (fun v129 => ?_)) ?_
                    ·
                      refine ⟨⟨rfl, ⟨rfl, trivial⟩⟩, ?_⟩
                      refine (AH_ready [16] (by kernel_rfl) (by decide) ?_)
                      refine AHs_cons rfl rfl rfl (by decide) (OpT_appendZ (r := 401) (m := 32) rfl Tryd.underlying27 Tryd.underlying3 TI.hi5 TI.hz5 TI.hs5 TI.hby5 rfl rfl rfl (by omega) rfl (by omega) (by unfold maxLen; omega) (by omega) (fun v130 => ?_)) ?_
                      ·
                        refine ⟨⟨rfl, ⟨rfl, trivial⟩⟩, ?_⟩
                        refine (AH_take 17 rfl (by kernel_rfl) (by kernel_rfl) (by kernel_rfl) rfl rfl (by decide) (Pu_assign rfl rfl) (AH_done (by kernel_rfl) (X_block (X_then ?_))))
                        refine W.pre (K' := [(7, _), (11, _), (12, _), (13, _), (111, _)]) (L' := [(0, _), (201, _), (401, _), (402, _)]) ?_ ⟨rfl, ⟨rfl, ⟨rfl, ⟨rfl, ⟨rfl, trivial⟩⟩⟩⟩⟩ ⟨rfl, ⟨rfl, ⟨rfl, ⟨rfl, trivial⟩⟩⟩⟩
                        refine W_regL (WL_pure rfl rfl (by decide) (Pu_move rfl rfl) (WL_pure rfl rfl (by decide) (Pu_bin rfl rfl rfl (run_add _ _ _ _ _ (by omega))) (WL_pure rfl rfl (by decide) (Pu_assign rfl rfl) (WL_nil ?_))))
                        exact X_round (x.1 + 1, v130) hlt (by dsimp only; omega) ⟨rfl, rfl, rfl, rfl, trivial⟩ ⟨rfl, rfl, look_eq rfl (rowB_of (dirTo es (x.1 + 1)) (by rw [rawTo_succ hlt hzz]; simp only [List.length_append, List.length_cons, List.length_nil, zeroId_length]) (by rw [rawTo_succ hlt hzz, bs_append, bs_append, bs_append]; rfl)), trivial⟩
                      exact AHs_nil
                    exact AHs_nil
                  exact AHs_nil
                exact AHs_nil
              ·
                obtain hfin : x.1 = es.length := by have := of_decide_eq_false hc111; omega
                refine W_exit (X_then_exit (X_then_exit (X_block_exit (X_then ?_))))
                refine W_seq ?_
                refine W.pre (K' := [(7, _), (11, _), (12, _), (13, _), (111, _)]) (L' := [(0, _), (201, _), (401, _)]) ?_ ⟨rfl, ⟨rfl, ⟨rfl, ⟨rfl, ⟨rfl, trivial⟩⟩⟩⟩⟩ ⟨rfl, ⟨rfl, ⟨rfl, trivial⟩⟩⟩
                refine W_regL (WL_pure rfl rfl (by decide) (Pu_move rfl rfl) (WL_cons rfl rfl (by decide) (OpT_call 500 [0, 201, 401] [] rfl Tryd.call7 rfl rfl rfl (by decide) (by decide) (dir_spec y.2.1 es f3 (by omega) (fun e he => by have := (f4 e he).1; omega) _ (rd_star 1 rfl rowR_rd) (tabs_star 0 rfl hT)) (fun v133 Ps133 hR133 => ?_))))
                obtain ⟨w133, rfl, rfl⟩ := hR133
                rw [f5, g2]
                refine (WL_pure rfl rfl (by decide) (Pu_move rfl rfl) (WL_pure rfl rfl (by decide) (Pu_extract rfl rfl rfl) (WL_pure rfl rfl (by decide) (Pu_extract rfl rfl rfl) (WL_pure rfl rfl (by decide) (Pu_assign rfl rfl) (WL_pure rfl rfl (by decide) (Pu_assign rfl rfl) (WL_nil (X_then ?_)))))))
                refine W_seq ?_
                refine W.pre (K' := [(7, _), (11, _), (12, _), (13, _), (14, _), (15, _), (111, _)]) (L' := [(0, _), (201, _), (401, _), (500, _)]) ?_ ⟨rfl, ⟨rfl, ⟨rfl, ⟨rfl, ⟨rfl, ⟨rfl, ⟨rfl, trivial⟩⟩⟩⟩⟩⟩⟩ ⟨rfl, ⟨rfl, ⟨rfl, ⟨rfl, trivial⟩⟩⟩⟩
                refine W_regL (WL_pure rfl rfl (by decide) (Pu_move rfl rfl) (WL_cons rfl rfl (by decide) (OpT_call 600 [0, 201, 401, 500] [] rfl Tryd.call10 rfl rfl rfl (by decide) (by decide) (parseDir_spec x.2 (dirTo es x.1) (by omega) _ (rd_star 2 rfl rowB_rd) (tabs_star 0 rfl hT)) (fun v138 Ps138 hR138 => ?_))))
                obtain ⟨w138, rfl, rfl⟩ := hR138
                rw [hfin, dirTo_all, g1]
                refine (WL_pure rfl rfl (by decide) (Pu_move rfl rfl) (WL_pure rfl rfl (by decide) (Pu_extract rfl rfl rfl) (WL_pure rfl rfl (by decide) (Pu_extract rfl rfl rfl) (WL_pure rfl rfl (by decide) (Pu_assign rfl rfl) (WL_pure rfl rfl (by decide) (Pu_assign rfl rfl) (WL_nil (X_then ?_)))))))
                refine W_seq ?_
                refine W.pre (K' := [(7, _), (11, _), (12, _), (13, _), (14, _), (15, _), (16, _), (17, _), (111, _)]) (L' := [(0, _), (201, _), (401, _), (500, _), (600, _)]) ?_ ⟨rfl, ⟨rfl, ⟨rfl, ⟨rfl, ⟨rfl, ⟨rfl, ⟨rfl, ⟨rfl, ⟨rfl, trivial⟩⟩⟩⟩⟩⟩⟩⟩⟩ ⟨rfl, ⟨rfl, ⟨rfl, ⟨rfl, ⟨rfl, trivial⟩⟩⟩⟩⟩
                refine W_regL (WL_pure rfl rfl (by decide) (Pu_move rfl rfl) (WL_pure rfl rfl (by decide) (Pu_move rfl rfl) (WL_pure rfl rfl (by decide) (Pu_bin rfl rfl rfl (run_eql _ _ _ _ _ _)) (WL_pure rfl rfl (by decide) (Pu_move rfl rfl) (WL_guardP rfl rfl rfl rfl (by decide) (fun hb => (Pu_move rfl rfl)) (WL_guardP rfl rfl rfl rfl (by decide) (fun hb => (Pu_len (r := 500) rfl Tryd.runUnderlying27 (ev_gv rfl hb) rfl rowB_rd)) (WL_guardP rfl rfl rfl rfl (by decide) (fun hb => (Pu_bin rfl (ev_gv rfl hb) rfl (run_eql _ _ _ _ _ _))) (WL_pure rfl rfl (by decide) (Pu_and rfl rfl rfl) (WL_pure rfl rfl (by decide) (Pu_move rfl rfl) (WL_guardP rfl rfl rfl rfl (by decide) (fun hb => (Pu_move rfl rfl)) (WL_guardP rfl rfl rfl rfl (by decide) (fun hb => (Pu_move rfl rfl)) (WL_guardP rfl rfl rfl rfl (by decide) (fun hb => (Pu_bin rfl (ev_gv rfl hb) (ev_gv rfl hb) (run_eql _ _ _ _ _ _))) (WL_pure rfl rfl (by decide) (Pu_and rfl rfl rfl) (WL_pure rfl rfl (by decide) (Pu_move rfl rfl) (WL_guardP rfl rfl rfl rfl (by decide) (fun hb => (Pu_move rfl rfl)) (WL_guardP rfl rfl rfl rfl (by decide) (fun hb => (Pu_len (r := 600) rfl Tryd.runUnderlying22 (ev_gv rfl hb) rfl rowR_rd)) (WL_guardP rfl rfl rfl rfl (by decide) (fun hb => (Pu_bin rfl (ev_gv rfl hb) rfl (run_eql _ _ _ _ _ _))) (WL_pure rfl rfl (by decide) (Pu_and rfl rfl rfl) (WL_pure rfl rfl (by decide) (Pu_assign rfl rfl) (WL_nil (X_then ?_)))))))))))))))))))))
                refine W_ret ?_
                exact X_ret [] (Ps := []) (res1 Tryd.results4 rfl) rfl (by decide) ⟨rfl, rfl⟩
            ·
              have hq2 : ¬ m = 2 := by have := of_decide_eq_false hc96; omega
              refine W_seq ?_
              refine W.pre (K' := [(0, _), (1, _), (2, _), (7, _), (8, _), (10, _), (11, _), (26, _), (60, _), (67, _), (68, _), (86, _), (96, _)]) (L' := [(0, _), (201, _)]) ?_ ⟨rfl, ⟨rfl, ⟨rfl, ⟨rfl, ⟨rfl, ⟨rfl, ⟨rfl, ⟨rfl, ⟨rfl, ⟨rfl, ⟨rfl, ⟨rfl, ⟨rfl, trivial⟩⟩⟩⟩⟩⟩⟩⟩⟩⟩⟩⟩⟩ ⟨rfl, ⟨rfl, trivial⟩⟩
              refine W_regL (WL_pure rfl rfl (by decide) (Pu_bin rfl rfl rfl (run_eql _ _ _ _ _ _)) (WL_pure rfl rfl (by decide) (Pu_assign rfl rfl) (WL_nil (X_then ?_))))
              refine W_true rfl (decide_eq_true (by omega)) ?_
              refine W.pre (K' := [(0, _), (1, _), (2, _), (7, _), (8, _), (10, _), (11, _), (26, _), (60, _), (67, _), (68, _), (86, _), (96, _), (102, _)]) (L' := [(0, _), (201, _)]) ?_ ⟨rfl, ⟨rfl, ⟨rfl, ⟨rfl, ⟨rfl, ⟨rfl, ⟨rfl, ⟨rfl, ⟨rfl, ⟨rfl, ⟨rfl, ⟨rfl, ⟨rfl, ⟨rfl, trivial⟩⟩⟩⟩⟩⟩⟩⟩⟩⟩⟩⟩⟩⟩ ⟨rfl, ⟨rfl, trivial⟩⟩
              unfold rowE rowR
              refine W_regL (WL_pure rfl rfl (by decide) (Pu_move rfl rfl) (WL_pure rfl rfl (by decide) (Pu_move rfl rfl) (WL_pure rfl rfl (by decide) (Pu_idxS (r := 201) rfl Tryd.runUnderlying22 Tryd.sizeOf30 rfl rfl rfl (fun _ h => rowP_rd h) (by omega)) (WL_pure rfl rfl (by decide) (Pu_fieldAddrE (off := 0) rfl rfl (by kernel_rfl)) (WL_cons0 rfl rfl (OpT_storeS1 (r := 201) rfl Tryd.sizeOf9 rfl rfl rfl rfl (by rw [recC_length hEa.len]; show k * 33 + 0 < _; omega) (ent_setName (k := k) hEa (by omega) []) ?_))))))
              refine (WL_pure rfl rfl (by decide) (Pu_assign rfl rfl) (WL_nil (X_block (X_then ?_))))
              refine W_seq ?_
              refine W.pre (K' := [(0, _), (1, _), (2, _), (7, _), (8, _), (10, _), (11, _), (26, _), (60, _), (67, _), (68, _), (86, _), (96, _), (102, _)]) (L' := [(0, _), (201, _)]) ?_ ⟨rfl, ⟨rfl, ⟨rfl, ⟨rfl, ⟨rfl, ⟨rfl, ⟨rfl, ⟨rfl, ⟨rfl, ⟨rfl, ⟨rfl, ⟨rfl, ⟨rfl, ⟨rfl, trivial⟩⟩⟩⟩⟩⟩⟩⟩⟩⟩⟩⟩⟩⟩ ⟨rfl, ⟨rfl, trivial⟩⟩
              have hfit := fit_name hord h2 h20 hkl checkN_ab.2 (by decide)
              refine W_turn (P' := rowE 30 y.2.1 (y.2.2.set k ([], (y.2.2.getD k ent0).2))) 201 rfl (fun h hp => (congrFun (rowR_of (n := y.2.2.length) (f := entF) (S := 33) (y.2.2.set k ([], (y.2.2.getD k ent0).2)) (by simp only [List.length_set]) rfl) h).mp hp) ?_
              generalize (y.2.2.set k ([], (y.2.2.getD k ent0).2)) = es at *
              obtain ⟨f1, f2, f3, f4, f5, f6⟩ := id hfit
              obtain ⟨g1, g2, g3⟩ := fit_parse hfit
              refine W_regL (WL_pure rfl rfl (by decide) (Pu_assign rfl rfl) (WL_nil (X_then ?_)))
              refine W_seq ?_
              refine W_seq ?_
              refine W.pre (K' := [(0, _), (1, _), (2, _), (7, _), (8, _), (10, _), (11, _), (12, _), (26, _), (60, _), (67, _), (68, _), (86, _), (96, _), (102, _)]) (L' := [(0, _), (201, _)]) ?_ ⟨rfl, ⟨rfl, ⟨rfl, ⟨rfl, ⟨rfl, ⟨rfl, ⟨rfl, ⟨rfl, ⟨rfl, ⟨rfl, ⟨rfl, ⟨rfl, ⟨rfl, ⟨rfl, ⟨rfl, trivial⟩⟩⟩⟩⟩⟩⟩⟩⟩⟩⟩⟩⟩⟩⟩ ⟨rfl, ⟨rfl, trivial⟩⟩
              refine W_regL (WL_pure rfl rfl (by decide) (Pu_assign rfl rfl) (WL_nil (X_then ?_)))
              refine W_block ?_
              refine W_nilRow 401 5 1 ?_
              refine W_loop (α := Nat × Value) (fun x => [(7, y.2.1), (11, .int .i64 10), (12, x.2), (13, .int .i64 (x.1 : Int))]) (fun x => [(0, F), (201, rowE 30 y.2.1 es), (401, rowB 5 x.2 (dirTo es x.1))]) (fun x => x.1 ≤ es.length) (fun x => es.length - x.1) ((0, .slice none 0 0)) (Nat.zero_le _) ⟨rfl, ⟨rfl, ⟨rfl, ⟨rfl, trivial⟩⟩⟩⟩ ⟨rfl, ⟨rfl, ⟨rfl, trivial⟩⟩⟩ (fun x hx => ?_)
              unfold rowB
              have hxl : x.1 ≤ es.length := hx
              have hdl := dirTo_len f3 (fun e he => (f4 e he).1) x.1
              refine W_seq ?_
              refine W_seq ?_
              refine W.pre (K' := [(7, _), (11, _), (12, _), (13, _)]) (L' := [(0, _), (201, _), (401, _)]) ?_ ⟨rfl, ⟨rfl, ⟨rfl, ⟨rfl, trivial⟩⟩⟩⟩ ⟨rfl, ⟨rfl, ⟨rfl, trivial⟩⟩⟩
              refine W_regL (WL_pure rfl rfl (by decide) (Pu_move rfl rfl) (WL_pure rfl rfl (by decide) (Pu_move rfl rfl) (WL_pure rfl rfl (by decide) (Pu_len (r := 201) rfl Tryd.runUnderlying22 rfl rfl rowR_rd) (WL_pure rfl rfl (by decide) (Pu_bin rfl rfl rfl (run_lss _ _ _ _ _ _)) (WL_nil (X_then ?_))))))
              refine W_cond rfl (fun hc111 => ?_) (fun hc111 => ?_)
              ·
                have hlt : x.1 < es.length := by have := of_decide_eq_true hc111; omega
                have hnl := (f4 _ (getD_mem' (d := ent0) hlt)).1
                have hzz := (f4 _ (getD_mem' (d := ent0) hlt)).2
                refine W_skip (X_then ?_)
                refine W_seq ?_
                refine W_block ?_
                refine W.pre (K' := [(7, _), (11, _), (12, _), (13, _), (111, _)]) (L' := [(0, _), (201, _), (401, _)]) ?_ ⟨rfl, ⟨rfl, ⟨rfl, ⟨rfl, ⟨rfl, trivial⟩⟩⟩⟩⟩ ⟨rfl, ⟨rfl, ⟨rfl, trivial⟩⟩⟩
                refine W_draw (N := 18) (by kernel_rfl) rfl [(0, _), (201, _)] ⟨rfl, ⟨rfl, trivial⟩⟩ ?_
                refine (AH_take 0 rfl (by kernel_rfl) (by kernel_rfl) (by kernel_rfl) rfl rfl (by decide) (Pu_move rfl rfl) (AH_take 1 rfl (by kernel_rfl) (by kernel_rfl) (by kernel_rfl) rfl rfl (by decide) (Pu_move rfl rfl) (AH_take 2 rfl (by kernel_rfl) (by kernel_rfl) (by kernel_rfl) rfl rfl (by decide) (Pu_move rfl rfl) (AH_take 3 rfl (by kernel_rfl) (by kernel_rfl) (by kernel_rfl) rfl rfl (by decide) (Pu_idxS (r := 201) rfl Tryd.runUnderlying22 Tryd.sizeOf30 rfl rfl rfl rowR_rd (by omega)) (AH_take 4 rfl (by kernel_rfl) (by kernel_rfl) (by kernel_rfl) rfl rfl (by decide) (Pu_fieldAddrE (off := 0) rfl rfl (by kernel_rfl)) (AH_take 5 rfl (by kernel_rfl) (by kernel_rfl) (by kernel_rfl) rfl rfl (by decide) (Pu_loadS (r := 201) rfl Tryd.isAgg9 rfl rfl rowR_rd (ent_name (k := x.1) f3 hlt)) (AH_take 6 rfl (by kernel_rfl) (by kernel_rfl) (by kernel_rfl) rfl rfl (by decide) (Pu_lenStr rfl Tryd.underlying9 rfl) (AH_take 7 rfl (by kernel_rfl) (by kernel_rfl) (by kernel_rfl) rfl rfl (by decide) (Pu_conv rfl rfl (conv_byte _ _ Tryd.runUnderlying3 Tryd.runUnderlying5)) (AH_take 10 rfl (by kernel_rfl) (by kernel_rfl) (by kernel_rfl) rfl rfl (by decide) (Pu_move rfl rfl) (AH_take 11 rfl (by kernel_rfl) (by kernel_rfl) (by kernel_rfl) rfl rfl (by decide) (Pu_move rfl rfl) (AH_take 12 rfl (by kernel_rfl) (by kernel_rfl) (by kernel_rfl) rfl rfl (by decide) (Pu_idxS (r := 201) rfl Tryd.runUnderlying22 Tryd.sizeOf30 rfl rfl rfl rowR_rd (by omega)) (AH_take 13 rfl (by kernel_rfl) (by kernel_rfl) (by kernel_rfl) rfl rfl (by decide) (Pu_fieldAddrE (off := 0) rfl rfl (by kernel_rfl)) (AH_take 14 rfl (by kernel_rfl) (by kernel_rfl) (by kernel_rfl) rfl rfl (by decide) (Pu_loadS (r := 201) rfl Tryd.isAgg9 rfl rfl rowR_rd (ent_name (k := x.1) f3 hlt)) (AH_ready [8] (by kernel_rfl) (by decide) ?_))))))))))))))
                refine AHs_cons rfl rfl rfl (by decide) (OpT_buildOnes (r := 402) (bs [byte ((es.getD x.1 ent0).1.length : Int)]) rfl rfl Tryd.runUnderlying27 Tryd.sizeOf5 Tryd.zeroValue5 rfl rfl (by decide) rfl (bs_cells _) (fun v122 => ⟨⟨rfl, ⟨rfl, trivial⟩⟩, ?_⟩)) ?_
                ·
                  refine (AH_ready [9] (by kernel_rfl) (by decide) ?_)
                  refine AHs_cons rfl rfl rfl (by decide) (OpT_append (r := 401) (r2 := 402) rfl Tryd.underlying27 TI.hi5 TI.hz5 TI.hs5 TI.hby5 TI.hzs5 (by decide) rfl rfl rfl rfl (fun _ h => rowP_rd h) (bs_one _) (by unfold maxLen; omega) (by omega) (fun v123 => ?_)) ?_
                  ·
                    refine ⟨⟨rfl, ⟨rfl, trivial⟩⟩, ?_⟩
                    refine (AH_ready [15] (by kernel_rfl) (by decide) ?_)
                    refine AHs_cons rfl rfl rfl (by decide) (OpT_appendStr (r := 401) rfl Tryd.underlying27 Tryd.underlying9 TI.hi5 TI.hz5 TI.hs5 TI.hby5 TI.hzs5 rfl rfl rfl (by unfold maxLen; omega) (by omega) (fun v129 => ?_)) ?_
                    ·
                      refine ⟨⟨rfl, ⟨rfl, trivial⟩⟩, ?_⟩
                      refine (AH_ready [16] (by kernel_rfl) (by decide) ?_)
                      refine AHs_cons rfl rfl rfl (by decide) (OpT_appendZ (r := 401) (m := 32) rfl Tryd.underlying27 Tryd.underlying3 TI.hi5 TI.hz5 TI.hs5 TI.hby5 rfl rfl rfl (by omega) rfl (by omega) (by unfold maxLen; omega) (by omega) (fun v130 => ?_)) ?_
                      ·
                        refine ⟨⟨rfl, ⟨rfl, trivial⟩⟩, ?_⟩
                        refine (AH_take 17 rfl (by kernel_rfl) (by kernel_rfl) (by kernel_rfl) rfl rfl (by decide) (Pu_assign rfl rfl) (AH_done (by kernel_rfl) (X_block (X_then ?_))))
                        refine W.pre (K' := [(7, _), (11, _), (12, _), (13, _), (111, _)]) (L' := [(0, _), (201, _), (401, _), (402, _)]) ?_ ⟨rfl, ⟨rfl, ⟨rfl, ⟨rfl, ⟨rfl, trivial⟩⟩⟩⟩⟩ ⟨rfl, ⟨rfl, ⟨rfl, ⟨rfl, trivial⟩⟩⟩⟩
                        refine W_regL (WL_pure rfl rfl (by decide) (Pu_move rfl rfl) (WL_pure rfl rfl (by decide) (Pu_bin rfl rfl rfl (run_add _ _ _ _ _ (by omega))) (WL_pure rfl rfl (by decide) (Pu_assign rfl rfl) (WL_nil ?_))))
                        exact X_round (x.1 + 1, v130) hlt (by dsimp only; omega) ⟨rfl, rfl, rfl, rfl, trivial⟩ ⟨rfl, rfl, look_eq rfl (rowB_of (dirTo es (x.1 + 1)) (by rw [rawTo_succ hlt hzz]; simp only [List.length_append, List.length_cons, List.length_nil, zeroId_length]) (by rw [rawTo_succ hlt hzz, bs_append, bs_append, bs_append]; rfl)), trivial⟩
                      exact AHs_nil
                    exact AHs_nil
                  exact AHs_nil
                exact AHs_nil
              ·
                obtain hfin : x.1 = es.length := by have := of_decide_eq_false hc111; omega
                refine W_exit (X_then_exit (X_then_exit (X_block_exit (X_then ?_))))
                refine W_seq ?_
                refine W.pre (K' := [(7, _), (11, _), (12, _), (13, _), (111, _)]) (L' := [(0, _), (201, _), (401, _)]) ?_ ⟨rfl, ⟨rfl, ⟨rfl, ⟨rfl, ⟨rfl, trivial⟩⟩⟩⟩⟩ ⟨rfl, ⟨rfl, ⟨rfl, trivial⟩⟩⟩
                refine W_regL (WL_pure rfl rfl (by decide) (Pu_move rfl rfl) (WL_cons rfl rfl (by decide) (OpT_call 500 [0, 201, 401] [] rfl Tryd.call7 rfl rfl rfl (by decide) (by decide) (dir_spec y.2.1 es f3 (by omega) (fun e he => by have := (f4 e he).1; omega) _ (rd_star 1 rfl rowR_rd) (tabs_star 0 rfl hT)) (fun v133 Ps133 hR133 => ?_))))
                obtain ⟨w133, rfl, rfl⟩ := hR133
                rw [f5, g2]
                refine (WL_pure rfl rfl (by decide) (Pu_move rfl rfl) (WL_pure rfl rfl (by decide) (Pu_extract rfl rfl rfl) (WL_pure rfl rfl (by decide) (Pu_extract rfl rfl rfl) (WL_pure rfl rfl (by decide) (Pu_assign rfl rfl) (WL_pure rfl rfl (by decide) (Pu_assign rfl rfl) (WL_nil (X_then ?_)))))))
                refine W_seq ?_
                refine W.pre (K' := [(7, _), (11, _), (12, _), (13, _), (14, _), (15, _), (111, _)]) (L' := [(0, _), (201, _), (401, _), (500, _)]) ?_ ⟨rfl, ⟨rfl, ⟨rfl, ⟨rfl, ⟨rfl, ⟨rfl, ⟨rfl, trivial⟩⟩⟩⟩⟩⟩⟩ ⟨rfl, ⟨rfl, ⟨rfl, ⟨rfl, trivial⟩⟩⟩⟩
                refine W_regL (WL_pure rfl rfl (by decide) (Pu_move rfl rfl) (WL_cons rfl rfl (by decide) (OpT_call 600 [0, 201, 401, 500] [] rfl Tryd.call10 rfl rfl rfl (by decide) (by decide) (parseDir_spec x.2 (dirTo es x.1) (by omega) _ (rd_star 2 rfl rowB_rd) (tabs_star 0 rfl hT)) (fun v138 Ps138 hR138 => ?_))))
                obtain ⟨w138, rfl, rfl⟩ := hR138
                rw [hfin, dirTo_all, g1]
                refine (WL_pure rfl rfl (by decide) (Pu_move rfl rfl) (WL_pure rfl rfl (by decide) (Pu_extract rfl rfl rfl) (WL_pure rfl rfl (by decide) (Pu_extract rfl rfl rfl) (WL_pure rfl rfl (by decide) (Pu_assign rfl rfl) (WL_pure rfl rfl (by decide) (Pu_assign rfl rfl) (WL_nil (X_then ?_)))))))
                refine W_seq ?_
                refine W.pre (K' := [(7, _), (11, _), (12, _), (13, _), (14, _), (15, _), (16, _), (17, _), (111, _)]) (L' := [(0, _), (201, _), (401, _), (500, _), (600, _)]) ?_ ⟨rfl, ⟨rfl, ⟨rfl, ⟨rfl, ⟨rfl, ⟨rfl, ⟨rfl, ⟨rfl, ⟨rfl, trivial⟩⟩⟩⟩⟩⟩⟩⟩⟩ ⟨rfl, ⟨rfl, ⟨rfl, ⟨rfl, ⟨rfl, trivial⟩⟩⟩⟩⟩
                refine W_regL (WL_pure rfl rfl (by decide) (Pu_move rfl rfl) (WL_pure rfl rfl (by decide) (Pu_move rfl rfl) (WL_pure rfl rfl (by decide) (Pu_bin rfl rfl rfl (run_eql _ _ _ _ _ _)) (WL_pure rfl rfl (by decide) (Pu_move rfl rfl) (WL_guardP rfl rfl rfl rfl (by decide) (fun hb => (Pu_move rfl rfl)) (WL_guardP rfl rfl rfl rfl (by decide) (fun hb => (Pu_len (r := 500) rfl Tryd.runUnderlying27 (ev_gv rfl hb) rfl rowB_rd)) (WL_guardP rfl rfl rfl rfl (by decide) (fun hb => (Pu_bin rfl (ev_gv rfl hb) rfl (run_eql _ _ _ _ _ _))) (WL_pure rfl rfl (by decide) (Pu_and rfl rfl rfl) (WL_pure rfl rfl (by decide) (Pu_move rfl rfl) (WL_guardP rfl rfl rfl rfl (by decide) (fun hb => (Pu_move rfl rfl)) (WL_guardP rfl rfl rfl rfl (by decide) (fun hb => (Pu_move rfl rfl)) (WL_guardP rfl rfl rfl rfl (by decide) (fun hb => (Pu_bin rfl (ev_gv rfl hb) (ev_gv rfl hb) (run_eql _ _ _ _ _ _))) (WL_pure rfl rfl (by decide) (Pu_and rfl rfl rfl) (WL_pure rfl rfl (by decide) (Pu_move rfl rfl) (WL_guardP rfl rfl rfl rfl (by decide) (fun hb => (Pu_move rfl rfl)) (WL_guardP rfl rfl rfl rfl (by decide) (fun hb => (Pu_len (r := 600) rfl Tryd.runUnderlying22 (ev_gv rfl hb) rfl rowR_rd)) (WL_guardP rfl rfl rfl rfl (by decide) (fun hb => (Pu_bin rfl (ev_gv rfl hb) rfl (run_eql _ _ _ _ _ _))) (WL_pure rfl rfl (by decide) (Pu_and rfl rfl rfl) (WL_pure rfl rfl (by decide) (Pu_assign rfl rfl) (WL_nil (X_then ?_)))))))))))))))))))))
                refine W_ret ?_
                exact X_ret [] (Ps := []) (res1 Tryd.results4 rfl) rfl (by decide) ⟨rfl, rfl⟩

theorem blobOrder_any (W : World) (hT : ∀ h, orig W h → tabsP h) (v0 : Value) (l0 : List Q) (hr0 : Rd W 1 v0 l0.length (l0.map (·.1)) ∧ ∀ q ∈ l0, Rd W 1 q.1 q.2.length (is q.2)) (hl0 : l0.length ≤ maxLen) (a1 : Int) (lo1 : -9223372036854775808 ≤ a1) (hi1 : a1 ≤ 9223372036854775807) (a2 : Int) (lo2 : -9223372036854775808 ≤ a2) (hi2 : a2 ≤ 9223372036854775807) :
    Calls Tryd.prog 4 #[v0, .int .i64 a1, .int .i64 a2] W fun e W' => e = .returned (.bool true) ∧ Chg [] W W' :=
  calls_law ((blobOrder_law v0 l0 a1 a2 (orig W) (fun h hp => Rd.orig hr0.1 h hp) (fun q hq h hp => Rd.orig (hr0.2 q hq) h hp) hT).imp fun v Ps h => h.1)
end Go.Proofs.YtnhidehpacidnaaDoor
/- What the row's list gives: the library's two tables; a world that holds them. -/
namespace Go.Proofs.YtnhidehpacidnaaDoor
open Go.RowKit Go.Lib
set_option linter.unusedVariables false
set_option maxRecDepth 100000
theorem first_eq : Go.Pinned.utf8First = firstData := by kernel_rfl
theorem accept_eq : (Rows.laid_unicode_utf8_acceptRanges : DataW Unit) = acceptData := by kernel_rfl
def laidL : List (String × DataW Unit) := [("unicode/utf8.acceptRanges", Rows.laid_unicode_utf8_acceptRanges), ("unicode/utf8.first", Rows.laid_unicode_utf8_first)]
theorem tabs_of_laid {W : World} (h : laidMetH Tryd.prog laidL W) (hsh : W.ShapedOpen Tryd.prog) : ∀ h, orig W h → tabsP h := by
  rw [MakeChecks.laidMetH_plain _ _ _ (by kernel_rfl)] at h
  have h3 : VarReads Tryd.prog W "unicode/utf8.first" firstData := by
    rw [← first_eq]
    exact laidMet.reads h (List.mem_cons_of_mem _ List.mem_cons_self)
  have h4 : VarReads Tryd.prog W "unicode/utf8.acceptRanges" acceptData := by
    rw [← accept_eq]
    exact laidMet.reads h List.mem_cons_self
  exact orig_tabs (utf8Tabs_of_reads lays260 laysU h3 h4) trivial
/-- A world for the witness. -/
def lay (cs : List Value) : Obj → Obj
  | .cells _ t frozen => .cells cs.toArray t frozen
  | o => o
def firstCells : List Value := (List.range 256).map fun c => Value.int .u8 (firstT c : Int)
def acceptCells : List Value := ((List.range 16).map fun i => [Value.int .u8 (accLo i : Int), Value.int .u8 (accHi i : Int)]).flatten
noncomputable def laidWorld (os : Os) : World :=
  { World.holding Tryd.prog os ⟨#[], #[], []⟩ with heap := ((World.holding Tryd.prog os ⟨#[], #[], []⟩).heap.modify 0 (lay firstCells)).modify 1 (lay acceptCells) }
theorem laid_met (os : Os) (args : Array Value) : laidMet Tryd.prog laidL ((laidWorld os).forCall (fun _ _ => 0) ⟨#[], args, []⟩).memory :=
  laidMet_of_run' 8 (by kernel_rfl) (by kernel_rfl)
end Go.Proofs.YtnhidehpacidnaaDoor
