/- Texts of this proof, one behind the other: AreaK, Cut. -/
import Derived.Test.YtjopgnkffhfhkaaK3
import Derived.Test.YtjopgnkffhfhkaaK1
/- Areas: the document's own area, asked. -/
namespace Go.Proofs.Ytjopgnkffhfhkaa
open Go.RowKit
set_option linter.unusedVariables false
set_option linter.unusedSimpArgs false
set_option maxRecDepth 8000
theorem bs_at0 {l : List UInt8} {k : Nat} (h : k < l.length) : (bs l)[0 + ((k : Int)).toNat]? = some (bv (at0 l k)) := by
  have := bs_at h
  rw [Nat.mul_one] at this
  rw [Nat.zero_add]
  exact this
theorem less_spec (a b : List UInt8) (ha : a.length = 32) (hb : b.length = 32) (F : HP) : CallsS Try.prog 33 #[idV a, idV b] F [] (fun r Ps => r = .bool (ltK a b) ∧ Ps = []) := by
  refine callsS_enter Try.func33 rfl Try.ntmps33 (by simp) (fun E => ?_)
  refine W_seq ?_
  refine W.pre (K' := [(0, _), (1, _)]) (L' := [(0, _)]) ?_ ⟨rfl, ⟨rfl, trivial⟩⟩ ⟨rfl, trivial⟩
  refine W_regL (WL_cons rfl rfl (by decide) (OpT_box (r := 101) rfl rfl rfl (fun g101 => (WL_cons rfl rfl (by decide) (OpT_box (r := 102) rfl rfl rfl (fun g102 => (WL_pure rfl rfl (by decide) (Pu_assign rfl rfl) (WL_nil (X_then ?_)))))))))
  refine W_seq ?_
  refine W_seq ?_
  refine W.pre (K' := [(0, _), (1, _), (2, _), (3, _), (4, _)]) (L' := [(0, _), (101, _), (102, _)]) ?_ ⟨rfl, ⟨rfl, ⟨rfl, ⟨rfl, ⟨rfl, trivial⟩⟩⟩⟩⟩ ⟨rfl, ⟨rfl, ⟨rfl, trivial⟩⟩⟩
  refine W_regL (WL_pure rfl rfl (by decide) (Pu_assign rfl rfl) (WL_nil (X_then ?_)))
  refine W_block ?_
  refine W_loop (α := Nat) (fun x => [(2, .pointer (some ⟨g101, 0, none⟩)), (3, .pointer (some ⟨g102, 0, none⟩)), (5, .int .i64 (x : Int))]) (fun x => [(0, F), (101, blk g101 36 (bs a)), (102, blk g102 36 (bs b))]) (fun x => x ≤ 32 ∧ ∀ j, j < x → a[j]? = b[j]?) (fun x => 32 - x) (0) ⟨by omega, fun j hj => by omega⟩ ⟨rfl, ⟨rfl, ⟨rfl, trivial⟩⟩⟩ ⟨rfl, ⟨rfl, ⟨rfl, trivial⟩⟩⟩ (fun x hx => ?_)
  obtain ⟨hx1, hx2⟩ := hx
  refine W_seq ?_
  refine W_seq ?_
  refine W.pre (K' := [(2, _), (3, _), (5, _)]) (L' := [(0, _), (101, _), (102, _)]) ?_ ⟨rfl, ⟨rfl, ⟨rfl, trivial⟩⟩⟩ ⟨rfl, ⟨rfl, ⟨rfl, trivial⟩⟩⟩
  refine W_regL (WL_pure rfl rfl (by decide) (Pu_move rfl rfl) (WL_pure rfl rfl (by decide) (Pu_bin rfl rfl rfl (run_lss _ _ _ _ _ _)) (WL_nil (X_then ?_))))
  refine W_cond rfl (fun hc7 => ?_) (fun hc7 => ?_)
  ·
    have hlt : x < 32 := by have := of_decide_eq_true hc7; omega
    have hia : ((x : Int)).toNat = x := by omega
    refine W_skip (X_then ?_)
    refine W_seq ?_
    refine W_block ?_
    refine W_seq ?_
    refine W.pre (K' := [(2, _), (3, _), (5, _), (7, _)]) (L' := [(0, _), (101, _), (102, _)]) ?_ ⟨rfl, ⟨rfl, ⟨rfl, ⟨rfl, trivial⟩⟩⟩⟩ ⟨rfl, ⟨rfl, ⟨rfl, trivial⟩⟩⟩
    refine W_draw (N := 7) (by kernel_rfl) rfl [(0, _), (101, _), (102, _)] ⟨rfl, ⟨rfl, ⟨rfl, trivial⟩⟩⟩ ?_
    refine (AH_take 0 rfl (by kernel_rfl) (by kernel_rfl) (by kernel_rfl) rfl rfl (by decide) (Pu_move rfl rfl) (AH_take 1 rfl (by kernel_rfl) (by kernel_rfl) (by kernel_rfl) rfl rfl (by decide) (Pu_idxA rfl Try.runUnderlying36 Try.sizeOf5 rfl rfl (by omega)) (AH_take 2 rfl (by kernel_rfl) (by kernel_rfl) (by kernel_rfl) rfl rfl (by decide) (Pu_loadB (r := 101) rfl Try.isAgg5 rfl rfl (bs_at0 (k := x) (by omega))) (AH_take 3 rfl (by kernel_rfl) (by kernel_rfl) (by kernel_rfl) rfl rfl (by decide) (Pu_move rfl rfl) (AH_take 4 rfl (by kernel_rfl) (by kernel_rfl) (by kernel_rfl) rfl rfl (by decide) (Pu_idxA rfl Try.runUnderlying36 Try.sizeOf5 rfl rfl (by omega)) (AH_take 5 rfl (by kernel_rfl) (by kernel_rfl) (by kernel_rfl) rfl rfl (by decide) (Pu_loadB (r := 102) rfl Try.isAgg5 rfl rfl (bs_at0 (k := x) (by omega))) (AH_take 6 rfl (by kernel_rfl) (by kernel_rfl) (by kernel_rfl) rfl rfl (by decide) (Pu_bin rfl rfl rfl (run_neq _ _ _ _ _ _)) (AH_done (by kernel_rfl) (X_then ?_)))))))))
    refine W_cond rfl (fun hc16 => ?_) (fun hc16 => ?_)
    ·
      have hne : at0 a x ≠ at0 b x := by intro e; rw [e] at hc16; simp at hc16
      refine W_seq ?_
      refine W.pre (K' := [(2, _), (3, _), (5, _), (7, _), (16, _)]) (L' := [(0, _), (101, _), (102, _)]) ?_ ⟨rfl, ⟨rfl, ⟨rfl, ⟨rfl, ⟨rfl, trivial⟩⟩⟩⟩⟩ ⟨rfl, ⟨rfl, ⟨rfl, trivial⟩⟩⟩
      refine W_draw (N := 8) (by kernel_rfl) rfl [(0, _), (101, _), (102, _)] ⟨rfl, ⟨rfl, ⟨rfl, trivial⟩⟩⟩ ?_
      refine (AH_take 0 rfl (by kernel_rfl) (by kernel_rfl) (by kernel_rfl) rfl rfl (by decide) (Pu_move rfl rfl) (AH_take 1 rfl (by kernel_rfl) (by kernel_rfl) (by kernel_rfl) rfl rfl (by decide) (Pu_idxA rfl Try.runUnderlying36 Try.sizeOf5 rfl rfl (by omega)) (AH_take 2 rfl (by kernel_rfl) (by kernel_rfl) (by kernel_rfl) rfl rfl (by decide) (Pu_loadB (r := 101) rfl Try.isAgg5 rfl rfl (bs_at0 (k := x) (by omega))) (AH_take 3 rfl (by kernel_rfl) (by kernel_rfl) (by kernel_rfl) rfl rfl (by decide) (Pu_move rfl rfl) (AH_take 4 rfl (by kernel_rfl) (by kernel_rfl) (by kernel_rfl) rfl rfl (by decide) (Pu_idxA rfl Try.runUnderlying36 Try.sizeOf5 rfl rfl (by omega)) (AH_take 5 rfl (by kernel_rfl) (by kernel_rfl) (by kernel_rfl) rfl rfl (by decide) (Pu_loadB (r := 102) rfl Try.isAgg5 rfl rfl (bs_at0 (k := x) (by omega))) (AH_take 6 rfl (by kernel_rfl) (by kernel_rfl) (by kernel_rfl) rfl rfl (by decide) (Pu_bin rfl rfl rfl (run_lss _ _ _ _ _ _)) (AH_take 7 rfl (by kernel_rfl) (by kernel_rfl) (by kernel_rfl) rfl rfl (by decide) (Pu_assign rfl rfl) (AH_done (by kernel_rfl) (X_then ?_))))))))))
      refine W_ret (X_block_ret (X_then_ret (X_then_ret (X_block_ret (X_then_ret ?_)))))
      exact X_ret [] (Ps := []) (res1 Try.results33 rfl) rfl (by decide) ⟨(bool_val (by rw [ltK_diff (i := x) (by omega) (by omega) hx2 hne]; exact decide_eq_decide.2 (by rw [UInt8.lt_iff_toNat_lt]; omega))), rfl⟩
    ·
      have heq : a[x]? = b[x]? := by
        have h1 : ((at0 a x).toNat : Int) = ((at0 b x).toNat : Int) := by simpa using hc16
        have h2 : at0 a x = at0 b x := UInt8.toNat_inj.1 (by omega)
        unfold at0 at h2
        rw [List.getElem?_eq_getElem (by omega), List.getElem?_eq_getElem (by omega)]
        rw [List.getD_eq_getElem?_getD, List.getD_eq_getElem?_getD, List.getElem?_eq_getElem (by omega), List.getElem?_eq_getElem (by omega)] at h2
        exact congrArg some h2
      refine W_skip (X_block (X_then ?_))
      refine W.pre (K' := [(2, _), (3, _), (5, _), (7, _), (16, _)]) (L' := [(0, _), (101, _), (102, _)]) ?_ ⟨rfl, ⟨rfl, ⟨rfl, ⟨rfl, ⟨rfl, trivial⟩⟩⟩⟩⟩ ⟨rfl, ⟨rfl, ⟨rfl, trivial⟩⟩⟩
      refine W_regL (WL_pure rfl rfl (by decide) (Pu_move rfl rfl) (WL_pure rfl rfl (by decide) (Pu_bin rfl rfl rfl (run_add _ _ _ _ _ (by omega))) (WL_pure rfl rfl (by decide) (Pu_assign rfl rfl) (WL_nil ?_))))
      exact X_round (x + 1) ⟨by omega, fun j hj => by rcases Nat.lt_or_ge j x with h | h; exact hx2 j h; obtain rfl : j = x := (by omega); exact heq⟩ (by omega) ⟨rfl, rfl, rfl, trivial⟩ ⟨rfl, rfl, rfl, trivial⟩
  ·
    obtain rfl : x = 32 := by have := of_decide_eq_false hc7; omega
    have hab : a = b := List.ext_getElem? fun j => by
      rcases Nat.lt_or_ge j 32 with h | h
      · exact hx2 j h
      · rw [List.getElem?_eq_none (by omega), List.getElem?_eq_none (by omega)]
    refine W_exit (X_then_exit (X_then_exit (X_block_exit (X_then ?_))))
    refine W_seq ?_
    refine W.pre (K' := [(2, _), (3, _), (5, _), (7, _)]) (L' := [(0, _), (101, _), (102, _)]) ?_ ⟨rfl, ⟨rfl, ⟨rfl, ⟨rfl, trivial⟩⟩⟩⟩ ⟨rfl, ⟨rfl, ⟨rfl, trivial⟩⟩⟩
    refine W_regL (WL_pure rfl rfl (by decide) (Pu_assign rfl rfl) (WL_nil (X_then ?_)))
    refine W_ret ?_
    exact X_ret [] (Ps := []) (res1 Try.results33 rfl) rfl (by decide) ⟨(bool_val (by rw [hab, ltK_irrefl])), rfl⟩
theorem refGet_spec (g : Nat) (room quota : Int) (v : Value) (zs : List EB) (now : Int) (k : List UInt8) (hk32 : k.length = 32) (hsort : SortA (zs.map toBk)) (hz : zs.length ≤ 1000000000) (F : HP) : CallsS Try.prog 22 #[.pointer (some ⟨g, 0, none⟩), idV k, .int .i64 now] F (refL g room quota v zs) (fun r Ps => ∃ w, r = .tuple #[w, .bool (getA (zs.map toBk) k now).isSome] ∧ (∀ h, datP zs h → rdB w (((getA (zs.map toBk) k now).map (·.data)).getD []) h) ∧ Ps = refL g room quota v zs) := by
  refine callsS_enter Try.func22 rfl Try.ntmps22 (by simp) (fun E => ?_)
  refine W_seq ?_
  refine W.pre (K' := [(0, _), (1, _), (2, _)]) (L' := [(0, _), (1, _), (2, _), (3, _)]) ?_ ⟨rfl, ⟨rfl, ⟨rfl, trivial⟩⟩⟩ ⟨rfl, ⟨rfl, ⟨rfl, ⟨rfl, trivial⟩⟩⟩⟩
  refine W_regL (WL_cons rfl rfl (by decide) (OpT_box (r := 101) rfl rfl rfl (fun g101 => (WL_pure rfl rfl (by decide) (Pu_assign rfl rfl) (WL_pure rfl rfl (by decide) (Pu_assign rfl rfl) (WL_nil (X_then ?_)))))))
  refine W_seq ?_
  refine W_seq ?_
  refine W.pre (K' := [(0, _), (1, _), (2, _), (4, _), (6, _), (7, _)]) (L' := [(0, _), (1, _), (2, _), (3, _), (101, _)]) ?_ ⟨rfl, ⟨rfl, ⟨rfl, ⟨rfl, ⟨rfl, ⟨rfl, trivial⟩⟩⟩⟩⟩⟩ ⟨rfl, ⟨rfl, ⟨rfl, ⟨rfl, ⟨rfl, trivial⟩⟩⟩⟩⟩
  refine W_regL (WL_pure rfl rfl (by decide) (Pu_assign rfl rfl) (WL_nil (X_then ?_)))
  refine W_block ?_
  refine W_loop (α := Nat) (fun x => [(0, .pointer (some ⟨g, 0, none⟩)), (2, .int .i64 now), (4, .pointer (some ⟨g101, 0, none⟩)), (8, .int .i64 (x : Int))]) (fun x => [(0, F), (1, refB g room quota v), (2, rowB2 v (sls zs)), (3, datP zs), (101, blk g101 36 (bs k))]) (fun x => x ≤ zs.length ∧ ∀ j, j < x → ¬ ((zs.getD j default).1.key = k ∧ now < (zs.getD j default).1.exp)) (fun x => zs.length - x) (0) ⟨by omega, fun j hj => by omega⟩ ⟨rfl, ⟨rfl, ⟨rfl, ⟨rfl, trivial⟩⟩⟩⟩ ⟨rfl, ⟨rfl, ⟨rfl, ⟨rfl, ⟨rfl, trivial⟩⟩⟩⟩⟩ (fun x hx => ?_)
  have hsl := sls_len zs
  obtain ⟨hx1, hx2⟩ := hx
  refine W_seq ?_
  refine W_seq ?_
  refine W.pre (K' := [(0, _), (2, _), (4, _), (8, _)]) (L' := [(0, _), (1, _), (2, _), (3, _), (101, _)]) ?_ ⟨rfl, ⟨rfl, ⟨rfl, ⟨rfl, trivial⟩⟩⟩⟩ ⟨rfl, ⟨rfl, ⟨rfl, ⟨rfl, ⟨rfl, trivial⟩⟩⟩⟩⟩
  refine W_regL (WL_pure rfl rfl (by decide) (Pu_move rfl rfl) (WL_pure rfl rfl (by decide) (Pu_move rfl rfl) (WL_pure rfl rfl (by decide) (Pu_nilCheck rfl rfl) (WL_pure rfl rfl (by decide) (Pu_fieldAddrB (off := 2) rfl rfl (by kernel_rfl)) (WL_pure rfl rfl (by decide) (Pu_loadB (r := 1) rfl Try.isAgg32 rfl rfl rfl) (WL_pure rfl rfl (by decide) (Pu_len (r := 2) rfl Try.runUnderlying32 rfl rfl (fun _ h => rowP_rd h)) (WL_pure rfl rfl (by decide) (Pu_bin rfl rfl rfl (run_lss _ _ _ _ _ _)) (WL_nil (X_then ?_)))))))))
  refine W_cond rfl (fun hc15 => ?_) (fun hc15 => ?_)
  ·
    have hlt : x < zs.length := by have := of_decide_eq_true hc15; omega
    have hlt2 : x < (zs.map toBk).length := by rw [List.length_map]; exact hlt
    have hmg := map_getD hlt
    have hm := getD_mem' (d := default) hlt
    have eA : (sls zs).getD x default = (zs.getD x default).1 := getD_map1 hlt
    refine W_skip (X_then ?_)
    refine W_seq ?_
    refine W_block ?_
    refine W_seq ?_
    refine W.pre (K' := [(0, _), (2, _), (4, _), (8, _), (15, _)]) (L' := [(0, _), (1, _), (2, _), (3, _), (101, _)]) ?_ ⟨rfl, ⟨rfl, ⟨rfl, ⟨rfl, ⟨rfl, trivial⟩⟩⟩⟩⟩ ⟨rfl, ⟨rfl, ⟨rfl, ⟨rfl, ⟨rfl, trivial⟩⟩⟩⟩⟩
    rcases Bool.eq_false_or_eq_true (((zs.getD x default).1.key == k)) with hsp4 | hsp4
    ·
      have hk : (zs.getD x default).1.key = k := by simpa [-List.getD_eq_getElem?_getD] using hsp4
      refine W_draw (N := 22) (by kernel_rfl) rfl [(0, _), (1, _), (101, _), (2, _)] ⟨rfl, ⟨rfl, ⟨rfl, ⟨rfl, trivial⟩⟩⟩⟩ ?_
      refine (AH_take 0 rfl (by kernel_rfl) (by kernel_rfl) (by kernel_rfl) rfl rfl (by decide) (Pu_move rfl rfl) (AH_take 1 rfl (by kernel_rfl) (by kernel_rfl) (by kernel_rfl) rfl rfl (by decide) (Pu_nilCheck rfl rfl) (AH_take 2 rfl (by kernel_rfl) (by kernel_rfl) (by kernel_rfl) rfl rfl (by decide) (Pu_fieldAddrB (off := 2) rfl rfl (by kernel_rfl)) (AH_take 3 rfl (by kernel_rfl) (by kernel_rfl) (by kernel_rfl) rfl rfl (by decide) (Pu_loadB (r := 1) rfl Try.isAgg32 rfl rfl rfl) (AH_take 4 rfl (by kernel_rfl) (by kernel_rfl) (by kernel_rfl) rfl rfl (by decide) (Pu_move rfl rfl) (AH_take 5 rfl (by kernel_rfl) (by kernel_rfl) (by kernel_rfl) rfl rfl (by decide) (Pu_idxS (r := 2) rfl Try.runUnderlying32 Try.sizeOf40 rfl rfl rfl (fun _ h => rowP_rd h) (by omega)) (AH_take 6 rfl (by kernel_rfl) (by kernel_rfl) (by kernel_rfl) rfl rfl (by decide) (Pu_fieldAddrE (off := 0) rfl rfl (by kernel_rfl)) (AH_take 7 rfl (by kernel_rfl) (by kernel_rfl) (by kernel_rfl) rfl rfl (by decide) (Pu_loadSN (r := 2) rfl Try.isAgg36 Try.sizeOf36 rfl rfl (fun _ h => rowP_rd h) ((bs_length _).trans (zs.getD x default).1.len) (by decide) (by rw [← eA]; exact bvs_key (xs := sls zs) (k := x) (by omega))) (AH_take 8 rfl (by kernel_rfl) (by kernel_rfl) (by kernel_rfl) rfl rfl (by decide) (Pu_loadBN (r := 101) rfl Try.isAgg36 Try.sizeOf36 rfl rfl ((bs_length _).trans hk32) (load_all ((bs_length _).trans hk32))) (AH_take 9 rfl (by kernel_rfl) (by kernel_rfl) (by kernel_rfl) rfl rfl (by decide) (Pu_bin rfl rfl rfl (run_idEq _ _ (zs.getD x default).1.len hk32 _ _)) (AH_take 10 rfl (by kernel_rfl) (by kernel_rfl) (by kernel_rfl) rfl rfl (by decide) (Pu_move rfl rfl) (AH_takeT 11 rfl (by kernel_rfl) (by kernel_rfl) (by kernel_rfl) rfl rfl rfl (by rw [hsp4]; rfl) rfl (by decide) (Pu_move rfl rfl) (AH_takeT 12 rfl (by kernel_rfl) (by kernel_rfl) (by kernel_rfl) rfl rfl rfl (by rw [hsp4]; rfl) rfl (by decide) (Pu_nilCheck rfl rfl) (AH_takeT 13 rfl (by kernel_rfl) (by kernel_rfl) (by kernel_rfl) rfl rfl rfl (by rw [hsp4]; rfl) rfl (by decide) (Pu_fieldAddrB (off := 2) rfl rfl (by kernel_rfl)) (AH_takeT 14 rfl (by kernel_rfl) (by kernel_rfl) (by kernel_rfl) rfl rfl rfl (by rw [hsp4]; rfl) rfl (by decide) (Pu_loadB (r := 1) rfl Try.isAgg32 rfl rfl rfl) (AH_takeT 15 rfl (by kernel_rfl) (by kernel_rfl) (by kernel_rfl) rfl rfl rfl (by rw [hsp4]; rfl) rfl (by decide) (Pu_move rfl rfl) (AH_takeT 16 rfl (by kernel_rfl) (by kernel_rfl) (by kernel_rfl) rfl rfl rfl (by rw [hsp4]; rfl) rfl (by decide) (Pu_idxS (r := 2) rfl Try.runUnderlying32 Try.sizeOf40 rfl rfl rfl (fun _ h => rowP_rd h) (by omega)) (AH_takeT 17 rfl (by kernel_rfl) (by kernel_rfl) (by kernel_rfl) rfl rfl rfl (by rw [hsp4]; rfl) rfl (by decide) (Pu_fieldAddrE (off := 34) rfl rfl (by kernel_rfl)) (AH_takeT 18 rfl (by kernel_rfl) (by kernel_rfl) (by kernel_rfl) rfl rfl rfl (by rw [hsp4]; rfl) rfl (by decide) (Pu_loadS (r := 2) rfl Try.isAgg3 rfl rfl (fun _ h => rowP_rd h) ((bvs_get (xs := sls zs) (k := x) (j := 34) (by omega) (by omega)).trans (by rw [eA]; exact bk_exp (zs.getD x default).1.len))) (AH_takeT 19 rfl (by kernel_rfl) (by kernel_rfl) (by kernel_rfl) rfl rfl rfl (by rw [hsp4]; rfl) rfl (by decide) (Pu_move rfl rfl) (AH_takeT 20 rfl (by kernel_rfl) (by kernel_rfl) (by kernel_rfl) rfl rfl rfl (by rw [hsp4]; rfl) rfl (by decide) (Pu_bin rfl rfl rfl (run_gtr _ _ _ _ _ _)) (AH_take 21 rfl (by kernel_rfl) (by kernel_rfl) (by kernel_rfl) rfl rfl (by decide) (Pu_pickT rfl rfl hsp4 rfl) (AH_done (by kernel_rfl) (X_then ?_))))))))))))))))))))))))
      refine W_cond rfl (fun hc39 => ?_) (fun hc39 => ?_)
      ·
        have hle : now < (zs.getD x default).1.exp := by simpa [-List.getD_eq_getElem?_getD] using hc39
        have hG : getA (zs.map toBk) k now = some (toBk (zs.getD x default)) := by
          rw [get_hit hsort hlt2 (by rw [hmg]; exact hk), hmg]
          exact if_pos hle
        refine W_seq ?_
        refine W.pre (K' := [(0, _), (2, _), (4, _), (8, _), (15, _), (39, _)]) (L' := [(0, _), (1, _), (2, _), (3, _), (101, _)]) ?_ ⟨rfl, ⟨rfl, ⟨rfl, ⟨rfl, ⟨rfl, ⟨rfl, trivial⟩⟩⟩⟩⟩⟩ ⟨rfl, ⟨rfl, ⟨rfl, ⟨rfl, ⟨rfl, trivial⟩⟩⟩⟩⟩
        refine W_regL (WL_pure rfl rfl (by decide) (Pu_move rfl rfl) (WL_pure rfl rfl (by decide) (Pu_nilCheck rfl rfl) (WL_pure rfl rfl (by decide) (Pu_fieldAddrB (off := 2) rfl rfl (by kernel_rfl)) (WL_pure rfl rfl (by decide) (Pu_loadB (r := 1) rfl Try.isAgg32 rfl rfl rfl) (WL_pure rfl rfl (by decide) (Pu_move rfl rfl) (WL_pure rfl rfl (by decide) (Pu_idxS (r := 2) rfl Try.runUnderlying32 Try.sizeOf40 rfl rfl rfl (fun _ h => rowP_rd h) (by omega)) (WL_pure rfl rfl (by decide) (Pu_fieldAddrE (off := 32) rfl rfl (by kernel_rfl)) (WL_pure rfl rfl (by decide) (Pu_loadS (r := 2) rfl Try.isAgg38 rfl rfl (fun _ h => rowP_rd h) ((bvs_get (xs := sls zs) (k := x) (j := 32) (by omega) (by omega)).trans (by rw [eA]; exact bk_data (zs.getD x default).1.len))) (WL_pure rfl rfl (by decide) (Pu_assign rfl rfl) (WL_pure rfl rfl (by decide) (Pu_assign rfl rfl) (WL_nil (X_then ?_))))))))))))
        refine W_ret (X_block_ret (X_then_ret (X_then_ret (X_block_ret (X_then_ret ?_)))))
        exact X_ret [1, 2, 3] (Ps := [_, _, _]) (res2 Try.results22 rfl rfl) rfl (by decide) ⟨_, by rw [hG]; rfl, (fun h hp => by rw [hG]; exact hp _ hm), rfl⟩
      ·
        have hno : ¬ ((zs.getD x default).1.key = k ∧ now < (zs.getD x default).1.exp) := fun h => by simp [-List.getD_eq_getElem?_getD] at hc39; omega
        refine W_skip (X_block (X_then ?_))
        refine W.pre (K' := [(0, _), (2, _), (4, _), (8, _), (15, _), (39, _)]) (L' := [(0, _), (1, _), (2, _), (3, _), (101, _)]) ?_ ⟨rfl, ⟨rfl, ⟨rfl, ⟨rfl, ⟨rfl, ⟨rfl, trivial⟩⟩⟩⟩⟩⟩ ⟨rfl, ⟨rfl, ⟨rfl, ⟨rfl, ⟨rfl, trivial⟩⟩⟩⟩⟩
        refine W_regL (WL_pure rfl rfl (by decide) (Pu_move rfl rfl) (WL_pure rfl rfl (by decide) (Pu_bin rfl rfl rfl (run_add _ _ _ _ _ (by omega))) (WL_pure rfl rfl (by decide) (Pu_assign rfl rfl) (WL_nil ?_))))
        exact X_round (x + 1) ⟨by omega, fun j hj => by rcases Nat.lt_or_ge j x with h | h; exact hx2 j h; obtain rfl : j = x := (by omega); exact hno⟩ (by omega) ⟨rfl, rfl, rfl, rfl, trivial⟩ ⟨rfl, rfl, rfl, rfl, rfl, trivial⟩
    ·
      have hk : ¬ (zs.getD x default).1.key = k := by simpa [-List.getD_eq_getElem?_getD] using hsp4
      refine W_draw (N := 22) (by kernel_rfl) rfl [(0, _), (1, _), (101, _), (2, _)] ⟨rfl, ⟨rfl, ⟨rfl, ⟨rfl, trivial⟩⟩⟩⟩ ?_
      refine (AH_take 0 rfl (by kernel_rfl) (by kernel_rfl) (by kernel_rfl) rfl rfl (by decide) (Pu_move rfl rfl) (AH_take 1 rfl (by kernel_rfl) (by kernel_rfl) (by kernel_rfl) rfl rfl (by decide) (Pu_nilCheck rfl rfl) (AH_take 2 rfl (by kernel_rfl) (by kernel_rfl) (by kernel_rfl) rfl rfl (by decide) (Pu_fieldAddrB (off := 2) rfl rfl (by kernel_rfl)) (AH_take 3 rfl (by kernel_rfl) (by kernel_rfl) (by kernel_rfl) rfl rfl (by decide) (Pu_loadB (r := 1) rfl Try.isAgg32 rfl rfl rfl) (AH_take 4 rfl (by kernel_rfl) (by kernel_rfl) (by kernel_rfl) rfl rfl (by decide) (Pu_move rfl rfl) (AH_take 5 rfl (by kernel_rfl) (by kernel_rfl) (by kernel_rfl) rfl rfl (by decide) (Pu_idxS (r := 2) rfl Try.runUnderlying32 Try.sizeOf40 rfl rfl rfl (fun _ h => rowP_rd h) (by omega)) (AH_take 6 rfl (by kernel_rfl) (by kernel_rfl) (by kernel_rfl) rfl rfl (by decide) (Pu_fieldAddrE (off := 0) rfl rfl (by kernel_rfl)) (AH_take 7 rfl (by kernel_rfl) (by kernel_rfl) (by kernel_rfl) rfl rfl (by decide) (Pu_loadSN (r := 2) rfl Try.isAgg36 Try.sizeOf36 rfl rfl (fun _ h => rowP_rd h) ((bs_length _).trans (zs.getD x default).1.len) (by decide) (by rw [← eA]; exact bvs_key (xs := sls zs) (k := x) (by omega))) (AH_take 8 rfl (by kernel_rfl) (by kernel_rfl) (by kernel_rfl) rfl rfl (by decide) (Pu_loadBN (r := 101) rfl Try.isAgg36 Try.sizeOf36 rfl rfl ((bs_length _).trans hk32) (load_all ((bs_length _).trans hk32))) (AH_take 9 rfl (by kernel_rfl) (by kernel_rfl) (by kernel_rfl) rfl rfl (by decide) (Pu_bin rfl rfl rfl (run_idEq _ _ (zs.getD x default).1.len hk32 _ _)) (AH_take 10 rfl (by kernel_rfl) (by kernel_rfl) (by kernel_rfl) rfl rfl (by decide) (Pu_move rfl rfl) (AH_takeF 11 rfl (by kernel_rfl) (by kernel_rfl) (by kernel_rfl) rfl rfl rfl (by rw [hsp4]; rfl) rfl (by decide) (AH_takeF 12 rfl (by kernel_rfl) (by kernel_rfl) (by kernel_rfl) rfl rfl rfl (by rw [hsp4]; rfl) rfl (by decide) (AH_takeF 13 rfl (by kernel_rfl) (by kernel_rfl) (by kernel_rfl) rfl rfl rfl (by rw [hsp4]; rfl) rfl (by decide) (AH_takeF 14 rfl (by kernel_rfl) (by kernel_rfl) (by kernel_rfl) rfl rfl rfl (by rw [hsp4]; rfl) rfl (by decide) (AH_takeF 15 rfl (by kernel_rfl) (by kernel_rfl) (by kernel_rfl) rfl rfl rfl (by rw [hsp4]; rfl) rfl (by decide) (AH_takeF 16 rfl (by kernel_rfl) (by kernel_rfl) (by kernel_rfl) rfl rfl rfl (by rw [hsp4]; rfl) rfl (by decide) (AH_takeF 17 rfl (by kernel_rfl) (by kernel_rfl) (by kernel_rfl) rfl rfl rfl (by rw [hsp4]; rfl) rfl (by decide) (AH_takeF 18 rfl (by kernel_rfl) (by kernel_rfl) (by kernel_rfl) rfl rfl rfl (by rw [hsp4]; rfl) rfl (by decide) (AH_takeF 19 rfl (by kernel_rfl) (by kernel_rfl) (by kernel_rfl) rfl rfl rfl (by rw [hsp4]; rfl) rfl (by decide) (AH_takeF 20 rfl (by kernel_rfl) (by kernel_rfl) (by kernel_rfl) rfl rfl rfl (by rw [hsp4]; rfl) rfl (by decide) (AH_take 21 rfl (by kernel_rfl) (by kernel_rfl) (by kernel_rfl) rfl rfl (by decide) (Pu_pickF rfl rfl hsp4 rfl) (AH_done (by kernel_rfl) (X_then ?_))))))))))))))))))))))))
      refine W_false rfl (rfl) ?_
      refine W_skip (X_block (X_then ?_))
      refine W.pre (K' := [(0, _), (2, _), (4, _), (8, _), (15, _), (39, _)]) (L' := [(0, _), (1, _), (2, _), (3, _), (101, _)]) ?_ ⟨rfl, ⟨rfl, ⟨rfl, ⟨rfl, ⟨rfl, ⟨rfl, trivial⟩⟩⟩⟩⟩⟩ ⟨rfl, ⟨rfl, ⟨rfl, ⟨rfl, ⟨rfl, trivial⟩⟩⟩⟩⟩
      have hno : ¬ ((zs.getD x default).1.key = k ∧ now < (zs.getD x default).1.exp) := fun h => hk h.1
      refine W_regL (WL_pure rfl rfl (by decide) (Pu_move rfl rfl) (WL_pure rfl rfl (by decide) (Pu_bin rfl rfl rfl (run_add _ _ _ _ _ (by omega))) (WL_pure rfl rfl (by decide) (Pu_assign rfl rfl) (WL_nil ?_))))
      exact X_round (x + 1) ⟨by omega, fun j hj => by rcases Nat.lt_or_ge j x with h | h; exact hx2 j h; obtain rfl : j = x := (by omega); exact hno⟩ (by omega) ⟨rfl, rfl, rfl, rfl, trivial⟩ ⟨rfl, rfl, rfl, rfl, rfl, trivial⟩
  ·
    obtain rfl : x = zs.length := by have := of_decide_eq_false hc15; omega
    have hG : getA (zs.map toBk) k now = none := get_miss fun j hj => by
      rw [List.length_map] at hj
      rw [map_getD hj]
      exact hx2 j hj
    refine W_exit (X_then_exit (X_then_exit (X_block_exit (X_then ?_))))
    refine W_seq ?_
    refine W.pre (K' := [(0, _), (2, _), (4, _), (8, _), (15, _)]) (L' := [(0, _), (1, _), (2, _), (3, _), (101, _)]) ?_ ⟨rfl, ⟨rfl, ⟨rfl, ⟨rfl, ⟨rfl, trivial⟩⟩⟩⟩⟩ ⟨rfl, ⟨rfl, ⟨rfl, ⟨rfl, ⟨rfl, trivial⟩⟩⟩⟩⟩
    refine W_regL (WL_pure rfl rfl (by decide) (Pu_assign rfl rfl) (WL_pure rfl rfl (by decide) (Pu_assign rfl rfl) (WL_nil (X_then ?_))))
    refine W_ret ?_
    exact X_ret [1, 2, 3] (Ps := [_, _, _]) (res2 Try.results22 rfl rfl) rfl (by decide) ⟨_, by rw [hG]; rfl, (fun h hp => by rw [hG]; exact rd_const 0 1 h), rfl⟩
end Go.Proofs.Ytjopgnkffhfhkaa
/- Symbolic states: ways that meet again, gone on from once. -/
namespace Go.Proofs.Ytjopgnkffhfhkaa
open Go.RowKit
set_option linter.unusedVariables false
section
variable {P : Program} {E : Env} {n : Nat} {K : Slots} {L : Res} {Q : Exit → Act → World → Prop}
/-- What stands between two pieces of code. -/
theorem W_cut {x y : Code} {α : Type} (Kf : α → Slots) (Lf : α → Res) (φ : α → Prop) (h1 : W P E n x K L (Exit.then (fun a w => ∃ z, φ z ∧ Agr n (Kf z) a ∧ Sat E (Lf z) w) Q)) (h2 : ∀ z, φ z → W P E n y (Kf z) (Lf z) Q) : W P E n (.seq x y) K L Q := fun a w hA hS =>
  wp_seq (Code.wp_mono (fun e a' w' hq => by
    cases e with
    | normal => obtain ⟨z, z1, z2, z3⟩ := hq; exact h2 z z1 a' w' z2 z3
    | _ => exact hq) (h1 a w hA hS))
theorem X_cut {α : Type} {Kf : α → Slots} {Lf : α → Res} {φ : α → Prop} (z : α) (hz : φ z) (hK : AllIn K (Kf z)) (hL : AllIn L (Lf z)) : X E n (Exit.then (fun a w => ∃ z, φ z ∧ Agr n (Kf z) a ∧ Sat E (Lf z) w) Q) .normal K L := fun a w hA hS => ⟨z, hz, hA.sub hK.look, hS.sub hL.look⟩
end
end Go.Proofs.Ytjopgnkffhfhkaa
