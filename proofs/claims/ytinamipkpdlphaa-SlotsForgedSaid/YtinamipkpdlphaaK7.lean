/- Texts of this proof, one behind the other: SlotE, SlotF, SlotH, Open, Open2, OpU. -/
import Derived.Test.YtinamipkpdlphaaK6
import Derived.Test.YtinamipkpdlphaaK1
import Derived.ProofKit
import Derived.Deep.Slices
import Derived.Deep.Fields
import Derived.ChangeOld
import Derived.OpenShut
/- Slots: all told. -/
namespace Go.Proofs.Ytinamipkpdlphaa
open Go.RowKit
set_option linter.unusedVariables false
set_option linter.unusedSimpArgs false
set_option maxRecDepth 8000

theorem es_data {es : List EB} {o : Option S1} (h : es.map toS = o.toList) (hd : ∀ p, o = some p → p.data.length ≤ 1000000) : ∀ b ∈ es, b.2.length ≤ 1000000 := by
  intro b hb
  cases o with
  | none => rw [es_none h] at hb; simp at hb
  | some p =>
    obtain ⟨e, rfl, he⟩ := es_some h
    simp at hb
    subst hb
    have := hd p rfl
    rw [← he] at this
    exact this
theorem allS_spec (g : Nat) (most : Int) (o : Option S1) (hdat : ∀ p, o = some p → p.data.length ≤ 1000000) (F : HP) : CallsS Try.prog 11 #[.pointer (some ⟨g, 0, none⟩)] F [slotP g most o] (fun r Ps => ∃ zs : List EB, zs.map toS = o.toList ∧ Ps = [slotP g most o, rowB2 r (zs.map (·.1)), datP zs]) := by
  refine callsS_enter Try.func11 rfl Try.ntmps11 (by simp) (fun E => ?_)
  refine W_seq ?_
  refine W.pre (K' := [(0, _)]) (L' := [(0, _), (1, _)]) ?_ ⟨rfl, trivial⟩ ⟨rfl, ⟨rfl, trivial⟩⟩
  refine W_regL (WL_pure rfl rfl (by decide) (Pu_assign rfl rfl) (WL_nil (X_then ?_)))
  refine W_seq ?_
  refine W.pre (K' := [(0, _), (2, _)]) (L' := [(0, _), (1, _)]) ?_ ⟨rfl, ⟨rfl, trivial⟩⟩ ⟨rfl, ⟨rfl, trivial⟩⟩
  refine W_openS 1 200 rfl (fun gm es hes => ?_)
  have hel : (es.map (·.1)).length = es.length := List.length_map _
  have hesl := es_len hes
  refine W_regL (WL_pure rfl rfl (by decide) (Pu_move rfl rfl) (WL_pure rfl rfl (by decide) (Pu_nilCheck rfl rfl) (WL_pure rfl rfl (by decide) (Pu_fieldAddrB (off := 1) rfl rfl (by kernel_rfl)) (WL_pure rfl rfl (by decide) (Pu_loadB (r := 200) rfl Try.isAgg49 rfl rfl rfl) (WL_cons rfl rfl (by decide) (OpT_call 300 [0, 200, 202] [201] rfl Try.call27 rfl rfl rfl (by decide) (by decide) (values_spec gm (es.map (·.1)) _) (fun v10 Ps10 hR10 => ?_)))))))
  obtain ⟨bx, rfl, rfl⟩ := hR10
  skip
  refine (WL_cons rfl rfl (by decide) (OpT_call 400 [0, 200, 202] [300, 301] rfl Try.call26 rfl rfl rfl (by decide) (by decide) (sortedFunc_spec bx gm (es.map (·.1)) (by omega) _) (fun v11 Ps11 hR11 => ?_)))
  obtain ⟨xs, hxp, hxs, rfl⟩ := hR11
  skip
  refine (WL_pure rfl rfl (by decide) (Pu_assign rfl rfl) (WL_nil (X_then ?_)))
  refine W_seq ?_
  refine W_seq ?_
  refine W.pre (K' := [(0, _), (2, _), (3, _)]) (L' := [(0, _), (200, _), (202, _), (400, _), (401, _), (402, _)]) ?_ ⟨rfl, ⟨rfl, ⟨rfl, trivial⟩⟩⟩ ⟨rfl, ⟨rfl, ⟨rfl, ⟨rfl, ⟨rfl, ⟨rfl, trivial⟩⟩⟩⟩⟩⟩
  obtain ⟨ys, hyp, rfl, hyB⟩ := small_told hes hxp
  have hyl := hyp.length_eq
  have hyl2 : (ys.map (·.1)).length = ys.length := List.length_map _
  refine W_regL (WL_pure rfl rfl (by decide) (Pu_move rfl rfl) (WL_pure rfl rfl (by decide) (Pu_len (r := 400) rfl Try.runUnderlying34 rfl rfl (fun h hp => rowP_rd hp)) (WL_pure rfl rfl (by decide) (Pu_move rfl rfl) (WL_nil (X_then ?_)))))
  refine W_block ?_
  refine W_nilRow 290 29 32 ?_
  refine W_turn (P' := datP (ys.take 0)) 290 rfl (fun h hp p hm => by simp at hm) ?_
  refine W_loop (α := Nat × List EB) (fun x => [(3, v11), (12, v11), (13, .int .i64 (ys.length : Int)), (14, .int .i64 (x.1 : Int))]) (fun x => [(0, F), (200, slotB g most gm), (401, mapB gm (entsOf es) none), (202, datP es), (400, rowB2 v11 (x.2.map (fun p : EB => p.1))), (290, datP (x.2.take x.1))]) (fun x => x.2.map toS = o.toList ∧ x.2.drop x.1 = ys.drop x.1 ∧ x.2.length = ys.length ∧ x.1 ≤ ys.length) (fun x => ys.length - x.1) ((0, ys)) ⟨hyB, rfl, rfl, Nat.zero_le _⟩ ⟨rfl, rfl, (by show look _ 13 = some (Value.int .i64 (ys.length : Int)); rw [← hyl2]; rfl), rfl, trivial⟩ ⟨rfl, ⟨rfl, ⟨rfl, ⟨rfl, ⟨rfl, ⟨rfl, trivial⟩⟩⟩⟩⟩⟩ (fun x hx => ?_)
  obtain ⟨hx1, hx2, hx3, hx4⟩ := hx
  have hxl : (x.2.map (fun p : EB => p.1)).length = x.2.length := List.length_map _
  refine W_seq ?_
  refine W.pre (K' := [(3, _), (12, _), (13, _), (14, _)]) (L' := [(0, _), (200, _), (202, _), (290, _), (400, _), (401, _)]) ?_ ⟨rfl, ⟨rfl, ⟨rfl, ⟨rfl, trivial⟩⟩⟩⟩ ⟨rfl, ⟨rfl, ⟨rfl, ⟨rfl, ⟨rfl, ⟨rfl, trivial⟩⟩⟩⟩⟩⟩
  refine W_regL (WL_pure rfl rfl (by decide) (Pu_bin rfl rfl rfl (run_lss _ _ _ _ _ _)) (WL_nil (X_then ?_)))
  refine W_seq ?_
  refine W_cond rfl (fun hc15 => ?_) (fun hc15 => ?_)
  ·
    have hlt : x.1 < x.2.length := by have := of_decide_eq_true hc15; omega
    obtain ⟨hgd, hlt2⟩ := getD_of_drop hx2 hlt
    have hmm : x.2.getD x.1 default ∈ es := hyp.mem_iff.1 (by rw [hgd]; simp [hlt2])
    have hdl : (x.2.getD x.1 default).2.length ≤ 1000000 := es_data hes hdat _ hmm
    refine W_skip (X_then ?_)
    refine W_seq ?_
    refine W_block ?_
    refine W_seq ?_
    refine W.pre (K' := [(3, _), (12, _), (13, _), (14, _), (15, _)]) (L' := [(0, _), (200, _), (202, _), (290, _), (400, _), (401, _)]) ?_ ⟨rfl, ⟨rfl, ⟨rfl, ⟨rfl, ⟨rfl, trivial⟩⟩⟩⟩⟩ ⟨rfl, ⟨rfl, ⟨rfl, ⟨rfl, ⟨rfl, ⟨rfl, trivial⟩⟩⟩⟩⟩⟩
    refine W_regL (WL_pure rfl rfl (by decide) (Pu_move rfl rfl) (WL_pure rfl rfl (by decide) (Pu_idxS (r := 400) rfl Try.runUnderlying34 Try.sizeOf37 rfl rfl rfl (fun h hp => rowP_rd hp) (by omega)) (WL_pure rfl rfl (by decide) (Pu_loadSN (r := 400) rfl Try.isAgg37 Try.sizeOf37 rfl rfl (fun h hp => rowP_rd hp) (bvC_length ((x.2.map (fun p : EB => p.1)).getD x.1 default)) (by decide) (bvs_all (xs := x.2.map (fun p : EB => p.1)) (k := x.1) (by omega))) (WL_cons rfl rfl (by decide) (OpT_alloc (r := 404) (cs := (bkC zeroId 0 (.slice none 0 0) 0 0)) rfl (zero_run (by kernel_rfl : (Try.prog.info? 37).bind (·.zero) = some (.agg (bkC zeroId 0 (.slice none 0 0) 0 0).toArray))) rfl (fun g404 => (WL_pure rfl rfl (by decide) (Pu_assign rfl rfl) (WL_cons0 rfl rfl (OpT_storeAll (r := 404) rfl Try.sizeOf37 rfl rfl rfl (bkC_length rfl) (bvC_length _) (bvC_one _) ?_)))))))))
    refine (WL_nil (X_then ?_))
    refine W.pre (K' := [(3, _), (4, _), (5, _), (12, _), (13, _), (14, _), (15, _)]) (L' := [(0, _), (200, _), (202, _), (290, _), (400, _), (401, _), (404, _)]) ?_ ⟨rfl, ⟨rfl, ⟨rfl, ⟨rfl, ⟨rfl, ⟨rfl, ⟨rfl, trivial⟩⟩⟩⟩⟩⟩⟩ ⟨rfl, ⟨rfl, ⟨rfl, ⟨rfl, ⟨rfl, ⟨rfl, ⟨rfl, trivial⟩⟩⟩⟩⟩⟩⟩
    rw [getD_map1 hlt]
    refine W_regL (WL_pure rfl rfl (by decide) (Pu_move rfl rfl) (WL_pure rfl rfl (by decide) (Pu_move rfl rfl) (WL_pure rfl rfl (by decide) (Pu_fieldAddrB (off := 33) rfl rfl (by kernel_rfl)) (WL_pure rfl rfl (by decide) (Pu_loadB (r := 404) rfl Try.isAgg30 rfl rfl (bk_data (x.2.getD x.1 default).1.len)) (WL_cons rfl rfl (by decide) (OpT_call 500 [0, 200, 202, 290, 400, 401, 404] [] rfl Try.call25 rfl rfl rfl (by decide) (by decide) (clone_spec _ (x.2.getD x.1 default).2 (by omega) _ (rd_star 2 rfl (fun h hp => hp _ hmm))) (fun v23 Ps23 hR23 => ?_)))))))
    obtain ⟨ho23, rfl⟩ := hR23
    skip
    refine (WL_pure rfl rfl (by decide) (Pu_idxS (r := 400) rfl Try.runUnderlying34 Try.sizeOf37 rfl rfl rfl (fun h hp => rowP_rd hp) (by omega)) (WL_pure rfl rfl (by decide) (Pu_fieldAddrE (off := 33) rfl rfl (by kernel_rfl)) (WL_cons0 rfl rfl (OpT_storeS1 (r := 400) rfl Try.sizeOf30 rfl rfl rfl ho23 (by rw [recC_length (bvs_len _)]; omega) (bvs_setData (xs := x.2.map (fun p : EB => p.1)) (k := x.1) (by omega) v23 ho23) ?_))))
    refine (WL_nil (X_block (X_then ?_)))
    refine W.pre (K' := [(3, _), (4, _), (5, _), (12, _), (13, _), (14, _), (15, _)]) (L' := [(0, _), (200, _), (202, _), (290, _), (400, _), (401, _), (404, _), (500, _)]) ?_ ⟨rfl, ⟨rfl, ⟨rfl, ⟨rfl, ⟨rfl, ⟨rfl, ⟨rfl, trivial⟩⟩⟩⟩⟩⟩⟩ ⟨rfl, ⟨rfl, ⟨rfl, ⟨rfl, ⟨rfl, ⟨rfl, ⟨rfl, ⟨rfl, trivial⟩⟩⟩⟩⟩⟩⟩⟩
    refine W_regL (WL_pure rfl rfl (by decide) (Pu_bin rfl rfl rfl (run_add _ _ _ _ _ (by omega))) (WL_pure rfl rfl (by decide) (Pu_move rfl rfl) (WL_nil ?_)))
    have hmt := moveE_told (v := v23) (hv := ho23) hlt
    refine X_join [290, 500] 290 (datP ((moveE x.1 v23 ho23 x.2).take (x.1 + 1))) rfl (by decide) (fun h hs => by rw [moveE_take hlt]; exact datP_add (p := (setSl v23 ho23 (x.2.getD x.1 default).1, (x.2.getD x.1 default).2)) hs) ?_
    refine X_turn (P' := rowB2 v11 ((moveE x.1 v23 ho23 x.2).map (fun p : EB => p.1))) 400 rfl (fun h hp => by rw [moveE_sl hlt]; unfold rowB2; rw [List.length_set]; exact hp) ?_
    exact X_round (x.1 + 1, moveE x.1 v23 ho23 x.2) ⟨by rw [hmt]; exact hx1, by rw [moveE_drop]; exact drop_next hx2, by rw [moveE_len]; exact hx3, by dsimp only; omega⟩ (by show ys.length - (x.1 + 1) < ys.length - x.1; omega) ⟨rfl, rfl, rfl, rfl, trivial⟩ ⟨rfl, rfl, rfl, rfl, rfl, rfl, trivial⟩
  ·
    have hnl : x.1 = ys.length := by have := of_decide_eq_false hc15; omega
    refine W_exit (X_then_exit (X_then_exit (X_block_exit (X_then ?_))))
    refine W_seq ?_
    refine W.pre (K' := [(3, _), (12, _), (13, _), (14, _), (15, _)]) (L' := [(0, _), (200, _), (202, _), (290, _), (400, _), (401, _)]) ?_ ⟨rfl, ⟨rfl, ⟨rfl, ⟨rfl, ⟨rfl, trivial⟩⟩⟩⟩⟩ ⟨rfl, ⟨rfl, ⟨rfl, ⟨rfl, ⟨rfl, ⟨rfl, trivial⟩⟩⟩⟩⟩⟩
    refine W_regL (WL_pure rfl rfl (by decide) (Pu_move rfl rfl) (WL_pure rfl rfl (by decide) (Pu_assign rfl rfl) (WL_nil (X_then ?_))))
    refine W_ret ?_
    rw [hnl, show x.2.take ys.length = x.2 from List.take_of_length_le (by omega)]
    refine X_join [200, 401, 202] 1 (slotP g most o) rfl (by decide) (fun h hs => closeS hes hs) ?_
    exact X_ret [1, 400, 290] (Ps := [_, _, _]) (res1 Try.results11 rfl) rfl (by decide) ⟨x.2, hx1, rfl⟩
end Go.Proofs.Ytinamipkpdlphaa
/- Slots: publishers and what they sign. -/
namespace Go.Proofs.Ytinamipkpdlphaa
open Go.RowKit
set_option linter.unusedVariables false
set_option linter.unusedSimpArgs false
set_option maxRecDepth 8000

section
variable {P : Program} {E : Env} {n : Nat} {K : Slots} {L : Res}
theorem resCC {fn : Func} {t d r g te m t2 d2 r2 g2 te2 m2 : Nat} {cs cs2 : List Value} (hr : fn.results = #[.cell d t, .cell d2 t2]) (hd : look K d = some (.pointer (some ⟨g, 0, none⟩))) (hd2 : look K d2 = some (.pointer (some ⟨g2, 0, none⟩))) (ha : ∀ w, (isAgg t).run P w = .ok true w) (hs : ∀ w, (sizeOf t).run P w = .ok m w) (ha2 : ∀ w, (isAgg t2).run P w = .ok true w) (hs2 : ∀ w, (sizeOf t2).run P w = .ok m2 w) (hL : look L r = some (blk g te cs)) (hL2 : look L r2 = some (blk g2 te2 cs2)) (hm : cs.length = m) (hm2 : cs2.length = m2) :
    ∀ a w, Agr n K a → Sat E L w → (results fn a.tmps).run P w = .ok (.tuple #[.agg cs.toArray, .agg cs2.toArray]) w := fun a w hA hS => by
  have h1 := run_loadVarB hS hL ha hs hm
  have h2 := run_loadVarB hS hL2 ha2 hs2 hm2
  simp [results, hr, hA.2.2 d _ hd, hA.2.2 d2 _ hd2, asAddr, h1, h2]
end
/-- A publisher's seed and name; a root of it. -/
def seedL (who : Int) : List UInt8 := byte who :: List.replicate 31 0
def nameL (who : Int) : List UInt8 := byte who :: List.replicate 15 0
theorem seedL_length (who : Int) : (seedL who).length = 32 := by simp [seedL]
theorem nameL_length (who : Int) : (nameL who).length = 16 := by simp [nameL]
def pubL (who : Int) : List UInt8 := pubT (nameL who) (seedL who)
def sigL (who : Int) (q : Nat) (ver : Int) (node : List UInt8) : List UInt8 := sgnT (nameL who) (seedL who) q (claimL ver node)
def signedL (who : Int) (q : Nat) (ver : Int) (node : List UInt8) : List UInt8 := (rootLs (pubL who) ver node (sigL who q ver node)).flatten
theorem pubL_length (who : Int) : (pubL who).length = 56 := by
  have ht : (topT (nameL who) (seedL who)).length = 32 := topT_length _ _
  unfold pubL pubT
  simp only [List.length_append, numB_length, nameL_length, ht]
theorem sigL_length (who : Int) (q : Nat) (ver : Int) (node : List UInt8) : (sigL who q ver node).length = 4332 := by
  unfold sigL sgnT
  simp only [List.length_append, numB_length, sgnO_length, leafT_length]
section
variable {who : Int} {q : Nat} {ver : Int} {node : List UInt8} (hv : 1 ≤ ver ∧ ver ≤ 2147483647) (hn : node.length = 32)
include hv hn
theorem signed_parse : pRootE (signedL who q ver node) = 0 ∧ pRoot (signedL who q ver node) = ⟨pubL who, ver, node, sigL who q ver node⟩ := parse_root (pubL_length who) hv hn (by rw [sigL_length]; decide)
omit hv in
theorem signed_length : (signedL who q ver node).length = 4427 := by unfold signedL; rw [root_length (pubL_length who) hn, sigL_length]
theorem signed_chk (hq : q < 2) : chkL (signedL who q ver node) = 0 := by
  unfold chkL
  rw [(signed_parse hv hn).2]
  exact checkT_sgn (nameL_length who) hq
theorem signed_key : sha (pRoot (signedL who q ver node)).pl = sha (pubL who) := by rw [(signed_parse hv hn).2]
theorem signed_ver : (pRoot (signedL who q ver node)).ver = ver := by rw [(signed_parse hv hn).2]
theorem signed_new (hq : q < 2) {src exp now : Int} (h : (decide (src < 0) || decide (exp ≤ now)) = false) : setO none (signedL who q ver node) src exp now = (0, some ⟨sha (pubL who), ver, signedL who q ver node, src, exp⟩) := by
  rw [setO_none h (signed_parse hv hn).1 (signed_chk hv hn hq), signed_key hv hn, signed_ver hv hn]
end
theorem set_nil : setO none [] 0 1 0 = (8, none) := by rw [setO_cut (by decide) (by decide)]; rfl
theorem seed_spec (who : Int) (F : HP) : CallsS Try.prog 16 #[.int .i64 who] F [] (fun r Ps => r = .tuple #[idV (seedL who), idV (nameL who)] ∧ Ps = []) := by
  refine callsS_enter Try.func16 rfl Try.ntmps16 (by simp) (fun E => ?_)
  refine W_seq ?_
  refine W.pre (K' := [(0, _)]) (L' := [(0, _)]) ?_ ⟨rfl, trivial⟩ ⟨rfl, trivial⟩
  refine W_regL (WL_cons rfl rfl (by decide) (OpT_alloc (r := 101) (cs := (bs zeroId)) rfl (zero_run (by kernel_rfl : (Try.prog.info? 29).bind (·.zero) = some (.agg (bs zeroId).toArray))) rfl (fun g101 => (WL_cons rfl rfl (by decide) (OpT_alloc (r := 102) (cs := (bs (List.replicate 16 0))) rfl (zero_run (by kernel_rfl : (Try.prog.info? 52).bind (·.zero) = some (.agg (bs (List.replicate 16 0)).toArray))) rfl (fun g102 => (WL_nil (X_then ?_))))))))
  refine W_seq ?_
  refine W.pre (K' := [(0, _), (2, _), (3, _)]) (L' := [(0, _), (101, _), (102, _)]) ?_ ⟨rfl, ⟨rfl, ⟨rfl, trivial⟩⟩⟩ ⟨rfl, ⟨rfl, ⟨rfl, trivial⟩⟩⟩
  refine W_regL (WL_cons rfl rfl (by decide) (OpT_alloc (r := 103) (cs := (bs zeroId)) rfl (zero_run (by kernel_rfl : (Try.prog.info? 29).bind (·.zero) = some (.agg (bs zeroId).toArray))) rfl (fun g103 => (WL_nil (X_then ?_)))))
  refine W_seq ?_
  refine W.pre (K' := [(0, _), (2, _), (3, _), (4, _)]) (L' := [(0, _), (101, _), (102, _), (103, _)]) ?_ ⟨rfl, ⟨rfl, ⟨rfl, ⟨rfl, trivial⟩⟩⟩⟩ ⟨rfl, ⟨rfl, ⟨rfl, ⟨rfl, trivial⟩⟩⟩⟩
  refine W_regL (WL_cons rfl rfl (by decide) (OpT_alloc (r := 104) (cs := (bs (List.replicate 16 0))) rfl (zero_run (by kernel_rfl : (Try.prog.info? 52).bind (·.zero) = some (.agg (bs (List.replicate 16 0)).toArray))) rfl (fun g104 => (WL_nil (X_then ?_)))))
  refine W_seq ?_
  refine W.pre (K' := [(0, _), (2, _), (3, _), (4, _), (5, _)]) (L' := [(0, _), (101, _), (102, _), (103, _), (104, _)]) ?_ ⟨rfl, ⟨rfl, ⟨rfl, ⟨rfl, ⟨rfl, trivial⟩⟩⟩⟩⟩ ⟨rfl, ⟨rfl, ⟨rfl, ⟨rfl, ⟨rfl, trivial⟩⟩⟩⟩⟩
  refine W_regL (WL_pure rfl rfl (by decide) (Pu_move rfl rfl) (WL_pure rfl rfl (by decide) (Pu_conv rfl rfl (conv_byte _ _ Try.runUnderlying3 Try.runUnderlying5)) (WL_pure rfl rfl (by decide) (Pu_move rfl rfl) (WL_pure rfl rfl (by decide) (Pu_conv rfl rfl (conv_byte _ _ Try.runUnderlying3 Try.runUnderlying5)) (WL_pure rfl rfl (by decide) (Pu_idxA rfl Try.runUnderlying29 Try.sizeOf5 rfl rfl (by decide)) (WL_cons0 rfl rfl (OpT_storeB1 (r := 103) rfl Try.sizeOf5 rfl rfl rfl rfl (by rw [bs_length]; decide) (show _ = bs (seedL who) from rfl) ?_)))))))
  refine (WL_pure rfl rfl (by decide) (Pu_idxA rfl Try.runUnderlying52 Try.sizeOf5 rfl rfl (by decide)) (WL_cons0 rfl rfl (OpT_storeB1 (r := 104) rfl Try.sizeOf5 rfl rfl rfl rfl (by rw [bs_length]; decide) (show _ = bs (nameL who) from rfl) ?_)))
  refine (WL_nil (X_then ?_))
  refine W_seq ?_
  refine W.pre (K' := [(0, _), (2, _), (3, _), (4, _), (5, _)]) (L' := [(0, _), (101, _), (102, _), (103, _), (104, _)]) ?_ ⟨rfl, ⟨rfl, ⟨rfl, ⟨rfl, ⟨rfl, trivial⟩⟩⟩⟩⟩ ⟨rfl, ⟨rfl, ⟨rfl, ⟨rfl, ⟨rfl, trivial⟩⟩⟩⟩⟩
  refine W_draw (N := 4) (by kernel_rfl) rfl [(0, _), (103, _), (104, _)] ⟨rfl, ⟨rfl, ⟨rfl, trivial⟩⟩⟩ ?_
  refine (AH_take 0 rfl (by kernel_rfl) (by kernel_rfl) (by kernel_rfl) rfl rfl (by decide) (Pu_loadBN (r := 103) rfl Try.isAgg29 Try.sizeOf29 rfl rfl ((bs_length _).trans (seedL_length who)) (load_all ((bs_length _).trans (seedL_length who)))) (AH_take 1 rfl (by kernel_rfl) (by kernel_rfl) (by kernel_rfl) rfl rfl (by decide) (Pu_loadBN (r := 104) rfl Try.isAgg52 Try.sizeOf52 rfl rfl ((bs_length _).trans (nameL_length who)) (load_all ((bs_length _).trans (nameL_length who)))) (AH_ready [2] (by kernel_rfl) (by decide) ?_)))
  refine AHs_cons0 rfl rfl rfl (OpT_storeAll (r := 101) rfl Try.sizeOf29 rfl rfl rfl rfl ((bs_length _).trans (seedL_length who)) (bs_one _) ?_) ?_
  ·
    refine ⟨⟨rfl, ⟨rfl, ⟨rfl, trivial⟩⟩⟩, ?_⟩
    refine (AH_ready [3] (by kernel_rfl) (by decide) ?_)
    refine AHs_cons0 rfl rfl rfl (OpT_storeAll (r := 102) rfl Try.sizeOf52 rfl rfl rfl rfl ((bs_length _).trans (nameL_length who)) (bs_one _) ?_) ?_
    ·
      refine ⟨⟨rfl, ⟨rfl, ⟨rfl, trivial⟩⟩⟩, ?_⟩
      refine (AH_done (by kernel_rfl) (X_then ?_))
      refine W_ret ?_
      exact X_ret [] (Ps := []) (resCC (r := 101) (r2 := 102) Try.results16 rfl rfl Try.isAgg29 Try.sizeOf29 Try.isAgg52 Try.sizeOf52 rfl rfl ((bs_length _).trans (seedL_length who)) ((bs_length _).trans (nameL_length who))) rfl (by decide) ⟨rfl, rfl⟩
    exact AHs_nil
  exact AHs_nil
theorem root_build4 {pv : Value} {ver : Int} {top : List UInt8} {tv : Value} (ht : top.length = 32) : Value.agg ((over (((rootC nilS 0 zeroId nilS).set 0 pv).set 1 (.int .i64 ver)) 2 (bs top)).set 34 tv).toArray = rootV pv ver top tv := by
  have h := root_over (pv := pv) (ver := ver) (tv := nilS) zeroId_length ht
  unfold rootV
  rw [← root_set (tv := nilS) ht, ← h]
  rfl
theorem signed_spec (who ver : Int) (q : Nat) (hq : q < 2) (hv : ver = (q : Int) + 1) (node : List UInt8) (hn : node.length = 32) (F : HP) : CallsS Try.prog 8 #[.int .i64 who, .int .i64 ver, idV node] F [] (fun r Ps => Ps = [rowB 5 r (signedL who q ver node)]) := by
  refine callsS_enter Try.func8 rfl Try.ntmps8 (by simp) (fun E => ?_)
  refine W_seq ?_
  refine W.pre (K' := [(0, _), (1, _), (2, _)]) (L' := [(0, _)]) ?_ ⟨rfl, ⟨rfl, ⟨rfl, trivial⟩⟩⟩ ⟨rfl, trivial⟩
  refine W_regL (WL_cons rfl rfl (by decide) (OpT_box (r := 101) rfl rfl rfl (fun g101 => (WL_pure rfl rfl (by decide) (Pu_assign rfl rfl) (WL_nil (X_then ?_))))))
  refine W_seq ?_
  refine W.pre (K' := [(0, _), (1, _), (2, _), (5, _), (6, _)]) (L' := [(0, _), (101, _)]) ?_ ⟨rfl, ⟨rfl, ⟨rfl, ⟨rfl, ⟨rfl, trivial⟩⟩⟩⟩⟩ ⟨rfl, ⟨rfl, trivial⟩⟩
  refine W_regL (WL_pure rfl rfl (by decide) (Pu_move rfl rfl) (WL_cons rfl rfl (by decide) (OpT_call 200 [0, 101] [] rfl Try.call16 rfl rfl rfl (by decide) (by decide) (seed_spec who _) (fun v17 Ps17 hR17 => ?_))))
  obtain ⟨rfl, rfl⟩ := hR17
  refine (WL_pure rfl rfl (by decide) (Pu_move rfl rfl) (WL_pure rfl rfl (by decide) (Pu_extract rfl rfl rfl) (WL_pure rfl rfl (by decide) (Pu_extract rfl rfl rfl) (WL_cons rfl rfl (by decide) (OpT_alloc (r := 201) (cs := (bs zeroId)) rfl (zero_run (by kernel_rfl : (Try.prog.info? 29).bind (·.zero) = some (.agg (bs zeroId).toArray))) rfl (fun g201 => (WL_cons rfl rfl (by decide) (OpT_alloc (r := 202) (cs := (bs (List.replicate 16 0))) rfl (zero_run (by kernel_rfl : (Try.prog.info? 52).bind (·.zero) = some (.agg (bs (List.replicate 16 0)).toArray))) rfl (fun g202 => (WL_cons0 rfl rfl (OpT_storeAll (r := 201) rfl Try.sizeOf29 rfl rfl rfl rfl ((bs_length _).trans (seedL_length who)) (bs_one _) ?_)))))))))))
  refine (WL_cons0 rfl rfl (OpT_storeAll (r := 202) rfl Try.sizeOf52 rfl rfl rfl rfl ((bs_length _).trans (nameL_length who)) (bs_one _) ?_))
  refine (WL_nil (X_then ?_))
  refine W_seq ?_
  refine W.pre (K' := [(0, _), (1, _), (2, _), (5, _), (6, _), (7, _), (8, _)]) (L' := [(0, _), (101, _), (201, _), (202, _)]) ?_ ⟨rfl, ⟨rfl, ⟨rfl, ⟨rfl, ⟨rfl, ⟨rfl, ⟨rfl, trivial⟩⟩⟩⟩⟩⟩⟩ ⟨rfl, ⟨rfl, ⟨rfl, ⟨rfl, trivial⟩⟩⟩⟩
  refine W_regL (WL_pure rfl rfl (by decide) (Pu_loadBN (r := 202) rfl Try.isAgg52 Try.sizeOf52 rfl rfl ((bs_length _).trans (nameL_length who)) (load_all ((bs_length _).trans (nameL_length who)))) (WL_pure rfl rfl (by decide) (Pu_loadBN (r := 201) rfl Try.isAgg29 Try.sizeOf29 rfl rfl ((bs_length _).trans (seedL_length who)) (load_all ((bs_length _).trans (seedL_length who)))) (WL_cons rfl rfl (by decide) (OpT_call 300 [0, 101, 201, 202] [] rfl Try.call17 rfl rfl rfl (by decide) (by decide) (public6_spec (nameL who) (nameL_length who) (seedL who) (seedL_length who) _) (fun v23 Ps23 hR23 => ?_)))))
  obtain ⟨pv, rfl, rfl⟩ := hR23
  refine (WL_pure rfl rfl (by decide) (Pu_move rfl rfl) (WL_pure rfl rfl (by decide) (Pu_extract rfl rfl rfl) (WL_pure rfl rfl (by decide) (Pu_extract rfl rfl rfl) (WL_pure rfl rfl (by decide) (Pu_assign rfl rfl) (WL_pure rfl rfl (by decide) (Pu_assign rfl rfl) (WL_nil (X_then ?_)))))))
  refine W_seq ?_
  refine W.pre (K' := [(0, _), (1, _), (2, _), (5, _), (6, _), (7, _), (8, _), (9, _)]) (L' := [(0, _), (101, _), (201, _), (202, _), (300, _)]) ?_ ⟨rfl, ⟨rfl, ⟨rfl, ⟨rfl, ⟨rfl, ⟨rfl, ⟨rfl, ⟨rfl, trivial⟩⟩⟩⟩⟩⟩⟩⟩ ⟨rfl, ⟨rfl, ⟨rfl, ⟨rfl, ⟨rfl, trivial⟩⟩⟩⟩⟩
  refine W_draw (N := 13) (by kernel_rfl) rfl [(0, _), (101, _), (201, _), (202, _)] ⟨rfl, ⟨rfl, ⟨rfl, ⟨rfl, trivial⟩⟩⟩⟩ ?_
  refine (AH_take 0 rfl (by kernel_rfl) (by kernel_rfl) (by kernel_rfl) rfl rfl (by decide) (Pu_loadBN (r := 202) rfl Try.isAgg52 Try.sizeOf52 rfl rfl ((bs_length _).trans (nameL_length who)) (load_all ((bs_length _).trans (nameL_length who)))) (AH_take 1 rfl (by kernel_rfl) (by kernel_rfl) (by kernel_rfl) rfl rfl (by decide) (Pu_loadBN (r := 201) rfl Try.isAgg29 Try.sizeOf29 rfl rfl ((bs_length _).trans (seedL_length who)) (load_all ((bs_length _).trans (seedL_length who)))) (AH_take 2 rfl (by kernel_rfl) (by kernel_rfl) (by kernel_rfl) rfl rfl (by decide) (Pu_move rfl rfl) (AH_take 3 rfl (by kernel_rfl) (by kernel_rfl) (by kernel_rfl) rfl rfl (by decide) (Pu_bin rfl rfl rfl (run_sub _ _ _ _ _ (by omega))) ?_))))
  rw [show ver - 1 = (q : Int) by omega]
  refine (AH_take 4 rfl (by kernel_rfl) (by kernel_rfl) (by kernel_rfl) rfl rfl (by decide) (Pu_move rfl rfl) (AH_take 5 rfl (by kernel_rfl) (by kernel_rfl) (by kernel_rfl) rfl rfl (by decide) (Pu_loadBN (r := 101) rfl Try.isAgg29 Try.sizeOf29 rfl rfl ((bs_length _).trans hn) (load_all ((bs_length _).trans hn))) (AH_ready [6] (by kernel_rfl) (by decide) ?_)))
  refine AHs_cons rfl rfl rfl (by decide) (OpT_call 400 [0, 101, 201, 202, 300] [] rfl Try.call19 rfl rfl rfl (by decide) (by decide) (claim9_spec ver node hn _) (fun v33 Ps33 hR33 => ?_)) ?_
  ·
    subst hR33
    refine ⟨⟨rfl, ⟨rfl, ⟨rfl, ⟨rfl, trivial⟩⟩⟩⟩, ?_⟩
    refine (AH_ready [7] (by kernel_rfl) (by decide) ?_)
    refine AHs_cons rfl rfl rfl (by decide) (OpT_call 500 [0, 101, 201, 202, 300, 400] [] rfl Try.call18 rfl rfl rfl (by decide) (by decide) (sign6_spec (nameL who) (nameL_length who) (seedL who) (seedL_length who) q hq _ (claimL ver node) (by rw [claimL_length hn]; decide) _ (rd_star 5 rfl rowB_rd)) (fun v34 Ps34 hR34 => ?_)) ?_
    ·
      obtain ⟨gv, rfl, rfl⟩ := hR34
      refine ⟨⟨rfl, ⟨rfl, ⟨rfl, ⟨rfl, trivial⟩⟩⟩⟩, ?_⟩
      refine (AH_take 8 rfl (by kernel_rfl) (by kernel_rfl) (by kernel_rfl) rfl rfl (by decide) (Pu_move rfl rfl) (AH_take 9 rfl (by kernel_rfl) (by kernel_rfl) (by kernel_rfl) rfl rfl (by decide) (Pu_extract rfl rfl rfl) (AH_take 10 rfl (by kernel_rfl) (by kernel_rfl) (by kernel_rfl) rfl rfl (by decide) (Pu_extract rfl rfl rfl) (AH_take 11 rfl (by kernel_rfl) (by kernel_rfl) (by kernel_rfl) rfl rfl (by decide) (Pu_assign rfl rfl) (AH_take 12 rfl (by kernel_rfl) (by kernel_rfl) (by kernel_rfl) rfl rfl (by decide) (Pu_assign rfl rfl) (AH_done (by kernel_rfl) (X_then ?_)))))))
      refine W_seq ?_
      refine W.pre (K' := [(0, _), (1, _), (2, _), (5, _), (6, _), (7, _), (8, _), (9, _), (11, _)]) (L' := [(0, _), (101, _), (201, _), (202, _), (300, _), (400, _), (500, _)]) ?_ ⟨rfl, ⟨rfl, ⟨rfl, ⟨rfl, ⟨rfl, ⟨rfl, ⟨rfl, ⟨rfl, ⟨rfl, trivial⟩⟩⟩⟩⟩⟩⟩⟩⟩ ⟨rfl, ⟨rfl, ⟨rfl, ⟨rfl, ⟨rfl, ⟨rfl, ⟨rfl, trivial⟩⟩⟩⟩⟩⟩⟩
      refine W_fact (r := 300) rfl (fun h hp => rd_one (rowB_rd _ hp)) (fun hpo => ?_)
      refine W_fact (r := 500) rfl (fun h hp => rd_one (rowB_rd _ hp)) (fun hgo => ?_)
      refine W_regL (WL_pure rfl rfl (by decide) (Pu_move rfl rfl) (WL_pure rfl rfl (by decide) (Pu_move rfl rfl) (WL_pure rfl rfl (by decide) (Pu_loadBN (r := 101) rfl Try.isAgg29 Try.sizeOf29 rfl rfl ((bs_length _).trans hn) (load_all ((bs_length _).trans hn))) (WL_pure rfl rfl (by decide) (Pu_move rfl rfl) (WL_pure rfl rfl (by decide) (Pu_build (V := rootV pv ver node gv) [(0, 1), (1, 1), (2, 32), (34, 1)] (rootC nilS 0 zeroId nilS) rfl rfl (by kernel_rfl) (by kernel_rfl) (.one rfl hpo (by simp [rootC, bs_length, zeroId_length]) rfl (.one rfl rfl (by simp [rootC, bs_length, zeroId_length]) rfl (.many rfl ((bs_length _).trans hn) (by simp [rootC, bs_length, zeroId_length]) rfl (.one rfl hgo (by rw [over_length _ _ _ (by simp [rootC, bs_length, hn, zeroId_length])]; simp [rootC, bs_length, zeroId_length]) rfl (.nil _))))) (root_build4 hn)) (WL_cons rfl rfl (by decide) (OpT_call 600 [0, 101, 201, 202, 300, 400, 500] [] rfl Try.call15 rfl rfl rfl (by decide) (by decide) (root9_spec pv (pubL who) ver node hn gv (sigL who q ver node) (by rw [pubL_length]; decide) (by rw [sigL_length]; decide) _ (rd_star 4 rfl rowB_rd) (rd_star 6 rfl rowB_rd)) (fun v43 Ps43 hR43 => ?_))))))))
      obtain ⟨rv, rfl, rfl⟩ := hR43
      refine (WL_pure rfl rfl (by decide) (Pu_move rfl rfl) (WL_pure rfl rfl (by decide) (Pu_extract rfl rfl rfl) (WL_pure rfl rfl (by decide) (Pu_extract rfl rfl rfl) (WL_pure rfl rfl (by decide) (Pu_assign rfl rfl) (WL_pure rfl rfl (by decide) (Pu_assign rfl rfl) (WL_nil (X_then ?_)))))))
      refine W_seq ?_
      refine W.pre (K' := [(0, _), (1, _), (2, _), (5, _), (6, _), (7, _), (8, _), (9, _), (11, _), (13, _)]) (L' := [(0, _), (101, _), (201, _), (202, _), (300, _), (400, _), (500, _), (600, _)]) ?_ ⟨rfl, ⟨rfl, ⟨rfl, ⟨rfl, ⟨rfl, ⟨rfl, ⟨rfl, ⟨rfl, ⟨rfl, ⟨rfl, trivial⟩⟩⟩⟩⟩⟩⟩⟩⟩⟩ ⟨rfl, ⟨rfl, ⟨rfl, ⟨rfl, ⟨rfl, ⟨rfl, ⟨rfl, ⟨rfl, trivial⟩⟩⟩⟩⟩⟩⟩⟩
      refine W_regL (WL_pure rfl rfl (by decide) (Pu_move rfl rfl) (WL_pure rfl rfl (by decide) (Pu_assign rfl rfl) (WL_nil (X_then ?_))))
      refine W_ret ?_
      have hE : rootE (pubL who) ver (sigL who q ver node) = 0 := by unfold rootE; rw [if_neg (by rw [pubL_length]; omega), if_neg (by rw [sigL_length]; decide)]
      exact X_ret [600] (Ps := [_]) (res1 Try.results8 rfl) rfl (by decide) (by unfold rootR; rw [if_pos hE]; rfl)
    exact AHs_nil
  exact AHs_nil
theorem known_spec (F : HP) : CallsS Try.prog 6 #[] F [] (fun v Ps => v = .bool true ∧ Ps = []) := by
  refine callsS_enter Try.func6 rfl Try.ntmps6 (by simp) (fun E => ?_)
  refine W_seq ?_
  refine W_regL (WL_pure rfl rfl (by decide) (Pu_assign rfl rfl) (WL_nil (X_then ?_)))
  refine W_seq ?_
  refine W.pre (K' := [(0, _)]) (L' := [(0, _)]) ?_ ⟨rfl, trivial⟩ ⟨rfl, trivial⟩
  refine W_regL (WL_cons rfl rfl (by decide) (OpT_call 200 [0] [] rfl Try.call7 rfl rfl rfl (by decide) (by decide) (newS_spec 2 (by decide) _) (fun v5 Ps5 hR5 => ?_)))
  obtain ⟨gs, rfl, rfl⟩ := hR5
  skip
  refine (WL_pure rfl rfl (by decide) (Pu_move rfl rfl) (WL_pure rfl rfl (by decide) (Pu_extract rfl rfl rfl) (WL_pure rfl rfl (by decide) (Pu_extract rfl rfl rfl) (WL_pure rfl rfl (by decide) (Pu_assign rfl rfl) (WL_pure rfl rfl (by decide) (Pu_assign rfl rfl) (WL_nil (X_then ?_)))))))
  refine W_seq ?_
  refine W_seq ?_
  refine W.pre (K' := [(0, _), (1, _), (2, _)]) (L' := [(0, _), (200, _)]) ?_ ⟨rfl, ⟨rfl, ⟨rfl, trivial⟩⟩⟩ ⟨rfl, ⟨rfl, trivial⟩⟩
  refine W_regL (WL_pure rfl rfl (by decide) (Pu_move rfl rfl) (WL_pure rfl rfl (by decide) (Pu_bin rfl rfl rfl (run_neq _ _ _ _ _ _)) (WL_pure rfl rfl (by decide) (Pu_move rfl rfl) (WL_guardP rfl rfl rfl rfl (by decide) (fun hb => (Pu_move rfl rfl)) (WL_guardP rfl rfl rfl rfl (by decide) (fun hb => (Pu_bin rfl (ev_gv rfl hb) rfl (run_ptrNil Try.underlying24 _ _ _))) (WL_pure rfl rfl (by decide) (Pu_or rfl rfl rfl) (WL_nil (X_then ?_))))))))
  refine W_false rfl (rfl) ?_
  refine W_skip (X_then ?_)
  refine W_seq ?_
  refine W.pre (K' := [(0, _), (1, _), (2, _), (13, _)]) (L' := [(0, _), (200, _)]) ?_ ⟨rfl, ⟨rfl, ⟨rfl, ⟨rfl, trivial⟩⟩⟩⟩ ⟨rfl, ⟨rfl, trivial⟩⟩
  refine W_regL (WL_pure rfl rfl (by decide) (Pu_idZero rfl) (WL_cons rfl rfl (by decide) (OpT_call 300 [0, 200] [] rfl Try.call8 rfl rfl rfl (by decide) (by decide) (signed_spec 0 1 0 (by decide) (by decide) zeroId zeroId_length _) (fun v15 Ps15 hR15 => ?_))))
  subst hR15
  refine (WL_pure rfl rfl (by decide) (Pu_assign rfl rfl) (WL_nil (X_then ?_)))
  refine W_seq ?_
  refine W.pre (K' := [(0, _), (1, _), (2, _), (3, _), (13, _)]) (L' := [(0, _), (200, _), (300, _)]) ?_ ⟨rfl, ⟨rfl, ⟨rfl, ⟨rfl, ⟨rfl, trivial⟩⟩⟩⟩⟩ ⟨rfl, ⟨rfl, ⟨rfl, trivial⟩⟩⟩
  have hs2 := signed_new (who := 0) (q := 0) (ver := 1) (node := zeroId) (by decide) zeroId_length (by decide) (src := 0) (exp := 9) (now := 0) (by decide)
  refine W_regL (WL_pure rfl rfl (by decide) (Pu_move rfl rfl) (WL_cons rfl rfl (by decide) (OpT_call 400 [0, 300] [200] rfl Try.call10 rfl rfl rfl (by decide) (by decide) (setS_none gs 2 (by decide) _ [] (by decide) 0 1 0 _ (fun h _ => rd_const 0 1 h)) (fun v17 Ps17 hR17 => ?_))))
  obtain ⟨rfl, rfl⟩ := hR17
  skip
  rw [set_nil]
  refine (WL_pure rfl rfl (by decide) (Pu_bin rfl rfl rfl (run_eql _ _ _ _ _ _)) (WL_pure rfl rfl (by decide) (Pu_move rfl rfl) (WL_gPT rfl rfl rfl rfl rfl (by decide) (Pu_move rfl rfl) (WL_gPT rfl rfl rfl rfl rfl (by decide) (Pu_move rfl rfl) (WL_gT rfl rfl rfl rfl rfl (by decide) (OpT_call 500 [0, 300] [400] rfl Try.call10 rfl rfl rfl (by decide) (by decide) (setS_none gs 2 (by decide) _ (signedL 0 0 1 zeroId) (by rw [signed_length zeroId_length]; decide) 0 9 0 _ (rd_star 1 rfl rowB_rd)) (fun v22 Ps22 hR22 => ?_)))))))
  obtain ⟨rfl, rfl⟩ := hR22
  skip
  rw [hs2]
  refine (WL_gPT rfl rfl rfl rfl rfl (by decide) (Pu_bin rfl rfl rfl (run_eql _ _ _ _ _ _)) (WL_pure rfl rfl (by decide) (Pu_pickT rfl rfl rfl rfl) (WL_pure rfl rfl (by decide) (Pu_move rfl rfl) (WL_gPT rfl rfl rfl rfl rfl (by decide) (Pu_move rfl rfl) (WL_gT rfl rfl rfl rfl rfl (by decide) (OpT_call 600 [0, 300] [500] rfl Try.call11 rfl rfl rfl (by decide) (by decide) (allS_spec gs 2 _ (fun p h => by injection h with h; subst h; show (signedL 0 0 1 zeroId).length ≤ _; rw [signed_length zeroId_length]; decide) _) (fun v27 Ps27 hR27 => ?_)))))))
  obtain ⟨zs, hzs, rfl⟩ := hR27
  obtain ⟨z0, rfl, hz0⟩ := es_some hzs
  refine (WL_gPT rfl rfl rfl rfl rfl (by decide) (Pu_len (r := 601) rfl Try.runUnderlying34 rfl rfl (fun h hp => rowP_rd hp)) (WL_gPT rfl rfl rfl rfl rfl (by decide) (Pu_bin rfl rfl rfl (run_eql _ _ _ _ _ _)) (WL_pure rfl rfl (by decide) (Pu_pickT rfl rfl rfl rfl) (WL_pure rfl rfl (by decide) (Pu_assign rfl rfl) (WL_nil (X_then ?_))))))
  refine W_ret ?_
  exact X_ret [] (Ps := []) (res1 Try.results6 rfl) rfl (by decide) ⟨rfl, rfl⟩
theorem within13_spec (a n : Int) (hn : 0 < n) (hn2 : n < 9223372036854775808) (F : HP) : CallsS Try.prog 9 #[.int .i64 a, .int .i64 n] F [] (fun v Ps => v = .int .i64 (a % n) ∧ Ps = []) := by
  have htb := tmod_bounds a hn
  refine callsS_enter Try.func9 rfl Try.ntmps9 (by simp) (fun E => ?_)
  refine W_seq ?_
  refine W.pre (K' := [(0, _), (1, _)]) (L' := [(0, _)]) ?_ ⟨rfl, ⟨rfl, trivial⟩⟩ ⟨rfl, trivial⟩
  refine W_regL (WL_pure rfl rfl (by decide) (Pu_assign rfl rfl) (WL_nil (X_then ?_)))
  refine W_seq ?_
  refine W.pre (K' := [(0, _), (1, _), (4, _)]) (L' := [(0, _)]) ?_ ⟨rfl, ⟨rfl, ⟨rfl, trivial⟩⟩⟩ ⟨rfl, trivial⟩
  refine W_regL (WL_pure rfl rfl (by decide) (Pu_move rfl rfl) (WL_pure rfl rfl (by decide) (Pu_move rfl rfl) (WL_pure rfl rfl (by decide) (Pu_bin rfl rfl rfl (run_tmod _ _ _ _ _ (by omega))) (WL_pure rfl rfl (by decide) (Pu_assign rfl rfl) (WL_nil (X_then ?_))))))
  refine W_seq ?_
  refine W_seq ?_
  refine W.pre (K' := [(0, _), (1, _), (4, _), (5, _)]) (L' := [(0, _)]) ?_ ⟨rfl, ⟨rfl, ⟨rfl, ⟨rfl, trivial⟩⟩⟩⟩ ⟨rfl, trivial⟩
  refine W_regL (WL_pure rfl rfl (by decide) (Pu_move rfl rfl) (WL_pure rfl rfl (by decide) (Pu_bin rfl rfl rfl (run_lss _ _ _ _ _ _)) (WL_nil (X_then ?_))))
  refine W_cond rfl (fun hc10 => ?_) (fun hc10 => ?_)
  ·
    have hlt := of_decide_eq_true hc10
    refine W.pre (K' := [(0, _), (1, _), (4, _), (5, _), (10, _)]) (L' := [(0, _)]) ?_ ⟨rfl, ⟨rfl, ⟨rfl, ⟨rfl, ⟨rfl, trivial⟩⟩⟩⟩⟩ ⟨rfl, trivial⟩
    refine W_regL (WL_pure rfl rfl (by decide) (Pu_move rfl rfl) (WL_pure rfl rfl (by decide) (Pu_move rfl rfl) (WL_pure rfl rfl (by decide) (Pu_bin rfl rfl rfl (run_add _ _ _ _ _ (by omega))) (WL_pure rfl rfl (by decide) (Pu_assign rfl rfl) (WL_nil (X_then ?_))))))
    refine W_seq ?_
    refine W.pre (K' := [(0, _), (1, _), (4, _), (5, _), (10, _)]) (L' := [(0, _)]) ?_ ⟨rfl, ⟨rfl, ⟨rfl, ⟨rfl, ⟨rfl, trivial⟩⟩⟩⟩⟩ ⟨rfl, trivial⟩
    refine W_regL (WL_pure rfl rfl (by decide) (Pu_move rfl rfl) (WL_pure rfl rfl (by decide) (Pu_assign rfl rfl) (WL_nil (X_then ?_))))
    refine W_ret ?_
    exact X_ret [] (Ps := []) (res1 Try.results9 rfl) rfl (by decide) ⟨int_val (emod_neg hn (of_decide_eq_true hc10)), rfl⟩
  ·
    refine W_skip (X_then ?_)
    refine W_seq ?_
    refine W.pre (K' := [(0, _), (1, _), (4, _), (5, _), (10, _)]) (L' := [(0, _)]) ?_ ⟨rfl, ⟨rfl, ⟨rfl, ⟨rfl, ⟨rfl, trivial⟩⟩⟩⟩⟩ ⟨rfl, trivial⟩
    refine W_regL (WL_pure rfl rfl (by decide) (Pu_move rfl rfl) (WL_pure rfl rfl (by decide) (Pu_assign rfl rfl) (WL_nil (X_then ?_))))
    refine W_ret ?_
    exact X_ret [] (Ps := []) (res1 Try.results9 rfl) rfl (by decide) ⟨int_val (emod_pos hn (of_decide_eq_false hc10)), rfl⟩
end Go.Proofs.Ytinamipkpdlphaa
/- Slots: turned roots. -/
namespace Go.Proofs.Ytinamipkpdlphaa
open Go.RowKit
set_option linter.unusedVariables false
set_option linter.unusedSimpArgs false
set_option maxRecDepth 8000

theorem run_xorU8 {P : Program} (a b : UInt8) (t : TypeId) (x y : Operand) (w : World) : ((do eqGuard .xor t x y (bv a) (bv b); binOp .xor t (bv a) (bv b) : Sem Value)).run P w = .ok (bv (a ^^^ b)) w :=
  run_xorB (P := P) _ _ (by rw [u8_xor_nat _ _ a.toNat_lt b.toNat_lt, UInt8.toNat_xor]) t x y w
/-- What a turned root says still. -/
structure Turned (pl : List UInt8) (ver : Int) (top tl : List UInt8) : Prop where
  pub : pl.length = 56
  lo : 1 ≤ ver
  hi : ver ≤ 2147483647
  tl : tl.length = 4332
  top : top.length = 32
  one : val pl 4 = 1
  two : val (pl.drop 4) 4 = 2
theorem Turned.good {pl : List UInt8} {ver : Int} {top tl : List UInt8} (h : Turned pl ver top tl) : ¬ badPub pl := by
  have h1 := h.pub
  have h2 := h.one
  have h3 := h.two
  unfold badPub
  omega
theorem chk_12 {pl m s : List UInt8} (h : ¬ badPub pl) (h0 : ¬ checkT pl m s = 0) : checkT pl m s = 12 := by
  unfold checkT at h0 ⊢
  rw [if_neg h] at h0 ⊢
  split
  · rfl
  · rename_i h2
    rw [if_neg h2] at h0
    split
    · rfl
    · rename_i h3
      rw [if_neg h3] at h0
      split
      · rename_i h4; rw [if_pos h4] at h0; exact absurd rfl h0
      · rfl
theorem pubT_vals (nm seed : List UInt8) : val (pubT nm seed) 4 = 1 ∧ val ((pubT nm seed).drop 4) 4 = 2 := by
  have hN : ∀ n : Int, (numB n 4).length = 4 := fun n => numB_length _ _
  have p0 : pubT nm seed = numB 1 4 ++ (numB 2 4 ++ (nm ++ topT nm seed)) := by unfold pubT; simp only [List.append_assoc]
  refine ⟨?_, ?_⟩
  · rw [p0, val_app (hN 1)]; rfl
  · rw [p0, show (numB 1 4 ++ (numB 2 4 ++ (nm ++ topT nm seed))).drop 4 = numB 2 4 ++ (nm ++ topT nm seed) from List.drop_left (l₁ := numB 1 4), val_app (hN 2)]; rfl
theorem turned_base (who : Int) : Turned (pubL who) 1 zeroId (sigL who 0 1 zeroId) :=
  ⟨pubL_length who, by decide, by decide, sigL_length _ _ _ _, zeroId_length, (pubT_vals _ _).1, (pubT_vals _ _).2⟩
theorem Turned.ver {pl : List UInt8} {ver : Int} {top tl : List UInt8} (h : Turned pl ver top tl) {v : Int} (h1 : 1 ≤ v) (h2 : v ≤ 2147483647) : Turned pl v top tl := ⟨h.pub, h1, h2, h.tl, h.top, h.one, h.two⟩
theorem Turned.node {pl : List UInt8} {ver : Int} {top tl : List UInt8} (h : Turned pl ver top tl) (k : Nat) (c : UInt8) : Turned pl ver (top.set k c) tl := ⟨h.pub, h.lo, h.hi, h.tl, by rw [List.length_set]; exact h.top, h.one, h.two⟩
theorem Turned.sig {pl : List UInt8} {ver : Int} {top tl : List UInt8} (h : Turned pl ver top tl) (k : Nat) (c : UInt8) : Turned pl ver top (tl.set k c) := ⟨h.pub, h.lo, h.hi, by rw [List.length_set]; exact h.tl, h.top, h.one, h.two⟩
theorem Turned.key {pl : List UInt8} {ver : Int} {top tl : List UInt8} (h : Turned pl ver top tl) (k : Nat) (c : UInt8) : Turned (pl.set (8 + k) c) ver top tl := by
  have e1 : val (pl.set (8 + k) c) 4 = val pl 4 := by
    rw [← val_take (pl.set (8 + k) c) 4 4 (Nat.le_refl _), List.take_set_of_le (by omega), val_take pl 4 4 (Nat.le_refl _)]
  have e2 : val ((pl.set (8 + k) c).drop 4) 4 = val (pl.drop 4) 4 := by
    rw [List.drop_set, if_neg (by omega), ← val_take ((pl.drop 4).set (8 + k - 4) c) 4 4 (Nat.le_refl _), List.take_set_of_le (by omega), val_take (pl.drop 4) 4 4 (Nat.le_refl _)]
  exact ⟨by rw [List.length_set]; exact h.pub, h.lo, h.hi, h.tl, h.top, e1.trans h.one, e2.trans h.two⟩
theorem turned_set {pl : List UInt8} {ver : Int} {top tl : List UInt8} (h : Turned pl ver top tl) (hne : ¬ checkT pl (claimL ver top) tl = 0) : setO none (rootLs pl ver top tl).flatten 0 9 0 = (12, none) := by
  obtain ⟨h1, h2⟩ := parse_root h.pub ⟨h.lo, h.hi⟩ h.top (show tl.length ≤ 5000 by rw [h.tl]; decide)
  have h3 : chkL (rootLs pl ver top tl).flatten = 12 := by
    unfold chkL
    rw [h2]
    exact chk_12 h.good hne
  rw [setO_sign (by decide) h1 (by rw [h3]; decide), h3]
theorem turned_root {pl : List UInt8} {ver : Int} {top tl : List UInt8} (h : Turned pl ver top tl) : rootE pl ver tl = 0 ∧ rootR pl ver top tl = (rootLs pl ver top tl).flatten := by
  have hE : rootE pl ver tl = 0 := by
    have h1 := h.pub
    have h2 := h.lo
    have h3 := h.hi
    have h4 := h.tl
    unfold rootE
    rw [if_neg (by omega), if_neg (by omega)]
  exact ⟨hE, by unfold rootR; rw [if_pos hE]⟩
theorem root_top_at {pv : Value} {ver : Int} {top : List UInt8} {tv : Value} (ht : top.length = 32) {k : Nat} (hk : k < 32) : (rootC pv ver top tv)[2 + k]? = some (bv (at0 top k)) := by
  unfold rootC
  rw [List.append_assoc, List.getElem?_append_right (by simp), List.getElem?_append_left (by simp [bs_length, ht]; omega)]
  have : 2 + k - [pv, Value.int .i64 ver].length = k := by simp
  rw [this]
  simp [bs, at0, List.getElem?_eq_getElem (show k < top.length by omega)]
theorem root_top_set {pv : Value} {ver : Int} {top : List UInt8} {tv : Value} (ht : top.length = 32) {k : Nat} (hk : k < 32) (c : UInt8) : (rootC pv ver top tv).set (2 + k) (bv c) = rootC pv ver (top.set k c) tv := by
  unfold rootC
  rw [List.append_assoc, List.set_append_right _ _ (by simp)]
  have : 2 + k - [pv, Value.int .i64 ver].length = k := by simp
  rw [this, List.set_append_left _ _ (by simp [bs_length, ht]; omega), List.append_assoc]
  congr 2
  simp [bs, List.map_set]
theorem bs_setC (l : List UInt8) (k : Nat) (c : UInt8) : (bs l).set k (bv c) = bs (l.set k c) := by simp [bs, List.map_set]
theorem mod_nat (a : Int) {m : Nat} (hm : 0 < m) : ∃ k : Nat, a % (m : Int) = (k : Int) ∧ k < m := ⟨(a % (m : Int)).toNat, by have := Int.emod_nonneg a (show (m : Int) ≠ 0 by omega); omega, by have := Int.emod_lt_of_pos a (show (0 : Int) < m by omega); have := Int.emod_nonneg a (show (m : Int) ≠ 0 by omega); omega⟩
theorem slotsForged_law (which at_ : Int) (bb : UInt8) (F : HP) : CallsS Try.prog 5 #[.int .i64 which, .int .i64 at_, bv bb] F [] (fun v Ps => v = .bool true) := by
  refine callsS_enter Try.func5 rfl Try.ntmps5 (by simp) (fun E => ?_)
  refine W_seq ?_
  refine W.pre (K' := [(0, _), (1, _), (2, _)]) (L' := [(0, _)]) ?_ ⟨rfl, ⟨rfl, ⟨rfl, trivial⟩⟩⟩ ⟨rfl, trivial⟩
  refine W_regL (WL_pure rfl rfl (by decide) (Pu_assign rfl rfl) (WL_nil (X_then ?_)))
  refine W_seq ?_
  refine W_seq ?_
  refine W.pre (K' := [(0, _), (1, _), (2, _), (6, _)]) (L' := [(0, _)]) ?_ ⟨rfl, ⟨rfl, ⟨rfl, ⟨rfl, trivial⟩⟩⟩⟩ ⟨rfl, trivial⟩
  refine W_regL (WL_cons rfl rfl (by decide) (OpT_call 200 [0] [] rfl Try.call6 rfl rfl rfl (by decide) (by decide) (known_spec _) (fun v13 Ps13 hR13 => ?_)))
  obtain ⟨rfl, rfl⟩ := hR13
  refine (WL_pure rfl rfl (by decide) (Pu_un rfl rfl (run_not _)) (WL_nil (X_then ?_)))
  refine W_false rfl (rfl) ?_
  refine W_skip (X_then ?_)
  refine W_seq ?_
  refine W_seq ?_
  refine W.pre (K' := [(0, _), (1, _), (2, _), (6, _), (14, _)]) (L' := [(0, _)]) ?_ ⟨rfl, ⟨rfl, ⟨rfl, ⟨rfl, ⟨rfl, trivial⟩⟩⟩⟩⟩ ⟨rfl, trivial⟩
  refine W_regL (WL_pure rfl rfl (by decide) (Pu_move rfl rfl) (WL_pure rfl rfl (by decide) (Pu_bin rfl rfl rfl (run_eql _ _ _ _ _ _)) (WL_nil (X_then ?_))))
  refine W_cond rfl (fun hc16 => ?_) (fun hc16 => ?_)
  ·
    refine W_seq ?_
    refine W.pre (K' := [(0, _), (1, _), (2, _), (6, _), (14, _), (16, _)]) (L' := [(0, _)]) ?_ ⟨rfl, ⟨rfl, ⟨rfl, ⟨rfl, ⟨rfl, ⟨rfl, trivial⟩⟩⟩⟩⟩⟩ ⟨rfl, trivial⟩
    refine W_regL (WL_pure rfl rfl (by decide) (Pu_assign rfl rfl) (WL_nil (X_then ?_)))
    refine W_ret (X_then_ret ?_)
    exact X_ret [] (Ps := []) (res1 Try.results5 rfl) rfl (by decide) rfl
  ·
    refine W_skip (X_then ?_)
    refine W_seq ?_
    refine W.pre (K' := [(0, _), (1, _), (2, _), (6, _), (14, _), (16, _)]) (L' := [(0, _)]) ?_ ⟨rfl, ⟨rfl, ⟨rfl, ⟨rfl, ⟨rfl, ⟨rfl, trivial⟩⟩⟩⟩⟩⟩ ⟨rfl, trivial⟩
    obtain ⟨hok, hP⟩ := signed_parse (who := 1) (q := 0) (ver := 1) (node := zeroId) (by decide) zeroId_length
    have hP2 := hP
    unfold pRoot at hP2
    rw [if_pos hok] at hP2
    injection hP2 with e1 e2 e3 e4
    have hT := turned_base 1
    refine W_regL (WL_pure rfl rfl (by decide) (Pu_idZero rfl) (WL_cons rfl rfl (by decide) (OpT_call 300 [0] [] rfl Try.call8 rfl rfl rfl (by decide) (by decide) (signed_spec 1 1 0 (by decide) (by decide) zeroId zeroId_length _) (fun v19 Ps19 hR19 => ?_))))
    subst hR19
    refine (WL_cons rfl rfl (by decide) (OpT_call 400 [0, 300] [] rfl Try.call12 rfl rfl rfl (by decide) (by decide) (parse9_spec _ (signedL 1 0 1 zeroId) hok (by rw [signed_length zeroId_length]; decide) _ (rd_star 1 rfl rowB_rd)) (fun v20 Ps20 hR20 => ?_)))
    obtain ⟨pv, tv, rfl, rfl⟩ := hR20
    rw [e1, e2, e3, e4]
    refine WL_fact (r := 400) rfl (fun h hp => rd_one (rowB_rd _ hp)) (fun hpo => ?_)
    refine WL_fact (r := 401) rfl (fun h hp => rd_one (rowB_rd _ hp)) (fun hto => ?_)
    refine (WL_pure rfl rfl (by decide) (Pu_move rfl rfl) (WL_pure rfl rfl (by decide) (Pu_extract rfl rfl rfl) (WL_pure rfl rfl (by decide) (Pu_extract rfl rfl rfl) (WL_cons rfl rfl (by decide) (OpT_alloc (r := 403) (cs := (rootC nilS 0 zeroId nilS)) rfl (zero_run (by kernel_rfl : (Try.prog.info? 39).bind (·.zero) = some (.agg (rootC nilS 0 zeroId nilS).toArray))) rfl (fun g403 => (WL_cons0 rfl rfl (OpT_storeAll (r := 403) rfl Try.sizeOf39 rfl rfl rfl (rootC_length zeroId_length) (rootC_length zeroId_length) (one_root hpo hto) ?_))))))))
    skip
    refine (WL_pure rfl rfl (by decide) (Pu_assign rfl rfl) (WL_nil (X_then ?_)))
    refine W_cut (α := Int × List UInt8 × List UInt8 × List UInt8) (fun y => [(7, .pointer (some ⟨g403, 0, none⟩))]) (fun y => [(0, F), (403, blk g403 39 (rootC pv y.1 y.2.1 tv)), (400, rowB 5 pv y.2.2.1), (401, rowB 5 tv y.2.2.2)]) (fun y => Turned y.2.2.1 y.1 y.2.1 y.2.2.2) ?_ (fun y hy => ?_)
    ·
      refine W_seq ?_
      refine W.pre (K' := [(0, _), (1, _), (2, _), (6, _), (7, _), (14, _), (16, _)]) (L' := [(0, _), (300, _), (400, _), (401, _), (403, _)]) ?_ ⟨rfl, ⟨rfl, ⟨rfl, ⟨rfl, ⟨rfl, ⟨rfl, ⟨rfl, trivial⟩⟩⟩⟩⟩⟩⟩ ⟨rfl, ⟨rfl, ⟨rfl, ⟨rfl, ⟨rfl, trivial⟩⟩⟩⟩⟩
      refine W_regL (WL_pure rfl rfl (by decide) (Pu_move rfl rfl) (WL_cons rfl rfl (by decide) (OpT_call 500 [0, 300, 400, 401, 403] [] rfl Try.call9 rfl rfl rfl (by decide) (by decide) (within13_spec which 4 (by omega) (by omega) _) (fun v24 Ps24 hR24 => ?_))))
      obtain ⟨rfl, rfl⟩ := hR24
      refine (WL_nil (X_then ?_))
      refine W_block ?_
      refine W_seq ?_
      refine W.pre (K' := [(0, _), (1, _), (2, _), (6, _), (7, _), (14, _), (16, _), (24, _)]) (L' := [(0, _), (300, _), (400, _), (401, _), (403, _)]) ?_ ⟨rfl, ⟨rfl, ⟨rfl, ⟨rfl, ⟨rfl, ⟨rfl, ⟨rfl, ⟨rfl, trivial⟩⟩⟩⟩⟩⟩⟩⟩ ⟨rfl, ⟨rfl, ⟨rfl, ⟨rfl, ⟨rfl, trivial⟩⟩⟩⟩⟩
      refine W_regL (WL_pure rfl rfl (by decide) (Pu_bin rfl rfl rfl (run_eql _ _ _ _ _ _)) (WL_pure rfl rfl (by decide) (Pu_assign rfl rfl) (WL_nil (X_then ?_))))
      refine W_cond rfl (fun hc25 => ?_) (fun hc25 => ?_)
      ·
        refine W.pre (K' := [(0, _), (1, _), (2, _), (6, _), (7, _), (14, _), (16, _), (24, _), (25, _)]) (L' := [(0, _), (300, _), (400, _), (401, _), (403, _)]) ?_ ⟨rfl, ⟨rfl, ⟨rfl, ⟨rfl, ⟨rfl, ⟨rfl, ⟨rfl, ⟨rfl, ⟨rfl, trivial⟩⟩⟩⟩⟩⟩⟩⟩⟩ ⟨rfl, ⟨rfl, ⟨rfl, ⟨rfl, ⟨rfl, trivial⟩⟩⟩⟩⟩
        refine W_regL (WL_pure rfl rfl (by decide) (Pu_move rfl rfl) (WL_pure rfl rfl (by decide) (Pu_conv rfl rfl (conv_u8 _ Try.runUnderlying5 Try.runUnderlying3)) (WL_pure rfl rfl (by decide) (Pu_bin rfl rfl rfl (run_add _ _ _ _ _ (by have := bb.toNat_lt; omega))) (WL_pure rfl rfl (by decide) (Pu_fieldAddrB (off := 1) rfl rfl (by kernel_rfl)) (WL_cons0 rfl rfl (OpT_storeB1 (r := 403) rfl Try.sizeOf3 rfl rfl rfl rfl (by rw [rootC_length zeroId_length]; decide) (show _ = rootC pv (2 + (bb.toNat : Int)) zeroId tv from rfl) ?_))))))
        refine (WL_nil (X_block ?_))
        exact X_cut (2 + (bb.toNat : Int), zeroId, pubL 1, sigL 1 0 1 zeroId) (hT.ver (by have := bb.toNat_lt; omega) (by have := bb.toNat_lt; omega)) ⟨rfl, trivial⟩ ⟨rfl, rfl, rfl, rfl, trivial⟩
      ·
        refine W_seq ?_
        refine W.pre (K' := [(0, _), (1, _), (2, _), (6, _), (7, _), (14, _), (16, _), (24, _), (25, _)]) (L' := [(0, _), (300, _), (400, _), (401, _), (403, _)]) ?_ ⟨rfl, ⟨rfl, ⟨rfl, ⟨rfl, ⟨rfl, ⟨rfl, ⟨rfl, ⟨rfl, ⟨rfl, trivial⟩⟩⟩⟩⟩⟩⟩⟩⟩ ⟨rfl, ⟨rfl, ⟨rfl, ⟨rfl, ⟨rfl, trivial⟩⟩⟩⟩⟩
        refine W_regL (WL_pure rfl rfl (by decide) (Pu_bin rfl rfl rfl (run_eql _ _ _ _ _ _)) (WL_pure rfl rfl (by decide) (Pu_assign rfl rfl) (WL_nil (X_then ?_))))
        refine W_cond rfl (fun hc31 => ?_) (fun hc31 => ?_)
        ·
          refine W.pre (K' := [(0, _), (1, _), (2, _), (6, _), (7, _), (14, _), (16, _), (24, _), (25, _), (31, _)]) (L' := [(0, _), (300, _), (400, _), (401, _), (403, _)]) ?_ ⟨rfl, ⟨rfl, ⟨rfl, ⟨rfl, ⟨rfl, ⟨rfl, ⟨rfl, ⟨rfl, ⟨rfl, ⟨rfl, trivial⟩⟩⟩⟩⟩⟩⟩⟩⟩⟩ ⟨rfl, ⟨rfl, ⟨rfl, ⟨rfl, ⟨rfl, trivial⟩⟩⟩⟩⟩
          refine W_regL (WL_pure rfl rfl (by decide) (Pu_move rfl rfl) (WL_cons rfl rfl (by decide) (OpT_call 600 [0, 300, 400, 401, 403] [] rfl Try.call9 rfl rfl rfl (by decide) (by decide) (within13_spec at_ 32 (by omega) (by omega) _) (fun v34 Ps34 hR34 => ?_))))
          obtain ⟨rfl, rfl⟩ := hR34
          obtain ⟨k, hk, hk2⟩ := mod_nat at_ (m := 32) (by decide)
          rw [show at_ % 32 = (k : Int) from hk]
          refine (WL_pure rfl rfl (by decide) (Pu_fieldAddrB (off := 2) rfl rfl (by kernel_rfl)) (WL_pure rfl rfl (by decide) (Pu_idxA rfl Try.runUnderlying29 Try.sizeOf5 rfl rfl (by omega)) (WL_pure rfl rfl (by decide) (Pu_loadB (r := 403) rfl Try.isAgg5 rfl rfl (root_top_at (k := k) zeroId_length hk2)) (WL_pure rfl rfl (by decide) (Pu_move rfl rfl) (WL_pure rfl rfl (by decide) (Pu_bin rfl rfl rfl (run_xorU8 _ _ _ _ _)) (WL_pure rfl rfl (by decide) (Pu_fieldAddrB (off := 2) rfl rfl (by kernel_rfl)) (WL_pure rfl rfl (by decide) (Pu_idxA rfl Try.runUnderlying29 Try.sizeOf5 rfl rfl (by omega)) (WL_cons0 rfl rfl (OpT_storeB1 (r := 403) rfl Try.sizeOf5 rfl rfl rfl rfl (by rw [rootC_length zeroId_length]; omega) (root_top_set (k := k) zeroId_length hk2 _) ?_)))))))))
          refine (WL_nil (X_block ?_))
          exact X_cut (1, zeroId.set k (at0 zeroId k ^^^ bb), pubL 1, sigL 1 0 1 zeroId) (hT.node _ _) ⟨rfl, trivial⟩ ⟨rfl, rfl, rfl, rfl, trivial⟩
        ·
          refine W_seq ?_
          refine W.pre (K' := [(0, _), (1, _), (2, _), (6, _), (7, _), (14, _), (16, _), (24, _), (25, _), (31, _)]) (L' := [(0, _), (300, _), (400, _), (401, _), (403, _)]) ?_ ⟨rfl, ⟨rfl, ⟨rfl, ⟨rfl, ⟨rfl, ⟨rfl, ⟨rfl, ⟨rfl, ⟨rfl, ⟨rfl, trivial⟩⟩⟩⟩⟩⟩⟩⟩⟩⟩ ⟨rfl, ⟨rfl, ⟨rfl, ⟨rfl, ⟨rfl, trivial⟩⟩⟩⟩⟩
          refine W_regL (WL_pure rfl rfl (by decide) (Pu_bin rfl rfl rfl (run_eql _ _ _ _ _ _)) (WL_pure rfl rfl (by decide) (Pu_assign rfl rfl) (WL_nil (X_then ?_))))
          refine W_cond rfl (fun hc42 => ?_) (fun hc42 => ?_)
          ·
            refine W.pre (K' := [(0, _), (1, _), (2, _), (6, _), (7, _), (14, _), (16, _), (24, _), (25, _), (31, _), (42, _)]) (L' := [(0, _), (300, _), (400, _), (401, _), (403, _)]) ?_ ⟨rfl, ⟨rfl, ⟨rfl, ⟨rfl, ⟨rfl, ⟨rfl, ⟨rfl, ⟨rfl, ⟨rfl, ⟨rfl, ⟨rfl, trivial⟩⟩⟩⟩⟩⟩⟩⟩⟩⟩⟩ ⟨rfl, ⟨rfl, ⟨rfl, ⟨rfl, ⟨rfl, trivial⟩⟩⟩⟩⟩
            refine W_draw (N := 11) (by kernel_rfl) rfl [(0, _), (403, _)] ⟨rfl, ⟨rfl, trivial⟩⟩ ?_
            refine (AH_take 0 rfl (by kernel_rfl) (by kernel_rfl) (by kernel_rfl) rfl rfl (by decide) (Pu_fieldAddrB (off := 0) rfl rfl (by kernel_rfl)) (AH_take 1 rfl (by kernel_rfl) (by kernel_rfl) (by kernel_rfl) rfl rfl (by decide) (Pu_loadB (r := 403) rfl Try.isAgg30 rfl rfl rfl) (AH_take 2 rfl (by kernel_rfl) (by kernel_rfl) (by kernel_rfl) rfl rfl (by decide) (Pu_move rfl rfl) (AH_take 7 rfl (by kernel_rfl) (by kernel_rfl) (by kernel_rfl) rfl rfl (by decide) (Pu_move rfl rfl) (AH_ready [3] (by kernel_rfl) (by decide) ?_)))))
            refine AHs_cons rfl rfl rfl (by decide) (OpT_call 600 [0, 300, 400, 401, 403] [] rfl Try.call9 rfl rfl rfl (by decide) (by decide) (within13_spec at_ 48 (by omega) (by omega) _) (fun v47 Ps47 hR47 => ?_)) ?_
            ·
              obtain ⟨rfl, rfl⟩ := hR47
              refine ⟨⟨rfl, ⟨rfl, trivial⟩⟩, ?_⟩
              obtain ⟨k, hk, hk2⟩ := mod_nat at_ (m := 48) (by decide)
              rw [show at_ % 48 = (k : Int) from hk]
              refine (AH_take 4 rfl (by kernel_rfl) (by kernel_rfl) (by kernel_rfl) rfl rfl (by decide) (Pu_bin rfl rfl rfl (run_add _ _ _ _ _ (by omega))) ?_)
              have hln := pubL_length 1
              refine (AH_ready [5] (by kernel_rfl) (by decide) ?_)
              refine AHs_cons rfl rfl rfl (by decide) (OpT_run (Pu_idxS1 (r := 400) rfl Try.runUnderlying30 Try.sizeOf5 rfl rfl rfl (rowB_rd (l := pubL 1)) (by omega)) ⟨⟨rfl, ⟨rfl, trivial⟩⟩, ?_⟩) ?_
              ·
                refine (AH_ready [6] (by kernel_rfl) (by decide) ?_)
                refine AHs_cons rfl rfl rfl (by decide) (OpT_run (Pu_loadS (r := 400) rfl Try.isAgg5 rfl rfl (rowB_rd (l := pubL 1)) (bs_at1 (k := 8 + k) (by omega))) ⟨⟨rfl, ⟨rfl, trivial⟩⟩, ?_⟩) ?_
                ·
                  refine (AH_take 8 rfl (by kernel_rfl) (by kernel_rfl) (by kernel_rfl) rfl rfl (by decide) (Pu_bin rfl rfl rfl (run_xorU8 _ _ _ _ _)) (AH_ready [9] (by kernel_rfl) (by decide) ?_))
                  refine AHs_cons rfl rfl rfl (by decide) (OpT_run (Pu_idxS1 (r := 400) rfl Try.runUnderlying30 Try.sizeOf5 rfl rfl rfl (rowB_rd (l := pubL 1)) (by omega)) ⟨⟨rfl, ⟨rfl, trivial⟩⟩, ?_⟩) ?_
                  ·
                    refine (AH_ready [10] (by kernel_rfl) (by decide) ?_)
                    refine AHs_cons0 rfl rfl rfl (OpT_storeS1 (r := 400) rfl Try.sizeOf5 rfl rfl rfl rfl (by rw [bs_length]; omega) (show _ = bs ((pubL 1).set (8 + k) (at0 (pubL 1) (8 + k) ^^^ bb)) from by rw [← bs_setC]; congr 1) ?_) ?_
                    ·
                      refine ⟨⟨rfl, ⟨rfl, trivial⟩⟩, ?_⟩
                      refine AH_turn (P' := rowB 5 pv ((pubL 1).set (8 + k) (at0 (pubL 1) (8 + k) ^^^ bb))) 400 rfl (fun h hp => rowB_mk hp (by rw [List.length_set]) rfl) ?_
                      refine (AH_done (by kernel_rfl) (X_block ?_))
                      exact X_cut (1, zeroId, (pubL 1).set (8 + k) (at0 (pubL 1) (8 + k) ^^^ bb), sigL 1 0 1 zeroId) (hT.key _ _) ⟨rfl, trivial⟩ ⟨rfl, rfl, rfl, rfl, trivial⟩
                    exact AHs_nil
                  exact AHs_nil
                exact AHs_nil
              exact AHs_nil
            exact AHs_nil
          ·
            refine W_seq ?_
            refine W.pre (K' := [(0, _), (1, _), (2, _), (6, _), (7, _), (14, _), (16, _), (24, _), (25, _), (31, _), (42, _)]) (L' := [(0, _), (300, _), (400, _), (401, _), (403, _)]) ?_ ⟨rfl, ⟨rfl, ⟨rfl, ⟨rfl, ⟨rfl, ⟨rfl, ⟨rfl, ⟨rfl, ⟨rfl, ⟨rfl, ⟨rfl, trivial⟩⟩⟩⟩⟩⟩⟩⟩⟩⟩⟩ ⟨rfl, ⟨rfl, ⟨rfl, ⟨rfl, ⟨rfl, trivial⟩⟩⟩⟩⟩
            refine W_regL (WL_pure rfl rfl (by decide) (Pu_bin rfl rfl rfl (run_eql _ _ _ _ _ _)) (WL_pure rfl rfl (by decide) (Pu_assign rfl rfl) (WL_nil (X_then ?_))))
            refine W_cond rfl (fun hc54 => ?_) (fun hc54 => ?_)
            ·
              refine W.pre (K' := [(0, _), (1, _), (2, _), (6, _), (7, _), (14, _), (16, _), (24, _), (25, _), (31, _), (42, _), (54, _)]) (L' := [(0, _), (300, _), (400, _), (401, _), (403, _)]) ?_ ⟨rfl, ⟨rfl, ⟨rfl, ⟨rfl, ⟨rfl, ⟨rfl, ⟨rfl, ⟨rfl, ⟨rfl, ⟨rfl, ⟨rfl, ⟨rfl, trivial⟩⟩⟩⟩⟩⟩⟩⟩⟩⟩⟩⟩ ⟨rfl, ⟨rfl, ⟨rfl, ⟨rfl, ⟨rfl, trivial⟩⟩⟩⟩⟩
              refine W_draw (N := 11) (by kernel_rfl) rfl [(0, _), (403, _)] ⟨rfl, ⟨rfl, trivial⟩⟩ ?_
              refine (AH_take 0 rfl (by kernel_rfl) (by kernel_rfl) (by kernel_rfl) rfl rfl (by decide) (Pu_fieldAddrB (off := 34) rfl rfl (by kernel_rfl)) (AH_take 1 rfl (by kernel_rfl) (by kernel_rfl) (by kernel_rfl) rfl rfl (by decide) (Pu_loadB (r := 403) rfl Try.isAgg30 rfl rfl (root_tail zeroId_length)) (AH_take 2 rfl (by kernel_rfl) (by kernel_rfl) (by kernel_rfl) rfl rfl (by decide) (Pu_move rfl rfl) (AH_take 7 rfl (by kernel_rfl) (by kernel_rfl) (by kernel_rfl) rfl rfl (by decide) (Pu_move rfl rfl) (AH_ready [3] (by kernel_rfl) (by decide) ?_)))))
              refine AHs_cons rfl rfl rfl (by decide) (OpT_call 600 [0, 300, 400, 401, 403] [] rfl Try.call9 rfl rfl rfl (by decide) (by decide) (within13_spec at_ 4000 (by omega) (by omega) _) (fun v59 Ps59 hR59 => ?_)) ?_
              ·
                obtain ⟨rfl, rfl⟩ := hR59
                refine ⟨⟨rfl, ⟨rfl, trivial⟩⟩, ?_⟩
                obtain ⟨k, hk, hk2⟩ := mod_nat at_ (m := 4000) (by decide)
                rw [show at_ % 4000 = (k : Int) from hk]
                refine (AH_take 4 rfl (by kernel_rfl) (by kernel_rfl) (by kernel_rfl) rfl rfl (by decide) (Pu_bin rfl rfl rfl (run_add _ _ _ _ _ (by omega))) ?_)
                have hln := sigL_length 1 0 1 zeroId
                refine (AH_ready [5] (by kernel_rfl) (by decide) ?_)
                refine AHs_cons rfl rfl rfl (by decide) (OpT_run (Pu_idxS1 (r := 401) rfl Try.runUnderlying30 Try.sizeOf5 rfl rfl rfl (rowB_rd (l := sigL 1 0 1 zeroId)) (by omega)) ⟨⟨rfl, ⟨rfl, trivial⟩⟩, ?_⟩) ?_
                ·
                  refine (AH_ready [6] (by kernel_rfl) (by decide) ?_)
                  refine AHs_cons rfl rfl rfl (by decide) (OpT_run (Pu_loadS (r := 401) rfl Try.isAgg5 rfl rfl (rowB_rd (l := sigL 1 0 1 zeroId)) (bs_at1 (k := 36 + k) (by omega))) ⟨⟨rfl, ⟨rfl, trivial⟩⟩, ?_⟩) ?_
                  ·
                    refine (AH_take 8 rfl (by kernel_rfl) (by kernel_rfl) (by kernel_rfl) rfl rfl (by decide) (Pu_bin rfl rfl rfl (run_xorU8 _ _ _ _ _)) (AH_ready [9] (by kernel_rfl) (by decide) ?_))
                    refine AHs_cons rfl rfl rfl (by decide) (OpT_run (Pu_idxS1 (r := 401) rfl Try.runUnderlying30 Try.sizeOf5 rfl rfl rfl (rowB_rd (l := sigL 1 0 1 zeroId)) (by omega)) ⟨⟨rfl, ⟨rfl, trivial⟩⟩, ?_⟩) ?_
                    ·
                      refine (AH_ready [10] (by kernel_rfl) (by decide) ?_)
                      refine AHs_cons0 rfl rfl rfl (OpT_storeS1 (r := 401) rfl Try.sizeOf5 rfl rfl rfl rfl (by rw [bs_length]; omega) (show _ = bs ((sigL 1 0 1 zeroId).set (36 + k) (at0 (sigL 1 0 1 zeroId) (36 + k) ^^^ bb)) from by rw [← bs_setC]; congr 1) ?_) ?_
                      ·
                        refine ⟨⟨rfl, ⟨rfl, trivial⟩⟩, ?_⟩
                        refine AH_turn (P' := rowB 5 tv ((sigL 1 0 1 zeroId).set (36 + k) (at0 (sigL 1 0 1 zeroId) (36 + k) ^^^ bb))) 401 rfl (fun h hp => rowB_mk hp (by rw [List.length_set]) rfl) ?_
                        refine (AH_done (by kernel_rfl) (X_block ?_))
                        exact X_cut (1, zeroId, pubL 1, (sigL 1 0 1 zeroId).set (36 + k) (at0 (sigL 1 0 1 zeroId) (36 + k) ^^^ bb)) (hT.sig _ _) ⟨rfl, trivial⟩ ⟨rfl, rfl, rfl, rfl, trivial⟩
                      exact AHs_nil
                    exact AHs_nil
                  exact AHs_nil
                exact AHs_nil
              exact AHs_nil
            ·
              refine W_skip (X_block ?_)
              exact X_cut (1, zeroId, pubL 1, sigL 1 0 1 zeroId) hT ⟨rfl, trivial⟩ ⟨rfl, rfl, rfl, rfl, trivial⟩
    ·
      have hpub := hy.pub
      have htl := hy.tl
      have htop := hy.top
      obtain ⟨hrE, hrR⟩ := turned_root hy
      refine W_seq ?_
      refine W_seq ?_
      refine W.pre (K' := [(7, _)]) (L' := [(0, _), (400, _), (401, _), (403, _)]) ?_ ⟨rfl, trivial⟩ ⟨rfl, ⟨rfl, ⟨rfl, ⟨rfl, trivial⟩⟩⟩⟩
      refine W_regL (WL_pure rfl rfl (by decide) (Pu_loadBN (r := 403) rfl Try.isAgg39 Try.sizeOf39 rfl rfl (rootC_length htop) (load_all (rootC_length htop))) (WL_cons rfl rfl (by decide) (OpT_call 500 [0, 400, 401, 403] [] rfl Try.call13 rfl rfl rfl (by decide) (by decide) (right13_spec pv y.2.2.1 y.1 y.2.1 htop tv y.2.2.2 _ (rd_star 1 rfl rowB_rd) (rd_star 2 rfl rowB_rd)) (fun v67 Ps67 hR67 => ?_))))
      obtain ⟨rfl, rfl⟩ := hR67
      refine (WL_pure rfl rfl (by decide) (Pu_bin rfl rfl rfl (run_eql _ _ _ _ _ _)) (WL_nil (X_then ?_)))
      refine W_cond rfl (fun hc68 => ?_) (fun hc68 => ?_)
      ·
        refine W_seq ?_
        refine W.pre (K' := [(7, _), (68, _)]) (L' := [(0, _), (400, _), (401, _), (403, _)]) ?_ ⟨rfl, ⟨rfl, trivial⟩⟩ ⟨rfl, ⟨rfl, ⟨rfl, ⟨rfl, trivial⟩⟩⟩⟩
        refine W_regL (WL_pure rfl rfl (by decide) (Pu_assign rfl rfl) (WL_nil (X_then ?_)))
        refine W_ret (X_then_ret ?_)
        exact X_ret [] (Ps := []) (res1 Try.results5 rfl) rfl (by decide) rfl
      ·
        have hne : ¬ checkT y.2.2.1 (claimL y.1 y.2.1) y.2.2.2 = 0 := of_decide_eq_false hc68
        have hset := turned_set hy hne
        refine W_skip (X_then ?_)
        refine W_seq ?_
        refine W.pre (K' := [(7, _), (68, _)]) (L' := [(0, _), (400, _), (401, _), (403, _)]) ?_ ⟨rfl, ⟨rfl, trivial⟩⟩ ⟨rfl, ⟨rfl, ⟨rfl, ⟨rfl, trivial⟩⟩⟩⟩
        refine W_regL (WL_pure rfl rfl (by decide) (Pu_loadBN (r := 403) rfl Try.isAgg39 Try.sizeOf39 rfl rfl (rootC_length htop) (load_all (rootC_length htop))) (WL_cons rfl rfl (by decide) (OpT_call 600 [0, 400, 401, 403] [] rfl Try.call15 rfl rfl rfl (by decide) (by decide) (root9_spec pv y.2.2.1 y.1 y.2.1 htop tv y.2.2.2 (by omega) (by omega) _ (rd_star 1 rfl rowB_rd) (rd_star 2 rfl rowB_rd)) (fun v71 Ps71 hR71 => ?_))))
        obtain ⟨rv, rfl, rfl⟩ := hR71
        rw [hrE, hrR]
        refine (WL_pure rfl rfl (by decide) (Pu_move rfl rfl) (WL_pure rfl rfl (by decide) (Pu_extract rfl rfl rfl) (WL_pure rfl rfl (by decide) (Pu_extract rfl rfl rfl) (WL_pure rfl rfl (by decide) (Pu_assign rfl rfl) (WL_pure rfl rfl (by decide) (Pu_assign rfl rfl) (WL_nil (X_then ?_)))))))
        refine W_seq ?_
        refine W.pre (K' := [(7, _), (9, _), (10, _), (68, _)]) (L' := [(0, _), (400, _), (401, _), (403, _), (600, _)]) ?_ ⟨rfl, ⟨rfl, ⟨rfl, ⟨rfl, trivial⟩⟩⟩⟩ ⟨rfl, ⟨rfl, ⟨rfl, ⟨rfl, ⟨rfl, trivial⟩⟩⟩⟩⟩
        refine W_regL (WL_cons rfl rfl (by decide) (OpT_call 700 [0, 400, 401, 403, 600] [] rfl Try.call7 rfl rfl rfl (by decide) (by decide) (newS_spec 2 (by decide) _) (fun v75 Ps75 hR75 => ?_)))
        obtain ⟨gs, rfl, rfl⟩ := hR75
        skip
        refine (WL_pure rfl rfl (by decide) (Pu_move rfl rfl) (WL_pure rfl rfl (by decide) (Pu_extract rfl rfl rfl) (WL_pure rfl rfl (by decide) (Pu_extract rfl rfl rfl) (WL_pure rfl rfl (by decide) (Pu_assign rfl rfl) (WL_pure rfl rfl (by decide) (Pu_assign rfl rfl) (WL_nil (X_then ?_)))))))
        refine W_seq ?_
        refine W.pre (K' := [(7, _), (9, _), (10, _), (11, _), (68, _)]) (L' := [(0, _), (400, _), (401, _), (403, _), (600, _), (700, _)]) ?_ ⟨rfl, ⟨rfl, ⟨rfl, ⟨rfl, ⟨rfl, trivial⟩⟩⟩⟩⟩ ⟨rfl, ⟨rfl, ⟨rfl, ⟨rfl, ⟨rfl, ⟨rfl, trivial⟩⟩⟩⟩⟩⟩
        refine W_regL (WL_pure rfl rfl (by decide) (Pu_move rfl rfl) (WL_pure rfl rfl (by decide) (Pu_bin rfl rfl rfl (run_eql _ _ _ _ _ _)) (WL_pure rfl rfl (by decide) (Pu_move rfl rfl) (WL_gPT rfl rfl rfl rfl rfl (by decide) (Pu_move rfl rfl) (WL_gPT rfl rfl rfl rfl rfl (by decide) (Pu_move rfl rfl) (WL_gT rfl rfl rfl rfl rfl (by decide) (OpT_call 800 [0, 400, 401, 403, 600] [700] rfl Try.call10 rfl rfl rfl (by decide) (by decide) (setS_none gs 2 (by decide) _ (rootLs y.2.2.1 y.1 y.2.1 y.2.2.2).flatten (by rw [root_length hpub htop]; omega) 0 9 0 _ (rd_star 4 rfl rowB_rd)) (fun v83 Ps83 hR83 => ?_))))))))
        obtain ⟨rfl, rfl⟩ := hR83
        rw [hset]
        refine (WL_gPT rfl rfl rfl rfl rfl (by decide) (Pu_bin rfl rfl rfl (run_eql _ _ _ _ _ _)) (WL_pure rfl rfl (by decide) (Pu_pickT rfl rfl rfl rfl) (WL_pure rfl rfl (by decide) (Pu_move rfl rfl) (WL_gPT rfl rfl rfl rfl rfl (by decide) (Pu_move rfl rfl) (WL_gT rfl rfl rfl rfl rfl (by decide) (OpT_call 900 [0, 400, 401, 403, 600] [800] rfl Try.call11 rfl rfl rfl (by decide) (by decide) (allS_spec gs 2 _ (fun p h => by cases h) _) (fun v88 Ps88 hR88 => ?_)))))))
        obtain ⟨zs, hzs, rfl⟩ := hR88
        obtain rfl := es_none hzs
        refine (WL_gPT rfl rfl rfl rfl rfl (by decide) (Pu_len (r := 901) rfl Try.runUnderlying34 rfl rfl (fun h hp => rowP_rd hp)) (WL_gPT rfl rfl rfl rfl rfl (by decide) (Pu_bin rfl rfl rfl (run_eql _ _ _ _ _ _)) (WL_pure rfl rfl (by decide) (Pu_pickT rfl rfl rfl rfl) (WL_pure rfl rfl (by decide) (Pu_assign rfl rfl) (WL_nil (X_then ?_))))))
        refine W_ret ?_
        exact X_ret [] (Ps := []) (res1 Try.results5 rfl) rfl (by decide) rfl
theorem slotsForged_any (W : World) (a0 : Int) (lo0 : -9223372036854775808 ≤ a0) (hi0 : a0 ≤ 9223372036854775807) (a1 : Int) (lo1 : -9223372036854775808 ≤ a1) (hi1 : a1 ≤ 9223372036854775807) (a2 : UInt8) :
    Calls Try.prog 5 #[.int .i64 a0, .int .i64 a1, bv a2] W fun e W' => e = .returned (.bool true) ∧ Chg [] W W' := calls_law (slotsForged_law a0 a1 a2 _)
end Go.Proofs.Ytinamipkpdlphaa
/- From a reading of an argument to plain facts: ints, bools, strings, slices of bytes, of ints, of rows of bytes, of structs. -/
namespace Go.Proofs.Ytinamipkpdlphaa
open Go.RowKit Go.ChangeShapes Go.WideShapes Go.Deep

theorem wf_i64 {n : Int} (h : (Lit.int .i64 n).wf = true) : -9223372036854775808 ≤ n ∧ n ≤ 9223372036854775807 := by
  simp only [Lit.wf, Bool.and_eq_true, decide_eq_true_eq] at h
  have h1 : IntKind.min .i64 = -9223372036854775808 := by decide
  have h2 : IntKind.max .i64 = 9223372036854775807 := by decide
  rw [h1, h2] at h
  exact h
theorem wf_u8 {n : Int} (h : (Lit.int .u8 n).wf = true) : 0 ≤ n ∧ n ≤ 255 := by
  simp only [Lit.wf, Bool.and_eq_true, decide_eq_true_eq] at h
  have h1 : IntKind.min .u8 = 0 := by decide
  have h2 : IntKind.max .u8 = 255 := by decide
  rw [h1, h2] at h
  exact h

/-- A slice of ints that reads as zs. -/
def RdI (w : World) (v : Value) (zs : List Int) : Prop := Rd w 1 v zs.length (zs.map (Value.int .i64))
def I64 (zs : List Int) : Prop := ∀ z ∈ zs, -9223372036854775808 ≤ z ∧ z ≤ 9223372036854775807
/-- A slice of bools that reads as l. -/
def RdT (w : World) (v : Value) (l : List Bool) : Prop := Rd w 1 v l.length (l.map Value.bool)
/-- A slice of rows of bytes: each with its value and its bytes. -/
def RdR (w : World) (v : Value) (ps : List (Value × List UInt8)) : Prop := Rd w 1 v ps.length (ps.map (·.1)) ∧ ∀ p ∈ ps, RdB w p.1 p.2

section
variable {H : Type} {enc : TypeId × Value → H} {P : Program} {w : World} {base : Nat} {spare : Nat → Bool} {held : Bool}

end

section
variable {H : Type} {enc : TypeId × Value → H} {P : Program} {w : World} {base b0 : Nat} {spare : Nat → Bool} {held : Bool} {r : Reach} {t : TypeId} {v : Value} {d : DataW H} {ps : List MemPlace}
theorem op_int (ht : P.underlying t = some (.int .i64)) (hv : Value.okWide P w r b0 t v) (h : DataW.Trod enc P w base spare held t v d ps) : ∃ n, v = .int .i64 n ∧ -9223372036854775808 ≤ n ∧ n ≤ 9223372036854775807 := by
  obtain ⟨n, rfl, _, _, hw⟩ := open_int ht hv h
  exact ⟨n, rfl, (wf_i64 hw).1, (wf_i64 hw).2⟩
end
end Go.Proofs.Ytinamipkpdlphaa
/- From a reading of an argument to plain facts: structs and arrays by value, slices of them. -/
namespace Go.Proofs.Ytinamipkpdlphaa
open Go.RowKit Go.ChangeShapes Go.WideShapes Go.Deep
set_option linter.unusedVariables false
section
variable {H : Type} {enc : TypeId × Value → H} {P : Program} {w : World} {base : Nat} {spare : Nat → Bool} {held : Bool}
/-- These cells read as a value of the type. -/
def Tr (enc : TypeId × Value → H) (P : Program) (w : World) (base : Nat) (spare : Nat → Bool) (held : Bool) (t : TypeId) (cs : List Value) : Prop := ∃ fuel x, DataW.trod enc P w base spare held fuel t cs = some x
theorem Tr.int {t : TypeId} {cs : List Value} (ht : P.underlying t = some (.int .i64)) (h : Tr enc P w base spare held t cs) : ∃ n, cs = [.int .i64 n] ∧ -9223372036854775808 ≤ n ∧ n ≤ 9223372036854775807 := by
  obtain ⟨f, x, h⟩ := h
  obtain ⟨n, rfl, _, hw⟩ := DataW.trod_int ht h
  exact ⟨n, rfl, wf_i64 hw⟩
theorem Tr.bool {t : TypeId} {cs : List Value} (ht : P.underlying t = some .bool) (h : Tr enc P w base spare held t cs) : ∃ b, cs = [Value.bool b] := by
  obtain ⟨f, x, h⟩ := h
  obtain ⟨b, rfl, _⟩ := DataW.trod_bool ht h
  exact ⟨b, rfl⟩
theorem Tr.u8 {t : TypeId} {cs : List Value} (ht : P.underlying t = some (.int .u8)) (h : Tr enc P w base spare held t cs) : ∃ x, cs = [bv x] := by
  obtain ⟨f, x, h⟩ := h
  obtain ⟨n, rfl, _, hw⟩ := DataW.trod_int ht h
  have := wf_u8 hw
  refine ⟨UInt8.ofNat n.toNat, ?_⟩
  simp only [bv]
  congr 2
  rw [UInt8.toNat_ofNat']
  omega
theorem Tr.struct {t : TypeId} {cs : List Value} {fs : Array Field} (ht : P.underlying t = some (.struct fs)) (h : Tr enc P w base spare held t cs) : cs.length = P.cellsOf t ∧ ∀ (i : Nat) (f : Field), fs[i]? = some f → Tr enc P w base spare held f.type ((cs.drop f.offset).take (P.cellsOf f.type)) := by
  obtain ⟨f, x, h⟩ := h
  obtain ⟨xs, n, _, _, hl, hx, hf⟩ := DataW.trod_struct ht h
  refine ⟨hl, fun i f hi => ?_⟩
  have h1 := hf i f hi
  have hlt : i < xs.length := by rw [hx]; exact (Array.getElem?_eq_some_iff.1 hi).1
  rw [List.getElem?_eq_getElem hlt] at h1
  exact ⟨n, _, h1⟩
theorem Tr.array {t e : TypeId} {n : Nat} {cs : List Value} (ht : P.underlying t = some (.array n e)) (h : Tr enc P w base spare held t cs) : cs.length = P.cellsOf t ∧ ∀ i, i < n → Tr enc P w base spare held e ((cs.drop (i * P.cellsOf e)).take (P.cellsOf e)) := by
  obtain ⟨f, x, h⟩ := h
  obtain ⟨xs, m, _, _, hl, hx, hf⟩ := DataW.trod_array ht h
  refine ⟨hl, fun i hi => ?_⟩
  have h1 := hf i hi
  rw [List.getElem?_eq_getElem (by omega)] at h1
  exact ⟨m, _, h1⟩
/-- An array of bytes. -/
theorem Tr.bytes {t e : TypeId} {n : Nat} {cs : List Value} (ht : P.underlying t = some (.array n e)) (he : P.underlying e = some (.int .u8)) (hc : P.cellsOf e = 1) (hn : P.cellsOf t = n) (h : Tr enc P w base spare held t cs) : ∃ l, cs = bs l ∧ l.length = n := by
  obtain ⟨hl, hf⟩ := h.array ht
  rw [hn] at hl
  rw [hc] at hf
  have key : ∀ (cs : List Value), (∀ i, i < cs.length → Tr enc P w base spare held e ((cs.drop (i * 1)).take 1)) → ∃ l, cs = bs l := by
    intro cs
    induction cs with
    | nil => intro _; exact ⟨[], rfl⟩
    | cons u cs ih =>
      intro h
      obtain ⟨l, rfl⟩ := ih (fun i hi => by
        have := h (i + 1) (by simpa using hi)
        simpa using this)
      obtain ⟨x, hx⟩ := (h 0 (by simp)).u8 he
      simp at hx
      exact ⟨x :: l, by simp [bs, hx]⟩
  obtain ⟨l, rfl⟩ := key cs (fun i hi => hf i (by omega))
  exact ⟨l, rfl, by rw [← hl, bs_length]⟩
end
section
variable {H : Type} {enc : TypeId × Value → H} {P : Program} {w : World} {base b0 : Nat} {spare : Nat → Bool} {held : Bool} {r : Reach} {t : TypeId} {v : Value} {d : DataW H} {ps : List MemPlace}
end
end Go.Proofs.Ytinamipkpdlphaa
/- A byte handed in. -/
namespace Go.Proofs.Ytinamipkpdlphaa
open Go.ChangeShapes Go.WideShapes Go.ChangeAt Go.RowKit
set_option linter.unusedVariables false
section
variable {P : Program} {H : Type} {enc : TypeId × Value → H} {w : World} {base b0 : Nat} {spare : Nat → Bool} {held : Bool} {r : Reach} {t : TypeId} {v : Value} {d : DataW H} {ps : List MemPlace}
theorem op_u8 (ht : P.underlying t = some (.int .u8)) (hv : Value.okWide P w r b0 t v) (h : DataW.Trod enc P w base spare held t v d ps) : ∃ b : UInt8, v = bv b := by
  obtain ⟨n, rfl, _, _, hw⟩ := open_int ht hv h
  have := wf_u8 hw
  refine ⟨UInt8.ofNat n.toNat, ?_⟩
  have h2 : (UInt8.ofNat n.toNat).toNat = n.toNat := by rw [UInt8.toNat_ofNat']; omega
  unfold bv
  rw [h2]
  congr 1
  omega
end
end Go.Proofs.Ytinamipkpdlphaa
