/- Texts of this proof, one behind the other: TreeO, TreeP, TreeQ, Froz, TreeR, TreeS, TreeU, TreeV, TreeBA, TreeBB, TreeBD, TreeBE, TreeBF, TreeBG. -/
import Derived.Test.YthkdkmaacjpneaaGreatDoorK5
import Derived.Test.YthkdkmaacjpneaaGreatDoorK3
import Derived.Deep.AppendSrc
import Derived.Lib.SlBytesConst
import Derived.Test.YthkdkmaacjpneaaGreatDoorK4
set_option linter.unusedVariables false
set_option linter.unusedSimpArgs false
set_option linter.unusedSectionVars false
namespace Go.Proofs.YthkdkmaacjpneaaGreatDoor
open Go.RowKit
set_option maxRecDepth 8000
theorem bvs_len (xs : List BV) : ∀ x ∈ xs,(bvC x).length = 35:=fun x _ => bvC_length x
theorem eb_all {es : List EB} {k : Nat} {b : EB} (hb : es[k]? = some b) : ((recC bvC (es.map (·.1))).drop (k * 35)).take 35 = bvC b.1:=by
  obtain ⟨hk,he⟩:=List.getElem?_eq_some_iff.1 hb
  have:=recC_get (d:=default) (bvs_len (es.map (·.1))) (show k < (es.map (·.1)).length by rw [List.length_map]; exact hk)
  rw [this]
  congr 1
  simp [hk,he]
theorem put_ents {k : List UInt8} {v : Value} {d : List UInt8} {ls : List LB} (h : lookA k ls = none) : putQ k v (entsL ls) = entsL (ls ++ [(k,v,d)]):=by
  rw [put_new (by rw [entsL_fil,lookQ_fil,h]; rfl)]
  unfold entsL
  rw [List.map_append]
  rfl
theorem viewT_snoc (l : List TB) (b : TB) (k : List UInt8) : viewT (l ++ [b]) k = (viewT l k).or (if b.1 = k ∧ sha b.2.1 = k then some b.2.1 else none):=by
  unfold viewT
  rw [List.find?_append]
  cases h : l.find? (fun b => decide (b.1 = k) && decide (sha b.2.1 = k)) with
  | some x => simp
  | none =>
    simp only [Option.none_or,Option.map_none]
    by_cases h1 : b.1 = k ∧ sha b.2.1 = k
    · simp [List.find?,h1.1,h1.2]
    · rw [if_neg h1]
      have : (decide (b.1 = k) && decide (sha b.2.1 = k)) = false:=by
        rw [Bool.and_eq_false_iff,decide_eq_false_iff_not,decide_eq_false_iff_not]
        by_cases h2 : b.1 = k
        · exact .inr fun h3 => h1 ⟨h2,h3⟩
        · exact .inl h2
      simp [List.find?,this]
theorem vw_snoc (ls : List LB) (k0 : List UInt8) (v : Value) (d k : List UInt8) : vw (ls ++ [(k0,v,d)]) k = (vw ls k).or (if k = k0 then some d else none):=by
  unfold vw
  rw [lookA_app,lookA,lookA]
  cases h : lookA k ls with
  | some p => simp
  | none => by_cases hk : k = k0 <;> simp [hk]
theorem take_snoc {es : List EB} {k : Nat} {b : EB} (hb : es[k]? = some b) : (es.take (k + 1)).map toTB = (es.take k).map toTB ++ [toTB b]:=by
  rw [List.take_add_one,hb,List.map_append]
  rfl
theorem view_old {ls : List LB} {es : List EB} {k : Nat} {b : EB} {p : Value × List UInt8} (hb : es[k]? = some b) (hv : vw ls = viewT ((es.take k).map toTB)) (hlk : lookA b.1.key ls = some p) : vw ls = viewT ((es.take (k + 1)).map toTB):=by
  rw [take_snoc hb]
  funext q
  rw [viewT_snoc,← hv]
  by_cases hq : b.1.key = q
  · subst hq; rw [vw_some hlk]; rfl
  · rw [if_neg (fun h => hq h.1),Option.or_none]
theorem view_bad {ls : List LB} {es : List EB} {k : Nat} {b : EB} (hb : es[k]? = some b) (hv : vw ls = viewT ((es.take k).map toTB)) (hne : (sha b.2 == b.1.key) = false) : vw ls = viewT ((es.take (k + 1)).map toTB):=by
  rw [take_snoc hb]
  funext q
  rw [viewT_snoc,← hv,if_neg (fun h => ?_),Option.or_none]
  have : sha b.2 = b.1.key:=h.2.trans h.1.symm
  rw [this] at hne
  simp at hne
theorem view_new {ls : List LB} {es : List EB} {k : Nat} {b : EB} (hb : es[k]? = some b) (hv : vw ls = viewT ((es.take k).map toTB)) (hlk : lookA b.1.key ls = none) (hs : (sha b.2 == b.1.key) = true) : vw (ls ++ [(b.1.key,b.1.sl,b.2)]) = viewT ((es.take (k + 1)).map toTB):=by
  have hs : sha b.2 = b.1.key:=by simpa using hs
  rw [take_snoc hb]
  funext q
  rw [viewT_snoc,vw_snoc,← hv]
  congr 1
  by_cases hq : q = b.1.key
  · subst hq; rw [if_pos rfl,if_pos ⟨rfl,hs⟩]; rfl
  · rw [if_neg hq,if_neg (fun h => hq h.1.symm)]
theorem tree_id {v : Value} {id : List UInt8} (h : id.length = 32) : ((treeC v id).drop 1).take 32 = bs id:=by
  show (bs id).take 32 = _
  exact List.take_of_length_le (by rw [bs_length]; omega)
theorem ds9 {Js : List HP} {P : HP} {es : List EB} (k : Nat) (hk : Js[k]? = some P) (hp : ∀ h,P h → datE es h) : ∀ h,starL Js h → datE es h:=fun h hs p hpm => rs9 k hk (fun h' hh => hp h' hh p hpm) h hs
theorem look_rd {es : List EB} {ls : List LB} {F : HP} (hD : ∀ h,F h → datE es h) (h0 : ∀ p ∈ ls,∃ b ∈ es,p.2 = (b.1.sl,b.2)) : ∀ p ∈ ls,∀ h,F h → rdB p.2.1 p.2.2 h:=fun p hp h hh => by
  obtain ⟨b,hb,he⟩:=h0 p hp
  rw [he]
  exact hD h hh b hb
theorem look_spec (es : List EB) (v : Value) (id : List UInt8) (hel : es.length ≤ 1000000000000) (hdl : ∀ b ∈ es,b.2.length ≤ 1000000000) (F : HP) (hF : ∀ h,F h → rdP 35 v (es.map (·.1)).length (recC bvC (es.map (·.1))) h) (hD : ∀ h,F h → datE es h) : CallsS Tryz.prog 43 #[.agg (treeC v id).toArray] F [] (fun r Ps => ∃ gm ls,r = .map (some gm) ∧ Ps = [mapQ idV ok32 gm (entsL ls) none] ∧ (∀ p ∈ ls,∃ b ∈ es,p.2 = (b.1.sl,b.2)) ∧ vw ls = viewT (es.map toTB)):=by
 have hml : (es.map (·.1)).length = es.length:=List.length_map _
 refine callsS_enter Tryz.func43 rfl Tryz.ntmps43 (by simp) (fun E => ?_)
 refine Q9 (R9 (Lc9 rfl rfl (by decide) (OpT_box (r:=101) rfl rfl rfl (fun g101 => (G9 rfl rfl (N9 (X9 (Q9 (R9 (Lc9 rfl rfl (by decide) (OpT_makeMapQ (r:=150) (enc:=idV) (ok:=ok32) rfl (fun gm => ?_))))))))))))
 skip
 refine (G9 rfl rfl (N9 (X9 ?_)))
 refine Q9 (Q9 (R9 (L9 rfl (F9 0 rfl rfl) (L9 rfl (Pb9 (r:=101) rfl Tryz.isAgg27 rfl rfl rfl) (L9 rfl (Pl9 (r:=0) rfl Tryz.runUnderlying27 rfl rfl hF) (M9 rfl rfl (N9 (X9 ?_))))))))
 refine W_block ?_
 rw [hml]
 refine W_loop (α:=Nat × List LB) (fun x => [(3,.map (some gm)),(10,v),(11,.int .i64 (es.length : Int)),(12,.int .i64 (x.1 : Int))]) (fun x => [(0,F),(150,mapQ idV ok32 gm (entsL x.2) none),(101,blk g101 31 (treeC v id))]) (fun x => x.1 ≤ es.length ∧ (∀ p ∈ x.2,∃ b ∈ es,p.2 = (b.1.sl,b.2)) ∧ vw x.2 = viewT ((es.take x.1).map toTB)) (fun x => es.length - x.1) ((0,[])) ⟨Nat.zero_le _,fun p hp => absurd hp (by simp),rfl⟩ (a9 rfl) (a9 rfl) (fun x hx => ?_)
 obtain ⟨hx1,hx2,hx3⟩:=hx
 refine Q9 (R9 (L9 rfl (Pn9 rfl rfl rfl (run_lss _ _ _ _ _ _)) (N9 (X9 (Q9 ?_)))))
 refine C9 rfl (fun hc13 => ?_) (fun hc13 => ?_)
 ·
  have hlt : x.1 < es.length:=by have:=of_decide_eq_true hc13; omega
  obtain ⟨b,hb⟩ : ∃ b,es[x.1]? = some b:=⟨_,List.getElem?_eq_getElem hlt⟩
  have hbm:=List.mem_of_getElem? hb
  refine K9 (X9 ?_)
  refine Q9 ?_
  refine W_block ?_
  refine Q9 (R9 (L9 rfl (Pi9 (r:=0) rfl Tryz.runUnderlying27 Tryz.sizeOf59 rfl rfl rfl hF (by rw [hml]; omega)) (L9 rfl (Pz9 (r:=0) rfl Tryz.isAgg59 Tryz.sizeOf59 rfl rfl hF (bvC_length b.1) (by decide) (eb_all hb)) (Lc9 rfl rfl (by decide) (OpT_alloc (r:=102) rfl (zero_run (by kernel_rfl : (Tryz.prog.info? 59).bind (·.zero) = some (.agg (bkC zeroId (.slice none 0 0) 0 0).toArray))) rfl (fun g102 => (Lc09 rfl rfl (OpT_storeAll (r:=102) rfl Tryz.sizeOf59 rfl rfl rfl (bkC_length zeroId_length) (bvC_length b.1) (bvC_one b.1) ?_))))))))
  refine (N9 (X9 ?_))
  refine Q9 (R9 (M9 rfl rfl (L9 rfl (F9 0 rfl rfl) (L9 rfl (Px9 (r:=102) rfl Tryz.isAgg29 Tryz.sizeOf29 rfl rfl ((bs_length _).trans b.1.len) (bk_key b.1.len)) (L9 rfl (Pu_lookupOkQ (r:=150) keyB rfl Tryz.underlying93 Tryz.zeroValue36 rfl rfl b.1.len rfl) ?_)))))
  rw [entsL_fil,lookQ_fil]
  refine (M9 rfl rfl (L9 rfl (Pe9 rfl rfl rfl) (L9 rfl (Pe9 rfl rfl rfl) (G9 rfl rfl (G9 rfl rfl (N9 (X9 ?_)))))))
  refine Q9 ?_
  rcases Bool.eq_false_or_eq_true ((lookA b.1.key x.2).isSome) with hsp6 | hsp6
  ·
   obtain ⟨p,hlk⟩:=is_some_T hsp6
   rw [hlk]
   refine W_draw (N:=10) (by kernel_rfl) rfl [(0,_),(101,_),(102,_)] ⟨rfl,rfl,rfl,trivial⟩ ?_
   refine (T9 0 rfl rfl (Pm9 rfl rfl) (T9 1 rfl rfl (Pu_un rfl rfl (run_not _)) (T9 2 rfl rfl (Pm9 rfl rfl) (AH_takeF 3 rfl (by kernel_rfl) (by kernel_rfl) (by kernel_rfl) rfl rfl rfl rfl rfl (by decide) (AH_takeF 4 rfl (by kernel_rfl) (by kernel_rfl) (by kernel_rfl) rfl rfl rfl rfl rfl (by decide) (AH_takeF 6 rfl (by kernel_rfl) (by kernel_rfl) (by kernel_rfl) rfl rfl rfl rfl rfl (by decide) (AH_takeF 7 rfl (by kernel_rfl) (by kernel_rfl) (by kernel_rfl) rfl rfl rfl rfl rfl (by decide) (Y9 [5] ?_))))))))
   refine AHs_gF rfl rfl rfl rfl rfl rfl (by decide) ?_ ?_
   ·
    refine (AH_takeF 8 rfl (by kernel_rfl) (by kernel_rfl) (by kernel_rfl) rfl rfl rfl rfl rfl (by decide) (T9 9 rfl rfl (Pu_pickF rfl rfl rfl rfl) (Ad9 (by kernel_rfl) (X9 ?_))))
    refine W_false rfl (rfl) ?_
    refine K9 (X_block (X9 ?_))
    refine R9 (L9 rfl (Pn9 rfl rfl rfl (run_add _ _ _ _ _ (by omega))) (M9 rfl rfl (N9 ?_)))
    exact Xr9 (x.1 + 1,x.2) ⟨by dsimp only; omega,hx2,view_old hb hx3 hlk⟩ (by dsimp only; omega) (a9 rfl) (a9 rfl)
   exact An9
  ·
   have hlk:=is_none_F hsp6
   rw [hlk]
   refine W_draw (N:=10) (by kernel_rfl) rfl [(0,_),(101,_),(102,_)] ⟨rfl,rfl,rfl,trivial⟩ ?_
   refine (T9 0 rfl rfl (Pm9 rfl rfl) (T9 1 rfl rfl (Pu_un rfl rfl (run_not _)) (T9 2 rfl rfl (Pm9 rfl rfl) (AH_takeT 3 rfl (by kernel_rfl) (by kernel_rfl) (by kernel_rfl) rfl rfl rfl rfl rfl (by decide) (F9 32 rfl rfl) (AH_takeT 4 rfl (by kernel_rfl) (by kernel_rfl) (by kernel_rfl) rfl rfl rfl rfl rfl (by decide) (Pb9 (r:=102) rfl Tryz.isAgg36 rfl rfl (bk_data b.1.len)) (AH_takeT 6 rfl (by kernel_rfl) (by kernel_rfl) (by kernel_rfl) rfl rfl rfl rfl rfl (by decide) (F9 0 rfl rfl) (AH_takeT 7 rfl (by kernel_rfl) (by kernel_rfl) (by kernel_rfl) rfl rfl rfl rfl rfl (by decide) (Px9 (r:=102) rfl Tryz.isAgg29 Tryz.sizeOf29 rfl rfl ((bs_length _).trans b.1.len) (bk_key b.1.len)) (Y9 [5] ?_))))))))
   refine AHs_gT rfl rfl rfl rfl rfl rfl (by decide) (Oc9 200 [0,101,102,150] [] rfl Tryz.call72 rfl rfl rfl (by decide) (by decide) (sum_spec b.1.sl b.2 (hdl b hbm) _ (rs9 0 rfl (fun h hp => hD h hp b hbm))) (fun v28 Ps28 hR28 => ?_)) ?_
   ·
    obtain ⟨rfl,rfl⟩:=hR28
    refine ⟨⟨rfl,rfl,rfl,trivial⟩,?_⟩
    refine (AH_takeT 8 rfl (by kernel_rfl) (by kernel_rfl) (by kernel_rfl) rfl rfl rfl rfl rfl (by decide) (Pn9 rfl rfl rfl (run_idEq _ _ (sha_length _) b.1.len _ _)) (T9 9 rfl rfl (Pu_pickT rfl rfl rfl rfl) (Ad9 (by kernel_rfl) (X9 ?_))))
    refine C9 rfl (fun hc32 => ?_) (fun hc32 => ?_)
    ·
     refine R9 (M9 rfl rfl (L9 rfl (F9 0 rfl rfl) (L9 rfl (Px9 (r:=102) rfl Tryz.isAgg29 Tryz.sizeOf29 rfl rfl ((bs_length _).trans b.1.len) (bk_key b.1.len)) (L9 rfl (F9 32 rfl rfl) (L9 rfl (Pb9 (r:=102) rfl Tryz.isAgg36 rfl rfl (bk_data b.1.len)) (Lc09 rfl rfl (OpT_mapPutQ (r:=150) (k:=b.1.key) (v:=b.1.sl) (es:=entsL x.2) (g:=gm) keyB rfl Tryz.underlying93 rfl rfl b.1.len rfl rfl ?_)))))))
     refine (N9 (X_block (X9 ?_)))
     refine R9 (L9 rfl (Pn9 rfl rfl rfl (run_add _ _ _ _ _ (by omega))) (M9 rfl rfl (N9 ?_)))
     refine X_turn (P':=mapQ idV ok32 gm (entsL (x.2 ++ [(b.1.key,b.1.sl,b.2)])) none) 150 rfl (fun h hp => by rw [← put_ents hlk]; exact hp) ?_
     exact Xr9 (x.1 + 1,x.2 ++ [(b.1.key,b.1.sl,b.2)]) ⟨by dsimp only; omega,fun p hp => (List.mem_append.1 hp).elim (hx2 p) (fun h => ⟨b,hbm,by rw [List.mem_singleton.1 h]⟩),view_new hb hx3 hlk hc32⟩ (by dsimp only; omega) (a9 rfl) (a9 rfl)
    ·
     refine K9 (X_block (X9 ?_))
     refine R9 (L9 rfl (Pn9 rfl rfl rfl (run_add _ _ _ _ _ (by omega))) (M9 rfl rfl (N9 ?_)))
     exact Xr9 (x.1 + 1,x.2) ⟨by dsimp only; omega,hx2,view_bad hb hx3 hc32⟩ (by dsimp only; omega) (a9 rfl) (a9 rfl)
   exact An9
 ·
  have hge : es.length ≤ x.1:=by have:=of_decide_eq_false hc13; omega
  refine W_exit (X_then_exit (X_then_exit (X_block_exit (X9 ?_))))
  refine Q9 (R9 (M9 rfl rfl (G9 rfl rfl (N9 (X9 ?_)))))
  refine W_ret ?_
  exact Xq9 [150] (Ps:=[_]) (res1 Tryz.results43 rfl) rfl (by decide) ⟨gm,x.2,rfl,rfl,hx2,by rw [hx3,List.take_of_length_le hge]⟩
theorem find_spec (es : List EB) (v : Value) (id : List UInt8) (hid : id.length = 32) (hel : es.length ≤ 1000000000000) (hdl : ∀ b ∈ es,b.2.length ≤ 1000000000) (F : HP) (hF : ∀ h,F h → rdP 35 v (es.map (·.1)).length (recC bvC (es.map (·.1))) h) (hD : ∀ h,F h → datE es h) (hT : ∀ h,F h → tabsP h) (path : List UInt8) (hpl : path.length ≤ 1000000000) : CallsS Tryz.prog 19 #[.agg (treeC v id).toArray,sV path] F [] (fun r Ps => r = .tuple #[.agg (ndC (pathV (viewT (es.map toTB)) id path).1).toArray,.int .i64 (pathV (viewT (es.map toTB)) id path).2] ∧ Ps = []):=by
 refine callsS_enter Tryz.func19 rfl Tryz.ntmps19 (by simp) (fun E => ?_)
 refine Q9 (R9 (Lc9 rfl rfl (by decide) (OpT_box (r:=101) rfl rfl rfl (fun g101 => (Lc9 rfl rfl (by decide) (OpT_alloc (r:=102) (cs:=(nodeC 0 0 0 zeroId)) rfl (zero_run (by kernel_rfl : (Tryz.prog.info? 42).bind (·.zero) = some (.agg (nodeC 0 0 0 zeroId).toArray))) rfl (fun g102 => (G9 rfl rfl (N9 (X9 (Q9 ?_)))))))))))
 refine W_draw (N:=10) (by kernel_rfl) rfl [(0,_),(101,_)] ⟨rfl,rfl,trivial⟩ ?_
 refine (T9 0 rfl rfl (Px9 (r:=101) rfl Tryz.isAgg31 Tryz.sizeOf31 rfl rfl (treeC_length hid) (load_all (treeC_length hid))) (T9 2 rfl rfl (F9 1 rfl rfl) (T9 3 rfl rfl (Px9 (r:=101) rfl Tryz.isAgg29 Tryz.sizeOf29 rfl rfl ((bs_length _).trans hid) (tree_id hid)) (T9 4 rfl rfl (Pm9 rfl rfl) (Y9 [1] ?_)))))
 refine Z9 rfl rfl (Oc9 200 [0,101,102] [] rfl Tryz.call43 rfl rfl rfl (by decide) (by decide) (look_spec es v id hel hdl _ (rs9 0 rfl hF) (ds9 0 rfl hD)) (fun v7 Ps7 hR7 => ?_)) ?_
 ·
  obtain ⟨gm,ls,rfl,rfl,hL0,hvw⟩:=hR7
  refine ⟨⟨rfl,rfl,trivial⟩,?_⟩
  skip
  refine (Y9 [5] ?_)
  refine Z9 rfl rfl (Oc9 300 [0,101,102,200] [] rfl Tryz.call44 rfl rfl rfl (by decide) (by decide) (view_find gm ls _ (mapQ_star 3 rfl (fun _ h => h)) (fun p0 hp0 => rs9 0 rfl (look_rd hD hL0 p0 hp0)) (ts9 0 rfl hT) id path hid hpl) (fun v11 Ps11 hR11 => ?_)) ?_
  ·
   obtain ⟨rfl,rfl⟩:=hR11
   refine ⟨⟨rfl,rfl,trivial⟩,?_⟩
   rw [hvw]
   refine (T9 6 rfl rfl (Pe9 rfl rfl rfl) (T9 7 rfl rfl (Pe9 rfl rfl rfl) (Y9 [8] ?_)))
   refine Ac09 rfl rfl rfl (OpT_storeAll (r:=102) rfl Tryz.sizeOf42 rfl rfl rfl (nodeC_length zeroId_length) (ndC_length (pathV_top _ _ _)) (one_node _ _ _ _) ?_) ?_
   ·
    refine ⟨⟨rfl,rfl,trivial⟩,?_⟩
    refine (T9 9 rfl rfl (Pg9 rfl rfl) (Ad9 (by kernel_rfl) (X9 ?_)))
    refine W_ret ?_
    exact Xq9 [] (Ps:=[]) (resC2 (r:=102) Tryz.results19 rfl rfl Tryz.isAgg42 Tryz.sizeOf42 rfl (ndC_length (pathV_top _ _ _))) rfl (by decide) ⟨rfl,rfl⟩
   exact An9
  exact An9
 exact An9
open Go.RowKit
set_option maxRecDepth 8000
theorem dir_none : dirR [] = []:=by decide
theorem rows_none : rowsD [] = []:=rfl
theorem above_none : aboveD [] = ([],0,[]):=by unfold aboveD; rw [rows_none]; exact above_small (by simp)
theorem node_none : nodeF 2 [] = inodeB 2 0 0 zeroId:=by
  unfold nodeF topF
  rw [above_none]
  decide
theorem blocks_none : blocksF 2 [] = [nodeF 2 []]:=by unfold blocksF; rw [above_none,rows_none]; rfl
theorem parse_none : parseI (nodeF 2 []) = ((2,0,0,zeroId),0):=by rw [node_none]; exact parse_inode zeroId_length (by decide)
theorem filled_none {T : HT} (h : Filled [] T) : idT T = sha (nodeF 2 []) ∧ blocksT T = [nodeF 2 []]:=by
  generalize hl : ([] : List F3) = l at h
  cases h with
  | nil g gd gf =>
    refine ⟨?_,?_⟩
    · rw [idT,entsD]
      show idF 2 (dirR []) = _
      rw [dir_none]
      rfl
    · rw [blocksT,entsD,blocksDs]
      show [] ++ [] ++ blocksF 2 (dirR []) = _
      rw [dir_none,blocks_none]
      rfl
  | snoc l x T T' h1 h2 h3 => simp at hl
theorem tree_one {d : List UInt8} {l : List TB} (h : TreeOf [d] l) : l = [(sha d,d,0,0)]:=by
  have hall : ∀ p ∈ l,p = (sha d,d,0,0):=fun p hp => by
    obtain ⟨h1,h2,h3⟩:=h.from_ p hp
    have h2 : p.2.1 = d:=by simpa using h2
    obtain ⟨p1,p2,p3⟩:=p
    simp only at h1 h2 h3
    subst h2; subst h1; rw [h3]
  match l,h,hall with
  | [],h,_ => have:=h.all d (by simp); simp at this
  | [p],_,hall => rw [hall p (by simp)]
  | p :: q :: r,h,hall =>
    have h1:=(List.pairwise_cons.1 h.sorted).1 q (by simp)
    rw [hall p (by simp),hall q (by simp),ltK_irrefl] at h1
    cases h1
theorem split_top : splitN [47] = ([],0):=by unfold splitN; rw [if_pos rfl]
theorem path_none : pathV (viewT [(sha (nodeF 2 []),nodeF 2 [],0,0)]) (sha (nodeF 2 [])) [47] = ((2,0,0,zeroId),0):=by
  have hv : viewT [(sha (nodeF 2 []),nodeF 2 [],0,0)] (sha (nodeF 2 [])) = some (nodeF 2 []):=by
    unfold viewT
    simp [List.find?]
  have hi : inodeV (viewT [(sha (nodeF 2 []),nodeF 2 [],0,0)]) (sha (nodeF 2 [])) = ((2,0,0,zeroId),0):=by
    unfold inodeV
    rw [hv]
    exact parse_none
  unfold pathV
  rw [split_top,hi]
  rfl
theorem build_none : buildE [] = 0:=rfl
theorem node_len : (nodeF 2 []).length ≤ 39:=by rw [node_none]; decide
open Go.RowKit
set_option maxRecDepth 8000
theorem W_openTree {P : Program} {E : Env} {n : Nat} {K : Slots} {L : Res} {Q : Exit → Act → World → Prop} {c : Code} (r b : Nat) {v : Value} {l : List TB} (hr : look L r = some (treeP v l))
    (k : ∀ es : List EB,es.map toTB = l → W P E n c K (En b [rowP 59 35 v es.length (recC bvC (es.map (·.1))),datE es] ++ (r,emp) :: L) Q) : W P E n c K L Q :=
  W_open (φ:=fun es : List EB => es.map toTB = l) (Ps:=fun es : List EB => [rowP 59 35 v es.length (recC bvC (es.map (fun p : EB => p.1))),datE es]) r b hr (fun h hp => by exact hp) (fun q hq => k q hq)
theorem treeP_one {v : Value} {l : List TB} {h : Hlt} (hp : treeP v l h) : v.oneCell' = true:=by
  obtain ⟨es,_,hs⟩:=hp
  exact starL_pick hs 0 rfl fun h' h2 => rd_one (rp9 h2)
theorem known10_spec (F : HP) (hT : ∀ h,F h → tabsP h) : CallsS Tryz.prog 13 #[] F [] (fun r Ps => r = .bool true ∧ Ps = []):=by
 refine callsS_enter Tryz.func13 rfl Tryz.ntmps13 (by simp) (fun E => ?_)
 refine Q9 (R9 (G9 rfl rfl (N9 (X9 (Q9 (R9 (Lc9 rfl rfl (by decide) (Oc9 200 [0] [] rfl Tryz.call16 rfl rfl rfl (by decide) (by decide) (build_spec (.slice none 0 0) [] (by decide) (fun x hx => absurd hx (by simp)) _ (fun h _ => rd_nil0) (fun h _ x hx => absurd hx (by simp)) (ts9 0 rfl hT)) (fun v6 Ps6 hR6 => ?_)))))))))
 obtain ⟨vb,id,l,rfl,rfl,hid,hbad,hgood⟩:=hR6
 skip
 refine WL_fact (r:=200) rfl (fun h hp => treeP_one hp) (fun (hvo : vb.oneCell' = true) => ?_)
 refine (M9 rfl rfl (L9 rfl (Pe9 rfl rfl rfl) (L9 rfl (Pe9 rfl rfl rfl) (Lc9 rfl rfl (by decide) (OpT_alloc (r:=201) (cs:=(treeC (.slice none 0 0) zeroId)) rfl (zero_run (by kernel_rfl : (Tryz.prog.info? 31).bind (·.zero) = some (.agg (treeC (.slice none 0 0) zeroId).toArray))) rfl (fun g201 => (Lc09 rfl rfl (OpT_storeAll (r:=201) rfl Tryz.sizeOf31 rfl rfl rfl (treeC_length zeroId_length) (treeC_length hid) (treeC_one hvo) ?_))))))))
 refine (G9 rfl rfl (N9 (X9 ?_)))
 refine Q9 ?_
 obtain ⟨T,hfil,hidT,htree⟩:=hgood build_none
 obtain ⟨hi1,hi2⟩:=filled_none hfil
 rw [hi2] at htree
 have hl:=tree_one htree
 subst hl
 refine W_openTree 200 700 rfl (fun es hes => ?_)
 have hel : es.length = 1:=by have:=congrArg List.length hes; simpa using this
 have hdl : ∀ b ∈ es,b.2.length ≤ 1000000000:=fun b hb => by have h1 : toTB b ∈ es.map toTB:=List.mem_map_of_mem hb; rw [hes,List.mem_singleton] at h1; have h2 : b.2 = nodeF 2 []:=congrArg (fun t : TB => t.2.1) h1; rw [h2]; have:=node_len; omega
 refine R9 (L9 rfl (Px9 (r:=201) rfl Tryz.isAgg31 Tryz.sizeOf31 rfl rfl (treeC_length hid) (load_all (treeC_length hid))) (Lc9 rfl rfl (by decide) (Oc9 800 [0,201,700,701] [] rfl Tryz.call19 rfl rfl rfl (by decide) (by decide) (find_spec es vb id hid (by omega) hdl _ (rs9 2 rfl (fun h hp => by have h2:=rp9 hp; rw [List.length_map]; exact h2)) (ds9 3 rfl (fun _ h => h)) (ts9 0 rfl hT) [47] (by decide)) (fun v11 Ps11 hR11 => ?_))))
 obtain ⟨rfl,rfl⟩:=hR11
 rw [hes,hidT,hi1,path_none]
 refine (M9 rfl rfl (L9 rfl (Pe9 rfl rfl rfl) (L9 rfl (Pe9 rfl rfl rfl) (Lc9 rfl rfl (by decide) (OpT_alloc (r:=801) (cs:=(nodeC 0 0 0 zeroId)) rfl (zero_run (by kernel_rfl : (Tryz.prog.info? 42).bind (·.zero) = some (.agg (nodeC 0 0 0 zeroId).toArray))) rfl (fun g801 => (Lc09 rfl rfl (OpT_storeAll (r:=801) rfl Tryz.sizeOf42 rfl rfl rfl (nodeC_length zeroId_length) (nodeC_length zeroId_length) (one_node _ _ _ _) ?_))))))))
 refine (G9 rfl rfl (N9 (X9 ?_)))
 refine Q9 ?_
 refine Wt9 (P':=rowP 59 35 vb 1 (recC bvC (es.map (·.1)))) 700 rfl (fun h hp => by rw [← hel]; exact hp) ?_
 refine R9 (M9 rfl rfl (L9 rfl (Pn9 rfl rfl rfl (run_eql _ _ _ _ _ _)) (M9 rfl rfl (WL_gPT rfl rfl rfl rfl rfl (by decide) (F9 0 rfl rfl) (WL_gPT rfl rfl rfl rfl rfl (by decide) (Pb9 (r:=201) rfl Tryz.isAgg27 rfl rfl rfl) (WL_gPT rfl rfl rfl rfl rfl (by decide) (Pl9 (r:=700) rfl Tryz.runUnderlying27 rfl rfl (fun _ h => rp9 h)) (WL_gPT rfl rfl rfl rfl rfl (by decide) (Pn9 rfl rfl rfl (run_eql _ _ _ _ _ _)) (L9 rfl (Pu_pickT rfl rfl rfl rfl) (M9 rfl rfl (WL_gPT rfl rfl rfl rfl rfl (by decide) (Pm9 rfl rfl) (WL_gPT rfl rfl rfl rfl rfl (by decide) (Pn9 rfl rfl rfl (run_eql _ _ _ _ _ _)) (L9 rfl (Pu_pickT rfl rfl rfl rfl) (M9 rfl rfl (WL_gPT rfl rfl rfl rfl rfl (by decide) (F9 0 rfl rfl) (WL_gPT rfl rfl rfl rfl rfl (by decide) (Pb9 (r:=801) rfl Tryz.isAgg3 rfl rfl rfl) (WL_gPT rfl rfl rfl rfl rfl (by decide) (Pn9 rfl rfl rfl (run_eql _ _ _ _ _ _)) (L9 rfl (Pu_pickT rfl rfl rfl rfl) (M9 rfl rfl (WL_gPT rfl rfl rfl rfl rfl (by decide) (F9 1 rfl rfl) (WL_gPT rfl rfl rfl rfl rfl (by decide) (Pb9 (r:=801) rfl Tryz.isAgg3 rfl rfl rfl) (WL_gPT rfl rfl rfl rfl rfl (by decide) (Pn9 rfl rfl rfl (run_eql _ _ _ _ _ _)) (L9 rfl (Pu_pickT rfl rfl rfl rfl) (G9 rfl rfl (N9 (X9 ?_)))))))))))))))))))))))))
 refine W_ret ?_
 exact Xq9 [] (Ps:=[]) (res1 Tryz.results13 rfl) rfl (by decide) ⟨rfl,rfl⟩
open Go.RowKit
def fulP (e : TypeId) (v : Value) (xs : List Value) : HP:=fun h => ∃ g,v = .slice (some ⟨g,0,none⟩) xs.length xs.length ∧ h g = some (.cells xs.toArray e (0,0))
def frzP (e : TypeId) (v : Value) (xs : List Value) : HP:=fun h => ∃ g,v = .slice (some ⟨g,0,none⟩) xs.length xs.length ∧ h g = some (.cells xs.toArray e (xs.length,xs.length + 1))
section
variable {P : Program} {E : Env} {n : Nat} {K : Slots} {L : Res} {o : Oper} {C : Value → Res → Prop}
end
open Go.RowKit
set_option maxRecDepth 8000
def wrongL (p : List UInt8) (n : Nat) : Nat:=if (splitN p).2 ≠ 0 then (splitN p).2 else if (splitN p).1.length = 0 then 10 else if 1000 < n then 5 else 0
def firstL : List (List UInt8 × Nat) → Nat
  | [] => 0
  | p :: r => if wrongL p.1 p.2 ≠ 0 then wrongL p.1 p.2 else firstL r
def buildL (ps : List (List UInt8 × Nat)) : Nat:=if 20 < ps.length then 4 else if firstL ps ≠ 0 then firstL ps else if fits [] (ps.map fun p => (splitN p.1).1) then 0 else 7
def lenI (xs : List F3) : List (List UInt8 × Nat):=xs.map fun x => (x.1,x.2.2.length)
def zItem (j : Nat) : F3:=([47,122] ++ [byte (97 + ((j + 2 : Nat) : Int))],.slice none 0 0,[])
def zItems (c : Nat) : List F3:=(List.range c).map zItem
def base2 (v : Value) : List F3:=[([47,97,47,98],v,[120]),([47,99],.slice none 0 0,[])]
open Go.RowKit
set_option maxRecDepth 8000
theorem within_spec (a n : Int) (hn : 0 < n) (hn2 : n < 9223372036854775808) (F : HP) : CallsS Tryz.prog 15 #[.int .i64 a,.int .i64 n] F [] (fun v Ps => v = .int .i64 (a % n) ∧ Ps = []):=by
 have htb:=tmod_bounds a hn
 refine callsS_enter Tryz.func15 rfl Tryz.ntmps15 (by simp) (fun E => ?_)
 refine Q9 (R9 (G9 rfl rfl (N9 (X9 (Q9 (R9 (M9 rfl rfl (M9 rfl rfl (L9 rfl (Pn9 rfl rfl rfl (run_tmod _ _ _ _ _ (by omega))) (G9 rfl rfl (N9 (X9 (Q9 (Q9 (R9 (M9 rfl rfl (L9 rfl (Pn9 rfl rfl rfl (run_lss _ _ _ _ _ _)) (N9 (X9 ?_)))))))))))))))))))
 refine C9 rfl (fun hc10 => ?_) (fun hc10 => ?_)
 ·
  have hlt:=of_decide_eq_true hc10
  refine R9 (M9 rfl rfl (M9 rfl rfl (L9 rfl (Pn9 rfl rfl rfl (run_add _ _ _ _ _ (by omega))) (G9 rfl rfl (N9 (X9 (Q9 (R9 (M9 rfl rfl (G9 rfl rfl (N9 (X9 ?_))))))))))))
  refine W_ret ?_
  exact Xq9 [] (Ps:=[]) (res1 Tryz.results15 rfl) rfl (by decide) ⟨int_val (emod_neg hn (of_decide_eq_true hc10)),rfl⟩
 ·
  refine K9 (X9 ?_)
  refine Q9 (R9 (M9 rfl rfl (G9 rfl rfl (N9 (X9 ?_)))))
  refine W_ret ?_
  exact Xq9 [] (Ps:=[]) (res1 Tryz.results15 rfl) rfl (by decide) ⟨int_val (emod_pos hn (of_decide_eq_false hc10)),rfl⟩
open Go.RowKit
set_option maxRecDepth 8000
theorem at0_get {l : List UInt8} {k : Nat} (h : k < l.length) : at0 l k = l[k]:=by unfold at0; simp [h]
theorem less_at {a b : List UInt8} {x : Nat} (ha : x < a.length) (hb : x < b.length) (h : a.take x = b.take x) (hne : ¬ (((at0 a x).toNat : Int) = ((at0 b x).toNat : Int))) : ltK a b = decide (((at0 a x).toNat : Int) < ((at0 b x).toNat : Int)):=by
  have ea : a = a.take x ++ a[x] :: a.drop (x + 1):=by rw [← List.drop_eq_getElem_cons,List.take_append_drop]
  have eb : b = a.take x ++ b[x] :: b.drop (x + 1):=by rw [h,← List.drop_eq_getElem_cons,List.take_append_drop]
  rw [at0_get ha,at0_get hb] at *
  have hn : a[x] ≠ b[x]:=fun e => hne (by rw [e])
  have hk : ltK a b = decide (a[x] < b[x]):=(congr (congrArg ltK ea) eb).trans (ltK_at _ _ _ _ _ hn)
  rw [hk]
  by_cases hlt : a[x] < b[x]
  · have:=UInt8.lt_iff_toNat_lt.1 hlt
    rw [decide_eq_true hlt,decide_eq_true (by omega)]
  · have : ¬ a[x].toNat < b[x].toNat:=fun h2 => hlt (UInt8.lt_iff_toNat_lt.2 h2)
    rw [decide_eq_false hlt,decide_eq_false (by omega)]
theorem take_nextB {a b : List UInt8} {x : Nat} (ha : x < a.length) (hb : x < b.length) (h : a.take x = b.take x) (he : ((at0 a x).toNat : Int) = ((at0 b x).toNat : Int)) : a.take (x + 1) = b.take (x + 1):=by
  rw [List.take_add_one,List.take_add_one,h]
  congr 1
  rw [at0_get ha,at0_get hb] at he
  rw [List.getElem?_eq_getElem ha,List.getElem?_eq_getElem hb]
  have : a[x] = b[x]:=UInt8.toNat_inj.1 (by omega)
  rw [this]
theorem take_nextS {a b : List (List UInt8)} {x : Nat} (ha : x < a.length) (hb : x < b.length) (h : a.take x = b.take x) (he : a.getD x [] = b.getD x []) : a.take (x + 1) = b.take (x + 1):=by
  rw [List.take_add_one,List.take_add_one,h]
  congr 1
  have : a[x] = b[x]:=by simpa [ha,hb] using he
  rw [List.getElem?_eq_getElem ha,List.getElem?_eq_getElem hb,this]
theorem not_front {a b : List (List UInt8)} {x : Nat} (ha : x < a.length) (hb : x < b.length) (hne : ¬ a.getD x [] = b.getD x []) : a.isPrefixOf b = false:=by
  rw [Bool.eq_false_iff]
  intro h
  obtain ⟨c,rfl⟩:=List.isPrefixOf_iff_prefix.1 h
  exact hne (by simp [List.getElem?_append_left ha])
def refC (v : Value) (id : List UInt8) (met : Bool) : List Value:=v :: (bs id ++ [.bool met])
theorem refC_len {v : Value} {id : List UInt8} {met : Bool} (h : id.length = 32) : (refC v id met).length = 34:=by simp [refC,bs_length,h]
theorem refC_one {v : Value} {id : List UInt8} {met : Bool} (h : v.oneCell' = true) : ∀ u ∈ refC v id met,u.oneCell' = true:=by
  intro u hu
  rcases List.mem_cons.1 hu with rfl | hu
  · exact h
  · rcases List.mem_append.1 hu with hu | hu
    · exact bs_one id u hu
    · simp at hu; subst hu; rfl
theorem refC_met {v : Value} {id : List UInt8} {met : Bool} (h : id.length = 32) : (refC v id met)[33]? = some (.bool met):=by
  unfold refC
  rw [List.getElem?_cons_succ,List.getElem?_append_right (by rw [bs_length]; omega),bs_length,h]
  rfl
theorem refC_setM {v : Value} {id : List UInt8} {met m' : Bool} (h : id.length = 32) : (refC v id met).set 33 (.bool m') = refC v id m':=by
  unfold refC
  rw [List.set_cons_succ,List.set_append_right _ _ (by rw [bs_length]; omega),bs_length,h]
  rfl
abbrev refParts (g : Nat) (v : Value) (es : List EB) (id : List UInt8) (met : Bool) : List HP:=[blk g 50 (refC v id met),rowP 59 35 v es.length (recC bvC (es.map (fun p : EB => p.1))),datE es]
def refP (g : Nat) (l : List TB) (id : List UInt8) (met : Bool) : HP:=fun h => ∃ q : Value × List EB,q.1.oneCell' = true ∧ q.2.map toTB = l ∧ starL (refParts g q.1 q.2 id met) h
def putT (d : List UInt8) : List TB → List TB × Bool
  | [] => ([(sha d,d,0,0)],false)
  | b :: r => if ltK b.1 (sha d) = true then (b :: (putT d r).1,(putT d r).2) else if b.1 = sha d then (b :: r,!decide (b.2.1 = d)) else ((sha d,d,0,0) :: b :: r,false)
theorem putT_app (d : List UInt8) : ∀ (a r : List TB),(∀ b ∈ a,ltK b.1 (sha d) = true) → putT d (a ++ r) = (a ++ (putT d r).1,(putT d r).2)
  | [],r,_ => rfl
  | b :: a,r,h => by
    rw [List.cons_append,putT,if_pos (h b (by simp)),putT_app d a r fun x hx => h x (by simp [hx])]
    rfl
theorem less_spec (a b : List UInt8) (ha : a.length = 32) (hb : b.length = 32) (F : HP) : CallsS Tryz.prog 146 #[idV a,idV b] F [] (fun r Ps => r = .bool (ltK a b) ∧ Ps = []):=by
 refine callsS_enter Tryz.func146 rfl Tryz.ntmps146 (by simp) (fun E => ?_)
 refine Q9 (R9 (Lc9 rfl rfl (by decide) (OpT_box (r:=101) rfl rfl rfl (fun g101 => (Lc9 rfl rfl (by decide) (OpT_box (r:=102) rfl rfl rfl (fun g102 => (G9 rfl rfl (N9 (X9 (Q9 (Q9 (R9 (G9 rfl rfl (N9 (X9 ?_))))))))))))))))
 refine W_block ?_
 refine W_loop (α:=Nat) (fun x => [(2,.pointer (some ⟨g101,0,none⟩)),(3,.pointer (some ⟨g102,0,none⟩)),(5,.int .i64 (x : Int))]) (fun x => [(0,F),(101,blk g101 29 (bs a)),(102,blk g102 29 (bs b))]) (fun x => x ≤ 32 ∧ a.take x = b.take x) (fun x => 32 - x) (0) ⟨Nat.zero_le _,by simp⟩ (a9 rfl) (a9 rfl) (fun x hx => ?_)
 obtain ⟨hx,hxe⟩:=hx
 refine Q9 (Q9 (R9 (M9 rfl rfl (L9 rfl (Pn9 rfl rfl rfl (run_lss _ _ _ _ _ _)) (N9 (X9 ?_))))))
 refine C9 rfl (fun hc7 => ?_) (fun hc7 => ?_)
 ·
  have hlt : x < 32:=by have:=of_decide_eq_true hc7; omega
  refine K9 (X9 ?_)
  refine Q9 ?_
  refine W_block ?_
  refine Q9 ?_
  refine W_draw (N:=7) (by kernel_rfl) rfl [(0,_),(101,_),(102,_)] ⟨rfl,rfl,rfl,trivial⟩ ?_
  refine (T9 0 rfl rfl (Pm9 rfl rfl) (T9 1 rfl rfl (Pu_idxA rfl Tryz.runUnderlying29 Tryz.sizeOf5 rfl rfl (by omega)) (T9 2 rfl rfl (Pb9 (r:=101) rfl Tryz.isAgg5 rfl rfl (show (bs a)[0 + (x : Int).toNat]? = some (bv (at0 a x)) by rw [Nat.zero_add]; exact bs_at1 (k:=x) (by omega))) (T9 3 rfl rfl (Pm9 rfl rfl) (T9 4 rfl rfl (Pu_idxA rfl Tryz.runUnderlying29 Tryz.sizeOf5 rfl rfl (by omega)) (T9 5 rfl rfl (Pb9 (r:=102) rfl Tryz.isAgg5 rfl rfl (show (bs b)[0 + (x : Int).toNat]? = some (bv (at0 b x)) by rw [Nat.zero_add]; exact bs_at1 (k:=x) (by omega))) (T9 6 rfl rfl (Pn9 rfl rfl rfl (run_neq _ _ _ _ _ _)) (Ad9 (by kernel_rfl) (X9 ?_)))))))))
  refine C9 rfl (fun hc16 => ?_) (fun hc16 => ?_)
  ·
   have hres:=less_at (by omega) (by omega) hxe (by simpa using hc16)
   refine Q9 ?_
   refine W_draw (N:=8) (by kernel_rfl) rfl [(0,_),(101,_),(102,_)] ⟨rfl,rfl,rfl,trivial⟩ ?_
   refine (T9 0 rfl rfl (Pm9 rfl rfl) (T9 1 rfl rfl (Pu_idxA rfl Tryz.runUnderlying29 Tryz.sizeOf5 rfl rfl (by omega)) (T9 2 rfl rfl (Pb9 (r:=101) rfl Tryz.isAgg5 rfl rfl (show (bs a)[0 + (x : Int).toNat]? = some (bv (at0 a x)) by rw [Nat.zero_add]; exact bs_at1 (k:=x) (by omega))) (T9 3 rfl rfl (Pm9 rfl rfl) (T9 4 rfl rfl (Pu_idxA rfl Tryz.runUnderlying29 Tryz.sizeOf5 rfl rfl (by omega)) (T9 5 rfl rfl (Pb9 (r:=102) rfl Tryz.isAgg5 rfl rfl (show (bs b)[0 + (x : Int).toNat]? = some (bv (at0 b x)) by rw [Nat.zero_add]; exact bs_at1 (k:=x) (by omega))) (T9 6 rfl rfl (Pn9 rfl rfl rfl (run_lss _ _ _ _ _ _)) (T9 7 rfl rfl (Pg9 rfl rfl) (Ad9 (by kernel_rfl) (X9 ?_))))))))))
   refine W_ret (X_block_ret (X_then_ret (X_then_ret (X_block_ret (X_then_ret ?_)))))
   exact Xq9 [] (Ps:=[]) (res1 Tryz.results146 rfl) rfl (by decide) ⟨by rw [hres] <;> rfl,rfl⟩
  ·
   have he : ((at0 a x).toNat : Int) = ((at0 b x).toNat : Int):=by simpa using hc16
   refine K9 (X_block (X9 ?_))
   refine R9 (M9 rfl rfl (L9 rfl (Pn9 rfl rfl rfl (run_add _ _ _ _ _ (by omega))) (G9 rfl rfl (N9 ?_))))
   exact Xr9 (x + 1) ⟨by omega,take_nextB (by omega) (by omega) hxe he⟩ (by omega) (a9 rfl) (a9 rfl)
 ·
  have hge : x = 32:=by have:=of_decide_eq_false hc7; omega
  have hres : ltK a b = false:=by rw [show a = b by rw [hge,List.take_of_length_le (by omega),List.take_of_length_le (by omega)] at hxe; exact hxe,ltK_irrefl]
  refine W_exit (X_then_exit (X_then_exit (X_block_exit (X9 ?_))))
  refine Q9 (R9 (G9 rfl rfl (N9 (X9 ?_))))
  refine W_ret ?_
  exact Xq9 [] (Ps:=[]) (res1 Tryz.results146 rfl) rfl (by decide) ⟨by rw [hres] <;> rfl,rfl⟩
theorem front_spec (va vb : Value) (a b : List (List UInt8)) (hal : a.length ≤ 1000000000) (hbl : b.length ≤ 1000000000) (F : HP) (hA : ∀ h,F h → rdS va a h) (hB : ∀ h,F h → rdS vb b h) : CallsS Tryz.prog 45 #[va,vb] F [] (fun r Ps => r = .bool (a.isPrefixOf b) ∧ Ps = []):=by
 refine callsS_enter Tryz.func45 rfl Tryz.ntmps45 (by simp) (fun E => ?_)
 refine Q9 (R9 (G9 rfl rfl (N9 (X9 (Q9 (Q9 (R9 (M9 rfl rfl (L9 rfl (Pl9 (r:=0) rfl Tryz.runUnderlying63 rfl rfl hA) (M9 rfl rfl (L9 rfl (Pl9 (r:=0) rfl Tryz.runUnderlying63 rfl rfl hB) (L9 rfl (Pn9 rfl rfl rfl (run_gtr _ _ _ _ _ _)) (N9 (X9 ?_))))))))))))))
 refine C9 rfl (fun hc10 => ?_) (fun hc10 => ?_)
 ·
  have hres : a.isPrefixOf b = false:=by rw [Bool.eq_false_iff]; intro h; have:=(List.isPrefixOf_iff_prefix.1 h).length_le; have:=of_decide_eq_true hc10; omega
  refine Q9 (R9 (G9 rfl rfl (N9 (X9 ?_))))
  refine W_ret (X_then_ret ?_)
  exact Xq9 [] (Ps:=[]) (res1 Tryz.results45 rfl) rfl (by decide) ⟨by rw [hres] <;> rfl,rfl⟩
 ·
  have hlen : a.length ≤ b.length:=by have:=of_decide_eq_false hc10; omega
  refine K9 (X9 ?_)
  refine Q9 (Q9 (R9 (G9 rfl rfl (N9 (X9 ?_)))))
  refine W_block ?_
  refine W_loop (α:=Nat) (fun x => [(0,va),(1,vb),(5,.int .i64 (x : Int))]) (fun x => [(0,F)]) (fun x => x ≤ a.length ∧ a.take x = b.take x) (fun x => a.length - x) (0) ⟨Nat.zero_le _,by simp⟩ (a9 rfl) ⟨rfl,trivial⟩ (fun x hx => ?_)
  obtain ⟨hx,hxe⟩:=hx
  refine Q9 (Q9 (R9 (M9 rfl rfl (M9 rfl rfl (L9 rfl (Pl9 (r:=0) rfl Tryz.runUnderlying63 rfl rfl hA) (L9 rfl (Pn9 rfl rfl rfl (run_lss _ _ _ _ _ _)) (N9 (X9 ?_))))))))
  refine C9 rfl (fun hc14 => ?_) (fun hc14 => ?_)
  ·
   have hlt : x < a.length:=by have:=of_decide_eq_true hc14; omega
   refine K9 (X9 ?_)
   refine Q9 ?_
   refine W_block ?_
   refine Q9 ?_
   refine W_draw (N:=9) (by kernel_rfl) rfl [(0,_)] ⟨rfl,trivial⟩ ?_
   refine (T9 0 rfl rfl (Pm9 rfl rfl) (T9 1 rfl rfl (Pm9 rfl rfl) (T9 2 rfl rfl (Pu_idxS1 (r:=0) rfl Tryz.runUnderlying63 Tryz.sizeOf9 rfl rfl rfl hA (by omega)) (T9 3 rfl rfl (Py9 (r:=0) rfl Tryz.isAgg9 rfl rfl hA (ss_at (k:=x) hlt)) (T9 4 rfl rfl (Pm9 rfl rfl) (T9 5 rfl rfl (Pm9 rfl rfl) (T9 6 rfl rfl (Pu_idxS1 (r:=0) rfl Tryz.runUnderlying63 Tryz.sizeOf9 rfl rfl rfl hB (by omega)) (T9 7 rfl rfl (Py9 (r:=0) rfl Tryz.isAgg9 rfl rfl hB (ss_at (k:=x) (by omega))) (T9 8 rfl rfl (Pn9 rfl rfl rfl (run_strNe _ _ _ _ _)) (Ad9 (by kernel_rfl) (X9 ?_)))))))))))
   refine C9 rfl (fun hc25 => ?_) (fun hc25 => ?_)
   ·
    have hne : ¬ a.getD x [] = b.getD x []:=by simpa using hc25
    have hres : a.isPrefixOf b = false:=not_front (by omega) (by omega) hne
    refine Q9 (R9 (G9 rfl rfl (N9 (X9 ?_))))
    refine W_ret (X_block_ret (X_then_ret (X_then_ret (X_block_ret (X_then_ret ?_)))))
    exact Xq9 [] (Ps:=[]) (res1 Tryz.results45 rfl) rfl (by decide) ⟨by rw [hres] <;> rfl,rfl⟩
   ·
    have he : a.getD x [] = b.getD x []:=by simpa using hc25
    refine K9 (X_block (X9 ?_))
    refine R9 (M9 rfl rfl (L9 rfl (Pn9 rfl rfl rfl (run_add _ _ _ _ _ (by omega))) (G9 rfl rfl (N9 ?_))))
    exact Xr9 (x + 1) ⟨by omega,take_nextS (by omega) (by omega) hxe he⟩ (by omega) (a9 rfl) ⟨rfl,trivial⟩
  ·
   have hge : x = a.length:=by have:=of_decide_eq_false hc14; omega
   have hres : a.isPrefixOf b = true:=by rw [List.isPrefixOf_iff_prefix,List.prefix_iff_eq_take]; rw [hge,List.take_length] at hxe; exact hxe
   refine W_exit (X_then_exit (X_then_exit (X_block_exit (X9 ?_))))
   refine Q9 (R9 (G9 rfl rfl (N9 (X9 ?_))))
   refine W_ret ?_
   exact Xq9 [] (Ps:=[]) (res1 Tryz.results45 rfl) rfl (by decide) ⟨by rw [hres] <;> rfl,rfl⟩
open Go.RowKit
set_option maxRecDepth 8000
theorem W_openRef {P : Program} {E : Env} {n : Nat} {K : Slots} {L : Res} {Q : Exit → Act → World → Prop} {c : Code} (r b : Nat) {g : Nat} {l : List TB} {id : List UInt8} {met : Bool} (hr : look L r = some (refP g l id met))
    (k : ∀ (v' : Value) (es : List EB),v'.oneCell' = true → es.map toTB = l → W P E n c K (En b (refParts g v' es id met) ++ (r,emp) :: L) Q) : W P E n c K L Q :=
  W_open (φ:=fun q : Value × List EB => q.1.oneCell' = true ∧ q.2.map toTB = l) (Ps:=fun q : Value × List EB => refParts g q.1 q.2 id met) r b hr (fun h hp => by obtain ⟨q,h1,h2,h3⟩:=hp; exact ⟨q,⟨h1,h2⟩,h3⟩) (fun q hq => k q.1 q.2 hq.1 hq.2)
theorem closeRef {g : Nat} {v : Value} {es : List EB} {l : List TB} {id : List UInt8} {met : Bool} (hv : v.oneCell' = true) (hl : es.map toTB = l) {h : Hlt} (hs : starL (refParts g v es id met) h) : refP g l id met h:=⟨(v,es),hv,hl,hs⟩
theorem eb_key {es : List EB} {k : Nat} {b : EB} (hb : es[k]? = some b) : ((recC bvC (es.map (fun p : EB => p.1))).drop (k * 35 + 0)).take 32 = bs b.1.key:=by
  have h:=eb_all hb
  have h2 : ((recC bvC (es.map (fun p : EB => p.1))).drop (k * 35)).take 32 = (((recC bvC (es.map (fun p : EB => p.1))).drop (k * 35)).take 35).take 32:=by rw [List.take_take]; rfl
  rw [Nat.add_zero,h2]
  have h3 : (((recC bvC (es.map (fun p : EB => p.1))).drop (k * 35)).take 35) = bvC b.1:=h
  rw [h3]
  exact bk_key b.1.len
theorem eb_get {es : List EB} {k j : Nat} {b : EB} (hb : es[k]? = some b) (hj : j < 35) : (recC bvC (es.map (fun p : EB => p.1)))[k * 35 + j]? = (bvC b.1)[j]?:=by
  obtain ⟨hk,he⟩:=List.getElem?_eq_some_iff.1 hb
  have:=recC_at (d:=default) (bvs_len (es.map (fun p : EB => p.1))) (show k < (es.map (fun p : EB => p.1)).length by rw [List.length_map]; exact hk) hj
  rw [this]
  congr 2
  simp [hk,he]
theorem eb_data {es : List EB} {k : Nat} {b : EB} (hb : es[k]? = some b) : (recC bvC (es.map (fun p : EB => p.1)))[k * 35 + 32]? = some b.1.sl:=(eb_get hb (by decide)).trans (bk_data b.1.len)
theorem ebC_len (es : List EB) : (recC bvC (es.map (fun p : EB => p.1))).length = es.length * 35:=by
  rw [recC_length (bvs_len _),List.length_map]
theorem eb_front {v : Value} {es : List EB} {k : Nat} (hk : k ≤ es.length) {h : Hlt} (hr : rdP 35 v es.length (recC bvC (es.map (fun p : EB => p.1))) h) : rdP 35 (subV 35 v 0 k) k (recC bvC ((es.take k).map (fun p : EB => p.1))) h:=by
  have h1:=rdP_sub hr (a:=0) (b:=k) (Nat.zero_le _) hk
  refine rdP_cast h1 ?_ (by omega)
  rw [Nat.zero_mul,List.drop_zero,Nat.sub_zero]
  have e : es = es.take k ++ es.drop k:=(List.take_append_drop k es).symm
  have e2 : recC bvC (es.map (fun p : EB => p.1)) = recC bvC ((es.take k).map (fun p : EB => p.1)) ++ recC bvC ((es.drop k).map (fun p : EB => p.1)):=by rw [← recC_append,← List.map_append,List.take_append_drop]
  rw [e2,List.take_append_of_le_length (by rw [ebC_len,List.length_take]; rw [Nat.min_eq_left hk]; exact Nat.le_refl _),List.take_of_length_le (by rw [ebC_len,List.length_take,Nat.min_eq_left hk]; exact Nat.le_refl _)]
theorem eb_rest {v : Value} {es : List EB} {k : Nat} (hk : k ≤ es.length) {h : Hlt} (hr : rdP 35 v es.length (recC bvC (es.map (fun p : EB => p.1))) h) : rdP 35 (subV 35 v k es.length) (es.drop k).length (recC bvC ((es.drop k).map (fun p : EB => p.1))) h:=by
  have h1:=rdP_sub hr (a:=k) (b:=es.length) hk (Nat.le_refl _)
  refine rdP_cast h1 ?_ (by rw [List.length_drop])
  have e2 : recC bvC (es.map (fun p : EB => p.1)) = recC bvC ((es.take k).map (fun p : EB => p.1)) ++ recC bvC ((es.drop k).map (fun p : EB => p.1)):=by rw [← recC_append,← List.map_append,List.take_append_drop]
  have hl : (recC bvC ((es.take k).map (fun p : EB => p.1))).length = k * 35:=by rw [ebC_len,List.length_take,Nat.min_eq_left hk]
  rw [e2,List.drop_append_of_le_length (by rw [hl]; exact Nat.le_refl _),List.drop_of_length_le (by rw [hl]; exact Nat.le_refl _),List.nil_append]
  exact List.take_of_length_le (by rw [ebC_len,List.length_drop]; exact Nat.le_refl _)
theorem take_snoc2 {es : List EB} {k : Nat} {b : EB} (hb : es[k]? = some b) : es.take (k + 1) = es.take k ++ [b]:=by rw [List.take_add_one,hb]; rfl
theorem datE_put {es : List EB} {k : Nat} {b : EB} {t : TypeId} {h : Hlt} (hs : starL [datE es,rowB t b.1.sl b.2] h) : datE (es.take k ++ [b] ++ es.drop k) h:=fun p hp => by
  have hp : p = b ∨ p ∈ es:=by
    rcases List.mem_append.1 hp with hp | hp
    · rcases List.mem_append.1 hp with hp | hp
      · exact .inr (List.mem_of_mem_take hp)
      · exact .inl (List.mem_singleton.1 hp)
    · exact .inr (List.mem_of_mem_drop hp)
  rcases hp with rfl | hp
  · exact starL_le hs (φ:=rdB p.1.sl p.2) 1 rfl fun h' h1 h2 => rdP_le h2 (rp9 h1)
  · exact starL_le hs (φ:=rdB p.1.sl p.2) 0 rfl fun h' h1 h2 => rdP_le h2 (h1 p hp)
theorem put_at {es : List EB} {k : Nat} {d : List UInt8} (hlt : ∀ b ∈ es.take k,ltK b.1.key (sha d) = true) : putT d (es.map toTB) = ((es.take k).map toTB ++ (putT d ((es.drop k).map toTB)).1,(putT d ((es.drop k).map toTB)).2):=by
  have e : es.map toTB = (es.take k).map toTB ++ (es.drop k).map toTB:=by rw [← List.map_append,List.take_append_drop]
  rw [e,putT_app]
  intro b hb
  obtain ⟨x,hx,rfl⟩:=List.mem_map.1 hb
  exact hlt x hx
theorem drop_consE {es : List EB} {k : Nat} {b : EB} (hb : es[k]? = some b) : es.drop k = b :: es.drop (k + 1):=by
  obtain ⟨hk,he⟩:=List.getElem?_eq_some_iff.1 hb
  rw [List.drop_eq_getElem_cons hk,he]
theorem put_same {es : List EB} {k : Nat} {b : EB} {d : List UInt8} (hlt : ∀ b ∈ es.take k,ltK b.1.key (sha d) = true) (hb : es[k]? = some b) (hn : ltK b.1.key (sha d) = false) (he : (b.1.key == sha d) = true) : putT d (es.map toTB) = (es.map toTB,!(b.2 == d)):=by
  have he : b.1.key = sha d:=by simpa using he
  rw [put_at hlt,drop_consE hb,List.map_cons,putT,if_neg (by rw [show (toTB b).1 = b.1.key from rfl,hn]; simp),if_pos (show (toTB b).1 = sha d from he)]
  have e : es.map toTB = (es.take k).map toTB ++ (toTB b :: (es.drop (k + 1)).map toTB):=by rw [← List.map_cons,← drop_consE hb,← List.map_append,List.take_append_drop]
  rw [← e]
  show (_,!decide (b.2 = d)) = _
  rw [beq_dec]
theorem put_new2 {es : List EB} {k : Nat} {v : Value} {d : List UInt8} (hlt : ∀ b ∈ es.take k,ltK b.1.key (sha d) = true) (hn : ∀ b,es[k]? = some b → ltK b.1.key (sha d) = false ∧ (b.1.key == sha d) = false) (hv : v.oneCell' = true) : putT d (es.map toTB) = ((es.take k ++ [lbV (sha d,v,d)] ++ es.drop k).map toTB,false):=by
  have hok : LOk (sha d,v,d):=⟨sha_length d,hv⟩
  rw [put_at hlt,List.map_append,List.map_append,List.map_cons,List.map_nil,lbV_tb hok,List.append_assoc]
  cases hb : es[k]? with
  | none =>
    have : es.drop k = []:=List.drop_of_length_le (by simpa using hb)
    rw [this]
    rfl
  | some b =>
    obtain ⟨h1,h2⟩:=hn b hb
    rw [drop_consE hb,List.map_cons,putT,if_neg (by rw [show (toTB b).1 = b.1.key from rfl,h1]; simp),if_neg (by intro h3; rw [show b.1.key = sha d from h3] at h2; simp at h2)]
    rfl
theorem row_nm {e : TypeId} {S : Nat} {v : Value} {n m : Nat} {xs ys : List Value} {h : Hlt} (hp : rowP e S v n xs h) (hn : n = m) (hx : xs = ys) : rowP e S v m ys h:=by subst hn; subst hx; exact hp
theorem row_eb {v : Value} {xs : List EB} {b : EB} {n : Nat} {ys : List Value} {h : Hlt} (hp : rowP 59 35 v (n + 1) (ys ++ [bvC b.1].flatten) h) (hn : n = xs.length) (hy : ys = recC bvC (xs.map (fun p : EB => p.1))) : rowP 59 35 v (xs ++ [b]).length (recC bvC ((xs ++ [b]).map (fun p : EB => p.1))) h:=by
  subst hn; subst hy
  rw [List.length_append,List.map_append,recC_append,List.map_cons,List.map_nil,recC_one]
  simpa using hp
theorem refPut_spec (g : Nat) (l : List TB) (id : List UInt8) (hid : id.length = 32) (met : Bool) (v : Value) (d : List UInt8) (hd : d.length ≤ 1000000) (hl : l.length ≤ 1500000000000) (F : HP) : CallsS Tryz.prog 111 #[.pointer (some ⟨g,0,none⟩),v] F [refP g l id met,rowB 5 v d] (fun r Ps => r = idV (sha d) ∧ Ps = [refP g (putT d l).1 id (met || (putT d l).2)]):=by
 refine callsS_enter Tryz.func111 rfl Tryz.ntmps111 (by simp) (fun E => ?_)
 refine Q9 (R9 (Lc9 rfl rfl (by decide) (OpT_alloc (r:=101) (cs:=(bs zeroId)) rfl (zero_run (by kernel_rfl : (Tryz.prog.info? 29).bind (·.zero) = some (.agg (bs zeroId).toArray))) rfl (fun g101 => (N9 (X9 (Q9 (R9 (M9 rfl rfl (Lc9 rfl rfl (by decide) (Oc9 200 [0,1,2,101] [] rfl Tryz.call26 rfl rfl rfl (by decide) (by decide) (refSum_spec v d (by omega) _ (rs9 2 rfl rowB_rd)) (fun v9 Ps9 hR9 => ?_))))))))))))
 obtain ⟨rfl,rfl⟩:=hR9
 refine (Lc9 rfl rfl (by decide) (OpT_alloc (r:=201) (cs:=(bs zeroId)) rfl (zero_run (by kernel_rfl : (Tryz.prog.info? 29).bind (·.zero) = some (.agg (bs zeroId).toArray))) rfl (fun g201 => (Lc09 rfl rfl (OpT_storeAll (r:=201) rfl Tryz.sizeOf29 rfl rfl rfl rfl ((bs_length _).trans (sha_length d)) (bs_one _) ?_)))))
 refine (N9 (X9 ?_))
 refine Q9 ?_
 refine W_openRef 1 600 rfl (fun v0 es hv0 hes => ?_)
 subst hes
 rw [List.length_map] at hl
 refine W_fact (r:=2) rfl (fun h hp => rd_one (rowB_rd h hp)) (fun (hvo : v.oneCell' = true) => ?_)
 refine R9 (G9 rfl rfl (N9 (X9 (Q9 ?_))))
 refine W_block ?_
 refine W_loop (α:=Nat) (fun x => [(0,.pointer (some ⟨g,0,none⟩)),(1,v),(4,.pointer (some ⟨g101,0,none⟩)),(5,.pointer (some ⟨g201,0,none⟩)),(6,.int .i64 (x : Int))]) (fun x => [(0,F),(2,rowB 5 v d),(101,blk g101 29 (bs zeroId)),(201,blk g201 29 (bs (sha d))),(600,blk g 50 (refC v0 id met)),(601,rowP 59 35 v0 es.length (recC bvC (es.map (fun p : EB => p.1)))),(602,datE es)]) (fun x => x ≤ es.length ∧ ∀ b ∈ es.take x,ltK b.1.key (sha d) = true) (fun x => es.length - x) (0) ⟨Nat.zero_le _,fun b hb => by simp at hb⟩ (a9 rfl) (a9 rfl) (fun x hx => ?_)
 obtain ⟨hx,hxl⟩:=hx
 refine Q9 (Q9 ?_)
 rcases Bool.eq_false_or_eq_true (decide ((x : Int) < (es.length : Int))) with hsp3 | hsp3
 ·
  have hlt : x < es.length:=by have:=of_decide_eq_true hsp3; omega
  obtain ⟨b,hb⟩ : ∃ b,es[x]? = some b:=⟨_,List.getElem?_eq_getElem hlt⟩
  have hbm:=List.mem_of_getElem? hb
  refine W_draw (N:=19) (by kernel_rfl) rfl [(0,_),(101,_),(201,_),(600,_),(601,_)] ⟨rfl,rfl,rfl,rfl,rfl,trivial⟩ ?_
  refine (T9 0 rfl rfl (Pm9 rfl rfl) (T9 1 rfl rfl (Pm9 rfl rfl) (T9 2 rfl rfl (Pu_nilCheck rfl rfl) (T9 3 rfl rfl (F9 0 rfl rfl) (T9 4 rfl rfl (Pb9 (r:=600) rfl Tryz.isAgg27 rfl rfl rfl) (T9 5 rfl rfl (Pl9 (r:=601) rfl Tryz.runUnderlying27 rfl rfl (fun _ h => rp9 h)) (T9 6 rfl rfl (Pn9 rfl rfl rfl (run_lss _ _ _ _ _ _)) (T9 7 rfl rfl (Pm9 rfl rfl) (AH_takeT 8 rfl (by kernel_rfl) (by kernel_rfl) (by kernel_rfl) rfl rfl rfl (by rw [hsp3]; rfl) rfl (by decide) (Pm9 rfl rfl) (AH_takeT 9 rfl (by kernel_rfl) (by kernel_rfl) (by kernel_rfl) rfl rfl rfl (by rw [hsp3]; rfl) rfl (by decide) (Pu_nilCheck rfl rfl) (AH_takeT 10 rfl (by kernel_rfl) (by kernel_rfl) (by kernel_rfl) rfl rfl rfl (by rw [hsp3]; rfl) rfl (by decide) (F9 0 rfl rfl) (AH_takeT 11 rfl (by kernel_rfl) (by kernel_rfl) (by kernel_rfl) rfl rfl rfl (by rw [hsp3]; rfl) rfl (by decide) (Pb9 (r:=600) rfl Tryz.isAgg27 rfl rfl rfl) (AH_takeT 12 rfl (by kernel_rfl) (by kernel_rfl) (by kernel_rfl) rfl rfl rfl (by rw [hsp3]; rfl) rfl (by decide) (Pm9 rfl rfl) (AH_takeT 13 rfl (by kernel_rfl) (by kernel_rfl) (by kernel_rfl) rfl rfl rfl (by rw [hsp3]; rfl) rfl (by decide) (Pi9 (r:=601) rfl Tryz.runUnderlying27 Tryz.sizeOf59 rfl rfl rfl (fun _ h => rp9 h) (by omega)) (AH_takeT 14 rfl (by kernel_rfl) (by kernel_rfl) (by kernel_rfl) rfl rfl rfl (by rw [hsp3]; rfl) rfl (by decide) (Pu_fieldAddrE (off:=0) rfl rfl (by kernel_rfl)) (AH_takeT 15 rfl (by kernel_rfl) (by kernel_rfl) (by kernel_rfl) rfl rfl rfl (by rw [hsp3]; rfl) rfl (by decide) (Pz9 (r:=601) rfl Tryz.isAgg29 Tryz.sizeOf29 rfl rfl (fun _ h => rp9 h) ((bs_length _).trans b.1.len) (by decide) (eb_key hb)) (AH_takeT 16 rfl (by kernel_rfl) (by kernel_rfl) (by kernel_rfl) rfl rfl rfl (by rw [hsp3]; rfl) rfl (by decide) (Px9 (r:=201) rfl Tryz.isAgg29 Tryz.sizeOf29 rfl rfl ((bs_length _).trans (sha_length d)) (load_all ((bs_length _).trans (sha_length d)))) (Y9 [17] ?_))))))))))))))))))
  refine AHs_gT rfl rfl rfl rfl (by rw [hsp3]; rfl) rfl (by decide) (Oc9 700 [0,2,101,201,600,601,602] [] rfl Tryz.call146 rfl rfl rfl (by decide) (by decide) (less_spec b.1.key (sha d) b.1.len (sha_length d) _) (fun v27 Ps27 hR27 => ?_)) ?_
  ·
   obtain ⟨rfl,rfl⟩:=hR27
   refine ⟨⟨rfl,rfl,rfl,rfl,rfl,trivial⟩,?_⟩
   refine (T9 18 rfl rfl (Pu_pickT rfl rfl hsp3 rfl) (Ad9 (by kernel_rfl) (X9 ?_)))
   refine C9 rfl (fun hc28 => ?_) (fun hc28 => ?_)
   ·
    refine K9 (X9 ?_)
    refine W_block ?_
    refine R9 (M9 rfl rfl (L9 rfl (Pn9 rfl rfl rfl (run_add _ _ _ _ _ (by omega))) (G9 rfl rfl (N9 (X_block ?_)))))
    exact Xr9 (x + 1) ⟨by omega,fun q hq => by rw [take_snoc2 hb] at hq; exact (List.mem_append.1 hq).elim (hxl q) (fun h => by rw [List.mem_singleton.1 h]; exact hc28)⟩ (by omega) (a9 rfl) (a9 rfl)
   ·
    refine W_exit (X_then_exit (X_then_exit (X_block_exit (X9 ?_))))
    refine Q9 (Q9 ?_)
    refine W_draw (N:=19) (by kernel_rfl) rfl [(0,_),(101,_),(201,_),(600,_),(601,_)] ⟨rfl,rfl,rfl,rfl,rfl,trivial⟩ ?_
    refine (T9 0 rfl rfl (Pm9 rfl rfl) (T9 1 rfl rfl (Pm9 rfl rfl) (T9 2 rfl rfl (Pu_nilCheck rfl rfl) (T9 3 rfl rfl (F9 0 rfl rfl) (T9 4 rfl rfl (Pb9 (r:=600) rfl Tryz.isAgg27 rfl rfl rfl) (T9 5 rfl rfl (Pl9 (r:=601) rfl Tryz.runUnderlying27 rfl rfl (fun _ h => rp9 h)) (T9 6 rfl rfl (Pn9 rfl rfl rfl (run_lss _ _ _ _ _ _)) (T9 7 rfl rfl (Pm9 rfl rfl) (AH_takeT 8 rfl (by kernel_rfl) (by kernel_rfl) (by kernel_rfl) rfl rfl rfl (by rw [hsp3]; rfl) rfl (by decide) (Pm9 rfl rfl) (AH_takeT 9 rfl (by kernel_rfl) (by kernel_rfl) (by kernel_rfl) rfl rfl rfl (by rw [hsp3]; rfl) rfl (by decide) (Pu_nilCheck rfl rfl) (AH_takeT 10 rfl (by kernel_rfl) (by kernel_rfl) (by kernel_rfl) rfl rfl rfl (by rw [hsp3]; rfl) rfl (by decide) (F9 0 rfl rfl) (AH_takeT 11 rfl (by kernel_rfl) (by kernel_rfl) (by kernel_rfl) rfl rfl rfl (by rw [hsp3]; rfl) rfl (by decide) (Pb9 (r:=600) rfl Tryz.isAgg27 rfl rfl rfl) (AH_takeT 12 rfl (by kernel_rfl) (by kernel_rfl) (by kernel_rfl) rfl rfl rfl (by rw [hsp3]; rfl) rfl (by decide) (Pm9 rfl rfl) (AH_takeT 13 rfl (by kernel_rfl) (by kernel_rfl) (by kernel_rfl) rfl rfl rfl (by rw [hsp3]; rfl) rfl (by decide) (Pi9 (r:=601) rfl Tryz.runUnderlying27 Tryz.sizeOf59 rfl rfl rfl (fun _ h => rp9 h) (by omega)) (AH_takeT 14 rfl (by kernel_rfl) (by kernel_rfl) (by kernel_rfl) rfl rfl rfl (by rw [hsp3]; rfl) rfl (by decide) (Pu_fieldAddrE (off:=0) rfl rfl (by kernel_rfl)) (AH_takeT 15 rfl (by kernel_rfl) (by kernel_rfl) (by kernel_rfl) rfl rfl rfl (by rw [hsp3]; rfl) rfl (by decide) (Pz9 (r:=601) rfl Tryz.isAgg29 Tryz.sizeOf29 rfl rfl (fun _ h => rp9 h) ((bs_length _).trans b.1.len) (by decide) (eb_key hb)) (AH_takeT 16 rfl (by kernel_rfl) (by kernel_rfl) (by kernel_rfl) rfl rfl rfl (by rw [hsp3]; rfl) rfl (by decide) (Px9 (r:=201) rfl Tryz.isAgg29 Tryz.sizeOf29 rfl rfl ((bs_length _).trans (sha_length d)) (load_all ((bs_length _).trans (sha_length d)))) (AH_takeT 17 rfl (by kernel_rfl) (by kernel_rfl) (by kernel_rfl) rfl rfl rfl (by rw [hsp3]; rfl) rfl (by decide) (Pn9 rfl rfl rfl (run_idEq b.1.key (sha d) b.1.len (sha_length d) _ _)) (T9 18 rfl rfl (Pu_pickT rfl rfl hsp3 rfl) (Ad9 (by kernel_rfl) (X9 ?_)))))))))))))))))))))
    refine C9 rfl (fun hc49 => ?_) (fun hc49 => ?_)
    ·
     refine Q9 ?_
     rcases Bool.eq_false_or_eq_true (met) with hsp6 | hsp6
     ·
      refine W_draw (N:=22) (by kernel_rfl) rfl [(0,_),(101,_),(201,_),(601,_),(602,_),(2,_)] ⟨rfl,rfl,rfl,rfl,rfl,rfl,trivial⟩ ?_
      refine (T9 0 rfl rfl (Pm9 rfl rfl) (T9 1 rfl rfl (Pm9 rfl rfl) (T9 2 rfl rfl (Pu_nilCheck rfl rfl) (T9 3 rfl rfl (F9 33 rfl rfl) (Y9 [4] ?_)))))
      refine Z9 rfl rfl (Or9 (Pb9 (r:=600) rfl Tryz.isAgg4 rfl rfl (refC_met hid)) ⟨⟨rfl,rfl,rfl,rfl,rfl,rfl,trivial⟩,?_⟩) ?_
      ·
       refine (T9 5 rfl rfl (Pm9 rfl rfl) (AH_takeF 6 rfl (by kernel_rfl) (by kernel_rfl) (by kernel_rfl) rfl rfl rfl (by rw [hsp6]; rfl) rfl (by decide) (AH_takeF 7 rfl (by kernel_rfl) (by kernel_rfl) (by kernel_rfl) rfl rfl rfl (by rw [hsp6]; rfl) rfl (by decide) (AH_takeF 8 rfl (by kernel_rfl) (by kernel_rfl) (by kernel_rfl) rfl rfl rfl (by rw [hsp6]; rfl) rfl (by decide) (AH_takeF 10 rfl (by kernel_rfl) (by kernel_rfl) (by kernel_rfl) rfl rfl rfl (by rw [hsp6]; rfl) rfl (by decide) (AH_takeF 15 rfl (by kernel_rfl) (by kernel_rfl) (by kernel_rfl) rfl rfl rfl (by rw [hsp6]; rfl) rfl (by decide) (AH_takeF 16 rfl (by kernel_rfl) (by kernel_rfl) (by kernel_rfl) rfl rfl rfl (by rw [hsp6]; rfl) rfl (by decide) (Y9 [9] ?_))))))))
       refine AHs_gF rfl rfl rfl rfl (by rw [hsp6]; rfl) rfl (by decide) ?_ ?_
       ·
        refine (AH_takeF 11 rfl (by kernel_rfl) (by kernel_rfl) (by kernel_rfl) rfl rfl rfl (by rw [hsp6]; rfl) rfl (by decide) (AH_takeF 12 rfl (by kernel_rfl) (by kernel_rfl) (by kernel_rfl) rfl rfl rfl (by rw [hsp6]; rfl) rfl (by decide) (AH_takeF 13 rfl (by kernel_rfl) (by kernel_rfl) (by kernel_rfl) rfl rfl rfl (by rw [hsp6]; rfl) rfl (by decide) (AH_takeF 14 rfl (by kernel_rfl) (by kernel_rfl) (by kernel_rfl) rfl rfl rfl (by rw [hsp6]; rfl) rfl (by decide) (AH_takeF 17 rfl (by kernel_rfl) (by kernel_rfl) (by kernel_rfl) rfl rfl rfl (by rw [hsp6]; rfl) rfl (by decide) (T9 18 rfl rfl (Pu_pickT rfl rfl hsp6 rfl) (T9 19 rfl rfl (Pu_nilCheck rfl rfl) (T9 20 rfl rfl (F9 33 rfl rfl) (Y9 [21] ?_)))))))))
        refine Ac09 rfl rfl rfl (OpT_storeB1 (r:=600) rfl Tryz.sizeOf4 rfl rfl rfl rfl (by rw [refC_len hid]; decide) (refC_setM hid) ?_) ?_
        ·
         refine ⟨⟨rfl,rfl,rfl,rfl,rfl,rfl,trivial⟩,?_⟩
         refine (Ad9 (by kernel_rfl) (X9 ?_))
         refine Q9 (R9 (L9 rfl (Px9 (r:=201) rfl Tryz.isAgg29 Tryz.sizeOf29 rfl rfl ((bs_length _).trans (sha_length d)) (load_all ((bs_length _).trans (sha_length d)))) (Lc09 rfl rfl (OpT_storeAll (r:=101) rfl Tryz.sizeOf29 rfl rfl rfl ((bs_length _).trans zeroId_length) ((bs_length _).trans (sha_length d)) (bs_one _) ?_))))
         refine (N9 (X9 ?_))
         refine W_ret (X_then_ret ?_)
         have hsm:=put_same hxl hb hc28 hc49
         refine X_join [600,601,602] 1 (refP g (putT d (es.map toTB)).1 id (met || (putT d (es.map toTB)).2)) rfl (by decide) (fun h hs => by rw [hsm,hsp6]; exact closeRef hv0 rfl hs) ?_
         exact Xq9 [1] (Ps:=[_]) (resC1 (r:=101) Tryz.results111 rfl Tryz.isAgg29 Tryz.sizeOf29 rfl ((bs_length _).trans (sha_length d))) rfl (by decide) ⟨rfl,rfl⟩
        exact An9
       exact An9
      exact An9
     ·
      refine W_draw (N:=22) (by kernel_rfl) rfl [(0,_),(101,_),(201,_),(601,_),(602,_),(2,_)] ⟨rfl,rfl,rfl,rfl,rfl,rfl,trivial⟩ ?_
      refine (T9 0 rfl rfl (Pm9 rfl rfl) (T9 1 rfl rfl (Pm9 rfl rfl) (T9 2 rfl rfl (Pu_nilCheck rfl rfl) (T9 3 rfl rfl (F9 33 rfl rfl) (Y9 [4] ?_)))))
      refine Z9 rfl rfl (Or9 (Pb9 (r:=600) rfl Tryz.isAgg4 rfl rfl (refC_met hid)) ⟨⟨rfl,rfl,rfl,rfl,rfl,rfl,trivial⟩,?_⟩) ?_
      ·
       refine (T9 5 rfl rfl (Pm9 rfl rfl) (AH_takeT 6 rfl (by kernel_rfl) (by kernel_rfl) (by kernel_rfl) rfl rfl rfl (by rw [hsp6]; rfl) rfl (by decide) (Pm9 rfl rfl) (AH_takeT 7 rfl (by kernel_rfl) (by kernel_rfl) (by kernel_rfl) rfl rfl rfl (by rw [hsp6]; rfl) rfl (by decide) (Pu_nilCheck rfl rfl) (AH_takeT 8 rfl (by kernel_rfl) (by kernel_rfl) (by kernel_rfl) rfl rfl rfl (by rw [hsp6]; rfl) rfl (by decide) (F9 0 rfl rfl) (AH_takeT 10 rfl (by kernel_rfl) (by kernel_rfl) (by kernel_rfl) rfl rfl rfl (by rw [hsp6]; rfl) rfl (by decide) (Pm9 rfl rfl) (AH_takeT 15 rfl (by kernel_rfl) (by kernel_rfl) (by kernel_rfl) rfl rfl rfl (by rw [hsp6]; rfl) rfl (by decide) (Pm9 rfl rfl) (AH_takeT 16 rfl (by kernel_rfl) (by kernel_rfl) (by kernel_rfl) rfl rfl rfl (by rw [hsp6]; rfl) rfl (by decide) (Pu_convBS (r:=2) rfl Tryz.underlying36 Tryz.underlying5 Tryz.underlying9 rfl rfl rowB_rd) (Y9 [9] ?_))))))))
       refine AHs_gT rfl rfl rfl rfl (by rw [hsp6]; rfl) rfl (by decide) (Or9 (Pb9 (r:=600) rfl Tryz.isAgg27 rfl rfl rfl) ⟨⟨rfl,rfl,rfl,rfl,rfl,rfl,trivial⟩,?_⟩) ?_
       ·
        refine (AH_takeT 11 rfl (by kernel_rfl) (by kernel_rfl) (by kernel_rfl) rfl rfl rfl (by rw [hsp6]; rfl) rfl (by decide) (Pi9 (r:=601) rfl Tryz.runUnderlying27 Tryz.sizeOf59 rfl rfl rfl (fun _ h => rp9 h) (by omega)) (AH_takeT 12 rfl (by kernel_rfl) (by kernel_rfl) (by kernel_rfl) rfl rfl rfl (by rw [hsp6]; rfl) rfl (by decide) (Pu_fieldAddrE (off:=32) rfl rfl (by kernel_rfl)) (AH_takeT 13 rfl (by kernel_rfl) (by kernel_rfl) (by kernel_rfl) rfl rfl rfl (by rw [hsp6]; rfl) rfl (by decide) (Py9 (r:=601) rfl Tryz.isAgg36 rfl rfl (fun _ h => rp9 h) (eb_data hb)) (AH_takeT 14 rfl (by kernel_rfl) (by kernel_rfl) (by kernel_rfl) rfl rfl rfl (by rw [hsp6]; rfl) rfl (by decide) (Pu_convBS (r:=602) rfl Tryz.underlying36 Tryz.underlying5 Tryz.underlying9 rfl rfl (fun h hp => hp b hbm)) (AH_takeT 17 rfl (by kernel_rfl) (by kernel_rfl) (by kernel_rfl) rfl rfl rfl (by rw [hsp6]; rfl) rfl (by decide) (Pn9 rfl rfl rfl (run_strNe _ _ _ _ _)) (T9 18 rfl rfl (Pu_pickF rfl rfl hsp6 rfl) (T9 19 rfl rfl (Pu_nilCheck rfl rfl) (T9 20 rfl rfl (F9 33 rfl rfl) (Y9 [21] ?_)))))))))
        refine Ac09 rfl rfl rfl (OpT_storeB1 (r:=600) rfl Tryz.sizeOf4 rfl rfl rfl rfl (by rw [refC_len hid]; decide) (refC_setM hid) ?_) ?_
        ·
         refine ⟨⟨rfl,rfl,rfl,rfl,rfl,rfl,trivial⟩,?_⟩
         refine (Ad9 (by kernel_rfl) (X9 ?_))
         refine Q9 (R9 (L9 rfl (Px9 (r:=201) rfl Tryz.isAgg29 Tryz.sizeOf29 rfl rfl ((bs_length _).trans (sha_length d)) (load_all ((bs_length _).trans (sha_length d)))) (Lc09 rfl rfl (OpT_storeAll (r:=101) rfl Tryz.sizeOf29 rfl rfl rfl ((bs_length _).trans zeroId_length) ((bs_length _).trans (sha_length d)) (bs_one _) ?_))))
         refine (N9 (X9 ?_))
         refine W_ret (X_then_ret ?_)
         have hsm:=put_same hxl hb hc28 hc49
         refine X_join [600,601,602] 1 (refP g (putT d (es.map toTB)).1 id (met || (putT d (es.map toTB)).2)) rfl (by decide) (fun h hs => by rw [hsm,hsp6]; exact closeRef hv0 rfl hs) ?_
         exact Xq9 [1] (Ps:=[_]) (resC1 (r:=101) Tryz.results111 rfl Tryz.isAgg29 Tryz.sizeOf29 rfl ((bs_length _).trans (sha_length d))) rfl (by decide) ⟨rfl,rfl⟩
        exact An9
       exact An9
      exact An9
    ·
     have hnn : ∀ q,es[x]? = some q → ltK q.1.key (sha d) = false ∧ (q.1.key == sha d) = false:=fun q hq => by rw [hb] at hq; injection hq with hq; subst hq; exact ⟨hc28,hc49⟩
     refine K9 (X9 ?_)
     refine Q9 ?_
     have hnew:=put_new2 hxl hnn hvo
     have hok : LOk (sha d,v,d):=⟨sha_length d,hvo⟩
     refine W_nilRow 3 59 35 ?_
     refine R9 (G9 rfl rfl (N9 (X9 (Q9 (R9 (M9 rfl rfl (M9 rfl rfl (L9 rfl (Pu_nilCheck rfl rfl) (L9 rfl (F9 0 rfl rfl) (L9 rfl (Pb9 (r:=600) rfl Tryz.isAgg27 rfl rfl rfl) (M9 rfl rfl (L9 rfl (Pu_slice (r:=601) (b:=x) rfl Tryz.runUnderlying27 Tryz.sizeOf59 rfl rfl (fun _ h => rp9 h) (.inl ⟨rfl,rfl⟩) (.inr ⟨_,_,_,rfl,rfl,rfl⟩) (Nat.zero_le _) hx) (Lc9 rfl rfl (by decide) (Oa9 (r:=3) (r2:=601) rfl Tryz.underlying27 TI.hi59 TI.hz59 TI.hs59 TI.hby59 TI.hzs59 (by decide) rfl rfl rfl rfl (fun _ h => eb_front hx (rp9 h)) (recC_ones bvC_one) (by unfold maxLen; omega) (by omega) (fun v79 => ?_)))))))))))))))
     refine Lt9 (P':=rowP 59 35 v79 (es.take x).length (recC bvC ((es.take x).map (fun p : EB => p.1)))) (r:=3) rfl (fun h hp => row_nm hp (by rw [List.length_take]; omega) (List.nil_append _)) ?_
     refine (G9 rfl rfl (N9 (X9 ?_)))
     refine Q9 (R9 (M9 rfl rfl (L9 rfl (Px9 (r:=201) rfl Tryz.isAgg29 Tryz.sizeOf29 rfl rfl ((bs_length _).trans (sha_length d)) (load_all ((bs_length _).trans (sha_length d)))) (M9 rfl rfl (L9 rfl (Pu_build (V:=.agg (bvC (lbV (sha d,v,d)).1).toArray) [(0,32),(32,1),(33,1),(34,1)] (bkC zeroId (.slice none 0 0) 0 0) rfl rfl (by kernel_rfl) (by kernel_rfl) (.many rfl ((bs_length _).trans (sha_length d)) (by rw [bkC_length zeroId_length]; decide) rfl (.one rfl hvo (by rw [over_length,bkC_length zeroId_length] <;> first | decide | (rw [bs_length,sha_length,bkC_length zeroId_length]; decide)) rfl (.nil _))) (congrArg (fun q : List Value => Value.agg q.toArray) ((bk_build (sha_length d)).trans (lbV_c hok).symm))) (Lc9 rfl rfl (by decide) (OpT_buildRows (r:=701) [bvC (lbV (sha d,v,d)).1] rfl rfl Tryz.runUnderlying27 Tryz.sizeOf59 Tryz.zeroValue59 rfl (by decide) rfl (by decide) (by intro r hr; simp at hr; rw [hr]; exact bvC_length _) rfl (fun v84 => (Lc9 rfl rfl (by decide) (Oa9 (r:=3) (r2:=701) rfl Tryz.underlying27 TI.hi59 TI.hz59 TI.hs59 TI.hby59 TI.hzs59 (by decide) rfl rfl rfl rfl (fun _ h => rp9 h) (by intro u hu; simp at hu; exact bvC_one _ u hu) (by unfold maxLen; rw [List.length_take]; omega) (by rw [List.length_take]; omega) (fun v85 => ?_)))))))))))
     refine Lt9 (P':=rowP 59 35 v85 (es.take x ++ [lbV (sha d,v,d)]).length (recC bvC ((es.take x ++ [lbV (sha d,v,d)]).map (fun p : EB => p.1)))) (r:=3) rfl (fun h hp => row_eb hp rfl rfl) ?_
     refine (G9 rfl rfl (N9 (X9 ?_)))
     refine Q9 (R9 (M9 rfl rfl (M9 rfl rfl (M9 rfl rfl (L9 rfl (Pu_nilCheck rfl rfl) (L9 rfl (F9 0 rfl rfl) (L9 rfl (Pb9 (r:=600) rfl Tryz.isAgg27 rfl rfl rfl) (M9 rfl rfl (L9 rfl (Pu_slice (r:=601) (a:=x) rfl Tryz.runUnderlying27 Tryz.sizeOf59 rfl rfl (fun _ h => rp9 h) (.inr ⟨_,_,_,rfl,rfl,rfl⟩) (.inl ⟨rfl,rfl⟩) hx (by omega)) (Lc9 rfl rfl (by decide) (Oa9 (r:=3) (r2:=601) rfl Tryz.underlying27 TI.hi59 TI.hz59 TI.hs59 TI.hby59 TI.hzs59 (by decide) rfl rfl rfl rfl (fun _ h => eb_rest hx (rp9 h)) (recC_ones bvC_one) (by unfold maxLen; rw [List.length_append,List.length_take,List.length_drop,List.length_singleton]; omega) (by rw [List.length_append,List.length_take,List.length_drop,List.length_singleton]; omega) (fun v94 => ?_))))))))))))
     refine Lt9 (P':=rowP 59 35 v94 (es.take x ++ [lbV (sha d,v,d)] ++ es.drop x).length (recC bvC ((es.take x ++ [lbV (sha d,v,d)] ++ es.drop x).map (fun p : EB => p.1)))) (r:=3) rfl (fun h hp => row_nm hp List.length_append.symm (by rw [← recC_append,← List.map_append])) ?_
     refine WL_fact (r:=3) rfl (fun h hp => rd_one (rp9 hp)) (fun ho94 => ?_)
     refine (L9 rfl (Pu_nilCheck rfl rfl) (L9 rfl (F9 0 rfl rfl) (Lc09 rfl rfl (OpT_storeB1 (r:=600) rfl Tryz.sizeOf27 rfl rfl rfl ho94 (by rw [refC_len hid]; decide) (show _ = refC v94 id met from rfl) ?_))))
     refine (N9 (X9 ?_))
     refine Q9 (R9 (L9 rfl (Px9 (r:=201) rfl Tryz.isAgg29 Tryz.sizeOf29 rfl rfl ((bs_length _).trans (sha_length d)) (load_all ((bs_length _).trans (sha_length d)))) (Lc09 rfl rfl (OpT_storeAll (r:=101) rfl Tryz.sizeOf29 rfl rfl rfl ((bs_length _).trans zeroId_length) ((bs_length _).trans (sha_length d)) (bs_one _) ?_))))
     refine (N9 (X9 ?_))
     refine W_ret ?_
     have hnsl:=lbV_sl hok
     refine X_join [602,2] 602 (datE (es.take x ++ [lbV (sha d,v,d)] ++ es.drop x)) rfl (by decide) (fun h hs => datE_put (b:=lbV (sha d,v,d)) (t:=5) (by rw [hnsl.1,hnsl.2]; exact hs)) ?_
     refine X_join [600,3,602] 1 (refP g (putT d (es.map toTB)).1 id (met || (putT d (es.map toTB)).2)) rfl (by decide) (fun h hs => by rw [hnew,Bool.or_false]; exact closeRef ho94 rfl hs) ?_
     exact Xq9 [1] (Ps:=[_]) (resC1 (r:=101) Tryz.results111 rfl Tryz.isAgg29 Tryz.sizeOf29 rfl ((bs_length _).trans (sha_length d))) rfl (by decide) ⟨rfl,rfl⟩
  exact An9
 ·
  have hge : es.length ≤ x:=by have:=of_decide_eq_false hsp3; omega
  have hnone : es[x]? = none:=by simp; omega
  refine W_draw (N:=19) (by kernel_rfl) rfl [(0,_),(101,_),(201,_),(600,_),(601,_)] ⟨rfl,rfl,rfl,rfl,rfl,trivial⟩ ?_
  refine (T9 0 rfl rfl (Pm9 rfl rfl) (T9 1 rfl rfl (Pm9 rfl rfl) (T9 2 rfl rfl (Pu_nilCheck rfl rfl) (T9 3 rfl rfl (F9 0 rfl rfl) (T9 4 rfl rfl (Pb9 (r:=600) rfl Tryz.isAgg27 rfl rfl rfl) (T9 5 rfl rfl (Pl9 (r:=601) rfl Tryz.runUnderlying27 rfl rfl (fun _ h => rp9 h)) (T9 6 rfl rfl (Pn9 rfl rfl rfl (run_lss _ _ _ _ _ _)) (T9 7 rfl rfl (Pm9 rfl rfl) (AH_takeF 8 rfl (by kernel_rfl) (by kernel_rfl) (by kernel_rfl) rfl rfl rfl (by rw [hsp3]; rfl) rfl (by decide) (AH_takeF 9 rfl (by kernel_rfl) (by kernel_rfl) (by kernel_rfl) rfl rfl rfl (by rw [hsp3]; rfl) rfl (by decide) (AH_takeF 10 rfl (by kernel_rfl) (by kernel_rfl) (by kernel_rfl) rfl rfl rfl (by rw [hsp3]; rfl) rfl (by decide) (AH_takeF 11 rfl (by kernel_rfl) (by kernel_rfl) (by kernel_rfl) rfl rfl rfl (by rw [hsp3]; rfl) rfl (by decide) (AH_takeF 12 rfl (by kernel_rfl) (by kernel_rfl) (by kernel_rfl) rfl rfl rfl (by rw [hsp3]; rfl) rfl (by decide) (AH_takeF 13 rfl (by kernel_rfl) (by kernel_rfl) (by kernel_rfl) rfl rfl rfl (by rw [hsp3]; rfl) rfl (by decide) (AH_takeF 14 rfl (by kernel_rfl) (by kernel_rfl) (by kernel_rfl) rfl rfl rfl (by rw [hsp3]; rfl) rfl (by decide) (AH_takeF 15 rfl (by kernel_rfl) (by kernel_rfl) (by kernel_rfl) rfl rfl rfl (by rw [hsp3]; rfl) rfl (by decide) (AH_takeF 16 rfl (by kernel_rfl) (by kernel_rfl) (by kernel_rfl) rfl rfl rfl (by rw [hsp3]; rfl) rfl (by decide) (Y9 [17] ?_))))))))))))))))))
  refine AHs_gF rfl rfl rfl rfl (by rw [hsp3]; rfl) rfl (by decide) ?_ ?_
  ·
   refine (T9 18 rfl rfl (Pu_pickF rfl rfl hsp3 rfl) (Ad9 (by kernel_rfl) (X9 ?_)))
   refine W_false rfl (rfl) ?_
   refine W_exit (X_then_exit (X_then_exit (X_block_exit (X9 ?_))))
   refine Q9 (Q9 ?_)
   refine W_draw (N:=19) (by kernel_rfl) rfl [(0,_),(101,_),(201,_),(600,_),(601,_)] ⟨rfl,rfl,rfl,rfl,rfl,trivial⟩ ?_
   refine (T9 0 rfl rfl (Pm9 rfl rfl) (T9 1 rfl rfl (Pm9 rfl rfl) (T9 2 rfl rfl (Pu_nilCheck rfl rfl) (T9 3 rfl rfl (F9 0 rfl rfl) (T9 4 rfl rfl (Pb9 (r:=600) rfl Tryz.isAgg27 rfl rfl rfl) (T9 5 rfl rfl (Pl9 (r:=601) rfl Tryz.runUnderlying27 rfl rfl (fun _ h => rp9 h)) (T9 6 rfl rfl (Pn9 rfl rfl rfl (run_lss _ _ _ _ _ _)) (T9 7 rfl rfl (Pm9 rfl rfl) (AH_takeF 8 rfl (by kernel_rfl) (by kernel_rfl) (by kernel_rfl) rfl rfl rfl (by rw [hsp3]; rfl) rfl (by decide) (AH_takeF 9 rfl (by kernel_rfl) (by kernel_rfl) (by kernel_rfl) rfl rfl rfl (by rw [hsp3]; rfl) rfl (by decide) (AH_takeF 10 rfl (by kernel_rfl) (by kernel_rfl) (by kernel_rfl) rfl rfl rfl (by rw [hsp3]; rfl) rfl (by decide) (AH_takeF 11 rfl (by kernel_rfl) (by kernel_rfl) (by kernel_rfl) rfl rfl rfl (by rw [hsp3]; rfl) rfl (by decide) (AH_takeF 12 rfl (by kernel_rfl) (by kernel_rfl) (by kernel_rfl) rfl rfl rfl (by rw [hsp3]; rfl) rfl (by decide) (AH_takeF 13 rfl (by kernel_rfl) (by kernel_rfl) (by kernel_rfl) rfl rfl rfl (by rw [hsp3]; rfl) rfl (by decide) (AH_takeF 14 rfl (by kernel_rfl) (by kernel_rfl) (by kernel_rfl) rfl rfl rfl (by rw [hsp3]; rfl) rfl (by decide) (AH_takeF 15 rfl (by kernel_rfl) (by kernel_rfl) (by kernel_rfl) rfl rfl rfl (by rw [hsp3]; rfl) rfl (by decide) (AH_takeF 16 rfl (by kernel_rfl) (by kernel_rfl) (by kernel_rfl) rfl rfl rfl (by rw [hsp3]; rfl) rfl (by decide) (AH_takeF 17 rfl (by kernel_rfl) (by kernel_rfl) (by kernel_rfl) rfl rfl rfl (by rw [hsp3]; rfl) rfl (by decide) (T9 18 rfl rfl (Pu_pickF rfl rfl hsp3 rfl) (Ad9 (by kernel_rfl) (X9 ?_)))))))))))))))))))))
   refine W_false rfl (rfl) ?_
   refine K9 (X9 ?_)
   refine Q9 ?_
   have hnn : ∀ q,es[x]? = some q → ltK q.1.key (sha d) = false ∧ (q.1.key == sha d) = false:=fun q hq => by rw [hnone] at hq; cases hq
   have hnew:=put_new2 hxl hnn hvo
   have hok : LOk (sha d,v,d):=⟨sha_length d,hvo⟩
   refine W_nilRow 3 59 35 ?_
   refine R9 (G9 rfl rfl (N9 (X9 (Q9 (R9 (M9 rfl rfl (M9 rfl rfl (L9 rfl (Pu_nilCheck rfl rfl) (L9 rfl (F9 0 rfl rfl) (L9 rfl (Pb9 (r:=600) rfl Tryz.isAgg27 rfl rfl rfl) (M9 rfl rfl (L9 rfl (Pu_slice (r:=601) (b:=x) rfl Tryz.runUnderlying27 Tryz.sizeOf59 rfl rfl (fun _ h => rp9 h) (.inl ⟨rfl,rfl⟩) (.inr ⟨_,_,_,rfl,rfl,rfl⟩) (Nat.zero_le _) hx) (Lc9 rfl rfl (by decide) (Oa9 (r:=3) (r2:=601) rfl Tryz.underlying27 TI.hi59 TI.hz59 TI.hs59 TI.hby59 TI.hzs59 (by decide) rfl rfl rfl rfl (fun _ h => eb_front hx (rp9 h)) (recC_ones bvC_one) (by unfold maxLen; omega) (by omega) (fun v79 => ?_)))))))))))))))
   refine Lt9 (P':=rowP 59 35 v79 (es.take x).length (recC bvC ((es.take x).map (fun p : EB => p.1)))) (r:=3) rfl (fun h hp => row_nm hp (by rw [List.length_take]; omega) (List.nil_append _)) ?_
   refine (G9 rfl rfl (N9 (X9 ?_)))
   refine Q9 (R9 (M9 rfl rfl (L9 rfl (Px9 (r:=201) rfl Tryz.isAgg29 Tryz.sizeOf29 rfl rfl ((bs_length _).trans (sha_length d)) (load_all ((bs_length _).trans (sha_length d)))) (M9 rfl rfl (L9 rfl (Pu_build (V:=.agg (bvC (lbV (sha d,v,d)).1).toArray) [(0,32),(32,1),(33,1),(34,1)] (bkC zeroId (.slice none 0 0) 0 0) rfl rfl (by kernel_rfl) (by kernel_rfl) (.many rfl ((bs_length _).trans (sha_length d)) (by rw [bkC_length zeroId_length]; decide) rfl (.one rfl hvo (by rw [over_length,bkC_length zeroId_length] <;> first | decide | (rw [bs_length,sha_length,bkC_length zeroId_length]; decide)) rfl (.nil _))) (congrArg (fun q : List Value => Value.agg q.toArray) ((bk_build (sha_length d)).trans (lbV_c hok).symm))) (Lc9 rfl rfl (by decide) (OpT_buildRows (r:=651) [bvC (lbV (sha d,v,d)).1] rfl rfl Tryz.runUnderlying27 Tryz.sizeOf59 Tryz.zeroValue59 rfl (by decide) rfl (by decide) (by intro r hr; simp at hr; rw [hr]; exact bvC_length _) rfl (fun v84 => (Lc9 rfl rfl (by decide) (Oa9 (r:=3) (r2:=651) rfl Tryz.underlying27 TI.hi59 TI.hz59 TI.hs59 TI.hby59 TI.hzs59 (by decide) rfl rfl rfl rfl (fun _ h => rp9 h) (by intro u hu; simp at hu; exact bvC_one _ u hu) (by unfold maxLen; rw [List.length_take]; omega) (by rw [List.length_take]; omega) (fun v85 => ?_)))))))))))
   refine Lt9 (P':=rowP 59 35 v85 (es.take x ++ [lbV (sha d,v,d)]).length (recC bvC ((es.take x ++ [lbV (sha d,v,d)]).map (fun p : EB => p.1)))) (r:=3) rfl (fun h hp => row_eb hp rfl rfl) ?_
   refine (G9 rfl rfl (N9 (X9 ?_)))
   refine Q9 (R9 (M9 rfl rfl (M9 rfl rfl (M9 rfl rfl (L9 rfl (Pu_nilCheck rfl rfl) (L9 rfl (F9 0 rfl rfl) (L9 rfl (Pb9 (r:=600) rfl Tryz.isAgg27 rfl rfl rfl) (M9 rfl rfl (L9 rfl (Pu_slice (r:=601) (a:=x) rfl Tryz.runUnderlying27 Tryz.sizeOf59 rfl rfl (fun _ h => rp9 h) (.inr ⟨_,_,_,rfl,rfl,rfl⟩) (.inl ⟨rfl,rfl⟩) hx (by omega)) (Lc9 rfl rfl (by decide) (Oa9 (r:=3) (r2:=601) rfl Tryz.underlying27 TI.hi59 TI.hz59 TI.hs59 TI.hby59 TI.hzs59 (by decide) rfl rfl rfl rfl (fun _ h => eb_rest hx (rp9 h)) (recC_ones bvC_one) (by unfold maxLen; rw [List.length_append,List.length_take,List.length_drop,List.length_singleton]; omega) (by rw [List.length_append,List.length_take,List.length_drop,List.length_singleton]; omega) (fun v94 => ?_))))))))))))
   refine Lt9 (P':=rowP 59 35 v94 (es.take x ++ [lbV (sha d,v,d)] ++ es.drop x).length (recC bvC ((es.take x ++ [lbV (sha d,v,d)] ++ es.drop x).map (fun p : EB => p.1)))) (r:=3) rfl (fun h hp => row_nm hp List.length_append.symm (by rw [← recC_append,← List.map_append])) ?_
   refine WL_fact (r:=3) rfl (fun h hp => rd_one (rp9 hp)) (fun ho94 => ?_)
   refine (L9 rfl (Pu_nilCheck rfl rfl) (L9 rfl (F9 0 rfl rfl) (Lc09 rfl rfl (OpT_storeB1 (r:=600) rfl Tryz.sizeOf27 rfl rfl rfl ho94 (by rw [refC_len hid]; decide) (show _ = refC v94 id met from rfl) ?_))))
   refine (N9 (X9 ?_))
   refine Q9 (R9 (L9 rfl (Px9 (r:=201) rfl Tryz.isAgg29 Tryz.sizeOf29 rfl rfl ((bs_length _).trans (sha_length d)) (load_all ((bs_length _).trans (sha_length d)))) (Lc09 rfl rfl (OpT_storeAll (r:=101) rfl Tryz.sizeOf29 rfl rfl rfl ((bs_length _).trans zeroId_length) ((bs_length _).trans (sha_length d)) (bs_one _) ?_))))
   refine (N9 (X9 ?_))
   refine W_ret ?_
   have hnsl:=lbV_sl hok
   refine X_join [602,2] 602 (datE (es.take x ++ [lbV (sha d,v,d)] ++ es.drop x)) rfl (by decide) (fun h hs => datE_put (b:=lbV (sha d,v,d)) (t:=5) (by rw [hnsl.1,hnsl.2]; exact hs)) ?_
   refine X_join [600,3,602] 1 (refP g (putT d (es.map toTB)).1 id (met || (putT d (es.map toTB)).2)) rfl (by decide) (fun h hs => by rw [hnew,Bool.or_false]; exact closeRef ho94 rfl hs) ?_
   exact Xq9 [1] (Ps:=[_]) (resC1 (r:=101) Tryz.results111 rfl Tryz.isAgg29 Tryz.sizeOf29 rfl ((bs_length _).trans (sha_length d))) rfl (by decide) ⟨rfl,rfl⟩
  exact An9
open Go.RowKit
set_option maxRecDepth 8000
def fndE (es : List EB) (k : List UInt8) : Option EB:=es.find? fun b => decide (b.1.key = k) && decide (sha b.2 = k)
theorem viewT_fnd (es : List EB) (k : List UInt8) : viewT (es.map toTB) k = (fndE es k).map (·.2):=by
  unfold viewT fndE
  rw [List.find?_map,Option.map_map]
  rfl
theorem vf_some {es : List EB} {k : List UInt8} {b : EB} (h : fndE es k = some b) : viewT (es.map toTB) k = some b.2:=by rw [viewT_fnd,h]; rfl
theorem vf_none {es : List EB} {k : List UInt8} (h : fndE es k = none) : viewT (es.map toTB) k = none:=by rw [viewT_fnd,h]; rfl
theorem fnd_mem {es : List EB} {k : List UInt8} {b : EB} (h : fndE es k = some b) : b ∈ es:=List.mem_of_find?_eq_some h
theorem fnd_drop {es : List EB} {i : Nat} {b : EB} (hb : es[i]? = some b) (k : List UInt8) : fndE (es.drop i) k = if b.1.key = k ∧ sha b.2 = k then some b else fndE (es.drop (i + 1)) k:=by
  rw [drop_consE hb]
  unfold fndE
  rw [List.find?_cons]
  by_cases h1 : b.1.key = k
  · by_cases h2 : sha b.2 = k
    · simp [h1,h2]
    · simp [h1,h2]
  · simp [h1]
theorem run_mul3 {P : Program} (l : Nat) (t : TypeId) (x y : Operand) (h : l ≤ 100) (w : World) : ((do eqGuard .mul t x y (.int .u64 3) (.int .u64 (l : Int)); binOp .mul t (.int .u64 3) (.int .u64 (l : Int)) : Sem Value)).run P w = .ok (.int .u64 ((3 * l : Nat) : Int)) w:=by
  have : IntKind.u64.wrap (3 * (l : Int)) = ((3 * l : Nat) : Int):=by rw [wrapU64]; omega
  simp [eqGuard,binOp,Op.intArith,this]
theorem rblock_spec (g : Nat) (es : List EB) (v : Value) (hel : es.length ≤ 1000000000000) (hdl : ∀ b ∈ es,b.2.length ≤ 1000000000) (F : HP) (hC : ∀ h,F h → cellH h ⟨g,0,none⟩ = some v) (hF : ∀ h,F h → rdP 35 v es.length (recC bvC (es.map (fun p : EB => p.1))) h) (hD : ∀ h,F h → datE es h) (key : List UInt8) (hkl : key.length = 32) : CallsS Tryz.prog 115 #[.pointer (some ⟨g,0,none⟩),idV key] F [] (fun r Ps => Ps = [] ∧ (fndE es key = none → r = .tuple #[.slice none 0 0,.int .i64 18]) ∧ (∀ b,fndE es key = some b → r = .tuple #[b.1.sl,.int .i64 0])):=by
 refine callsS_enter Tryz.func115 rfl Tryz.ntmps115 (by simp) (fun E => ?_)
 refine Q9 (R9 (Lc9 rfl rfl (by decide) (OpT_box (r:=101) rfl rfl rfl (fun g101 => (G9 rfl rfl (G9 rfl rfl (N9 (X9 (Q9 (Q9 (R9 (G9 rfl rfl (N9 (X9 ?_))))))))))))))
 refine W_block ?_
 refine W_loop (α:=Nat) (fun x => [(0,.pointer (some ⟨g,0,none⟩)),(3,.pointer (some ⟨g101,0,none⟩)),(6,.int .i64 (x : Int))]) (fun x => [(0,F),(101,blk g101 29 (bs key))]) (fun x => x ≤ es.length ∧ fndE es key = fndE (es.drop x) key) (fun x => es.length - x) (0) ⟨Nat.zero_le _,rfl⟩ (a9 rfl) (a9 rfl) (fun x hx => ?_)
 obtain ⟨hx,hxf⟩:=hx
 refine Q9 (Q9 (R9 (M9 rfl rfl (M9 rfl rfl (L9 rfl (Pu_nilCheck rfl rfl) (L9 rfl (F9 0 rfl rfl) (L9 rfl (Pu_load1 (r:=0) rfl Tryz.isAgg27 rfl rfl hC) (L9 rfl (Pl9 (r:=0) rfl Tryz.runUnderlying27 rfl rfl hF) (L9 rfl (Pn9 rfl rfl rfl (run_lss _ _ _ _ _ _)) (N9 (X9 ?_)))))))))))
 refine C9 rfl (fun hc13 => ?_) (fun hc13 => ?_)
 ·
  have hlt : x < es.length:=by have:=of_decide_eq_true hc13; omega
  obtain ⟨b,hb⟩ : ∃ b,es[x]? = some b:=⟨_,List.getElem?_eq_getElem hlt⟩
  have hbm:=List.mem_of_getElem? hb
  have hbd : ∀ h,F h → rdB b.1.sl b.2 h:=fun h hp => hD h hp b hbm
  refine K9 (X9 ?_)
  refine Q9 ?_
  refine W_block ?_
  refine Q9 ?_
  rcases Bool.eq_false_or_eq_true (b.1.key == key) with hsp4 | hsp4
  ·
   have hbk : b.1.key = key:=by simpa using hsp4
   refine W_draw (N:=23) (by kernel_rfl) rfl [(0,_),(101,_)] ⟨rfl,rfl,trivial⟩ ?_
   refine (T9 0 rfl rfl (Pm9 rfl rfl) (T9 1 rfl rfl (Pu_nilCheck rfl rfl) (T9 2 rfl rfl (F9 0 rfl rfl) (T9 3 rfl rfl (Pu_load1 (r:=0) rfl Tryz.isAgg27 rfl rfl hC) (T9 4 rfl rfl (Pm9 rfl rfl) (T9 5 rfl rfl (Pi9 (r:=0) rfl Tryz.runUnderlying27 Tryz.sizeOf59 rfl rfl rfl hF (by omega)) (T9 6 rfl rfl (Pu_fieldAddrE (off:=0) rfl rfl (by kernel_rfl)) (T9 7 rfl rfl (Pz9 (r:=0) rfl Tryz.isAgg29 Tryz.sizeOf29 rfl rfl hF ((bs_length _).trans b.1.len) (by decide) (eb_key hb)) (T9 8 rfl rfl (Px9 (r:=101) rfl Tryz.isAgg29 Tryz.sizeOf29 rfl rfl ((bs_length _).trans hkl) (load_all ((bs_length _).trans hkl))) (T9 9 rfl rfl (Pn9 rfl rfl rfl (run_idEq b.1.key key b.1.len hkl _ _)) (T9 10 rfl rfl (Pm9 rfl rfl) (AH_takeT 11 rfl (by kernel_rfl) (by kernel_rfl) (by kernel_rfl) rfl rfl rfl (by rw [hsp4]; rfl) rfl (by decide) (Pm9 rfl rfl) (AH_takeT 12 rfl (by kernel_rfl) (by kernel_rfl) (by kernel_rfl) rfl rfl rfl (by rw [hsp4]; rfl) rfl (by decide) (Pu_nilCheck rfl rfl) (AH_takeT 13 rfl (by kernel_rfl) (by kernel_rfl) (by kernel_rfl) rfl rfl rfl (by rw [hsp4]; rfl) rfl (by decide) (F9 0 rfl rfl) (AH_takeT 14 rfl (by kernel_rfl) (by kernel_rfl) (by kernel_rfl) rfl rfl rfl (by rw [hsp4]; rfl) rfl (by decide) (Pu_load1 (r:=0) rfl Tryz.isAgg27 rfl rfl hC) (AH_takeT 15 rfl (by kernel_rfl) (by kernel_rfl) (by kernel_rfl) rfl rfl rfl (by rw [hsp4]; rfl) rfl (by decide) (Pm9 rfl rfl) (AH_takeT 16 rfl (by kernel_rfl) (by kernel_rfl) (by kernel_rfl) rfl rfl rfl (by rw [hsp4]; rfl) rfl (by decide) (Pi9 (r:=0) rfl Tryz.runUnderlying27 Tryz.sizeOf59 rfl rfl rfl hF (by omega)) (AH_takeT 17 rfl (by kernel_rfl) (by kernel_rfl) (by kernel_rfl) rfl rfl rfl (by rw [hsp4]; rfl) rfl (by decide) (Pu_fieldAddrE (off:=32) rfl rfl (by kernel_rfl)) (AH_takeT 18 rfl (by kernel_rfl) (by kernel_rfl) (by kernel_rfl) rfl rfl rfl (by rw [hsp4]; rfl) rfl (by decide) (Py9 (r:=0) rfl Tryz.isAgg36 rfl rfl hF (eb_data hb)) (AH_takeT 20 rfl (by kernel_rfl) (by kernel_rfl) (by kernel_rfl) rfl rfl rfl (by rw [hsp4]; rfl) rfl (by decide) (Px9 (r:=101) rfl Tryz.isAgg29 Tryz.sizeOf29 rfl rfl ((bs_length _).trans hkl) (load_all ((bs_length _).trans hkl))) (Y9 [19] ?_)))))))))))))))))))))
   refine AHs_gT rfl rfl rfl rfl (by rw [hsp4]; rfl) rfl (by decide) (Oc9 200 [0,101] [] rfl Tryz.call26 rfl rfl rfl (by decide) (by decide) (refSum_spec b.1.sl b.2 (hdl b hbm) _ (rs9 0 rfl hbd)) (fun v35 Ps35 hR35 => ?_)) ?_
   ·
    obtain ⟨rfl,rfl⟩:=hR35
    refine ⟨⟨rfl,rfl,trivial⟩,?_⟩
    refine (AH_takeT 21 rfl (by kernel_rfl) (by kernel_rfl) (by kernel_rfl) rfl rfl rfl (by rw [hsp4]; rfl) rfl (by decide) (Pn9 rfl rfl rfl (run_idEq (sha b.2) key (sha_length _) hkl _ _)) (T9 22 rfl rfl (Pu_pickT rfl rfl hsp4 rfl) (Ad9 (by kernel_rfl) (X9 ?_))))
    refine C9 rfl (fun hc38 => ?_) (fun hc38 => ?_)
    ·
     have hres : fndE es key = some b:=by rw [hxf,fnd_drop hb,if_pos ⟨hbk,by simpa using hc38⟩]
     refine Q9 (R9 (M9 rfl rfl (L9 rfl (Pu_nilCheck rfl rfl) (L9 rfl (F9 0 rfl rfl) (L9 rfl (Pu_load1 (r:=0) rfl Tryz.isAgg27 rfl rfl hC) (M9 rfl rfl (L9 rfl (Pi9 (r:=0) rfl Tryz.runUnderlying27 Tryz.sizeOf59 rfl rfl rfl hF (by omega)) (L9 rfl (Pu_fieldAddrE (off:=32) rfl rfl (by kernel_rfl)) (L9 rfl (Py9 (r:=0) rfl Tryz.isAgg36 rfl rfl hF (eb_data hb)) (G9 rfl rfl (G9 rfl rfl (N9 (X9 ?_)))))))))))))
     refine W_ret (X_block_ret (X_then_ret (X_then_ret (X_block_ret (X_then_ret ?_)))))
     exact Xq9 [] (Ps:=[]) (res2 Tryz.results115 rfl rfl) rfl (by decide) ⟨rfl,fun hn => (by rw [hres] at hn; cases hn),fun q hq => (by rw [hres] at hq; injection hq with hq; rw [← hq])⟩
    ·
     have hno : ¬ (b.1.key = key ∧ sha b.2 = key):=fun h => by rw [h.2] at hc38; simp at hc38
     refine K9 (X_block (X9 ?_))
     refine R9 (M9 rfl rfl (L9 rfl (Pn9 rfl rfl rfl (run_add _ _ _ _ _ (by omega))) (G9 rfl rfl (N9 ?_))))
     exact Xr9 (x + 1) ⟨by omega,by rw [hxf,fnd_drop hb,if_neg hno]⟩ (by omega) (a9 rfl) (a9 rfl)
   exact An9
  ·
   have hno : ¬ (b.1.key = key ∧ sha b.2 = key):=fun h => by rw [h.1] at hsp4; simp at hsp4
   refine W_draw (N:=23) (by kernel_rfl) rfl [(0,_),(101,_)] ⟨rfl,rfl,trivial⟩ ?_
   refine (T9 0 rfl rfl (Pm9 rfl rfl) (T9 1 rfl rfl (Pu_nilCheck rfl rfl) (T9 2 rfl rfl (F9 0 rfl rfl) (T9 3 rfl rfl (Pu_load1 (r:=0) rfl Tryz.isAgg27 rfl rfl hC) (T9 4 rfl rfl (Pm9 rfl rfl) (T9 5 rfl rfl (Pi9 (r:=0) rfl Tryz.runUnderlying27 Tryz.sizeOf59 rfl rfl rfl hF (by omega)) (T9 6 rfl rfl (Pu_fieldAddrE (off:=0) rfl rfl (by kernel_rfl)) (T9 7 rfl rfl (Pz9 (r:=0) rfl Tryz.isAgg29 Tryz.sizeOf29 rfl rfl hF ((bs_length _).trans b.1.len) (by decide) (eb_key hb)) (T9 8 rfl rfl (Px9 (r:=101) rfl Tryz.isAgg29 Tryz.sizeOf29 rfl rfl ((bs_length _).trans hkl) (load_all ((bs_length _).trans hkl))) (T9 9 rfl rfl (Pn9 rfl rfl rfl (run_idEq b.1.key key b.1.len hkl _ _)) (T9 10 rfl rfl (Pm9 rfl rfl) (AH_takeF 11 rfl (by kernel_rfl) (by kernel_rfl) (by kernel_rfl) rfl rfl rfl (by rw [hsp4]; rfl) rfl (by decide) (AH_takeF 12 rfl (by kernel_rfl) (by kernel_rfl) (by kernel_rfl) rfl rfl rfl (by rw [hsp4]; rfl) rfl (by decide) (AH_takeF 13 rfl (by kernel_rfl) (by kernel_rfl) (by kernel_rfl) rfl rfl rfl (by rw [hsp4]; rfl) rfl (by decide) (AH_takeF 14 rfl (by kernel_rfl) (by kernel_rfl) (by kernel_rfl) rfl rfl rfl (by rw [hsp4]; rfl) rfl (by decide) (AH_takeF 15 rfl (by kernel_rfl) (by kernel_rfl) (by kernel_rfl) rfl rfl rfl (by rw [hsp4]; rfl) rfl (by decide) (AH_takeF 16 rfl (by kernel_rfl) (by kernel_rfl) (by kernel_rfl) rfl rfl rfl (by rw [hsp4]; rfl) rfl (by decide) (AH_takeF 17 rfl (by kernel_rfl) (by kernel_rfl) (by kernel_rfl) rfl rfl rfl (by rw [hsp4]; rfl) rfl (by decide) (AH_takeF 18 rfl (by kernel_rfl) (by kernel_rfl) (by kernel_rfl) rfl rfl rfl (by rw [hsp4]; rfl) rfl (by decide) (AH_takeF 20 rfl (by kernel_rfl) (by kernel_rfl) (by kernel_rfl) rfl rfl rfl (by rw [hsp4]; rfl) rfl (by decide) (Y9 [19] ?_)))))))))))))))))))))
   refine AHs_gF rfl rfl rfl rfl (by rw [hsp4]; rfl) rfl (by decide) ?_ ?_
   ·
    refine (AH_takeF 21 rfl (by kernel_rfl) (by kernel_rfl) (by kernel_rfl) rfl rfl rfl (by rw [hsp4]; rfl) rfl (by decide) (T9 22 rfl rfl (Pu_pickF rfl rfl hsp4 rfl) (Ad9 (by kernel_rfl) (X9 ?_))))
    refine W_false rfl (rfl) ?_
    refine K9 (X_block (X9 ?_))
    refine R9 (M9 rfl rfl (L9 rfl (Pn9 rfl rfl rfl (run_add _ _ _ _ _ (by omega))) (G9 rfl rfl (N9 ?_))))
    exact Xr9 (x + 1) ⟨by omega,by rw [hxf,fnd_drop hb,if_neg hno]⟩ (by omega) (a9 rfl) (a9 rfl)
   exact An9
 ·
  have hge : es.length ≤ x:=by have:=of_decide_eq_false hc13; omega
  have hres : fndE es key = none:=by rw [hxf,List.drop_of_length_le hge]; rfl
  refine W_exit (X_then_exit (X_then_exit (X_block_exit (X9 ?_))))
  refine Q9 (R9 (G9 rfl rfl (G9 rfl rfl (N9 (X9 ?_)))))
  refine W_ret ?_
  exact Xq9 [] (Ps:=[]) (res2 Tryz.results115 rfl rfl) rfl (by decide) ⟨rfl,fun _ => rfl,fun q hq => (by rw [hres] at hq; cases hq)⟩
theorem rinode_spec (g : Nat) (es : List EB) (v : Value) (hel : es.length ≤ 1000000000000) (hdl : ∀ b ∈ es,b.2.length ≤ 1000000000) (F : HP) (hC : ∀ h,F h → cellH h ⟨g,0,none⟩ = some v) (hF : ∀ h,F h → rdP 35 v es.length (recC bvC (es.map (fun p : EB => p.1))) h) (hD : ∀ h,F h → datE es h) (id : List UInt8) (hid : id.length = 32) : CallsS Tryz.prog 79 #[.pointer (some ⟨g,0,none⟩),idV id] F [] (fun r Ps => r = .tuple #[.agg (ndC (inodeV (viewT (es.map toTB)) id).1).toArray,.int .i64 (inodeV (viewT (es.map toTB)) id).2] ∧ Ps = []):=by
 refine callsS_enter Tryz.func79 rfl Tryz.ntmps79 (by simp) (fun E => ?_)
 refine Q9 (R9 (Lc9 rfl rfl (by decide) (OpT_box (r:=101) rfl rfl rfl (fun g101 => (Lc9 rfl rfl (by decide) (OpT_alloc (r:=102) (cs:=(nodeC 0 0 0 zeroId)) rfl (zero_run (by kernel_rfl : (Tryz.prog.info? 42).bind (·.zero) = some (.agg (nodeC 0 0 0 zeroId).toArray))) rfl (fun g102 => (G9 rfl rfl (N9 (X9 (Q9 ?_)))))))))))
 rcases Bool.eq_false_or_eq_true ((fndE es id).isSome) with hsp1 | hsp1
 ·
  obtain ⟨b,hfb⟩:=is_some_T hsp1
  have hbm:=fnd_mem hfb
  have hbd : ∀ h,F h → rdB b.1.sl b.2 h:=fun h hp => hD h hp b hbm
  refine R9 (M9 rfl rfl (L9 rfl (Px9 (r:=101) rfl Tryz.isAgg29 Tryz.sizeOf29 rfl rfl ((bs_length _).trans hid) (load_all ((bs_length _).trans hid))) (Lc9 rfl rfl (by decide) (Oc9 200 [0,101,102] [] rfl Tryz.call115 rfl rfl rfl (by decide) (by decide) (rblock_spec g es v hel hdl _ (cell_up 0 rfl hC) (rs9 0 rfl hF) (ds9 0 rfl hD) id hid) (fun v11 Ps11 hR11 => ?_)))))
  obtain ⟨rfl,_,hgood11⟩:=hR11; have hv11:=hgood11 b hfb; subst hv11
  refine (M9 rfl rfl (L9 rfl (Pe9 rfl rfl rfl) (L9 rfl (Pe9 rfl rfl rfl) (G9 rfl rfl (G9 rfl rfl (N9 (X9 ?_)))))))
  refine Q9 (Q9 (R9 (M9 rfl rfl (L9 rfl (Pn9 rfl rfl rfl (run_neq _ _ _ _ _ _)) (N9 (X9 ?_))))))
  refine W_false rfl (rfl) ?_
  refine K9 (X9 ?_)
  refine Q9 (R9 (M9 rfl rfl (Lc9 rfl rfl (by decide) (Oc9 300 [0,101,102] [] rfl Tryz.call116 rfl rfl rfl (by decide) (by decide) (refParseInode_spec b.1.sl b.2 _ (rs9 0 rfl hbd)) (fun v19 Ps19 hR19 => ?_)))))
  obtain ⟨rfl,rfl⟩:=hR19
  refine (L9 rfl (Pe9 rfl rfl rfl) (L9 rfl (Pe9 rfl rfl rfl) (Lc09 rfl rfl (OpT_storeAll (r:=102) rfl Tryz.sizeOf42 rfl rfl rfl (nodeC_length zeroId_length) (nodeC_length (parseI_top _)) (one_node _ _ _ _) ?_))))
  refine (G9 rfl rfl (N9 (X9 ?_)))
  refine W_ret ?_
  exact Xq9 [] (Ps:=[]) (resC2 (r:=102) Tryz.results79 rfl rfl Tryz.isAgg42 Tryz.sizeOf42 rfl (nodeC_length (parseI_top _))) rfl (by decide) ⟨by unfold inodeV; rw [vf_some hfb] <;> rfl,rfl⟩
 ·
  have hfb:=is_none_F hsp1
  refine R9 (M9 rfl rfl (L9 rfl (Px9 (r:=101) rfl Tryz.isAgg29 Tryz.sizeOf29 rfl rfl ((bs_length _).trans hid) (load_all ((bs_length _).trans hid))) (Lc9 rfl rfl (by decide) (Oc9 200 [0,101,102] [] rfl Tryz.call115 rfl rfl rfl (by decide) (by decide) (rblock_spec g es v hel hdl _ (cell_up 0 rfl hC) (rs9 0 rfl hF) (ds9 0 rfl hD) id hid) (fun v11 Ps11 hR11 => ?_)))))
  obtain ⟨rfl,hbad11,_⟩:=hR11; have hv11:=hbad11 hfb; subst hv11
  refine (M9 rfl rfl (L9 rfl (Pe9 rfl rfl rfl) (L9 rfl (Pe9 rfl rfl rfl) (G9 rfl rfl (G9 rfl rfl (N9 (X9 ?_)))))))
  refine Q9 (Q9 (R9 (M9 rfl rfl (L9 rfl (Pn9 rfl rfl rfl (run_neq _ _ _ _ _ _)) (N9 (X9 ?_))))))
  refine W_true rfl (rfl) ?_
  refine Q9 (R9 (L9 rfl (Pu_build (V:=.agg (nodeC 0 0 0 zeroId).toArray) [(0,1),(1,1),(2,1),(3,32)] (nodeC 0 0 0 zeroId) rfl rfl (by kernel_rfl) (by kernel_rfl) (.nil _) rfl) (M9 rfl rfl (Lc09 rfl rfl (OpT_storeAll (r:=102) rfl Tryz.sizeOf42 rfl rfl rfl (nodeC_length zeroId_length) (nodeC_length zeroId_length) (one_node _ _ _ _) ?_)))))
  refine (G9 rfl rfl (N9 (X9 ?_)))
  refine W_ret (X_then_ret ?_)
  exact Xq9 [] (Ps:=[]) (resC2 (r:=102) Tryz.results79 rfl rfl Tryz.isAgg42 Tryz.sizeOf42 rfl (nodeC_length zeroId_length)) rfl (by decide) ⟨by unfold inodeV; rw [vf_none hfb] <;> rfl,rfl⟩
theorem rrow_spec (g : Nat) (es : List EB) (v : Value) (hel : es.length ≤ 1000000000000) (hdl : ∀ b ∈ es,b.2.length ≤ 1000000000) (F : HP) (hC : ∀ h,F h → cellH h ⟨g,0,none⟩ = some v) (hF : ∀ h,F h → rdP 35 v es.length (recC bvC (es.map (fun p : EB => p.1))) h) (hD : ∀ h,F h → datE es h) (nd : Nd) (hnd : NdOk nd) (k : Nat) (hk : (k : Int) * 64 < nd.2.1) : CallsS Tryz.prog 118 #[.pointer (some ⟨g,0,none⟩),.agg (ndC nd).toArray,.int .i64 (k : Int)] F [] (fun r Ps => Ps = [] ∧ ((rowV (viewT (es.map toTB)) nd.2.1.toNat (lev nd.2.1) nd.2.2.2 k).2 ≠ 0 → r = .tuple #[.slice none 0 0,.int .i64 ((rowV (viewT (es.map toTB)) nd.2.1.toNat (lev nd.2.1) nd.2.2.2 k).2 : Int)]) ∧ ((rowV (viewT (es.map toTB)) nd.2.1.toNat (lev nd.2.1) nd.2.2.2 k).2 = 0 → ∃ b ∈ es,r = .tuple #[subV 1 b.1.sl 1 b.2.length,.int .i64 0] ∧ (rowV (viewT (es.map toTB)) nd.2.1.toNat (lev nd.2.1) nd.2.2.2 k).1 = b.2.drop 1 ∧ 1 ≤ b.2.length)):=by
 obtain ⟨hk0,hs0,hs1,hlv,htl⟩:=id hnd
 have hll:=lev_le nd.2.1
 refine callsS_enter Tryz.func118 rfl Tryz.ntmps118 (by simp) (fun E => ?_)
 refine Q9 (R9 (Lc9 rfl rfl (by decide) (OpT_box (r:=101) rfl rfl rfl (fun g101 => (G9 rfl rfl (G9 rfl rfl (N9 (X9 (Q9 (R9 (L9 rfl (F9 3 rfl rfl) (L9 rfl (Px9 (r:=101) rfl Tryz.isAgg29 Tryz.sizeOf29 rfl rfl ((bs_length _).trans htl) (take_top htl)) (Lc9 rfl rfl (by decide) (OpT_alloc (r:=102) (cs:=(bs zeroId)) rfl (zero_run (by kernel_rfl : (Tryz.prog.info? 29).bind (·.zero) = some (.agg (bs zeroId).toArray))) rfl (fun g102 => (Lc09 rfl rfl (OpT_storeAll (r:=102) rfl Tryz.sizeOf29 rfl rfl rfl ((bs_length _).trans zeroId_length) ((bs_length _).trans hnd.2.2.2.2) (bs_one _) ?_)))))))))))))))))
 refine (N9 (X9 ?_))
 refine Q9 (Q9 (R9 (L9 rfl (F9 2 rfl rfl) (L9 rfl (Pb9 (r:=101) rfl Tryz.isAgg3 rfl rfl rfl) (L9 rfl (Pn9 rfl rfl rfl (run_sub _ _ _ _ _ (by have:=lev_le nd.2.1; rw [hnd.2.2.2.1]; omega))) ?_)))))
 rw [hnd.2.2.2.1]
 refine (G9 rfl rfl (N9 (X9 ?_)))
 refine W_block ?_
 refine W_loop (α:=Nat × List UInt8) (fun x => [(0,.pointer (some ⟨g,0,none⟩)),(2,.int .i64 (k : Int)),(4,.pointer (some ⟨g101,0,none⟩)),(8,.pointer (some ⟨g102,0,none⟩)),(9,.int .i64 ((x.1 : Int) - 1))]) (fun x => [(0,F),(101,blk g101 42 (ndC nd)),(102,blk g102 29 (bs x.2))]) (fun x => x.1 ≤ 7 ∧ x.2.length = 32 ∧ rowA (viewT (es.map toTB)) k x.1 x.2 = rowA (viewT (es.map toTB)) k (lev nd.2.1) nd.2.2.2) (fun x => x.1) ((lev nd.2.1,nd.2.2.2)) ⟨lev_le _,hnd.2.2.2.2,rfl⟩ (a9 rfl) (a9 rfl) (fun x hx => ?_)
 obtain ⟨hx1,hx2,hx3⟩:=hx
 refine Q9 (Q9 (R9 (M9 rfl rfl (L9 rfl (Pn9 rfl rfl rfl (run_geq _ _ _ _ _ _)) (N9 (X9 ?_))))))
 refine C9 rfl (fun hc23 => ?_) (fun hc23 => ?_)
 ·
  obtain ⟨l,hl⟩ : ∃ l,x.1 = l + 1:=⟨x.1 - 1,by have:=of_decide_eq_true hc23; omega⟩
  obtain ⟨q,hq1,hq2⟩ : ∃ q : Nat,q = k / 8 ^ l ∧ q ≤ k:=⟨_,rfl,Nat.div_le_self _ _⟩
  refine K9 (X9 ?_)
  refine Q9 ?_
  refine W_block ?_
  refine Q9 ?_
  rcases Bool.eq_false_or_eq_true ((fndE es x.2).isSome) with hsp5 | hsp5
  ·
   obtain ⟨b,hfb⟩:=is_some_T hsp5
   have hbm:=fnd_mem hfb
   have hbd : ∀ h,F h → rdB b.1.sl b.2 h:=fun h hp => hD h hp b hbm
   refine R9 (M9 rfl rfl (L9 rfl (Px9 (r:=102) rfl Tryz.isAgg29 Tryz.sizeOf29 rfl rfl ((bs_length _).trans hx2) (load_all ((bs_length _).trans hx2))) (Lc9 rfl rfl (by decide) (Oc9 200 [0,101,102] [] rfl Tryz.call115 rfl rfl rfl (by decide) (by decide) (rblock_spec g es v hel hdl _ (cell_up 0 rfl hC) (rs9 0 rfl hF) (ds9 0 rfl hD) x.2 hx2) (fun v29 Ps29 hR29 => ?_)))))
   obtain ⟨rfl,_,hgood29⟩:=hR29; have hv29:=hgood29 b hfb; subst hv29
   refine (M9 rfl rfl (L9 rfl (Pe9 rfl rfl rfl) (L9 rfl (Pe9 rfl rfl rfl) (G9 rfl rfl (G9 rfl rfl (N9 (X9 ?_)))))))
   refine Q9 (Q9 (R9 (M9 rfl rfl (L9 rfl (Pn9 rfl rfl rfl (run_neq _ _ _ _ _ _)) (N9 (X9 ?_))))))
   refine W_false rfl (rfl) ?_
   refine K9 (X9 ?_)
   refine Q9 (R9 (M9 rfl rfl (Lc9 rfl rfl (by decide) (Oc9 300 [0,101,102] [] rfl Tryz.call151 rfl rfl rfl (by decide) (by decide) (refParseInner_spec b.1.sl b.2 _ (rs9 0 rfl hbd)) (fun v37 Ps37 hR37 => ?_)))))
   obtain ⟨w37,rfl,rfl⟩:=hR37
   skip
   refine (M9 rfl rfl (L9 rfl (Pe9 rfl rfl rfl) (L9 rfl (Pe9 rfl rfl rfl) (G9 rfl rfl (G9 rfl rfl (N9 (X9 ?_)))))))
   refine Q9 (R9 (M9 rfl rfl (M9 rfl rfl ?_)))
   rw [show ((x.1 : Int) - 1) = (l : Int) by omega]
   refine (L9 rfl (Pu_conv rfl rfl (conv_u64 l Tryz.runUnderlying3 Tryz.runUnderlying110 (by omega))) (L9 rfl (Pn9 rfl rfl rfl (run_mul3 l _ _ _ (by omega))) (L9 rfl (Pn9 rfl rfl rfl (run_shr (k : Int) (3 * l) _ _ _ (by omega))) ?_)))
   rw [fdiv_nat,pow8,← hq1]
   refine (L9 rfl (Pn9 rfl rfl rfl (run_rem _ _ _ _ _ (by omega))) ?_)
   rw [show (q : Int) % 8 = ((q % 8 : Nat) : Int) from rfl]
   refine (G9 rfl rfl (N9 (X9 ?_)))
   refine Q9 (Q9 (R9 (M9 rfl rfl (L9 rfl (Pn9 rfl rfl rfl (run_neq _ _ _ _ _ _)) (M9 rfl rfl (Lg9 rfl rfl rfl rfl (by decide) (fun hb => (Pm9 rfl rfl)) (Lg9 rfl rfl rfl rfl (by decide) (fun hb => (Pm9 rfl rfl)) (Lg9 rfl rfl rfl rfl (by decide) (fun hb => (Pl9 (r:=300) rfl Tryz.runUnderlying165 (ev_gv rfl hb) rfl (fun _ h => rp9 h))) (Lg9 rfl rfl rfl rfl (by decide) (fun hb => (Pn9 rfl (ev_gv rfl hb) (ev_gv rfl hb) (run_geq _ _ _ _ _ _))) (L9 rfl (Pu_or rfl rfl rfl) (N9 (X9 ?_))))))))))))
   refine C9 rfl (fun hc53 => ?_) (fun hc53 => ?_)
   ·
    have hbad : rowA (viewT (es.map toTB)) k (lev nd.2.1) nd.2.2.2 = ([],11):=by rw [← hx3,hl,rowA,vf_some hfb]; dsimp only; rw [← hq1,if_pos (or_of51 hc53)]
    refine Q9 (R9 (G9 rfl rfl (G9 rfl rfl (N9 (X9 ?_)))))
    refine W_ret (X_then_ret (X_block_ret (X_then_ret (X_then_ret (X_block_ret (X_then_ret ?_))))))
    have hres : rowV (viewT (es.map toTB)) nd.2.1.toNat (lev nd.2.1) nd.2.2.2 k = ([],11):=by unfold rowV rowE2; rw [hbad]; rfl
    exact Xq9 [] (Ps:=[]) (res2 Tryz.results118 rfl rfl) rfl (by decide) (by rw [hres]; exact ⟨rfl,fun _ => rfl,fun h => absurd h (by decide)⟩)
   ·
    have hok51 : ¬ (parseNE b.2 ≠ 0 ∨ (parseNL b.2).length ≤ q % 8):=nor_of51 hc53
    have hlt51 : q % 8 < (parseNL b.2).length:=by omega
    have hid2:=(parseNL_ids b.2).1.get hlt51
    refine K9 (X9 ?_)
    refine R9 (M9 rfl rfl (M9 rfl rfl (L9 rfl (Pi9 (r:=300) rfl Tryz.runUnderlying165 Tryz.sizeOf29 rfl rfl rfl (fun _ h => rp9 h) (by omega)) (L9 rfl (Pz9 (r:=300) rfl Tryz.isAgg29 Tryz.sizeOf29 rfl rfl (fun _ h => rp9 h) ((bs_length _).trans hid2) (by decide) (idsC_get (parseNL_ids b.2).1 hlt51)) (Lc09 rfl rfl (OpT_storeAll (r:=102) rfl Tryz.sizeOf29 rfl rfl rfl ((bs_length _).trans hx2) ((bs_length _).trans hid2) (bs_one _) ?_))))))
    refine (N9 (X_block (X9 ?_)))
    refine R9 (M9 rfl rfl (L9 rfl (Pn9 rfl rfl rfl (run_sub _ _ _ _ _ (by omega))) (G9 rfl rfl (N9 ?_))))
    exact Xr9 (l,(parseNL b.2).getD (q % 8) []) ⟨by dsimp only; omega,hid2,by rw [← hx3,hl,rowA,vf_some hfb]; dsimp only; rw [← hq1,if_neg hok51]⟩ (by dsimp only; omega) ⟨rfl,rfl,rfl,rfl,lookV_eq rfl (int_eq (by first | rfl | omega | (dsimp only; omega))),trivial⟩ ⟨rfl,rfl,rfl,trivial⟩
  ·
   have hfb:=is_none_F hsp5
   refine R9 (M9 rfl rfl (L9 rfl (Px9 (r:=102) rfl Tryz.isAgg29 Tryz.sizeOf29 rfl rfl ((bs_length _).trans hx2) (load_all ((bs_length _).trans hx2))) (Lc9 rfl rfl (by decide) (Oc9 200 [0,101,102] [] rfl Tryz.call115 rfl rfl rfl (by decide) (by decide) (rblock_spec g es v hel hdl _ (cell_up 0 rfl hC) (rs9 0 rfl hF) (ds9 0 rfl hD) x.2 hx2) (fun v29 Ps29 hR29 => ?_)))))
   obtain ⟨rfl,hbad29,_⟩:=hR29; have hv29:=hbad29 hfb; subst hv29
   refine (M9 rfl rfl (L9 rfl (Pe9 rfl rfl rfl) (L9 rfl (Pe9 rfl rfl rfl) (G9 rfl rfl (G9 rfl rfl (N9 (X9 ?_)))))))
   refine Q9 (Q9 (R9 (M9 rfl rfl (L9 rfl (Pn9 rfl rfl rfl (run_neq _ _ _ _ _ _)) (N9 (X9 ?_))))))
   refine W_true rfl (rfl) ?_
   refine Q9 (R9 (M9 rfl rfl (G9 rfl rfl (G9 rfl rfl (N9 (X9 ?_))))))
   refine W_ret (X_then_ret (X_block_ret (X_then_ret (X_then_ret (X_block_ret (X_then_ret ?_))))))
   have hres : rowV (viewT (es.map toTB)) nd.2.1.toNat (lev nd.2.1) nd.2.2.2 k = ([],18):=by unfold rowV rowE2; rw [← hx3,hl,rowA,vf_none hfb]; rfl
   exact Xq9 [] (Ps:=[]) (res2 Tryz.results118 rfl rfl) rfl (by decide) (by rw [hres]; exact ⟨rfl,fun _ => rfl,fun h => absurd h (by decide)⟩)
 ·
  have hl0 : x.1 = 0:=by have:=of_decide_eq_false hc23; omega
  have hra : rowA (viewT (es.map toTB)) k (lev nd.2.1) nd.2.2.2 = (x.2,0):=by rw [← hx3,hl0]; rfl
  refine W_exit (X_then_exit (X_then_exit (X_block_exit (X9 ?_))))
  refine Q9 ?_
  rcases Bool.eq_false_or_eq_true ((fndE es x.2).isSome) with hsp13 | hsp13
  ·
   obtain ⟨b,hfb⟩:=is_some_T hsp13
   have hbm:=fnd_mem hfb
   have hbd : ∀ h,F h → rdB b.1.sl b.2 h:=fun h hp => hD h hp b hbm
   refine R9 (M9 rfl rfl (L9 rfl (Px9 (r:=102) rfl Tryz.isAgg29 Tryz.sizeOf29 rfl rfl ((bs_length _).trans hx2) (load_all ((bs_length _).trans hx2))) (Lc9 rfl rfl (by decide) (Oc9 200 [0,101,102] [] rfl Tryz.call115 rfl rfl rfl (by decide) (by decide) (rblock_spec g es v hel hdl _ (cell_up 0 rfl hC) (rs9 0 rfl hF) (ds9 0 rfl hD) x.2 hx2) (fun v61 Ps61 hR61 => ?_)))))
   obtain ⟨rfl,_,hgood61⟩:=hR61; have hv61:=hgood61 b hfb; subst hv61
   refine (M9 rfl rfl (L9 rfl (Pe9 rfl rfl rfl) (L9 rfl (Pe9 rfl rfl rfl) (G9 rfl rfl (G9 rfl rfl (N9 (X9 ?_)))))))
   refine Q9 (Q9 (R9 (M9 rfl rfl (L9 rfl (Pn9 rfl rfl rfl (run_neq _ _ _ _ _ _)) (N9 (X9 ?_))))))
   refine W_false rfl (rfl) ?_
   refine K9 (X9 ?_)
   refine Q9 (Q9 (R9 (M9 rfl rfl (L9 rfl (Pl9 (r:=0) rfl Tryz.runUnderlying36 rfl rfl hbd) (L9 rfl (F9 1 rfl rfl) (L9 rfl (Pb9 (r:=101) rfl Tryz.isAgg3 rfl rfl rfl) (M9 rfl rfl (L9 rfl (Pn9 rfl rfl rfl (run_mul _ _ _ _ _ (by omega))) ?_))))))))
   rw [show (64 : Int) * (k : Int) = (k : Int) * 64 by omega]
   refine (L9 rfl (Pn9 rfl rfl rfl (run_sub _ _ _ _ _ (by omega))) (L9 rfl (Pu_min rfl rfl rfl) (L9 rfl (Pn9 rfl rfl rfl (run_add _ _ _ _ _ (by omega))) (L9 rfl (Pn9 rfl rfl rfl (run_neq _ _ _ _ _ _)) (M9 rfl rfl (Lg9 rfl rfl rfl rfl (by decide) (fun hb => (Pm9 rfl rfl)) (Lg9 rfl rfl rfl rfl (by decide) (fun hb => (Pu_idxS1 (r:=0) rfl Tryz.runUnderlying36 Tryz.sizeOf5 (ev_gv rfl hb) rfl rfl hbd (by have h9 : ((b.2.length : Int) = 1 + min 64 (nd.2.1 - (k : Int) * 64)):=(by simpa using hb); omega))) (Lg9 rfl rfl rfl rfl (by decide) (fun hb => (Py9 (r:=0) rfl Tryz.isAgg5 (ev_gv rfl hb) rfl hbd (bs_at1 (by have h9 : ((b.2.length : Int) = 1 + min 64 (nd.2.1 - (k : Int) * 64)):=(by simpa using hb); omega)))) (Lg9 rfl rfl rfl rfl (by decide) (fun hb => (Pn9 rfl (ev_gv rfl hb) rfl (run_neq _ _ _ _ _ _))) (L9 rfl (Pu_or rfl rfl rfl) (N9 (X9 ?_))))))))))))
   refine C9 rfl (fun hc82 => ?_) (fun hc82 => ?_)
   ·
    have hres : rowV (viewT (es.map toTB)) nd.2.1.toNat (lev nd.2.1) nd.2.2.2 k = ([],11):=by unfold rowV rowE2; rw [hra]; dsimp only; rw [if_neg (fun h => h rfl),vf_some hfb]; dsimp only; rw [if_pos (or_of80 hnd.2.1 hk hc82)]
    refine Q9 (R9 (G9 rfl rfl (G9 rfl rfl (N9 (X9 ?_)))))
    refine W_ret (X_then_ret ?_)
    exact Xq9 [] (Ps:=[]) (res2 Tryz.results118 rfl rfl) rfl (by decide) (by rw [hres]; exact ⟨rfl,fun _ => rfl,fun h => absurd h (by decide)⟩)
   ·
    have hok80:=nor_of80 hnd.2.1 hk hc82
    have hres : rowV (viewT (es.map toTB)) nd.2.1.toNat (lev nd.2.1) nd.2.2.2 k = (b.2.drop 1,0):=by unfold rowV rowE2; rw [hra]; dsimp only; rw [if_neg (fun h => h rfl),vf_some hfb]; dsimp only; rw [if_neg hok80]
    have hp1 : 1 ≤ b.2.length:=len_of80 hok80
    refine K9 (X9 ?_)
    refine Q9 (R9 (M9 rfl rfl (L9 rfl (Pu_slice (r:=0) (a:=1) rfl Tryz.runUnderlying36 Tryz.sizeOf5 rfl rfl hbd (.inr ⟨_,_,_,rfl,rfl,rfl⟩) (.inl ⟨rfl,rfl⟩) hp1 (by omega)) (G9 rfl rfl (G9 rfl rfl (N9 (X9 ?_)))))))
    refine W_ret ?_
    exact Xq9 [] (Ps:=[]) (res2 Tryz.results118 rfl rfl) rfl (by decide) (by rw [hres]; exact ⟨rfl,fun h => absurd rfl h,fun _ => ⟨_,hbm,rfl,rfl,hp1⟩⟩)
  ·
   have hfb:=is_none_F hsp13
   refine R9 (M9 rfl rfl (L9 rfl (Px9 (r:=102) rfl Tryz.isAgg29 Tryz.sizeOf29 rfl rfl ((bs_length _).trans hx2) (load_all ((bs_length _).trans hx2))) (Lc9 rfl rfl (by decide) (Oc9 200 [0,101,102] [] rfl Tryz.call115 rfl rfl rfl (by decide) (by decide) (rblock_spec g es v hel hdl _ (cell_up 0 rfl hC) (rs9 0 rfl hF) (ds9 0 rfl hD) x.2 hx2) (fun v61 Ps61 hR61 => ?_)))))
   obtain ⟨rfl,hbad61,_⟩:=hR61; have hv61:=hbad61 hfb; subst hv61
   refine (M9 rfl rfl (L9 rfl (Pe9 rfl rfl rfl) (L9 rfl (Pe9 rfl rfl rfl) (G9 rfl rfl (G9 rfl rfl (N9 (X9 ?_)))))))
   refine Q9 (Q9 (R9 (M9 rfl rfl (L9 rfl (Pn9 rfl rfl rfl (run_neq _ _ _ _ _ _)) (N9 (X9 ?_))))))
   refine W_true rfl (rfl) ?_
   refine Q9 (R9 (M9 rfl rfl (G9 rfl rfl (G9 rfl rfl (N9 (X9 ?_))))))
   refine W_ret (X_then_ret ?_)
   have hres : rowV (viewT (es.map toTB)) nd.2.1.toNat (lev nd.2.1) nd.2.2.2 k = ([],18):=by unfold rowV rowE2; rw [hra]; dsimp only; rw [if_neg (fun h => h rfl),vf_none hfb]
   exact Xq9 [] (Ps:=[]) (res2 Tryz.results118 rfl rfl) rfl (by decide) (by rw [hres]; exact ⟨rfl,fun _ => rfl,fun h => absurd h (by decide)⟩)
open Go.RowKit
set_option maxRecDepth 8000
theorem rbytes_spec (g : Nat) (es : List EB) (v : Value) (hel : es.length ≤ 1000000000000) (hdl : ∀ b ∈ es,b.2.length ≤ 1000000000) (F : HP) (hC : ∀ h,F h → cellH h ⟨g,0,none⟩ = some v) (hF : ∀ h,F h → rdP 35 v es.length (recC bvC (es.map (fun p : EB => p.1))) h) (hD : ∀ h,F h → datE es h) (nd : Nd) (hnd : NdOk nd) (frm to : Nat) (hto : (to : Int) ≤ nd.2.1) (hfr : frm ≤ 1000000000000) : CallsS Tryz.prog 81 #[.pointer (some ⟨g,0,none⟩),.agg (ndC nd).toArray,.int .i64 (frm : Int),.int .i64 (to : Int)] F [] (fun r Ps => ∃ w,r = .tuple #[w,.int .i64 ((bytesV (viewT (es.map toTB)) nd frm to).2 : Int)] ∧ Ps = [rowB 5 w (bytesV (viewT (es.map toTB)) nd frm to).1]):=by
 obtain ⟨hk0,hs0,hs1,hlv,htl⟩:=id hnd
 have hLv : nd.2.2.1.toNat = lev nd.2.1:=by omega
 refine callsS_enter Tryz.func81 rfl Tryz.ntmps81 (by simp) (fun E => ?_)
 refine Q9 (R9 (Lc9 rfl rfl (by decide) (OpT_box (r:=101) rfl rfl rfl (fun g101 => (G9 rfl rfl (G9 rfl rfl (N9 (X9 (Q9 ?_)))))))))
 refine W_nilRow 2 5 1 ?_
 refine W_nilRow 3 5 1 ?_
 refine R9 (G9 rfl rfl (N9 (X9 (Q9 (Q9 (R9 (M9 rfl rfl (L9 rfl (Pn9 rfl rfl rfl (run_quo _ _ _ _ _ (by omega))) ?_))))))))
 rw [show (frm : Int) / 64 = ((frm / 64 : Nat) : Int) from rfl]
 refine (G9 rfl rfl (N9 (X9 ?_)))
 refine W_block ?_
 refine Wt9 (P':=rowB 5 (.slice none 0 0) []) 2 rfl (fun h hp => hp) ?_
 refine W_loop (α:=Nat × Nat × Value × List UInt8) (fun x => [(0,.pointer (some ⟨g,0,none⟩)),(2,.int .i64 (frm : Int)),(3,.int .i64 (to : Int)),(5,.pointer (some ⟨g101,0,none⟩)),(10,x.2.2.1),(11,.int .i64 (x.2.1 : Int))]) (fun x => [(0,F),(2,rowB 5 x.2.2.1 x.2.2.2),(3,rowP 5 1 (.slice none 0 0) 0 []),(101,blk g101 42 (ndC nd))]) (fun x => bytesA (viewT (es.map toTB)) nd.2.1.toNat (lev nd.2.1) nd.2.2.2 frm to x.1 x.2.1 x.2.2.2 = bytesA (viewT (es.map toTB)) nd.2.1.toNat (lev nd.2.1) nd.2.2.2 frm to (to + 1) (frm / 64) [] ∧ to < x.1 + x.2.1 ∧ frm / 64 ≤ x.2.1 ∧ x.2.2.2.length ≤ x.2.1 * 64 ∧ (frm < to ∨ x.2.2.2 = []) ∧ x.2.1 ≤ frm + to + 1) (fun x => x.1) ((to + 1,frm / 64,.slice none 0 0,[])) ⟨rfl,by dsimp only; omega,Nat.le_refl _,by simp,.inr rfl,by dsimp only; omega⟩ (a9 rfl) (a9 rfl) (fun x hx => ?_)
 obtain ⟨hx1,hx2,hx3,hx4,hx5,hx6⟩:=hx
 refine Q9 (Q9 (R9 (M9 rfl rfl (M9 rfl rfl (L9 rfl (Pn9 rfl rfl rfl (run_lss _ _ _ _ _ _)) (M9 rfl rfl (Lg9 rfl rfl rfl rfl (by decide) (fun hb => (Pm9 rfl rfl)) (Lg9 rfl rfl rfl rfl (by decide) (fun hb => (Pn9 rfl (ev_gv rfl hb) rfl (run_mul _ _ _ _ _ (by omega)))) (Lg9 rfl rfl rfl rfl (by decide) (fun hb => (Pm9 rfl rfl)) (Lg9 rfl rfl rfl rfl (by decide) (fun hb => (Pn9 rfl (ev_gv rfl hb) (ev_gv rfl hb) (run_lss _ _ _ _ _ _))) (L9 rfl (Pu_and rfl rfl rfl) (N9 (X9 ?_)))))))))))))
 refine C9 rfl (fun hc26 => ?_) (fun hc26 => ?_)
 ·
  have hft:=and_of29 hc26
  obtain ⟨f1,hf1⟩ : ∃ f1,x.1 = f1 + 1:=⟨x.1 - 1,by omega⟩
  refine K9 (X9 ?_)
  refine Q9 ?_
  refine W_block ?_
  refine Q9 ?_
  rcases Bool.eq_false_or_eq_true (decide ((rowV (viewT (es.map toTB)) nd.2.1.toNat (lev nd.2.1) nd.2.2.2 x.2.1).2 = 0)) with hsp5 | hsp5
  ·
   have h0:=of_decide_eq_true hsp5
   refine R9 (M9 rfl rfl (L9 rfl (Px9 (r:=101) rfl Tryz.isAgg42 Tryz.sizeOf42 rfl rfl (ndC_length hnd.2.2.2.2) (load_all (ndC_length hnd.2.2.2.2))) (M9 rfl rfl (Lc9 rfl rfl (by decide) (Oc9 200 [0,2,3,101] [] rfl Tryz.call118 rfl rfl rfl (by decide) (by decide) (rrow_spec g es v hel hdl _ (cell_up 0 rfl hC) (rs9 0 rfl hF) (ds9 0 rfl hD) nd hnd x.2.1 (by omega)) (fun v33 Ps33 hR33 => ?_))))))
   obtain ⟨rfl,_,hgood⟩:=hR33; obtain ⟨b,hbm,rfl,hpb,hpl⟩:=hgood h0; have hbd : ∀ h,F h → rdB b.1.sl b.2 h:=fun h hp => hD h hp b hbm
   refine (M9 rfl rfl (L9 rfl (Pe9 rfl rfl rfl) (L9 rfl (Pe9 rfl rfl rfl) (G9 rfl rfl (G9 rfl rfl (N9 (X9 ?_)))))))
   refine Q9 (Q9 (R9 (M9 rfl rfl (L9 rfl (Pn9 rfl rfl rfl (run_neq _ _ _ _ _ _)) (N9 (X9 ?_))))))
   refine W_false rfl (rfl) ?_
   refine K9 (X9 ?_)
   refine Q9 ?_
   have hdl : (b.2.drop 1).length = min 64 (nd.2.1.toNat - x.2.1 * 64):=by rw [← hpb]; exact rowV_len h0
   obtain ⟨aa,haa⟩ : ∃ aa : Nat,aa = frm - x.2.1 * 64:=⟨_,rfl⟩
   obtain ⟨bb,hbb⟩ : ∃ bb : Nat,bb = min (to - x.2.1 * 64) (b.2.drop 1).length:=⟨_,rfl⟩
   have hab : aa ≤ bb:=by omega
   have hbm2 : bb ≤ (b.2.drop 1).length:=by omega
   obtain ⟨pc,hpc⟩ : ∃ pc : List UInt8,pc = ((b.2.drop 1).take bb).drop aa:=⟨_,rfl⟩
   have hpcl : pc.length ≤ 64:=by rw [hpc,List.length_drop,List.length_take]; omega
   have hpce : ((b.2.drop 1).drop aa).take (bb - aa) = pc:=by rw [hpc,List.drop_take]
   refine R9 (M9 rfl rfl (M9 rfl rfl (L9 rfl (Pn9 rfl rfl rfl (run_mul _ _ _ _ _ (by omega))) (L9 rfl (Pn9 rfl rfl rfl (run_sub _ _ _ _ _ (by omega))) (L9 rfl (Pu_max rfl rfl rfl) ?_)))))
   rw [show max ((frm : Int) - (x.2.1 : Int) * 64) 0 = (aa : Int) by omega]
   refine (M9 rfl rfl (M9 rfl rfl (L9 rfl (Pn9 rfl rfl rfl (run_mul _ _ _ _ _ (by omega))) (L9 rfl (Pn9 rfl rfl rfl (run_sub _ _ _ _ _ (by omega))) (M9 rfl rfl (L9 rfl (Pl9 (r:=0) rfl Tryz.runUnderlying36 rfl rfl (fun h hp => rdB_tail (hbd h hp) hpl)) (L9 rfl (Pu_min rfl rfl rfl) ?_)))))))
   rw [show min ((to : Int) - (x.2.1 : Int) * 64) (((b.2.drop 1).length : Nat) : Int) = (bb : Int) by omega]
   refine (G9 rfl rfl (G9 rfl rfl (N9 (X9 ?_))))
   refine R9 (M9 rfl rfl (M9 rfl rfl (M9 rfl rfl (M9 rfl rfl (L9 rfl (Pu_slice (r:=0) (a:=aa) (b:=bb) rfl Tryz.runUnderlying36 Tryz.sizeOf5 rfl rfl (fun h hp => rdB_tail (hbd h hp) hpl) (.inr ⟨_,_,_,rfl,rfl,rfl⟩) (.inr ⟨_,_,_,rfl,rfl,rfl⟩) hab hbm2) (Lc9 rfl rfl (by decide) (Oa9 (r:=2) (r2:=0) rfl Tryz.underlying36 TI.hi5 TI.hz5 TI.hs5 TI.hby5 TI.hzs5 (by decide) rfl rfl rfl rfl (fun h hp => rdB_subE (rdB_tail (hbd h hp) hpl) hab hbm2 hpce) (bs_one _) (by unfold maxLen; omega) (by omega) (fun v56 => ?_))))))))
   refine Lt9 (P':=rowB 5 v56 (x.2.2.2 ++ pc)) (r:=2) rfl (fun h hp => rowB_mk hp (by rw [List.length_append]) (by rw [bs_append])) ?_
   refine (G9 rfl rfl (N9 (X_block (X9 ?_))))
   refine R9 (M9 rfl rfl (L9 rfl (Pn9 rfl rfl rfl (run_add _ _ _ _ _ (by omega))) (G9 rfl rfl (N9 ?_))))
   exact Xr9 (f1,x.2.1 + 1,v56,x.2.2.2 ++ pc) ⟨by rw [← hx1,hf1,bytesA_next hft.2 h0,hpb,hpc,haa,hbb],by dsimp only; omega,by dsimp only; omega,by dsimp only; rw [List.length_append]; omega,.inl hft.1,by dsimp only; omega⟩ (by dsimp only; omega) (a9 rfl) (a9 rfl)
  ·
   have h0:=of_decide_eq_false hsp5
   refine R9 (M9 rfl rfl (L9 rfl (Px9 (r:=101) rfl Tryz.isAgg42 Tryz.sizeOf42 rfl rfl (ndC_length hnd.2.2.2.2) (load_all (ndC_length hnd.2.2.2.2))) (M9 rfl rfl (Lc9 rfl rfl (by decide) (Oc9 200 [0,2,3,101] [] rfl Tryz.call118 rfl rfl rfl (by decide) (by decide) (rrow_spec g es v hel hdl _ (cell_up 0 rfl hC) (rs9 0 rfl hF) (ds9 0 rfl hD) nd hnd x.2.1 (by omega)) (fun v33 Ps33 hR33 => ?_))))))
   obtain ⟨rfl,hbad,_⟩:=hR33; have hv33:=hbad h0; subst hv33
   refine (M9 rfl rfl (L9 rfl (Pe9 rfl rfl rfl) (L9 rfl (Pe9 rfl rfl rfl) (G9 rfl rfl (G9 rfl rfl (N9 (X9 ?_)))))))
   refine Q9 (Q9 (R9 (M9 rfl rfl (L9 rfl (Pn9 rfl rfl rfl (run_neq _ _ _ _ _ _)) (N9 (X9 ?_))))))
   refine W_true rfl ((by simpa using h0)) ?_
   refine Q9 (R9 (M9 rfl rfl (G9 rfl rfl (G9 rfl rfl (N9 (X9 ?_))))))
   refine W_ret (X_then_ret (X_block_ret (X_then_ret (X_then_ret (X_block_ret (X_then_ret ?_))))))
   have hres : bytesV (viewT (es.map toTB)) nd frm to = ([],(rowV (viewT (es.map toTB)) nd.2.1.toNat (lev nd.2.1) nd.2.2.2 x.2.1).2):=by unfold bytesV; rw [if_pos hft.1,hLv,← hx1,hf1,bytesA_bad hft.2 h0]
   exact Xq9 [3] (Ps:=[_]) (res2 Tryz.results81 rfl rfl) rfl (by decide) ⟨.slice none 0 0,by rw [hres] <;> rfl,by rw [hres] <;> rfl⟩
 ·
  have hft:=nand_of29 hc26
  refine W_exit (X_then_exit (X_then_exit (X_block_exit (X9 ?_))))
  refine Q9 (R9 (M9 rfl rfl (G9 rfl rfl (G9 rfl rfl (N9 (X9 ?_))))))
  refine W_ret ?_
  have hres : bytesV (viewT (es.map toTB)) nd frm to = (x.2.2.2,0):=by
   unfold bytesV
   by_cases hlt : frm < to
   ·rw [if_pos hlt,hLv,← hx1,bytesA_end (by omega)]
   ·rw [if_neg hlt]; rcases hx5 with h5 | h5
    ·exact absurd h5 hlt
    ·rw [h5]
  exact Xq9 [2] (Ps:=[_]) (res2 Tryz.results81 rfl rfl) rfl (by decide) ⟨x.2.2.1,by rw [hres] <;> rfl,by rw [hres] <;> rfl⟩
theorem rentries_spec (g : Nat) (es : List EB) (v : Value) (hel : es.length ≤ 1000000000000) (hdl : ∀ b ∈ es,b.2.length ≤ 1000000000) (F : HP) (hC : ∀ h,F h → cellH h ⟨g,0,none⟩ = some v) (hF : ∀ h,F h → rdP 35 v es.length (recC bvC (es.map (fun p : EB => p.1))) h) (hD : ∀ h,F h → datE es h) (nd : Nd) (hnd : NdOk nd) (hk2 : nd.1 = 2) : CallsS Tryz.prog 80 #[.pointer (some ⟨g,0,none⟩),.agg (ndC nd).toArray] F [] (fun r Ps => ∃ w,r = .tuple #[w,.int .i64 ((dirV (viewT (es.map toTB)) nd).2 : Int)] ∧ Ps = [rowE 122 w (dirV (viewT (es.map toTB)) nd).1]):=by
 refine callsS_enter Tryz.func80 rfl Tryz.ntmps80 (by simp) (fun E => ?_)
 refine Q9 (R9 (Lc9 rfl rfl (by decide) (OpT_box (r:=101) rfl rfl rfl (fun g101 => (G9 rfl rfl (G9 rfl rfl (N9 (X9 (Q9 ?_)))))))))
 refine W_nilRow 2 122 33 ?_
 refine R9 (M9 rfl rfl (L9 rfl (Px9 (r:=101) rfl Tryz.isAgg42 Tryz.sizeOf42 rfl rfl (ndC_length hnd.2.2.2.2) (load_all (ndC_length hnd.2.2.2.2))) (L9 rfl (F9 1 rfl rfl) (L9 rfl (Pb9 (r:=101) rfl Tryz.isAgg3 rfl rfl (show (ndC nd)[1]? = some (.int .i64 ((nd.2.1.toNat : Nat) : Int)) by rw [Int.toNat_of_nonneg hnd.2.1]; rfl)) (Lc9 rfl rfl (by decide) (Oc9 200 [0,2,101] [] rfl Tryz.call81 rfl rfl rfl (by decide) (by decide) (rbytes_spec g es v hel hdl _ (cell_up 0 rfl hC) (rs9 0 rfl hF) (ds9 0 rfl hD) nd hnd 0 nd.2.1.toNat (by have:=hnd.2.1; omega) (by decide)) (fun v13 Ps13 hR13 => ?_)))))))
 obtain ⟨w13,rfl,rfl⟩:=hR13
 skip
 refine (M9 rfl rfl (L9 rfl (Pe9 rfl rfl rfl) (L9 rfl (Pe9 rfl rfl rfl) (G9 rfl rfl (G9 rfl rfl (N9 (X9 ?_)))))))
 refine Q9 (Q9 (R9 (M9 rfl rfl (L9 rfl (Pn9 rfl rfl rfl (run_neq _ _ _ _ _ _)) (N9 (X9 ?_))))))
 refine C9 rfl (fun hc17 => ?_) (fun hc17 => ?_)
 ·
  have hb0 : (bytesV (viewT (es.map toTB)) nd 0 nd.2.1.toNat).2 ≠ 0:=by simpa using hc17
  have hres : dirV (viewT (es.map toTB)) nd = ([],(bytesV (viewT (es.map toTB)) nd 0 nd.2.1.toNat).2):=by unfold dirV; rw [if_neg (fun h => h hk2),if_pos hb0]
  refine Q9 (R9 (M9 rfl rfl (G9 rfl rfl (G9 rfl rfl (N9 (X9 ?_))))))
  refine W_ret (X_then_ret ?_)
  exact Xq9 [2] (Ps:=[_]) (res2 Tryz.results80 rfl rfl) rfl (by decide) ⟨.slice none 0 0,by rw [hres] <;> rfl,by rw [hres] <;> rfl⟩
 ·
  have hb0 : (bytesV (viewT (es.map toTB)) nd 0 nd.2.1.toNat).2 = 0:=by simpa using hc17
  have hres : dirV (viewT (es.map toTB)) nd = par (bytesV (viewT (es.map toTB)) nd 0 nd.2.1.toNat).1 []:=by unfold dirV; rw [if_neg (fun h => h hk2),if_neg (fun h => h hb0)]
  have hbl : (bytesV (viewT (es.map toTB)) nd 0 nd.2.1.toNat).1.length ≤ 2000000:=by have h1:=bytesV_len (viewT (es.map toTB)) nd 0 nd.2.1.toNat; have h2:=hnd.2.2.1; omega
  refine K9 (X9 ?_)
  refine Q9 (R9 (M9 rfl rfl (Lc9 rfl rfl (by decide) (Oc9 300 [0,2,101,200] [] rfl Tryz.call117 rfl rfl rfl (by decide) (by decide) (refParseDir_spec w13 (bytesV (viewT (es.map toTB)) nd 0 nd.2.1.toNat).1 hbl _ (rs9 3 rfl rowB_rd)) (fun v20 Ps20 hR20 => ?_)))))
  obtain ⟨w20,rfl,rfl⟩:=hR20
  skip
  refine (L9 rfl (Pe9 rfl rfl rfl) (L9 rfl (Pe9 rfl rfl rfl) (G9 rfl rfl (G9 rfl rfl (N9 (X9 ?_))))))
  refine W_ret ?_
  exact Xq9 [300] (Ps:=[_]) (res2 Tryz.results80 rfl rfl) rfl (by decide) ⟨w20,by rw [hres] <;> rfl,by rw [hres] <;> rfl⟩
open Go.RowKit
set_option maxRecDepth 8000
theorem parF_zero : ∀ (f : Nat) (b : List UInt8) (acc : List Ent),(parF f b acc).2 = 0 → dirE (parF f b acc).1 = 0
  | 0,b,acc,h => by
    rw [parF] at h ⊢
    unfold finP at h ⊢
    split at h
    · rename_i hh; simp only at h; omega
    · rename_i hh
      rw [if_neg hh]
      show dirE acc = 0
      omega
  | f + 1,b,acc,h => by
    rw [parF] at h ⊢
    split at h
    · rename_i hb
      rw [if_pos hb]
      unfold finP at h ⊢
      split at h
      · rename_i hh; simp only at h; omega
      · rename_i hh
        rw [if_neg hh]
        show dirE acc = 0
        omega
    · rename_i hb
      rw [if_neg hb]
      split at h
      · cases h
      · rename_i hn
        rw [if_neg hn]
        exact parF_zero f _ _ h
theorem rise_ne {ns : List (List UInt8)} (h : riseP ns ns.length) : ∀ j k,j < k → k < ns.length → Op.bytesLess (ns.getD j []) (ns.getD k []) = true:=by
  intro j k
  induction k with
  | zero => intro h1; omega
  | succ k ih =>
    intro h1 h2
    have h3:=h (k + 1) h2 (by omega)
    rw [Nat.add_sub_cancel] at h3
    by_cases hjk : j = k
    · rw [hjk]; exact h3
    · exact less_trans _ _ _ (ih (by omega) (by omega)) h3
theorem dirE_nodup {es : List Ent} (h : dirE es = 0) : (es.map (·.1)).Nodup:=by
  have hr : riseP (nms es) es.length:=by
    unfold dirE at h
    split at h
    · rename_i h1; exact absurd h h1
    · split at h
      · cases h
      · rename_i h2; exact Classical.byContradiction h2
  rw [← nms_length] at hr
  have hn:=rise_ne hr
  show (nms es).Nodup
  refine List.pairwise_iff_getElem.2 fun i j hi hj hij hc => ?_
  have:=hn i j hij hj
  rw [List.getD_eq_getElem?_getD,List.getD_eq_getElem?_getD,List.getElem?_eq_getElem hi,List.getElem?_eq_getElem hj,hc] at this
  simp only [Option.getD_some] at this
  rw [less_irr] at this
  cases this
theorem dirV_nodup {V : VW} {n : Nd} (h : (dirV V n).2 = 0) : ((dirV V n).1.map (·.1)).Nodup:=by
  unfold dirV at h ⊢
  split at h
  · cases h
  · rename_i h1
    rw [if_neg h1]
    split at h
    · rename_i h2; exact absurd h h2
    · rename_i h2
      rw [if_neg h2]
      exact dirE_nodup (parF_zero _ _ _ h)
def lastV (V : VW) (m : List UInt8) (es : List Ent) (st : Nd × Int) : Nd × Int:=es.foldl (fun st e => if e.1 = m then inodeV V e.2 else st) st
theorem lastV_none (V : VW) (m : List UInt8) : ∀ (es : List Ent) (st : Nd × Int),m ∉ es.map (·.1) → lastV V m es st = st
  | [],st,_ => rfl
  | e :: es,st,h => by
    rw [List.map_cons,List.mem_cons,not_or] at h
    show lastV V m es (if e.1 = m then inodeV V e.2 else st) = st
    rw [if_neg (fun hc => h.1 hc.symm),lastV_none V m es st h.2]
theorem lastV_find (V : VW) (m : List UInt8) : ∀ (es : List Ent) (st : Nd × Int),(es.map (·.1)).Nodup → lastV V m es st = match es.find? (fun x => decide (x.1 = m)) with
    | none => st
    | some x => inodeV V x.2
  | [],st,_ => rfl
  | e :: es,st,h => by
    rw [List.map_cons,List.nodup_cons] at h
    show lastV V m es (if e.1 = m then inodeV V e.2 else st) = _
    rw [List.find?_cons]
    by_cases he : e.1 = m
    · simp only [he,decide_true,if_true]
      exact lastV_none V m es _ (by rw [← he]; exact h.1)
    · simp only [he,decide_false,if_false]
      exact lastV_find V m es st h.2
theorem lastV_snoc (V : VW) (m : List UInt8) {es : List Ent} {k : Nat} (hk : k < es.length) (st : Nd × Int) : lastV V m (es.take (k + 1)) st = if (es.getD k ent0).1 = m then inodeV V (es.getD k ent0).2 else lastV V m (es.take k) st:=by
  unfold lastV
  rw [List.take_succ_eq_append_getElem hk,List.foldl_append,List.getD_eq_getElem?_getD,List.getElem?_eq_getElem hk]
  rfl
theorem refC_node {v : Value} {id : List UInt8} {met : Bool} (h : id.length = 32) : ((refC v id met).drop 1).take 32 = bs id:=by
  show (bs id ++ [Value.bool met]).take 32 = bs id
  rw [List.take_append_of_le_length (by rw [bs_length]; omega),List.take_of_length_le (by rw [bs_length]; omega)]
theorem nms_take {es : List Ent} {k : Nat} (hk : k < es.length) : nms (es.take (k + 1)) = nms (es.take k) ++ [(es.getD k ent0).1]:=by
  unfold nms
  rw [List.take_succ_eq_append_getElem hk,List.map_append,List.getD_eq_getElem?_getD,List.getElem?_eq_getElem hk]
  rfl
theorem row_nms {e : TypeId} {v : Value} {xs : List (List UInt8)} {x : List UInt8} {h : Hlt} (hp : rowP e 1 v (xs.length + 1) (ss xs ++ [sV x]) h) : rowS e v (xs ++ [x]) h:=by
  unfold rowS
  rw [List.length_append,ss_append]
  exact hp
theorem rfind_spec (es : List EB) (v : Value) (id : List UInt8) (hid : id.length = 32) (met : Bool) (hel : es.length ≤ 1000000000000) (hdl : ∀ b ∈ es,b.2.length ≤ 1000000000) (F : HP) (hF : ∀ h,F h → rdP 35 v es.length (recC bvC (es.map (fun p : EB => p.1))) h) (hD : ∀ h,F h → datE es h) (path : List UInt8) (hpl : path.length ≤ 1000000000) : CallsS Tryz.prog 52 #[.agg (refC v id met).toArray,sV path] F [] (fun r Ps => r = .tuple #[.agg (ndC (pathV (viewT (es.map toTB)) id path).1).toArray,.int .i64 (pathV (viewT (es.map toTB)) id path).2] ∧ Ps = []):=by
 refine callsS_enter Tryz.func52 rfl Tryz.ntmps52 (by simp) (fun E => ?_)
 refine Q9 (R9 (Lc9 rfl rfl (by decide) (OpT_box (r:=101) rfl rfl rfl (fun g101 => (Lc9 rfl rfl (by decide) (OpT_alloc (r:=102) (cs:=(nodeC 0 0 0 zeroId)) rfl (zero_run (by kernel_rfl : (Tryz.prog.info? 42).bind (·.zero) = some (.agg (nodeC 0 0 0 zeroId).toArray))) rfl (fun g102 => (G9 rfl rfl (N9 (X9 (Q9 (R9 (M9 rfl rfl (Lc9 rfl rfl (by decide) (Oc9 200 [0,101,102] [] rfl Tryz.call33 rfl rfl rfl (by decide) (by decide) (split_rspec path (by omega) _) (fun v15 Ps15 hR15 => ?_))))))))))))))))
 obtain ⟨vs15,rfl,rfl⟩:=hR15
 skip
 refine (M9 rfl rfl (L9 rfl (Pe9 rfl rfl rfl) (L9 rfl (Pe9 rfl rfl rfl) (G9 rfl rfl (G9 rfl rfl (N9 (X9 ?_)))))))
 refine Q9 (Q9 (R9 (M9 rfl rfl (L9 rfl (Pn9 rfl rfl rfl (run_neq _ _ _ _ _ _)) (N9 (X9 ?_))))))
 refine C9 rfl (fun hc19 => ?_) (fun hc19 => ?_)
 ·
  have hs0 : (splitN path).2 ≠ 0:=by simpa using hc19
  have hres : pathV (viewT (es.map toTB)) id path = (nd0,((splitN path).2 : Int)):=by unfold pathV; rw [if_pos hs0]
  refine Q9 (R9 (L9 rfl (Pu_build (V:=.agg (nodeC 0 0 0 zeroId).toArray) [(0,1),(1,1),(2,1),(3,32)] (nodeC 0 0 0 zeroId) rfl rfl (by kernel_rfl) (by kernel_rfl) (.nil _) rfl) (M9 rfl rfl (Lc09 rfl rfl (OpT_storeAll (r:=102) rfl Tryz.sizeOf42 rfl rfl rfl (nodeC_length zeroId_length) (nodeC_length zeroId_length) (one_node _ _ _ _) ?_)))))
  refine (G9 rfl rfl (N9 (X9 ?_)))
  refine W_ret (X_then_ret ?_)
  exact Xq9 [] (Ps:=[]) (resC2 (r:=102) Tryz.results52 rfl rfl Tryz.isAgg42 Tryz.sizeOf42 rfl (nodeC_length zeroId_length)) rfl (by decide) ⟨by rw [hres] <;> rfl,rfl⟩
 ·
  have hs0 : (splitN path).2 = 0:=by simpa using hc19
  have hsl:=splitN_len path
  refine K9 (X9 ?_)
  refine Q9 (R9 (L9 rfl (F9 1 rfl rfl) (L9 rfl (Px9 (r:=101) rfl Tryz.isAgg29 Tryz.sizeOf29 rfl rfl ((bs_length _).trans hid) (refC_node hid)) (Lc9 rfl rfl (by decide) (Oc9 300 [0,101,102,200] [] rfl Tryz.call79 rfl rfl rfl (by decide) (by decide) (rinode_spec g101 es v hel hdl _ (cell_star 1 rfl rfl) (rs9 0 rfl hF) (ds9 0 rfl hD) id hid) (fun v25 Ps25 hR25 => ?_))))))
  obtain ⟨rfl,rfl⟩:=hR25
  refine (M9 rfl rfl (L9 rfl (Pe9 rfl rfl rfl) (L9 rfl (Pe9 rfl rfl rfl) (Lc9 rfl rfl (by decide) (OpT_alloc (r:=301) (cs:=(nodeC 0 0 0 zeroId)) rfl (zero_run (by kernel_rfl : (Tryz.prog.info? 42).bind (·.zero) = some (.agg (nodeC 0 0 0 zeroId).toArray))) rfl (fun g301 => (Lc09 rfl rfl (OpT_storeAll (r:=301) rfl Tryz.sizeOf42 rfl rfl rfl (nodeC_length zeroId_length) (ndC_length (inodeV_top _ _)) (one_node _ _ _ _) ?_))))))))
  refine (G9 rfl rfl (N9 (X9 ?_)))
  refine Q9 (Q9 (R9 (G9 rfl rfl (N9 (X9 ?_)))))
  refine W_block ?_
  refine W_loop (α:=Nat × Nd × Int) (fun x => [(2,.pointer (some ⟨g101,0,none⟩)),(4,.pointer (some ⟨g102,0,none⟩)),(6,vs15),(7,.int .i64 x.2.2),(8,.pointer (some ⟨g301,0,none⟩)),(9,.int .i64 (x.1 : Int))]) (fun x => [(0,F),(200,rowS 9 vs15 (splitN path).1),(101,blk g101 50 (refC v id met)),(102,blk g102 42 (nodeC 0 0 0 zeroId)),(301,blk g301 42 (ndC x.2.1))]) (fun x => x.1 ≤ (splitN path).1.length ∧ x.2.1.2.2.2.length = 32 ∧ (x.2.2 = 0 → NdOk x.2.1) ∧ pathV (viewT (es.map toTB)) id path = (if x.2.2 ≠ 0 then (nd0,x.2.2) else findV (viewT (es.map toTB)) ((splitN path).1.drop x.1) x.2.1)) (fun x => (splitN path).1.length - x.1) ((0,(inodeV (viewT (es.map toTB)) id).1,(inodeV (viewT (es.map toTB)) id).2)) ⟨Nat.zero_le _,inodeV_top _ _,inodeV_ok,by unfold pathV; rw [if_neg (fun h => h hs0)]; rfl⟩ (a9 rfl) (a9 rfl) (fun x hx => ?_)
  obtain ⟨hx1,hx2,hx3,hx4⟩:=hx
  refine Q9 (Q9 (R9 (M9 rfl rfl (M9 rfl rfl (L9 rfl (Pl9 (r:=200) rfl Tryz.runUnderlying63 rfl rfl rowS_rd) (L9 rfl (Pn9 rfl rfl rfl (run_lss _ _ _ _ _ _)) (M9 rfl rfl (Lg9 rfl rfl rfl rfl (by decide) (fun hb => (Pm9 rfl rfl)) (Lg9 rfl rfl rfl rfl (by decide) (fun hb => (Pn9 rfl (ev_gv rfl hb) rfl (run_eql _ _ _ _ _ _))) (L9 rfl (Pu_and rfl rfl rfl) (N9 (X9 ?_))))))))))))
  refine C9 rfl (fun hc35 => ?_) (fun hc35 => ?_)
  ·
   have hlt : x.1 < (splitN path).1.length:=by simp only [Bool.and_eq_true,decide_eq_true_eq] at hc35; omega
   have he0 : x.2.2 = 0:=by simp only [Bool.and_eq_true,decide_eq_true_eq] at hc35; exact hc35.2
   obtain ⟨m,hm⟩ : ∃ m,m = (splitN path).1.getD x.1 []:=⟨_,rfl⟩
   have hgm : (splitN path).1[x.1] = m:=by rw [hm]; simp [hlt]
   have hx5 : pathV (viewT (es.map toTB)) id path = findV (viewT (es.map toTB)) (m :: (splitN path).1.drop (x.1 + 1)) x.2.1:=by rw [hx4,if_neg (fun h => h he0),List.drop_eq_getElem_cons hlt,hgm]
   refine K9 (X9 ?_)
   refine Q9 ?_
   refine W_block ?_
   refine Q9 (Q9 (R9 (L9 rfl (F9 0 rfl rfl) (L9 rfl (Pb9 (r:=301) rfl Tryz.isAgg3 rfl rfl rfl) (L9 rfl (Pn9 rfl rfl rfl (run_neq _ _ _ _ _ _)) (N9 (X9 ?_)))))))
   refine C9 rfl (fun hc40 => ?_) (fun hc40 => ?_)
   ·
    have hd3 : (dirV (viewT (es.map toTB)) x.2.1) = ([],3):=by unfold dirV; rw [if_pos (by simpa using hc40)]
    have hres : pathV (viewT (es.map toTB)) id path = (nd0,3):=by rw [hx5,findV,hd3,if_pos (by decide)]; rfl
    refine Q9 (R9 (L9 rfl (Pu_build (V:=.agg (nodeC 0 0 0 zeroId).toArray) [(0,1),(1,1),(2,1),(3,32)] (nodeC 0 0 0 zeroId) rfl rfl (by kernel_rfl) (by kernel_rfl) (.nil _) rfl) (Lc09 rfl rfl (OpT_storeAll (r:=102) rfl Tryz.sizeOf42 rfl rfl rfl (nodeC_length zeroId_length) (nodeC_length zeroId_length) (one_node _ _ _ _) ?_))))
    refine (G9 rfl rfl (N9 (X9 ?_)))
    refine W_ret (X_then_ret (X_block_ret (X_then_ret (X_then_ret (X_block_ret (X_then_ret ?_))))))
    exact Xq9 [] (Ps:=[]) (resC2 (r:=102) Tryz.results52 rfl rfl Tryz.isAgg42 Tryz.sizeOf42 rfl (nodeC_length zeroId_length)) rfl (by decide) ⟨by rw [hres] <;> rfl,rfl⟩
   ·
    have hk2 : x.2.1.1 = 2:=by simpa using hc40
    refine K9 (X9 ?_)
    refine Q9 (R9 (L9 rfl (Px9 (r:=301) rfl Tryz.isAgg42 Tryz.sizeOf42 rfl rfl (ndC_length hx2) (load_all (ndC_length hx2))) (Lc9 rfl rfl (by decide) (Oc9 400 [0,101,102,200,301] [] rfl Tryz.call80 rfl rfl rfl (by decide) (by decide) (rentries_spec g101 es v hel hdl _ (cell_star 1 rfl rfl) (rs9 0 rfl hF) (ds9 0 rfl hD) x.2.1 (hx3 he0) hk2) (fun v44 Ps44 hR44 => ?_)))))
    obtain ⟨w44,rfl,rfl⟩:=hR44
    skip
    refine (M9 rfl rfl (L9 rfl (Pe9 rfl rfl rfl) (L9 rfl (Pe9 rfl rfl rfl) (G9 rfl rfl (G9 rfl rfl (N9 (X9 ?_)))))))
    refine Q9 (Q9 (R9 (M9 rfl rfl (L9 rfl (Pn9 rfl rfl rfl (run_neq _ _ _ _ _ _)) (N9 (X9 ?_))))))
    refine C9 rfl (fun hc48 => ?_) (fun hc48 => ?_)
    ·
     have hd0 : (dirV (viewT (es.map toTB)) x.2.1).2 ≠ 0:=by simpa using hc48
     have hres : pathV (viewT (es.map toTB)) id path = (nd0,((dirV (viewT (es.map toTB)) x.2.1).2 : Int)):=by rw [hx5,findV,if_pos hd0]
     refine Q9 (R9 (L9 rfl (Pu_build (V:=.agg (nodeC 0 0 0 zeroId).toArray) [(0,1),(1,1),(2,1),(3,32)] (nodeC 0 0 0 zeroId) rfl rfl (by kernel_rfl) (by kernel_rfl) (.nil _) rfl) (M9 rfl rfl (Lc09 rfl rfl (OpT_storeAll (r:=102) rfl Tryz.sizeOf42 rfl rfl rfl (nodeC_length zeroId_length) (nodeC_length zeroId_length) (one_node _ _ _ _) ?_)))))
     refine (G9 rfl rfl (N9 (X9 ?_)))
     refine W_ret (X_then_ret (X_block_ret (X_then_ret (X_then_ret (X_block_ret (X_then_ret ?_))))))
     exact Xq9 [] (Ps:=[]) (resC2 (r:=102) Tryz.results52 rfl rfl Tryz.isAgg42 Tryz.sizeOf42 rfl (nodeC_length zeroId_length)) rfl (by decide) ⟨by rw [hres] <;> rfl,rfl⟩
    ·
     have hd0 : (dirV (viewT (es.map toTB)) x.2.1).2 = 0:=by simpa using hc48
     have hnd:=dirV_nodup hd0
     obtain ⟨ens,hdes⟩ : ∃ ens,(dirV (viewT (es.map toTB)) x.2.1).1 = ens:=⟨_,rfl⟩
     have hdd:=dirV_ents (viewT (es.map toTB)) x.2.1 (hx3 he0)
     rw [hdes] at hdd hnd
     obtain ⟨hE,hnl⟩:=hdd
     rw [hdes]
     refine K9 (X9 ?_)
     refine Q9 (R9 (G9 rfl rfl (N9 (X9 (Q9 (R9 (G9 rfl rfl (N9 (X9 ?_)))))))))
     refine W_block ?_
     refine W_loop (α:=Nat × Nd × Int) (fun y => [(2,.pointer (some ⟨g101,0,none⟩)),(4,.pointer (some ⟨g102,0,none⟩)),(6,vs15),(7,.int .i64 y.2.2),(8,.pointer (some ⟨g301,0,none⟩)),(9,.int .i64 (x.1 : Int)),(10,w44),(12,.int .i64 (y.1 : Int))]) (fun y => [(0,F),(200,rowS 9 vs15 (splitN path).1),(101,blk g101 50 (refC v id met)),(102,blk g102 42 (nodeC 0 0 0 zeroId)),(301,blk g301 42 (ndC y.2.1)),(400,rowE 122 w44 ens)]) (fun y => y.1 ≤ ens.length ∧ y.2.1.2.2.2.length = 32 ∧ (y.2.2 = 0 → NdOk y.2.1) ∧ (y.2.1,y.2.2) = lastV (viewT (es.map toTB)) m (ens.take y.1) (x.2.1,2)) (fun y => ens.length - y.1) ((0,x.2.1,2)) ⟨Nat.zero_le _,hx2,fun h => absurd h (show ¬ (2 : Int) = 0 by decide),rfl⟩ (a9 rfl) (a9 rfl) (fun y hy => ?_)
     obtain ⟨hy1,hy2,hy3,hy4⟩:=hy
     refine Q9 (Q9 (R9 (M9 rfl rfl (M9 rfl rfl (L9 rfl (Pl9 (r:=400) rfl Tryz.runUnderlying118 rfl rfl rowR_rd) (L9 rfl (Pn9 rfl rfl rfl (run_lss _ _ _ _ _ _)) (N9 (X9 ?_))))))))
     refine C9 rfl (fun hc54 => ?_) (fun hc54 => ?_)
     ·
      have hlt2 : y.1 < ens.length:=by have:=of_decide_eq_true hc54; omega
      refine K9 (X9 ?_)
      refine Q9 ?_
      refine W_block ?_
      refine Q9 ?_
      refine W_draw (N:=10) (by kernel_rfl) rfl [(0,_),(101,_),(102,_),(301,_),(200,_),(400,_)] ⟨rfl,rfl,rfl,rfl,rfl,rfl,trivial⟩ ?_
      refine (T9 0 rfl rfl (Pm9 rfl rfl) (T9 1 rfl rfl (Pm9 rfl rfl) (T9 2 rfl rfl (Pi9 (r:=400) rfl Tryz.runUnderlying118 Tryz.sizeOf122 rfl rfl rfl rowR_rd (by omega)) (T9 3 rfl rfl (Pu_fieldAddrE (off:=0) rfl rfl (by kernel_rfl)) (T9 4 rfl rfl (Py9 (r:=400) rfl Tryz.isAgg9 rfl rfl rowR_rd (ent_name hE hlt2)) (T9 5 rfl rfl (Pm9 rfl rfl) (T9 6 rfl rfl (Pm9 rfl rfl) (T9 7 rfl rfl (Pu_idxS1 (r:=200) rfl Tryz.runUnderlying63 Tryz.sizeOf9 rfl rfl rfl rowS_rd (by omega)) (T9 8 rfl rfl (Py9 (r:=200) rfl Tryz.isAgg9 rfl rfl rowS_rd (ss_at (k:=x.1) hlt)) ?_)))))))))
      rw [← hm]
      refine (T9 9 rfl rfl (Pn9 rfl rfl rfl (run_strEq _ _ _ _ _)) (Ad9 (by kernel_rfl) (X9 ?_)))
      refine C9 rfl (fun hc66 => ?_) (fun hc66 => ?_)
      ·
       have hnm : (ens.getD y.1 ent0).1 = m:=by simpa using hc66
       refine R9 (M9 rfl rfl (M9 rfl rfl (L9 rfl (Pi9 (r:=400) rfl Tryz.runUnderlying118 Tryz.sizeOf122 rfl rfl rfl rowR_rd (by omega)) (L9 rfl (Pu_fieldAddrE (off:=1) rfl rfl (by kernel_rfl)) (L9 rfl (Pz9 (r:=400) rfl Tryz.isAgg29 Tryz.sizeOf29 rfl rfl rowR_rd ((bs_length _).trans (hE.get hlt2)) (by decide) (ent_node hE hlt2)) (Lc9 rfl rfl (by decide) (Oc9 500 [0,101,102,200,301,400] [] rfl Tryz.call79 rfl rfl rfl (by decide) (by decide) (rinode_spec g101 es v hel hdl _ (cell_star 1 rfl rfl) (rs9 0 rfl hF) (ds9 0 rfl hD) (ens.getD y.1 ent0).2 (hE.get hlt2)) (fun v73 Ps73 hR73 => ?_))))))))
       obtain ⟨rfl,rfl⟩:=hR73
       refine (M9 rfl rfl (L9 rfl (Pe9 rfl rfl rfl) (L9 rfl (Pe9 rfl rfl rfl) (Lc09 rfl rfl (OpT_storeAll (r:=301) rfl Tryz.sizeOf42 rfl rfl rfl (ndC_length hy2) (ndC_length (inodeV_top _ _)) (one_node _ _ _ _) ?_)))))
       refine (G9 rfl rfl (N9 (X_block (X9 ?_))))
       refine R9 (M9 rfl rfl (L9 rfl (Pn9 rfl rfl rfl (run_add _ _ _ _ _ (by omega))) (G9 rfl rfl (N9 ?_))))
       exact Xr9 (y.1 + 1,(inodeV (viewT (es.map toTB)) (ens.getD y.1 ent0).2).1,(inodeV (viewT (es.map toTB)) (ens.getD y.1 ent0).2).2) ⟨by dsimp only; omega,inodeV_top _ _,inodeV_ok,by rw [lastV_snoc _ _ hlt2,if_pos hnm]⟩ (by dsimp only; omega) (a9 rfl) (a9 rfl)
      ·
       have hnm : ¬ (ens.getD y.1 ent0).1 = m:=by simpa using hc66
       refine K9 (X_block (X9 ?_))
       refine R9 (M9 rfl rfl (L9 rfl (Pn9 rfl rfl rfl (run_add _ _ _ _ _ (by omega))) (G9 rfl rfl (N9 ?_))))
       exact Xr9 (y.1 + 1,y.2.1,y.2.2) ⟨by dsimp only; omega,hy2,hy3,by rw [lastV_snoc _ _ hlt2,if_neg hnm]; exact hy4⟩ (by dsimp only; omega) (a9 rfl) (a9 rfl)
     ·
      have hge2 : ens.length ≤ y.1:=by have:=of_decide_eq_false hc54; omega
      rw [List.take_of_length_le hge2,lastV_find _ _ _ _ hnd] at hy4
      have hfin : pathV (viewT (es.map toTB)) id path = (if y.2.2 ≠ 0 then (nd0,y.2.2) else findV (viewT (es.map toTB)) ((splitN path).1.drop (x.1 + 1)) y.2.1):=by
       rw [hx5,findV,if_neg (fun h => h hd0),hdes]
       cases hfo : ens.find? (fun x => decide (x.1 = m)) with
       | none =>
        rw [hfo] at hy4
        have h2 : y.2.2 = 2:=congrArg (fun q : Nd × Int => q.2) hy4
        rw [h2]; rfl
       | some z =>
        rw [hfo] at hy4
        have h1 : y.2.1 = (inodeV (viewT (es.map toTB)) z.2).1:=congrArg (fun q : Nd × Int => q.1) hy4
        have h2 : y.2.2 = (inodeV (viewT (es.map toTB)) z.2).2:=congrArg (fun q : Nd × Int => q.2) hy4
        rw [h1,h2]
      refine W_exit (X_then_exit (X_then_exit (X_block_exit (X_block (X9 ?_)))))
      refine R9 (M9 rfl rfl (L9 rfl (Pn9 rfl rfl rfl (run_add _ _ _ _ _ (by omega))) (G9 rfl rfl (N9 ?_))))
      exact Xr9 (x.1 + 1,y.2.1,y.2.2) ⟨by dsimp only; omega,hy2,hy3,hfin⟩ (by dsimp only; omega) (a9 rfl) (a9 rfl)
  ·
   have hout : (splitN path).1.length ≤ x.1 ∨ x.2.2 ≠ 0:=by simp only [Bool.and_eq_false_iff,decide_eq_false_iff_not] at hc35; rcases hc35 with h | h; exact .inl (by omega); exact .inr h
   refine W_exit (X_then_exit (X_then_exit (X_block_exit (X9 ?_))))
   refine Q9 (Q9 (R9 (M9 rfl rfl (L9 rfl (Pn9 rfl rfl rfl (run_neq _ _ _ _ _ _)) (N9 (X9 ?_))))))
   refine C9 rfl (fun hc77 => ?_) (fun hc77 => ?_)
   ·
    have he0 : x.2.2 ≠ 0:=by simpa using hc77
    have hres : pathV (viewT (es.map toTB)) id path = (nd0,x.2.2):=by rw [hx4,if_pos he0]
    refine Q9 (R9 (L9 rfl (Pu_build (V:=.agg (nodeC 0 0 0 zeroId).toArray) [(0,1),(1,1),(2,1),(3,32)] (nodeC 0 0 0 zeroId) rfl rfl (by kernel_rfl) (by kernel_rfl) (.nil _) rfl) (M9 rfl rfl (Lc09 rfl rfl (OpT_storeAll (r:=102) rfl Tryz.sizeOf42 rfl rfl rfl (nodeC_length zeroId_length) (nodeC_length zeroId_length) (one_node _ _ _ _) ?_)))))
    refine (G9 rfl rfl (N9 (X9 ?_)))
    refine W_ret (X_then_ret ?_)
    exact Xq9 [] (Ps:=[]) (resC2 (r:=102) Tryz.results52 rfl rfl Tryz.isAgg42 Tryz.sizeOf42 rfl (nodeC_length zeroId_length)) rfl (by decide) ⟨by rw [hres] <;> rfl,rfl⟩
   ·
    have he0 : x.2.2 = 0:=by simpa using hc77
    have hge : (splitN path).1.length ≤ x.1:=by rcases hout with h | h; exact h; exact absurd he0 h
    have hres : pathV (viewT (es.map toTB)) id path = (x.2.1,0):=by rw [hx4,if_neg (fun h => h he0),List.drop_of_length_le hge]; rfl
    refine K9 (X9 ?_)
    refine Q9 (R9 (L9 rfl (Px9 (r:=301) rfl Tryz.isAgg42 Tryz.sizeOf42 rfl rfl (ndC_length hx2) (load_all (ndC_length hx2))) (Lc09 rfl rfl (OpT_storeAll (r:=102) rfl Tryz.sizeOf42 rfl rfl rfl (nodeC_length zeroId_length) (ndC_length hx2) (one_node _ _ _ _) ?_))))
    refine (G9 rfl rfl (N9 (X9 ?_)))
    refine W_ret ?_
    exact Xq9 [] (Ps:=[]) (resC2 (r:=102) Tryz.results52 rfl rfl Tryz.isAgg42 Tryz.sizeOf42 rfl (ndC_length hx2)) rfl (by decide) ⟨by rw [hres] <;> rfl,rfl⟩
open Go.RowKit
set_option maxRecDepth 8000
theorem readV_min {V : VW} {top path : List UInt8} {off n : Int} (h0 : (pathV V top path).2 = 0) (h1 : (pathV V top path).1.1 = 1) (h2 : ¬ (off < 0 ∨ n < 0)) :
    readV V top path off n = ((bytesV V (pathV V top path).1 (min off (pathV V top path).1.2.1).toNat ((min off (pathV V top path).1.2.1).toNat + min n.toNat ((pathV V top path).1.2.1.toNat - (min off (pathV V top path).1.2.1).toNat))).1,((bytesV V (pathV V top path).1 (min off (pathV V top path).1.2.1).toNat ((min off (pathV V top path).1.2.1).toNat + min n.toNat ((pathV V top path).1.2.1.toNat - (min off (pathV V top path).1.2.1).toNat))).2 : Int)):=by
  have hs0:=(pathV_ok h0).2.1
  unfold readV
  rw [if_neg (fun h => h h0),if_neg (fun h => h h1),if_neg h2]
  split
  · rename_i hb
    rw [Int.min_eq_right hb,Nat.sub_self,Nat.min_zero,Nat.add_zero]
    unfold bytesV
    rw [if_neg (Nat.lt_irrefl _)]
    rfl
  · rename_i hb
    rw [Int.min_eq_left (by omega)]
theorem list_spec (es : List EB) (v : Value) (id : List UInt8) (hid : id.length = 32) (hel : es.length ≤ 1000000000000) (hdl : ∀ b ∈ es,b.2.length ≤ 1000000000) (F : HP) (hF : ∀ h,F h → rdP 35 v (es.map (·.1)).length (recC bvC (es.map (·.1))) h) (hD : ∀ h,F h → datE es h) (hT : ∀ h,F h → tabsP h) (path : List UInt8) (hpl : path.length ≤ 1000000000) : CallsS Tryz.prog 30 #[.agg (treeC v id).toArray,sV path] F [] (fun r Ps => ∃ w,r = .tuple #[w,.int .i64 (listV (viewT (es.map toTB)) id path).2] ∧ Ps = [rowS 9 w (listV (viewT (es.map toTB)) id path).1]):=by
 refine callsS_enter Tryz.func30 rfl Tryz.ntmps30 (by simp) (fun E => ?_)
 refine Q9 (R9 (Lc9 rfl rfl (by decide) (OpT_box (r:=101) rfl rfl rfl (fun g101 => (G9 rfl rfl (G9 rfl rfl (N9 (X9 (Q9 (R9 (L9 rfl (Px9 (r:=101) rfl Tryz.isAgg31 Tryz.sizeOf31 rfl rfl (treeC_length hid) (load_all (treeC_length hid))) (Lc9 rfl rfl (by decide) (Oc9 200 [0,101] [] rfl Tryz.call43 rfl rfl rfl (by decide) (by decide) (look_spec es v id hel hdl _ (rs9 0 rfl hF) (ds9 0 rfl hD)) (fun v14 Ps14 hR14 => ?_))))))))))))))
 obtain ⟨gm,ls,rfl,rfl,hL0,hvw⟩:=hR14
 skip
 refine (G9 rfl rfl (N9 (X9 ?_)))
 refine Q9 (R9 (M9 rfl rfl (L9 rfl (F9 1 rfl rfl) (L9 rfl (Px9 (r:=101) rfl Tryz.isAgg29 Tryz.sizeOf29 rfl rfl ((bs_length _).trans hid) (tree_id hid)) (M9 rfl rfl (Lc9 rfl rfl (by decide) (Oc9 300 [0,101,200] [] rfl Tryz.call44 rfl rfl rfl (by decide) (by decide) (view_find gm ls _ (mapQ_star 2 rfl (fun _ h => h)) (fun p0 hp0 => rs9 0 rfl (look_rd hD hL0 p0 hp0)) (ts9 0 rfl hT) id path hid hpl) (fun v20 Ps20 hR20 => ?_))))))))
 obtain ⟨rfl,rfl⟩:=hR20
 rw [hvw]
 refine (M9 rfl rfl (L9 rfl (Pe9 rfl rfl rfl) (L9 rfl (Pe9 rfl rfl rfl) (Lc9 rfl rfl (by decide) (OpT_alloc (r:=301) (cs:=(nodeC 0 0 0 zeroId)) rfl (zero_run (by kernel_rfl : (Tryz.prog.info? 42).bind (·.zero) = some (.agg (nodeC 0 0 0 zeroId).toArray))) rfl (fun g301 => (Lc09 rfl rfl (OpT_storeAll (r:=301) rfl Tryz.sizeOf42 rfl rfl rfl (nodeC_length zeroId_length) (ndC_length (pathV_top _ _ _)) (one_node _ _ _ _) ?_))))))))
 refine (G9 rfl rfl (N9 (X9 ?_)))
 refine Q9 (Q9 ?_)
 refine W_nilRow 3 9 1 ?_
 refine R9 (M9 rfl rfl (L9 rfl (Pn9 rfl rfl rfl (run_neq _ _ _ _ _ _)) (N9 (X9 ?_))))
 refine C9 rfl (fun hc24 => ?_) (fun hc24 => ?_)
 ·
  have hp0 : (pathV (viewT (es.map toTB)) id path).2 ≠ 0:=by simpa using hc24
  have hres : listV (viewT (es.map toTB)) id path = ([],(pathV (viewT (es.map toTB)) id path).2):=by unfold listV; rw [if_pos hp0]
  refine Q9 (R9 (M9 rfl rfl (G9 rfl rfl (G9 rfl rfl (N9 (X9 ?_))))))
  refine W_ret (X_then_ret ?_)
  refine X_turn (P':=rowS 9 (.slice none 0 0) []) 3 rfl (fun h hp => hp) ?_
  exact Xq9 [3] (Ps:=[_]) (res2 Tryz.results30 rfl rfl) rfl (by decide) ⟨.slice none 0 0,by rw [hres] <;> rfl,by rw [hres] <;> rfl⟩
 ·
  have hp0 : (pathV (viewT (es.map toTB)) id path).2 = 0:=by simpa using hc24
  have hok:=pathV_ok hp0
  refine K9 (X9 ?_)
  refine Q9 (R9 (M9 rfl rfl (L9 rfl (Px9 (r:=301) rfl Tryz.isAgg42 Tryz.sizeOf42 rfl rfl (ndC_length (pathV_top _ _ _)) (load_all (ndC_length (pathV_top _ _ _)))) (Lc9 rfl rfl (by decide) (Oc9 400 [0,3,101,200,301] [] rfl Tryz.call56 rfl rfl rfl (by decide) (by decide) (view_folder gm ls _ (mapQ_star 3 rfl (fun _ h => h)) (fun p0 hp0 => rs9 0 rfl (look_rd hD hL0 p0 hp0)) (ts9 0 rfl hT) (pathV (viewT (es.map toTB)) id path).1 hok) (fun v29 Ps29 hR29 => ?_))))))
  obtain ⟨w29,rfl,rfl⟩:=hR29
  rw [hvw]
  refine (M9 rfl rfl (L9 rfl (Pe9 rfl rfl rfl) (L9 rfl (Pe9 rfl rfl rfl) (G9 rfl rfl (G9 rfl rfl (N9 (X9 ?_)))))))
  refine Q9 (Q9 (R9 (M9 rfl rfl (L9 rfl (Pn9 rfl rfl rfl (run_neq _ _ _ _ _ _)) (N9 (X9 ?_))))))
  refine C9 rfl (fun hc33 => ?_) (fun hc33 => ?_)
  ·
   have hd0 : (dirV (viewT (es.map toTB)) (pathV (viewT (es.map toTB)) id path).1).2 ≠ 0:=by simpa using hc33
   have hres : listV (viewT (es.map toTB)) id path = ([],((dirV (viewT (es.map toTB)) (pathV (viewT (es.map toTB)) id path).1).2 : Int)):=by unfold listV; rw [if_neg (fun h => h hp0),if_pos hd0]
   refine Q9 (R9 (M9 rfl rfl (G9 rfl rfl (G9 rfl rfl (N9 (X9 ?_))))))
   refine W_ret (X_then_ret ?_)
   refine X_turn (P':=rowS 9 (.slice none 0 0) []) 3 rfl (fun h hp => hp) ?_
   exact Xq9 [3] (Ps:=[_]) (res2 Tryz.results30 rfl rfl) rfl (by decide) ⟨.slice none 0 0,by rw [hres] <;> rfl,by rw [hres] <;> rfl⟩
  ·
   have hd0 : (dirV (viewT (es.map toTB)) (pathV (viewT (es.map toTB)) id path).1).2 = 0:=by simpa using hc33
   obtain ⟨ens,hdes⟩ : ∃ ens,(dirV (viewT (es.map toTB)) (pathV (viewT (es.map toTB)) id path).1).1 = ens:=⟨_,rfl⟩
   have hdd:=dirV_ents (viewT (es.map toTB)) (pathV (viewT (es.map toTB)) id path).1 hok
   rw [hdes] at hdd
   obtain ⟨hE,hnl⟩:=hdd
   rw [hdes]
   have hres : listV (viewT (es.map toTB)) id path = (nms ens,0):=by unfold listV; rw [if_neg (fun h => h hp0),if_neg (fun h => h hd0),hdes]
   refine K9 (X9 ?_)
   refine Q9 (R9 (G9 rfl rfl (N9 (X9 (Q9 (Q9 (R9 (M9 rfl rfl (L9 rfl (Pl9 (r:=400) rfl Tryz.runUnderlying118 rfl rfl rowR_rd) (M9 rfl rfl (N9 (X9 ?_))))))))))))
   refine W_block ?_
   refine Wt9 (P':=rowS 9 (.slice none 0 0) (nms (ens.take 0))) 3 rfl (fun h hp => hp) ?_
   refine W_loop (α:=Nat × Value) (fun x => [(10,x.2),(35,w29),(36,.int .i64 (ens.length : Int)),(37,.int .i64 (x.1 : Int))]) (fun x => [(0,F),(3,rowS 9 x.2 (nms (ens.take x.1))),(400,rowE 122 w29 ens)]) (fun x => x.1 ≤ ens.length) (fun x => ens.length - x.1) ((0,.slice none 0 0)) (Nat.zero_le _) (a9 rfl) (a9 rfl) (fun x hx => ?_)
   have hnk : (nms (ens.take x.1)).length = x.1:=by rw [nms_length,List.length_take]; omega
   refine Q9 (R9 (L9 rfl (Pn9 rfl rfl rfl (run_lss _ _ _ _ _ _)) (N9 (X9 (Q9 ?_)))))
   refine C9 rfl (fun hc38 => ?_) (fun hc38 => ?_)
   ·
    have hlt : x.1 < ens.length:=by have:=of_decide_eq_true hc38; omega
    refine K9 (X9 ?_)
    refine Q9 ?_
    refine W_block ?_
    refine Q9 (R9 (L9 rfl (Pi9 (r:=400) rfl Tryz.runUnderlying118 Tryz.sizeOf122 rfl rfl rfl rowR_rd (by omega)) (L9 rfl (Pz9 (r:=400) rfl Tryz.isAgg122 Tryz.sizeOf122 rfl rfl rowR_rd (entF_len (hE.get hlt)) (by decide) (ent_all hE hlt)) (Lc9 rfl rfl (by decide) (OpT_alloc (r:=401) (cs:=(entC [] zeroId)) rfl (zero_run (by kernel_rfl : (Tryz.prog.info? 122).bind (·.zero) = some (.agg (entC [] zeroId).toArray))) rfl (fun g401 => (Lc09 rfl rfl (OpT_storeAll (r:=401) rfl Tryz.sizeOf122 rfl rfl rfl (entC_length zeroId_length) (entC_length (hE.get hlt)) (entC_one _ _) ?_))))))))
    refine (N9 (X9 ?_))
    refine R9 (M9 rfl rfl (L9 rfl (F9 0 rfl rfl) (L9 rfl (Pb9 (r:=401) rfl Tryz.isAgg9 rfl rfl rfl) (Lc9 rfl rfl (by decide) (OpT_buildOnes (r:=402) [sV (ens.getD x.1 ent0).1] rfl rfl Tryz.runUnderlying63 Tryz.sizeOf9 Tryz.zeroValue9 rfl rfl (by decide) rfl (by simp [Value.cells]) (fun v44 => (Lc9 rfl rfl (by decide) (Oa9 (r:=3) (r2:=402) rfl Tryz.underlying63 TI.hi9 TI.hz9 TI.hs9 TI.hby9 TI.hzs9 (by decide) rfl rfl rfl rfl (fun _ h => rp9 h) (by intro u hu; simp at hu; rw [hu]; rfl) (by unfold maxLen; omega) (by omega) (fun v45 => ?_)))))))))
    refine Lt9 (P':=rowS 9 v45 (nms (ens.take x.1) ++ [(ens.getD x.1 ent0).1])) (r:=3) rfl (fun h hp => row_nms hp) ?_
    refine (G9 rfl rfl (N9 (X_block (X9 ?_))))
    refine R9 (L9 rfl (Pn9 rfl rfl rfl (run_add _ _ _ _ _ (by omega))) (M9 rfl rfl (N9 ?_)))
    exact Xr9 (x.1 + 1,v45) (by dsimp only; omega) (by dsimp only; omega) ⟨rfl,rfl,rfl,rfl,trivial⟩ ⟨rfl,look_eq rfl (by rw [nms_take hlt]),rfl,trivial⟩
   ·
    have hge : ens.length ≤ x.1:=by have:=of_decide_eq_false hc38; omega
    refine W_exit (X_then_exit (X_then_exit (X_block_exit (X9 ?_))))
    refine Q9 (R9 (M9 rfl rfl (G9 rfl rfl (G9 rfl rfl (N9 (X9 ?_))))))
    refine W_ret ?_
    refine X_turn (P':=rowS 9 x.2 (nms ens)) 3 rfl (fun h hp => by rw [List.take_of_length_le hge] at hp; exact hp) ?_
    exact Xq9 [3] (Ps:=[_]) (res2 Tryz.results30 rfl rfl) rfl (by decide) ⟨x.2,by rw [hres] <;> rfl,by rw [hres] <;> rfl⟩
theorem rlist_spec (es : List EB) (v : Value) (id : List UInt8) (hid : id.length = 32) (met : Bool) (hel : es.length ≤ 1000000000000) (hdl : ∀ b ∈ es,b.2.length ≤ 1000000000) (F : HP) (hF : ∀ h,F h → rdP 35 v es.length (recC bvC (es.map (fun p : EB => p.1))) h) (hD : ∀ h,F h → datE es h) (path : List UInt8) (hpl : path.length ≤ 1000000000) : CallsS Tryz.prog 53 #[.agg (refC v id met).toArray,sV path] F [] (fun r Ps => ∃ w,r = .tuple #[w,.int .i64 (listV (viewT (es.map toTB)) id path).2] ∧ Ps = [rowS 9 w (listV (viewT (es.map toTB)) id path).1]):=by
 refine callsS_enter Tryz.func53 rfl Tryz.ntmps53 (by simp) (fun E => ?_)
 refine Q9 (R9 (Lc9 rfl rfl (by decide) (OpT_box (r:=101) rfl rfl rfl (fun g101 => (G9 rfl rfl (G9 rfl rfl (N9 (X9 (Q9 (R9 (L9 rfl (Px9 (r:=101) rfl Tryz.isAgg50 Tryz.sizeOf50 rfl rfl (refC_len hid) (load_all (refC_len hid))) (M9 rfl rfl (Lc9 rfl rfl (by decide) (Oc9 200 [0,101] [] rfl Tryz.call52 rfl rfl rfl (by decide) (by decide) (rfind_spec es v id hid met hel hdl _ (rs9 0 rfl hF) (ds9 0 rfl hD) path hpl) (fun v14 Ps14 hR14 => ?_)))))))))))))))
 obtain ⟨rfl,rfl⟩:=hR14
 refine (M9 rfl rfl (L9 rfl (Pe9 rfl rfl rfl) (L9 rfl (Pe9 rfl rfl rfl) (Lc9 rfl rfl (by decide) (OpT_alloc (r:=201) (cs:=(nodeC 0 0 0 zeroId)) rfl (zero_run (by kernel_rfl : (Tryz.prog.info? 42).bind (·.zero) = some (.agg (nodeC 0 0 0 zeroId).toArray))) rfl (fun g201 => (Lc09 rfl rfl (OpT_storeAll (r:=201) rfl Tryz.sizeOf42 rfl rfl rfl (nodeC_length zeroId_length) (ndC_length (pathV_top _ _ _)) (one_node _ _ _ _) ?_))))))))
 refine (G9 rfl rfl (N9 (X9 ?_)))
 refine Q9 (Q9 ?_)
 refine W_nilRow 3 9 1 ?_
 refine R9 (M9 rfl rfl (L9 rfl (Pn9 rfl rfl rfl (run_neq _ _ _ _ _ _)) (N9 (X9 ?_))))
 refine C9 rfl (fun hc18 => ?_) (fun hc18 => ?_)
 ·
  have hp0 : (pathV (viewT (es.map toTB)) id path).2 ≠ 0:=by simpa using hc18
  have hres : listV (viewT (es.map toTB)) id path = ([],(pathV (viewT (es.map toTB)) id path).2):=by unfold listV; rw [if_pos hp0]
  refine Q9 (R9 (M9 rfl rfl (G9 rfl rfl (G9 rfl rfl (N9 (X9 ?_))))))
  refine W_ret (X_then_ret ?_)
  refine X_turn (P':=rowS 9 (.slice none 0 0) []) 3 rfl (fun h hp => hp) ?_
  exact Xq9 [3] (Ps:=[_]) (res2 Tryz.results53 rfl rfl) rfl (by decide) ⟨.slice none 0 0,by rw [hres] <;> rfl,by rw [hres] <;> rfl⟩
 ·
  have hp0 : (pathV (viewT (es.map toTB)) id path).2 = 0:=by simpa using hc18
  have hok:=pathV_ok hp0
  refine K9 (X9 ?_)
  refine Q9 (Q9 (R9 (L9 rfl (F9 0 rfl rfl) (L9 rfl (Pb9 (r:=201) rfl Tryz.isAgg3 rfl rfl rfl) (L9 rfl (Pn9 rfl rfl rfl (run_neq _ _ _ _ _ _)) (N9 (X9 ?_)))))))
  refine C9 rfl (fun hc22 => ?_) (fun hc22 => ?_)
  ·
   have hd3 : (dirV (viewT (es.map toTB)) (pathV (viewT (es.map toTB)) id path).1) = ([],3):=by unfold dirV; rw [if_pos (by simpa using hc22)]
   have hres : listV (viewT (es.map toTB)) id path = ([],3):=by unfold listV; rw [if_neg (fun h => h hp0),hd3,if_pos (by decide)]; rfl
   refine Q9 (R9 (G9 rfl rfl (G9 rfl rfl (N9 (X9 ?_)))))
   refine W_ret (X_then_ret ?_)
   refine X_turn (P':=rowS 9 (.slice none 0 0) []) 3 rfl (fun h hp => hp) ?_
   exact Xq9 [3] (Ps:=[_]) (res2 Tryz.results53 rfl rfl) rfl (by decide) ⟨.slice none 0 0,by rw [hres] <;> rfl,by rw [hres] <;> rfl⟩
  ·
   have hk2 : (pathV (viewT (es.map toTB)) id path).1.1 = 2:=by simpa using hc22
   refine K9 (X9 ?_)
   refine Q9 (R9 (L9 rfl (Px9 (r:=201) rfl Tryz.isAgg42 Tryz.sizeOf42 rfl rfl (ndC_length (pathV_top _ _ _)) (load_all (ndC_length (pathV_top _ _ _)))) (Lc9 rfl rfl (by decide) (Oc9 300 [0,3,101,201] [] rfl Tryz.call80 rfl rfl rfl (by decide) (by decide) (rentries_spec g101 es v hel hdl _ (cell_star 2 rfl rfl) (rs9 0 rfl hF) (ds9 0 rfl hD) (pathV (viewT (es.map toTB)) id path).1 hok hk2) (fun v25 Ps25 hR25 => ?_)))))
   obtain ⟨w25,rfl,rfl⟩:=hR25
   skip
   refine (M9 rfl rfl (L9 rfl (Pe9 rfl rfl rfl) (L9 rfl (Pe9 rfl rfl rfl) (G9 rfl rfl (G9 rfl rfl (N9 (X9 ?_)))))))
   refine Q9 (Q9 (R9 (M9 rfl rfl (L9 rfl (Pn9 rfl rfl rfl (run_neq _ _ _ _ _ _)) (N9 (X9 ?_))))))
   refine C9 rfl (fun hc29 => ?_) (fun hc29 => ?_)
   ·
    have hd0 : (dirV (viewT (es.map toTB)) (pathV (viewT (es.map toTB)) id path).1).2 ≠ 0:=by simpa using hc29
    have hres : listV (viewT (es.map toTB)) id path = ([],((dirV (viewT (es.map toTB)) (pathV (viewT (es.map toTB)) id path).1).2 : Int)):=by unfold listV; rw [if_neg (fun h => h hp0),if_pos hd0]
    refine Q9 (R9 (M9 rfl rfl (G9 rfl rfl (G9 rfl rfl (N9 (X9 ?_))))))
    refine W_ret (X_then_ret ?_)
    refine X_turn (P':=rowS 9 (.slice none 0 0) []) 3 rfl (fun h hp => hp) ?_
    exact Xq9 [3] (Ps:=[_]) (res2 Tryz.results53 rfl rfl) rfl (by decide) ⟨.slice none 0 0,by rw [hres] <;> rfl,by rw [hres] <;> rfl⟩
   ·
    have hd0 : (dirV (viewT (es.map toTB)) (pathV (viewT (es.map toTB)) id path).1).2 = 0:=by simpa using hc29
    obtain ⟨ens,hdes⟩ : ∃ ens,(dirV (viewT (es.map toTB)) (pathV (viewT (es.map toTB)) id path).1).1 = ens:=⟨_,rfl⟩
    have hdd:=dirV_ents (viewT (es.map toTB)) (pathV (viewT (es.map toTB)) id path).1 hok
    rw [hdes] at hdd
    obtain ⟨hE,hnl⟩:=hdd
    rw [hdes]
    have hres : listV (viewT (es.map toTB)) id path = (nms ens,0):=by unfold listV; rw [if_neg (fun h => h hp0),if_neg (fun h => h hd0),hdes]
    refine K9 (X9 ?_)
    refine Q9 (R9 (G9 rfl rfl (N9 (X9 (Q9 (Q9 (R9 (G9 rfl rfl (N9 (X9 ?_))))))))))
    refine W_block ?_
    refine Wt9 (P':=rowS 9 (.slice none 0 0) (nms (ens.take 0))) 3 rfl (fun h hp => hp) ?_
    refine W_loop (α:=Nat × Value) (fun x => [(8,w25),(9,x.2),(10,.int .i64 (x.1 : Int))]) (fun x => [(0,F),(3,rowS 9 x.2 (nms (ens.take x.1))),(300,rowE 122 w25 ens)]) (fun x => x.1 ≤ ens.length) (fun x => ens.length - x.1) ((0,.slice none 0 0)) (Nat.zero_le _) (a9 rfl) (a9 rfl) (fun x hx => ?_)
    have hnk : (nms (ens.take x.1)).length = x.1:=by rw [nms_length,List.length_take]; omega
    refine Q9 (Q9 (R9 (M9 rfl rfl (M9 rfl rfl (L9 rfl (Pl9 (r:=300) rfl Tryz.runUnderlying118 rfl rfl rowR_rd) (L9 rfl (Pn9 rfl rfl rfl (run_lss _ _ _ _ _ _)) (N9 (X9 ?_))))))))
    refine C9 rfl (fun hc34 => ?_) (fun hc34 => ?_)
    ·
     have hlt : x.1 < ens.length:=by have:=of_decide_eq_true hc34; omega
     refine K9 (X9 ?_)
     refine Q9 ?_
     refine W_block ?_
     refine R9 (M9 rfl rfl (M9 rfl rfl (M9 rfl rfl (L9 rfl (Pi9 (r:=300) rfl Tryz.runUnderlying118 Tryz.sizeOf122 rfl rfl rfl rowR_rd (by omega)) (L9 rfl (Pu_fieldAddrE (off:=0) rfl rfl (by kernel_rfl)) (L9 rfl (Py9 (r:=300) rfl Tryz.isAgg9 rfl rfl rowR_rd (ent_name hE hlt)) (Lc9 rfl rfl (by decide) (OpT_buildOnes (r:=301) [sV (ens.getD x.1 ent0).1] rfl rfl Tryz.runUnderlying63 Tryz.sizeOf9 Tryz.zeroValue9 rfl rfl (by decide) rfl (by simp [Value.cells]) (fun v43 => (Lc9 rfl rfl (by decide) (Oa9 (r:=3) (r2:=301) rfl Tryz.underlying63 TI.hi9 TI.hz9 TI.hs9 TI.hby9 TI.hzs9 (by decide) rfl rfl rfl rfl (fun _ h => rp9 h) (by intro u hu; simp at hu; rw [hu]; rfl) (by unfold maxLen; omega) (by omega) (fun v44 => ?_))))))))))))
     refine Lt9 (P':=rowS 9 v44 (nms (ens.take x.1) ++ [(ens.getD x.1 ent0).1])) (r:=3) rfl (fun h hp => row_nms hp) ?_
     refine (G9 rfl rfl (N9 (X_block (X9 ?_))))
     refine R9 (M9 rfl rfl (L9 rfl (Pn9 rfl rfl rfl (run_add _ _ _ _ _ (by omega))) (G9 rfl rfl (N9 ?_))))
     exact Xr9 (x.1 + 1,v44) (by dsimp only; omega) (by dsimp only; omega) ⟨rfl,rfl,rfl,trivial⟩ ⟨rfl,look_eq rfl (by rw [nms_take hlt]),rfl,trivial⟩
    ·
     have hge : ens.length ≤ x.1:=by have:=of_decide_eq_false hc34; omega
     refine W_exit (X_then_exit (X_then_exit (X_block_exit (X9 ?_))))
     refine Q9 (R9 (M9 rfl rfl (G9 rfl rfl (G9 rfl rfl (N9 (X9 ?_))))))
     refine W_ret ?_
     refine X_turn (P':=rowS 9 x.2 (nms ens)) 3 rfl (fun h hp => by rw [List.take_of_length_le hge] at hp; exact hp) ?_
     exact Xq9 [3] (Ps:=[_]) (res2 Tryz.results53 rfl rfl) rfl (by decide) ⟨x.2,by rw [hres] <;> rfl,by rw [hres] <;> rfl⟩
theorem read_spec (es : List EB) (v : Value) (id : List UInt8) (hid : id.length = 32) (hel : es.length ≤ 1000000000000) (hdl : ∀ b ∈ es,b.2.length ≤ 1000000000) (F : HP) (hF : ∀ h,F h → rdP 35 v (es.map (·.1)).length (recC bvC (es.map (·.1))) h) (hD : ∀ h,F h → datE es h) (hT : ∀ h,F h → tabsP h) (path : List UInt8) (hpl : path.length ≤ 1000000000) (off n : Int) : CallsS Tryz.prog 31 #[.agg (treeC v id).toArray,sV path,.int .i64 off,.int .i64 n] F [] (fun r Ps => ∃ w,r = .tuple #[w,.int .i64 (readV (viewT (es.map toTB)) id path off n).2] ∧ Ps = [rowB 5 w (readV (viewT (es.map toTB)) id path off n).1]):=by
 refine callsS_enter Tryz.func31 rfl Tryz.ntmps31 (by simp) (fun E => ?_)
 refine Q9 (R9 (Lc9 rfl rfl (by decide) (OpT_box (r:=101) rfl rfl rfl (fun g101 => (G9 rfl rfl (G9 rfl rfl (N9 (X9 (Q9 (R9 (L9 rfl (Px9 (r:=101) rfl Tryz.isAgg31 Tryz.sizeOf31 rfl rfl (treeC_length hid) (load_all (treeC_length hid))) (Lc9 rfl rfl (by decide) (Oc9 200 [0,101] [] rfl Tryz.call43 rfl rfl rfl (by decide) (by decide) (look_spec es v id hel hdl _ (rs9 0 rfl hF) (ds9 0 rfl hD)) (fun v14 Ps14 hR14 => ?_))))))))))))))
 obtain ⟨gm,ls,rfl,rfl,hL0,hvw⟩:=hR14
 skip
 refine (G9 rfl rfl (N9 (X9 ?_)))
 refine Q9 (R9 (M9 rfl rfl (L9 rfl (F9 1 rfl rfl) (L9 rfl (Px9 (r:=101) rfl Tryz.isAgg29 Tryz.sizeOf29 rfl rfl ((bs_length _).trans hid) (tree_id hid)) (M9 rfl rfl (Lc9 rfl rfl (by decide) (Oc9 300 [0,101,200] [] rfl Tryz.call44 rfl rfl rfl (by decide) (by decide) (view_find gm ls _ (mapQ_star 2 rfl (fun _ h => h)) (fun p0 hp0 => rs9 0 rfl (look_rd hD hL0 p0 hp0)) (ts9 0 rfl hT) id path hid hpl) (fun v20 Ps20 hR20 => ?_))))))))
 obtain ⟨rfl,rfl⟩:=hR20
 rw [hvw]
 refine (M9 rfl rfl (L9 rfl (Pe9 rfl rfl rfl) (L9 rfl (Pe9 rfl rfl rfl) (Lc9 rfl rfl (by decide) (OpT_alloc (r:=301) (cs:=(nodeC 0 0 0 zeroId)) rfl (zero_run (by kernel_rfl : (Tryz.prog.info? 42).bind (·.zero) = some (.agg (nodeC 0 0 0 zeroId).toArray))) rfl (fun g301 => (Lc09 rfl rfl (OpT_storeAll (r:=301) rfl Tryz.sizeOf42 rfl rfl rfl (nodeC_length zeroId_length) (ndC_length (pathV_top _ _ _)) (one_node _ _ _ _) ?_))))))))
 refine (G9 rfl rfl (N9 (X9 ?_)))
 refine Q9 ?_
 refine W_block ?_
 refine Q9 ?_
 refine W_nilRow 3 5 1 ?_
 refine R9 (M9 rfl rfl (L9 rfl (Pn9 rfl rfl rfl (run_neq _ _ _ _ _ _)) (G9 rfl rfl (N9 (X9 ?_)))))
 refine C9 rfl (fun hc23 => ?_) (fun hc23 => ?_)
 ·
  have hp0 : (pathV (viewT (es.map toTB)) id path).2 ≠ 0:=by simpa using hc23
  have hres : readV (viewT (es.map toTB)) id path off n = ([],(pathV (viewT (es.map toTB)) id path).2):=by unfold readV; rw [if_pos hp0]
  refine Q9 (R9 (M9 rfl rfl (G9 rfl rfl (G9 rfl rfl (N9 (X9 ?_))))))
  refine W_ret (X_block_ret (X_then_ret ?_))
  refine X_turn (P':=rowB 5 (.slice none 0 0) []) 3 rfl (fun h hp => hp) ?_
  exact Xq9 [3] (Ps:=[_]) (res2 Tryz.results31 rfl rfl) rfl (by decide) ⟨.slice none 0 0,by rw [hres] <;> rfl,by rw [hres] <;> rfl⟩
 ·
  have hp0 : (pathV (viewT (es.map toTB)) id path).2 = 0:=by simpa using hc23
  have hok:=pathV_ok hp0
  refine Q9 (R9 (L9 rfl (F9 0 rfl rfl) (L9 rfl (Pb9 (r:=301) rfl Tryz.isAgg3 rfl rfl rfl) (L9 rfl (Pn9 rfl rfl rfl (run_neq _ _ _ _ _ _)) (G9 rfl rfl (N9 (X9 ?_)))))))
  refine C9 rfl (fun hc27 => ?_) (fun hc27 => ?_)
  ·
   have hk1 : (pathV (viewT (es.map toTB)) id path).1.1 ≠ 1:=by simpa using hc27
   have hres : readV (viewT (es.map toTB)) id path off n = ([],3):=by unfold readV; rw [if_neg (fun h => h hp0),if_pos hk1]
   refine Q9 (R9 (G9 rfl rfl (G9 rfl rfl (N9 (X9 ?_)))))
   refine W_ret (X_block_ret (X_then_ret ?_))
   refine X_turn (P':=rowB 5 (.slice none 0 0) []) 3 rfl (fun h hp => hp) ?_
   exact Xq9 [3] (Ps:=[_]) (res2 Tryz.results31 rfl rfl) rfl (by decide) ⟨.slice none 0 0,by rw [hres] <;> rfl,by rw [hres] <;> rfl⟩
  ·
   have hk1 : (pathV (viewT (es.map toTB)) id path).1.1 = 1:=by simpa using hc27
   refine Q9 (R9 (M9 rfl rfl (L9 rfl (Pn9 rfl rfl rfl (run_lss _ _ _ _ _ _)) (M9 rfl rfl (Lg9 rfl rfl rfl rfl (by decide) (fun hb => (Pm9 rfl rfl)) (Lg9 rfl rfl rfl rfl (by decide) (fun hb => (Pn9 rfl (ev_gv rfl hb) rfl (run_lss _ _ _ _ _ _))) (L9 rfl (Pu_or rfl rfl rfl) (G9 rfl rfl (N9 (X9 ?_))))))))))
   refine C9 rfl (fun hc31 => ?_) (fun hc31 => ?_)
   ·
    have hng : off < 0 ∨ n < 0:=by simpa using hc31
    have hres : readV (viewT (es.map toTB)) id path off n = ([],1):=by unfold readV; rw [if_neg (fun h => h hp0),if_neg (fun h => h hk1),if_pos hng]
    refine Q9 (R9 (G9 rfl rfl (G9 rfl rfl (N9 (X9 ?_)))))
    refine W_ret (X_block_ret (X_then_ret ?_))
    refine X_turn (P':=rowB 5 (.slice none 0 0) []) 3 rfl (fun h hp => hp) ?_
    exact Xq9 [3] (Ps:=[_]) (res2 Tryz.results31 rfl rfl) rfl (by decide) ⟨.slice none 0 0,by rw [hres] <;> rfl,by rw [hres] <;> rfl⟩
   ·
    have hng : ¬ (off < 0 ∨ n < 0):=by intro hq; have h2 : 0 ≤ off ∧ 0 ≤ n:=(by simpa using hc31); omega
    refine Q9 (R9 (M9 rfl rfl (L9 rfl (F9 1 rfl rfl) (L9 rfl (Pb9 (r:=301) rfl Tryz.isAgg3 rfl rfl rfl) (L9 rfl (Pn9 rfl rfl rfl (run_geq _ _ _ _ _ _)) (G9 rfl rfl (N9 (X9 ?_))))))))
    refine C9 rfl (fun hc38 => ?_) (fun hc38 => ?_)
    ·
     have hbg : (pathV (viewT (es.map toTB)) id path).1.2.1 ≤ off:=by simpa using hc38
     have hres : readV (viewT (es.map toTB)) id path off n = ([],0):=by unfold readV; rw [if_neg (fun h => h hp0),if_neg (fun h => h hk1),if_neg hng,if_pos hbg]
     refine Q9 (R9 (G9 rfl rfl (G9 rfl rfl (N9 (X9 ?_)))))
     refine W_ret (X_block_ret (X_then_ret ?_))
     refine X_turn (P':=rowB 5 (.slice none 0 0) []) 3 rfl (fun h hp => hp) ?_
     exact Xq9 [3] (Ps:=[_]) (res2 Tryz.results31 rfl rfl) rfl (by decide) ⟨.slice none 0 0,by rw [hres] <;> rfl,by rw [hres] <;> rfl⟩
    ·
     have hbg : ¬ (pathV (viewT (es.map toTB)) id path).1.2.1 ≤ off:=by have:=of_decide_eq_false hc38; omega
     have hres : readV (viewT (es.map toTB)) id path off n = ((bytesV (viewT (es.map toTB)) (pathV (viewT (es.map toTB)) id path).1 off.toNat (off.toNat + min n.toNat ((pathV (viewT (es.map toTB)) id path).1.2.1.toNat - off.toNat))).1,((bytesV (viewT (es.map toTB)) (pathV (viewT (es.map toTB)) id path).1 off.toNat (off.toNat + min n.toNat ((pathV (viewT (es.map toTB)) id path).1.2.1.toNat - off.toNat))).2 : Int)):=by unfold readV; rw [if_neg (fun h => h hp0),if_neg (fun h => h hk1),if_neg hng,if_neg hbg]
     obtain ⟨nd,hnd⟩ : ∃ nd,nd = (pathV (viewT (es.map toTB)) id path).1:=⟨_,rfl⟩
     rw [← hnd] at hres hok hbg hk1
     rw [← hnd]
     have hs1:=hok.2.2.1
     have hs0:=hok.2.1
     obtain ⟨o,ho⟩ : ∃ o : Nat,o = off.toNat:=⟨_,rfl⟩
     obtain ⟨m,hm⟩ : ∃ m : Nat,m = n.toNat:=⟨_,rfl⟩
     have ho2 : off = (o : Int):=by omega
     have hm2 : n = (m : Int):=by omega
     rw [← ho,← hm] at hres
     obtain ⟨z,hz⟩ : ∃ z : Nat,z = o + min m (nd.2.1.toNat - o):=⟨_,rfl⟩
     rw [← hz] at hres
     refine K9 (X_block (X9 ?_))
     refine Q9 (R9 (M9 rfl rfl (L9 rfl (Px9 (r:=301) rfl Tryz.isAgg42 Tryz.sizeOf42 rfl rfl (ndC_length hok.2.2.2.2) (load_all (ndC_length hok.2.2.2.2))) (M9 rfl rfl (M9 rfl rfl (M9 rfl rfl (L9 rfl (F9 1 rfl rfl) (L9 rfl (Pb9 (r:=301) rfl Tryz.isAgg3 rfl rfl rfl) (M9 rfl rfl (L9 rfl (Pn9 rfl rfl rfl (run_sub _ _ _ _ _ (by omega))) (L9 rfl (Pu_min rfl rfl rfl) (L9 rfl (Pn9 rfl rfl rfl (run_add _ _ _ _ _ (by omega))) ?_))))))))))))
     rw [show off + min n (nd.2.1 - off) = (z : Int) by omega,ho2]
     refine (Lc9 rfl rfl (by decide) (Oc9 400 [0,3,101,200,301] [] rfl Tryz.call57 rfl rfl rfl (by decide) (by decide) (view_bytes gm ls _ (mapQ_star 3 rfl (fun _ h => h)) (fun p0 hp0 => rs9 0 rfl (look_rd hD hL0 p0 hp0)) nd hok o z (by omega) (by omega)) (fun v54 Ps54 hR54 => ?_)))
     obtain ⟨w54,rfl,rfl⟩:=hR54
     rw [hvw]
     refine (L9 rfl (Pe9 rfl rfl rfl) (L9 rfl (Pe9 rfl rfl rfl) (G9 rfl rfl (G9 rfl rfl (N9 (X9 ?_))))))
     refine W_ret ?_
     exact Xq9 [400] (Ps:=[_]) (res2 Tryz.results31 rfl rfl) rfl (by decide) ⟨w54,by rw [← ho2,hres] <;> rfl,by rw [← ho2,hres] <;> rfl⟩
theorem rread_spec (es : List EB) (v : Value) (id : List UInt8) (hid : id.length = 32) (met : Bool) (hel : es.length ≤ 1000000000000) (hdl : ∀ b ∈ es,b.2.length ≤ 1000000000) (F : HP) (hF : ∀ h,F h → rdP 35 v es.length (recC bvC (es.map (fun p : EB => p.1))) h) (hD : ∀ h,F h → datE es h) (path : List UInt8) (hpl : path.length ≤ 1000000000) (off n : Int) : CallsS Tryz.prog 54 #[.agg (refC v id met).toArray,sV path,.int .i64 off,.int .i64 n] F [] (fun r Ps => ∃ w,r = .tuple #[w,.int .i64 (readV (viewT (es.map toTB)) id path off n).2] ∧ Ps = [rowB 5 w (readV (viewT (es.map toTB)) id path off n).1]):=by
 refine callsS_enter Tryz.func54 rfl Tryz.ntmps54 (by simp) (fun E => ?_)
 refine Q9 (R9 (Lc9 rfl rfl (by decide) (OpT_box (r:=101) rfl rfl rfl (fun g101 => (G9 rfl rfl (G9 rfl rfl (N9 (X9 (Q9 (R9 (L9 rfl (Px9 (r:=101) rfl Tryz.isAgg50 Tryz.sizeOf50 rfl rfl (refC_len hid) (load_all (refC_len hid))) (M9 rfl rfl (Lc9 rfl rfl (by decide) (Oc9 200 [0,101] [] rfl Tryz.call52 rfl rfl rfl (by decide) (by decide) (rfind_spec es v id hid met hel hdl _ (rs9 0 rfl hF) (ds9 0 rfl hD) path hpl) (fun v16 Ps16 hR16 => ?_)))))))))))))))
 obtain ⟨rfl,rfl⟩:=hR16
 refine (M9 rfl rfl (L9 rfl (Pe9 rfl rfl rfl) (L9 rfl (Pe9 rfl rfl rfl) (Lc9 rfl rfl (by decide) (OpT_alloc (r:=201) (cs:=(nodeC 0 0 0 zeroId)) rfl (zero_run (by kernel_rfl : (Tryz.prog.info? 42).bind (·.zero) = some (.agg (nodeC 0 0 0 zeroId).toArray))) rfl (fun g201 => (Lc09 rfl rfl (OpT_storeAll (r:=201) rfl Tryz.sizeOf42 rfl rfl rfl (nodeC_length zeroId_length) (ndC_length (pathV_top _ _ _)) (one_node _ _ _ _) ?_))))))))
 refine (G9 rfl rfl (N9 (X9 ?_)))
 refine Q9 (Q9 ?_)
 refine W_nilRow 3 5 1 ?_
 refine R9 (M9 rfl rfl (L9 rfl (Pn9 rfl rfl rfl (run_neq _ _ _ _ _ _)) (N9 (X9 ?_))))
 refine C9 rfl (fun hc20 => ?_) (fun hc20 => ?_)
 ·
  have hp0 : (pathV (viewT (es.map toTB)) id path).2 ≠ 0:=by simpa using hc20
  have hres : readV (viewT (es.map toTB)) id path off n = ([],(pathV (viewT (es.map toTB)) id path).2):=by unfold readV; rw [if_pos hp0]
  refine Q9 (R9 (M9 rfl rfl (G9 rfl rfl (G9 rfl rfl (N9 (X9 ?_))))))
  refine W_ret (X_then_ret ?_)
  refine X_turn (P':=rowB 5 (.slice none 0 0) []) 3 rfl (fun h hp => hp) ?_
  exact Xq9 [3] (Ps:=[_]) (res2 Tryz.results54 rfl rfl) rfl (by decide) ⟨.slice none 0 0,by rw [hres] <;> rfl,by rw [hres] <;> rfl⟩
 ·
  have hp0 : (pathV (viewT (es.map toTB)) id path).2 = 0:=by simpa using hc20
  have hok:=pathV_ok hp0
  refine K9 (X9 ?_)
  refine Q9 (Q9 (R9 (L9 rfl (F9 0 rfl rfl) (L9 rfl (Pb9 (r:=201) rfl Tryz.isAgg3 rfl rfl rfl) (L9 rfl (Pn9 rfl rfl rfl (run_neq _ _ _ _ _ _)) (N9 (X9 ?_)))))))
  refine C9 rfl (fun hc24 => ?_) (fun hc24 => ?_)
  ·
   have hk1 : (pathV (viewT (es.map toTB)) id path).1.1 ≠ 1:=by simpa using hc24
   have hres : readV (viewT (es.map toTB)) id path off n = ([],3):=by unfold readV; rw [if_neg (fun h => h hp0),if_pos hk1]
   refine Q9 (R9 (G9 rfl rfl (G9 rfl rfl (N9 (X9 ?_)))))
   refine W_ret (X_then_ret ?_)
   refine X_turn (P':=rowB 5 (.slice none 0 0) []) 3 rfl (fun h hp => hp) ?_
   exact Xq9 [3] (Ps:=[_]) (res2 Tryz.results54 rfl rfl) rfl (by decide) ⟨.slice none 0 0,by rw [hres] <;> rfl,by rw [hres] <;> rfl⟩
  ·
   have hk1 : (pathV (viewT (es.map toTB)) id path).1.1 = 1:=by simpa using hc24
   refine K9 (X9 ?_)
   refine Q9 (Q9 (R9 (M9 rfl rfl (L9 rfl (Pn9 rfl rfl rfl (run_lss _ _ _ _ _ _)) (M9 rfl rfl (Lg9 rfl rfl rfl rfl (by decide) (fun hb => (Pm9 rfl rfl)) (Lg9 rfl rfl rfl rfl (by decide) (fun hb => (Pn9 rfl (ev_gv rfl hb) rfl (run_lss _ _ _ _ _ _))) (L9 rfl (Pu_or rfl rfl rfl) (N9 (X9 ?_))))))))))
   refine C9 rfl (fun hc30 => ?_) (fun hc30 => ?_)
   ·
    have hng : off < 0 ∨ n < 0:=by simpa using hc30
    have hres : readV (viewT (es.map toTB)) id path off n = ([],1):=by unfold readV; rw [if_neg (fun h => h hp0),if_neg (fun h => h hk1),if_pos hng]
    refine Q9 (R9 (G9 rfl rfl (G9 rfl rfl (N9 (X9 ?_)))))
    refine W_ret (X_then_ret ?_)
    refine X_turn (P':=rowB 5 (.slice none 0 0) []) 3 rfl (fun h hp => hp) ?_
    exact Xq9 [3] (Ps:=[_]) (res2 Tryz.results54 rfl rfl) rfl (by decide) ⟨.slice none 0 0,by rw [hres] <;> rfl,by rw [hres] <;> rfl⟩
   ·
    have hng : ¬ (off < 0 ∨ n < 0):=by intro hq; have h2 : 0 ≤ off ∧ 0 ≤ n:=(by simpa using hc30); omega
    have hres0:=readV_min (V:=(viewT (es.map toTB))) hp0 hk1 hng
    obtain ⟨nd,hnd⟩ : ∃ nd,nd = (pathV (viewT (es.map toTB)) id path).1:=⟨_,rfl⟩
    rw [← hnd] at hres0 hok hk1
    rw [← hnd]
    have hs1:=hok.2.2.1
    have hs0:=hok.2.1
    obtain ⟨o,ho⟩ : ∃ o : Nat,o = (min off nd.2.1).toNat:=⟨_,rfl⟩
    obtain ⟨z,hz⟩ : ∃ z : Nat,z = o + min n.toNat (nd.2.1.toNat - o):=⟨_,rfl⟩
    rw [← ho,← hz] at hres0
    have hres : readV (viewT (es.map toTB)) id path off n = ((bytesV (viewT (es.map toTB)) nd o z).1,((bytesV (viewT (es.map toTB)) nd o z).2 : Int)):=hres0
    refine K9 (X9 ?_)
    refine Q9 (R9 (M9 rfl rfl (L9 rfl (F9 1 rfl rfl) (L9 rfl (Pb9 (r:=201) rfl Tryz.isAgg3 rfl rfl rfl) (L9 rfl (Pu_min rfl rfl rfl) ?_)))))
    rw [show min off nd.2.1 = (o : Int) by omega]
    refine (G9 rfl rfl (N9 (X9 ?_)))
    refine Q9 (R9 (L9 rfl (Px9 (r:=201) rfl Tryz.isAgg42 Tryz.sizeOf42 rfl rfl (ndC_length hok.2.2.2.2) (load_all (ndC_length hok.2.2.2.2))) (M9 rfl rfl (M9 rfl rfl (M9 rfl rfl (L9 rfl (F9 1 rfl rfl) (L9 rfl (Pb9 (r:=201) rfl Tryz.isAgg3 rfl rfl rfl) (M9 rfl rfl (L9 rfl (Pn9 rfl rfl rfl (run_sub _ _ _ _ _ (by omega))) (L9 rfl (Pu_min rfl rfl rfl) (L9 rfl (Pn9 rfl rfl rfl (run_add _ _ _ _ _ (by omega))) ?_)))))))))))
    rw [show (o : Int) + min n (nd.2.1 - (o : Int)) = (z : Int) by omega]
    refine (Lc9 rfl rfl (by decide) (Oc9 300 [0,3,101,201] [] rfl Tryz.call81 rfl rfl rfl (by decide) (by decide) (rbytes_spec g101 es v hel hdl _ (cell_star 2 rfl rfl) (rs9 0 rfl hF) (ds9 0 rfl hD) nd hok o z (by omega) (by omega)) (fun v45 Ps45 hR45 => ?_)))
    obtain ⟨w45,rfl,rfl⟩:=hR45
    skip
    refine (L9 rfl (Pe9 rfl rfl rfl) (L9 rfl (Pe9 rfl rfl rfl) (G9 rfl rfl (G9 rfl rfl (N9 (X9 ?_))))))
    refine W_ret ?_
    exact Xq9 [300] (Ps:=[_]) (res2 Tryz.results54 rfl rfl) rfl (by decide) ⟨w45,by rw [hres] <;> rfl,by rw [hres] <;> rfl⟩
open Go.RowKit
set_option maxRecDepth 8000
theorem of_eq (v : Value) {id : List UInt8} (hid : id.length = 32) : over ((refC (.slice none 0 0) zeroId false).set 0 v) 1 (bs id) = refC v id false:=by
  have:=over_mid [v] (bs zeroId) (bs id) [.bool false] (by rw [bs_length,bs_length,hid,zeroId_length])
  simpa [refC] using this
theorem texts_spec (va vb : Value) (l : List (List UInt8)) (hl : l.length ≤ 1000000000000) (F : HP) (hA : ∀ h,F h → rdS va l h) (hB : ∀ h,F h → rdS vb l h) : CallsS Tryz.prog 55 #[va,vb] F [] (fun r Ps => r = .bool true ∧ Ps = []):=by
 refine callsS_enter Tryz.func55 rfl Tryz.ntmps55 (by simp) (fun E => ?_)
 refine Q9 (R9 (G9 rfl rfl (N9 (X9 (Q9 (Q9 (R9 (M9 rfl rfl (L9 rfl (Pl9 (r:=0) rfl Tryz.runUnderlying63 rfl rfl hA) (M9 rfl rfl (L9 rfl (Pl9 (r:=0) rfl Tryz.runUnderlying63 rfl rfl hB) (L9 rfl (Pn9 rfl rfl rfl (run_neq _ _ _ _ _ _)) (N9 (X9 ?_))))))))))))))
 refine W_false rfl ((by simp)) ?_
 refine K9 (X9 ?_)
 refine Q9 (Q9 (R9 (G9 rfl rfl (N9 (X9 ?_)))))
 refine W_block ?_
 refine W_loop (α:=Nat) (fun x => [(0,va),(1,vb),(5,.int .i64 (x : Int))]) (fun x => [(0,F)]) (fun x => x ≤ l.length) (fun x => l.length - x) (0) (Nat.zero_le _) (a9 rfl) ⟨rfl,trivial⟩ (fun x hx => ?_)
 refine Q9 (Q9 (R9 (M9 rfl rfl (M9 rfl rfl (L9 rfl (Pl9 (r:=0) rfl Tryz.runUnderlying63 rfl rfl hA) (L9 rfl (Pn9 rfl rfl rfl (run_lss _ _ _ _ _ _)) (N9 (X9 ?_))))))))
 refine C9 rfl (fun hc14 => ?_) (fun hc14 => ?_)
 ·
  have hlt : x < l.length:=by have:=of_decide_eq_true hc14; omega
  refine K9 (X9 ?_)
  refine Q9 ?_
  refine W_block ?_
  refine Q9 ?_
  refine W_draw (N:=9) (by kernel_rfl) rfl [(0,_)] ⟨rfl,trivial⟩ ?_
  refine (T9 0 rfl rfl (Pm9 rfl rfl) (T9 1 rfl rfl (Pm9 rfl rfl) (T9 2 rfl rfl (Pu_idxS1 (r:=0) rfl Tryz.runUnderlying63 Tryz.sizeOf9 rfl rfl rfl hA (by omega)) (T9 3 rfl rfl (Py9 (r:=0) rfl Tryz.isAgg9 rfl rfl hA (ss_at (k:=x) hlt)) (T9 4 rfl rfl (Pm9 rfl rfl) (T9 5 rfl rfl (Pm9 rfl rfl) (T9 6 rfl rfl (Pu_idxS1 (r:=0) rfl Tryz.runUnderlying63 Tryz.sizeOf9 rfl rfl rfl hB (by omega)) (T9 7 rfl rfl (Py9 (r:=0) rfl Tryz.isAgg9 rfl rfl hB (ss_at (k:=x) hlt)) (T9 8 rfl rfl (Pn9 rfl rfl rfl (run_strNe _ _ _ _ _)) (Ad9 (by kernel_rfl) (X9 ?_)))))))))))
  refine W_false rfl ((by simp)) ?_
  refine K9 (X_block (X9 ?_))
  refine R9 (M9 rfl rfl (L9 rfl (Pn9 rfl rfl rfl (run_add _ _ _ _ _ (by omega))) (G9 rfl rfl (N9 ?_))))
  exact Xr9 (x + 1) (by omega) (by omega) (a9 rfl) ⟨rfl,trivial⟩
 ·
  refine W_exit (X_then_exit (X_then_exit (X_block_exit (X9 ?_))))
  refine Q9 (R9 (G9 rfl rfl (N9 (X9 ?_))))
  refine W_ret ?_
  exact Xq9 [] (Ps:=[]) (res1 Tryz.results55 rfl) rfl (by decide) ⟨rfl,rfl⟩
theorem of_spec (v : Value) (hvo : v.oneCell' = true) (id : List UInt8) (hid : id.length = 32) (F : HP) : CallsS Tryz.prog 25 #[.agg (treeC v id).toArray] F [] (fun r Ps => r = .agg (refC v id false).toArray ∧ Ps = []):=by
 refine callsS_enter Tryz.func25 rfl Tryz.ntmps25 (by simp) (fun E => ?_)
 refine Q9 (R9 (Lc9 rfl rfl (by decide) (OpT_box (r:=101) rfl rfl rfl (fun g101 => (Lc9 rfl rfl (by decide) (OpT_alloc (r:=102) (cs:=(refC (.slice none 0 0) zeroId false)) rfl (zero_run (by kernel_rfl : (Tryz.prog.info? 50).bind (·.zero) = some (.agg (refC (.slice none 0 0) zeroId false).toArray))) rfl (fun g102 => (N9 (X9 (Q9 (R9 (L9 rfl (F9 0 rfl rfl) (L9 rfl (Pb9 (r:=101) rfl Tryz.isAgg27 rfl rfl rfl) (L9 rfl (F9 1 rfl rfl) (L9 rfl (Px9 (r:=101) rfl Tryz.isAgg29 Tryz.sizeOf29 rfl rfl ((bs_length _).trans hid) (tree_id hid)) (L9 rfl (Pu_build (V:=.agg (refC v id false).toArray) [(0,1),(1,32),(33,1)] (refC (.slice none 0 0) zeroId false) rfl rfl (by kernel_rfl) (by kernel_rfl) (.one rfl hvo (by decide) rfl (.many rfl (by simp [bs_length, *]) (by rw [List.length_set,refC_len zeroId_length]; decide) rfl (.nil _))) (by rw [of_eq v hid])) (Lc09 rfl rfl (OpT_storeAll (r:=102) rfl Tryz.sizeOf50 rfl rfl rfl (refC_len zeroId_length) (refC_len hid) (refC_one hvo) ?_))))))))))))))))))
 refine (N9 (X9 ?_))
 refine W_ret ?_
 exact Xq9 [] (Ps:=[]) (resC1 (r:=102) Tryz.results25 rfl Tryz.isAgg50 Tryz.sizeOf50 rfl (refC_len hid)) rfl (by decide) ⟨rfl,rfl⟩
open Go.RowKit
set_option maxRecDepth 8000
theorem run_nodeEq (k s l k' s' l' : Int) (top top' : List UInt8) (ht : top.length = 32) (ht' : top'.length = 32) (x y : Operand) (w : World) : ((do eqGuard .eql 42 x y (nodeV k s l top) (nodeV k' s' l' top'); binOp .eql 42 (nodeV k s l top) (nodeV k' s' l' top') : Sem Value)).run Tryz.prog w = .ok (.bool (nodeEq k s l top k' s' l' top')) w:=by
  have hid:=run_equalIn_bytes w 9997 29 5 32 Tryz.underlying29 Tryz.underlying5 (fun w => by kernel_rfl) top top' ht ht'
  rw [show List.map Extern.Stop.cell top = bs top from rfl,show List.map Extern.Stop.cell top' = bs top' from rfl] at hid
  simp only [Nat.reduceAdd] at hid
  have p0 : ∀ (k s l : Int) (top : List UInt8),(part 3 (nodeC k s l top).toArray 0).run Tryz.prog w = .ok (.int .i64 k) w:=fun k s l top => by simp [part,Tryz.isAgg3,nodeC]
  have p1 : ∀ (k s l : Int) (top : List UInt8),(part 3 (nodeC k s l top).toArray 1).run Tryz.prog w = .ok (.int .i64 s) w:=fun k s l top => by simp [part,Tryz.isAgg3,nodeC]
  have p2 : ∀ (k s l : Int) (top : List UInt8),(part 3 (nodeC k s l top).toArray 2).run Tryz.prog w = .ok (.int .i64 l) w:=fun k s l top => by simp [part,Tryz.isAgg3,nodeC]
  have p3 : ∀ (k s l : Int) (top : List UInt8),top.length = 32 → (part 29 (nodeC k s l top).toArray 3).run Tryz.prog w = .ok (.agg (bs top).toArray) w:=fun k s l top h => by
    have e : (nodeC k s l top).toArray.extract 3 35 = (bs top).toArray:=by
      apply Array.toList_inj.1
      rw [Array.toList_extract]
      exact take_top h
    simp [part,Tryz.isAgg29,Tryz.sizeOf29,e]
    exact take_top h
  have hi : ∀ a b : Int,(Op.equalIn 9999 3 (.int .i64 a) (.int .i64 b)).run Tryz.prog w = .ok (a == b) w:=fun a b => run_equalIn_int (P:=Tryz.prog) (w:=w) 9998 3 .i64 .i64 a b Tryz.underlying3
  exact (run_structEq w (by kernel_rfl) Tryz.stoodInHeld42 (gs:=[("Kind",3,0),("Size",3,1),("Levels",3,2),("Top",29,3)]) (by kernel_rfl) Tryz.eqGuardType42
    (.cons (by decide) (p0 _ _ _ _) (p0 _ _ _ _) (hi _ _) (.cons (by decide) (p1 _ _ _ _) (p1 _ _ _ _) (hi _ _) (.cons (by decide) (p2 _ _ _ _) (p2 _ _ _ _) (hi _ _) (.cons (by decide) (p3 _ _ _ _ ht) (p3 _ _ _ _ ht') hid .nil)))) x y).1
theorem nodeEq_self (k s l : Int) (top : List UInt8) : nodeEq k s l top k s l top = true:=by simp [nodeEq]
theorem listV_len (V : VW) (id path : List UInt8) : (listV V id path).1.length ≤ 1000000000000:=by
  unfold listV
  split
  · simp
  · rename_i h0
    have h0 : (pathV V id path).2 = 0:=by
      cases hh : decide ((pathV V id path).2 = 0) with
      | true => exact of_decide_eq_true hh
      | false => exact absurd (of_decide_eq_false hh) h0
    split
    · simp
    · show (nms _).length ≤ _
      rw [nms_length]
      have:=(dirV_ents V _ (pathV_ok h0)).2
      omega
theorem asks_spec (es : List EB) (v : Value) (hvo : v.oneCell' = true) (id : List UInt8) (hid : id.length = 32) (hel : es.length ≤ 1000000000000) (hdl : ∀ b ∈ es,b.2.length ≤ 1000000000) (F : HP) (hF : ∀ h,F h → rdP 35 v es.length (recC bvC (es.map (fun p : EB => p.1))) h) (hD : ∀ h,F h → datE es h) (hT : ∀ h,F h → tabsP h) (path : List UInt8) (hpl : path.length ≤ 1000000000) (off n : Int) : CallsS Tryz.prog 29 #[.agg (treeC v id).toArray,sV path,.int .i64 off,.int .i64 n] F [] (fun r Ps => r = .bool true ∧ Ps = []):=by
 have hF2 : ∀ h,F h → rdP 35 v (es.map (·.1)).length (recC bvC (es.map (·.1))) h:=fun h hp => by rw [List.length_map]; exact hF h hp
 refine callsS_enter Tryz.func29 rfl Tryz.ntmps29 (by simp) (fun E => ?_)
 refine Q9 (R9 (Lc9 rfl rfl (by decide) (OpT_box (r:=101) rfl rfl rfl (fun g101 => (G9 rfl rfl (N9 (X9 (Q9 (R9 (L9 rfl (Px9 (r:=101) rfl Tryz.isAgg31 Tryz.sizeOf31 rfl rfl (treeC_length hid) (load_all (treeC_length hid))) (Lc9 rfl rfl (by decide) (Oc9 200 [0,101] [] rfl Tryz.call25 rfl rfl rfl (by decide) (by decide) (of_spec v hvo id hid _) (fun v23 Ps23 hR23 => ?_)))))))))))))
 obtain ⟨rfl,rfl⟩:=hR23
 refine (Lc9 rfl rfl (by decide) (OpT_alloc (r:=201) (cs:=(refC (.slice none 0 0) zeroId false)) rfl (zero_run (by kernel_rfl : (Tryz.prog.info? 50).bind (·.zero) = some (.agg (refC (.slice none 0 0) zeroId false).toArray))) rfl (fun g201 => (Lc09 rfl rfl (OpT_storeAll (r:=201) rfl Tryz.sizeOf50 rfl rfl rfl (refC_len zeroId_length) (refC_len hid) (refC_one hvo) ?_)))))
 refine (N9 (X9 ?_))
 refine Q9 (R9 (L9 rfl (Px9 (r:=101) rfl Tryz.isAgg31 Tryz.sizeOf31 rfl rfl (treeC_length hid) (load_all (treeC_length hid))) (M9 rfl rfl (Lc9 rfl rfl (by decide) (Oc9 300 [0,101,201] [] rfl Tryz.call19 rfl rfl rfl (by decide) (by decide) (find_spec es v id hid hel hdl _ (rs9 0 rfl hF2) (ds9 0 rfl hD) (ts9 0 rfl hT) path hpl) (fun v27 Ps27 hR27 => ?_))))))
 obtain ⟨rfl,rfl⟩:=hR27
 refine (M9 rfl rfl (L9 rfl (Pe9 rfl rfl rfl) (L9 rfl (Pe9 rfl rfl rfl) (Lc9 rfl rfl (by decide) (OpT_alloc (r:=301) (cs:=(nodeC 0 0 0 zeroId)) rfl (zero_run (by kernel_rfl : (Tryz.prog.info? 42).bind (·.zero) = some (.agg (nodeC 0 0 0 zeroId).toArray))) rfl (fun g301 => (Lc09 rfl rfl (OpT_storeAll (r:=301) rfl Tryz.sizeOf42 rfl rfl rfl (nodeC_length zeroId_length) (ndC_length (pathV_top _ _ _)) (one_node _ _ _ _) ?_))))))))
 refine (G9 rfl rfl (N9 (X9 ?_)))
 refine Q9 (R9 (L9 rfl (Px9 (r:=201) rfl Tryz.isAgg50 Tryz.sizeOf50 rfl rfl (refC_len hid) (load_all (refC_len hid))) (M9 rfl rfl (Lc9 rfl rfl (by decide) (Oc9 400 [0,101,201,301] [] rfl Tryz.call52 rfl rfl rfl (by decide) (by decide) (rfind_spec es v id hid false hel hdl _ (rs9 0 rfl hF) (ds9 0 rfl hD) path hpl) (fun v33 Ps33 hR33 => ?_))))))
 obtain ⟨rfl,rfl⟩:=hR33
 refine (M9 rfl rfl (L9 rfl (Pe9 rfl rfl rfl) (L9 rfl (Pe9 rfl rfl rfl) (Lc9 rfl rfl (by decide) (OpT_alloc (r:=401) (cs:=(nodeC 0 0 0 zeroId)) rfl (zero_run (by kernel_rfl : (Tryz.prog.info? 42).bind (·.zero) = some (.agg (nodeC 0 0 0 zeroId).toArray))) rfl (fun g401 => (Lc09 rfl rfl (OpT_storeAll (r:=401) rfl Tryz.sizeOf42 rfl rfl rfl (nodeC_length zeroId_length) (ndC_length (pathV_top _ _ _)) (one_node _ _ _ _) ?_))))))))
 refine (G9 rfl rfl (N9 (X9 ?_)))
 refine Q9 (R9 (L9 rfl (Px9 (r:=101) rfl Tryz.isAgg31 Tryz.sizeOf31 rfl rfl (treeC_length hid) (load_all (treeC_length hid))) (M9 rfl rfl (Lc9 rfl rfl (by decide) (Oc9 500 [0,101,201,301,401] [] rfl Tryz.call30 rfl rfl rfl (by decide) (by decide) (list_spec es v id hid hel hdl _ (rs9 0 rfl hF2) (ds9 0 rfl hD) (ts9 0 rfl hT) path hpl) (fun v39 Ps39 hR39 => ?_))))))
 obtain ⟨w39,rfl,rfl⟩:=hR39
 skip
 refine (M9 rfl rfl (L9 rfl (Pe9 rfl rfl rfl) (L9 rfl (Pe9 rfl rfl rfl) (G9 rfl rfl (G9 rfl rfl (N9 (X9 ?_)))))))
 refine Q9 (R9 (L9 rfl (Px9 (r:=201) rfl Tryz.isAgg50 Tryz.sizeOf50 rfl rfl (refC_len hid) (load_all (refC_len hid))) (M9 rfl rfl (Lc9 rfl rfl (by decide) (Oc9 600 [0,101,201,301,401,500] [] rfl Tryz.call53 rfl rfl rfl (by decide) (by decide) (rlist_spec es v id hid false hel hdl _ (rs9 0 rfl hF) (ds9 0 rfl hD) path hpl) (fun v45 Ps45 hR45 => ?_))))))
 obtain ⟨w45,rfl,rfl⟩:=hR45
 skip
 refine (M9 rfl rfl (L9 rfl (Pe9 rfl rfl rfl) (L9 rfl (Pe9 rfl rfl rfl) (G9 rfl rfl (G9 rfl rfl (N9 (X9 ?_)))))))
 refine Q9 (R9 (L9 rfl (Px9 (r:=101) rfl Tryz.isAgg31 Tryz.sizeOf31 rfl rfl (treeC_length hid) (load_all (treeC_length hid))) (M9 rfl rfl (M9 rfl rfl (M9 rfl rfl (Lc9 rfl rfl (by decide) (Oc9 700 [0,101,201,301,401,500,600] [] rfl Tryz.call31 rfl rfl rfl (by decide) (by decide) (read_spec es v id hid hel hdl _ (rs9 0 rfl hF2) (ds9 0 rfl hD) (ts9 0 rfl hT) path hpl off n) (fun v53 Ps53 hR53 => ?_))))))))
 obtain ⟨w53,rfl,rfl⟩:=hR53
 skip
 refine (M9 rfl rfl (L9 rfl (Pe9 rfl rfl rfl) (L9 rfl (Pe9 rfl rfl rfl) (G9 rfl rfl (G9 rfl rfl (N9 (X9 ?_)))))))
 refine Q9 (R9 (L9 rfl (Px9 (r:=201) rfl Tryz.isAgg50 Tryz.sizeOf50 rfl rfl (refC_len hid) (load_all (refC_len hid))) (M9 rfl rfl (M9 rfl rfl (M9 rfl rfl (Lc9 rfl rfl (by decide) (Oc9 800 [0,101,201,301,401,500,600,700] [] rfl Tryz.call54 rfl rfl rfl (by decide) (by decide) (rread_spec es v id hid false hel hdl _ (rs9 0 rfl hF) (ds9 0 rfl hD) path hpl off n) (fun v61 Ps61 hR61 => ?_))))))))
 obtain ⟨w61,rfl,rfl⟩:=hR61
 skip
 refine (M9 rfl rfl (L9 rfl (Pe9 rfl rfl rfl) (L9 rfl (Pe9 rfl rfl rfl) (G9 rfl rfl (G9 rfl rfl (N9 (X9 ?_)))))))
 refine Q9 (R9 (L9 rfl (Px9 (r:=301) rfl Tryz.isAgg42 Tryz.sizeOf42 rfl rfl (ndC_length (pathV_top _ _ _)) (load_all (ndC_length (pathV_top _ _ _)))) (L9 rfl (Px9 (r:=401) rfl Tryz.isAgg42 Tryz.sizeOf42 rfl rfl (ndC_length (pathV_top _ _ _)) (load_all (ndC_length (pathV_top _ _ _)))) (L9 rfl (Pn9 rfl rfl rfl (run_nodeEq (pathV (viewT (es.map toTB)) id path).1.1 (pathV (viewT (es.map toTB)) id path).1.2.1 (pathV (viewT (es.map toTB)) id path).1.2.2.1 (pathV (viewT (es.map toTB)) id path).1.1 (pathV (viewT (es.map toTB)) id path).1.2.1 (pathV (viewT (es.map toTB)) id path).1.2.2.1 (pathV (viewT (es.map toTB)) id path).1.2.2.2 (pathV (viewT (es.map toTB)) id path).1.2.2.2 (pathV_top _ _ _) (pathV_top _ _ _) _ _)) ?_))))
 rw [nodeEq_self]
 refine (M9 rfl rfl (WL_gPT rfl rfl rfl rfl rfl (by decide) (Pm9 rfl rfl) (WL_gPT rfl rfl rfl rfl rfl (by decide) (Pm9 rfl rfl) (WL_gPT rfl rfl rfl rfl rfl (by decide) (Pn9 rfl rfl rfl (run_eql _ _ _ _ _ _)) ?_))))
 rw [decide_eq_true (show (pathV (viewT (es.map toTB)) id path).2 = (pathV (viewT (es.map toTB)) id path).2 from rfl)]
 refine (L9 rfl (Pu_pickT rfl rfl rfl rfl) (M9 rfl rfl (WL_gPT rfl rfl rfl rfl rfl (by decide) (Pm9 rfl rfl) (WL_gPT rfl rfl rfl rfl rfl (by decide) (Pm9 rfl rfl) (WL_gT rfl rfl rfl rfl rfl (by decide) (Oc9 900 [0,101,201,301,401,500,600,700,800] [] rfl Tryz.call55 rfl rfl rfl (by decide) (by decide) (texts_spec w39 w45 (listV (viewT (es.map toTB)) id path).1 (listV_len (viewT (es.map toTB)) id path) _ (rs9 5 rfl rowS_rd) (rs9 6 rfl rowS_rd)) (fun v75 Ps75 hR75 => ?_)))))))
 obtain ⟨rfl,rfl⟩:=hR75
 refine (L9 rfl (Pu_pickT rfl rfl rfl rfl) (M9 rfl rfl (WL_gPT rfl rfl rfl rfl rfl (by decide) (Pm9 rfl rfl) (WL_gPT rfl rfl rfl rfl rfl (by decide) (Pm9 rfl rfl) (WL_gPT rfl rfl rfl rfl rfl (by decide) (Pn9 rfl rfl rfl (run_eql _ _ _ _ _ _)) ?_)))))
 rw [decide_eq_true (show (listV (viewT (es.map toTB)) id path).2 = (listV (viewT (es.map toTB)) id path).2 from rfl)]
 refine (L9 rfl (Pu_pickT rfl rfl rfl rfl) (M9 rfl rfl (WL_gPT rfl rfl rfl rfl rfl (by decide) (Pm9 rfl rfl) (WL_gPT rfl rfl rfl rfl rfl (by decide) (Pu_convBS (r:=700) rfl Tryz.underlying36 Tryz.underlying5 Tryz.underlying9 rfl rfl rowB_rd) (WL_gPT rfl rfl rfl rfl rfl (by decide) (Pm9 rfl rfl) (WL_gPT rfl rfl rfl rfl rfl (by decide) (Pu_convBS (r:=800) rfl Tryz.underlying36 Tryz.underlying5 Tryz.underlying9 rfl rfl rowB_rd) (WL_gPT rfl rfl rfl rfl rfl (by decide) (Pn9 rfl rfl rfl (run_strEq _ _ _ _ _)) ?_)))))))
 rw [beq_self_eq_true]
 refine (L9 rfl (Pu_pickT rfl rfl rfl rfl) (M9 rfl rfl (WL_gPT rfl rfl rfl rfl rfl (by decide) (Pm9 rfl rfl) (WL_gPT rfl rfl rfl rfl rfl (by decide) (Pm9 rfl rfl) (WL_gPT rfl rfl rfl rfl rfl (by decide) (Pn9 rfl rfl rfl (run_eql _ _ _ _ _ _)) ?_)))))
 rw [decide_eq_true (show (readV (viewT (es.map toTB)) id path off n).2 = (readV (viewT (es.map toTB)) id path off n).2 from rfl)]
 refine (L9 rfl (Pu_pickT rfl rfl rfl rfl) (G9 rfl rfl (N9 (X9 ?_))))
 refine W_ret ?_
 exact Xq9 [] (Ps:=[]) (res1 Tryz.results29 rfl) rfl (by decide) ⟨rfl,rfl⟩
end Go.Proofs.YthkdkmaacjpneaaGreatDoor
