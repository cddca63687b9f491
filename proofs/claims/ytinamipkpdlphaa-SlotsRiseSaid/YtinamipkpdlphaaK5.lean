/- Texts of this proof, one behind the other: LmsI, LmsJ, SlotL, SlotA, SlotB, SlotD, SlotE, SlotF, SlotI, Ln0, Ln1, Ln2, Ln3, Ln4. -/
import Derived.Test.YtinamipkpdlphaaK4
import Derived.Test.YtinamipkpdlphaaK2
import Derived.Test.YtinamipkpdlphaaK1
set_option linter.unusedVariables false
set_option linter.unusedSimpArgs false
set_option linter.unusedSectionVars false
namespace Go.Proofs.Ytinamipkpdlphaa
open Go.RowKit
set_option maxRecDepth 8000

theorem lfour_spec (n:Int) (F:HP):CallsS Try.prog 65 #[.int .i64 n] F [] (fun r Ps=>Ps=[rowB 5 r (numB n 4)]):=by
 refine callsS_enter Try.func65 rfl Try.ntmps65 (by simp) (fun E=>?_)
 refine Q9 (R9 (G9 rfl rfl (N9 (X9 (Q9 (R9 (M9 rfl rfl (L9 rfl (Pn9 rfl rfl rfl (run_shr _ 24 _ _ _ (by omega))) (L9 rfl (Pu_conv rfl rfl (conv_byte _ _ Try.runUnderlying3 Try.runUnderlying5)) (M9 rfl rfl (L9 rfl (Pn9 rfl rfl rfl (run_shr _ 16 _ _ _ (by omega))) (L9 rfl (Pu_conv rfl rfl (conv_byte _ _ Try.runUnderlying3 Try.runUnderlying5)) (M9 rfl rfl (L9 rfl (Pn9 rfl rfl rfl (run_shr _ 8 _ _ _ (by omega))) (L9 rfl (Pu_conv rfl rfl (conv_byte _ _ Try.runUnderlying3 Try.runUnderlying5)) (M9 rfl rfl (L9 rfl (Pu_conv rfl rfl (conv_byte _ _ Try.runUnderlying3 Try.runUnderlying5)) (Lc9 rfl rfl (by decide) (OpT_buildOnes (r:=101) (bs (numB n 4)) rfl rfl Try.runUnderlying30 Try.sizeOf5 Try.zeroValue5 rfl rfl (by decide) (by rw [numB_four]; rfl) (bs_cells _) (fun v14=>(G9 rfl rfl (N9 (X9 ?_)))))))))))))))))))))))
 refine W_ret ?_
 exact Xq9 [101] (Ps:=[_]) (res1 Try.results65 rfl) rfl (by decide) (congrArg (·::[]) (rowB_of _ (by rw [numB_length]) rfl))
theorem number6_spec (v:Value) (l:List UInt8) (F:HP) (hF:∀ h,F h→rdB v l h) (hl:4≤l.length):CallsS Try.prog 40 #[v] F [] (fun r Ps=>r = .int .i64 (val l 4:Int)∧Ps=[]):=by
 refine callsS_enter Try.func40 rfl Try.ntmps40 (by simp) (fun E=>?_)
 refine Q9 (R9 (G9 rfl rfl (N9 (X9 (Q9 ?_)))))
 refine W_draw (N:=23) (by kernel_rfl) rfl [(0,_)] ⟨rfl,trivial⟩ ?_
 refine (T9 0 rfl rfl (Pm9 rfl rfl) (T9 1 rfl rfl (Pu_idxS1 (r:=0) rfl Try.runUnderlying30 Try.sizeOf5 rfl rfl rfl hF (by omega)) (T9 2 rfl rfl (Py9 (r:=0) rfl Try.isAgg5 rfl rfl hF (bs_at1 (k:=0) (by omega))) (T9 3 rfl rfl (Pu_conv rfl rfl (conv_u8 _ Try.runUnderlying5 Try.runUnderlying3)) (T9 4 rfl rfl (Pn9 rfl rfl rfl (run_shl _ 24 _ _ _ (by have:=(at0 l 0).toNat_lt; omega) (by omega))) (T9 5 rfl rfl (Pm9 rfl rfl) (T9 6 rfl rfl (Pu_idxS1 (r:=0) rfl Try.runUnderlying30 Try.sizeOf5 rfl rfl rfl hF (by omega)) (T9 7 rfl rfl (Py9 (r:=0) rfl Try.isAgg5 rfl rfl hF (bs_at1 (k:=1) (by omega))) (T9 8 rfl rfl (Pu_conv rfl rfl (conv_u8 _ Try.runUnderlying5 Try.runUnderlying3)) (T9 9 rfl rfl (Pn9 rfl rfl rfl (run_shl _ 16 _ _ _ (by have:=(at0 l 1).toNat_lt; omega) (by omega))) (T9 10 rfl rfl (Pn9 rfl rfl rfl (run_or _ _ 24 _ _ _ (by have:=(at0 l 0).toNat_lt; have:=(at0 l 1).toNat_lt; have:=(at0 l 2).toNat_lt; have:=(at0 l 3).toNat_lt; omega) (by have:=(at0 l 0).toNat_lt; have:=(at0 l 1).toNat_lt; have:=(at0 l 2).toNat_lt; have:=(at0 l 3).toNat_lt; omega) (by have:=(at0 l 0).toNat_lt; have:=(at0 l 1).toNat_lt; have:=(at0 l 2).toNat_lt; have:=(at0 l 3).toNat_lt; omega) (by omega))) (T9 11 rfl rfl (Pm9 rfl rfl) (T9 12 rfl rfl (Pu_idxS1 (r:=0) rfl Try.runUnderlying30 Try.sizeOf5 rfl rfl rfl hF (by omega)) (T9 13 rfl rfl (Py9 (r:=0) rfl Try.isAgg5 rfl rfl hF (bs_at1 (k:=2) (by omega))) (T9 14 rfl rfl (Pu_conv rfl rfl (conv_u8 _ Try.runUnderlying5 Try.runUnderlying3)) (T9 15 rfl rfl (Pn9 rfl rfl rfl (run_shl _ 8 _ _ _ (by have:=(at0 l 2).toNat_lt; omega) (by omega))) (T9 16 rfl rfl (Pn9 rfl rfl rfl (run_or _ _ 16 _ _ _ (by have:=(at0 l 0).toNat_lt; have:=(at0 l 1).toNat_lt; have:=(at0 l 2).toNat_lt; have:=(at0 l 3).toNat_lt; omega) (by have:=(at0 l 0).toNat_lt; have:=(at0 l 1).toNat_lt; have:=(at0 l 2).toNat_lt; have:=(at0 l 3).toNat_lt; omega) (by have:=(at0 l 0).toNat_lt; have:=(at0 l 1).toNat_lt; have:=(at0 l 2).toNat_lt; have:=(at0 l 3).toNat_lt; omega) (by omega))) (T9 17 rfl rfl (Pm9 rfl rfl) (T9 18 rfl rfl (Pu_idxS1 (r:=0) rfl Try.runUnderlying30 Try.sizeOf5 rfl rfl rfl hF (by omega)) (T9 19 rfl rfl (Py9 (r:=0) rfl Try.isAgg5 rfl rfl hF (bs_at1 (k:=3) (by omega))) (T9 20 rfl rfl (Pu_conv rfl rfl (conv_u8 _ Try.runUnderlying5 Try.runUnderlying3)) (T9 21 rfl rfl (Pn9 rfl rfl rfl (run_or _ _ 8 _ _ _ (by have:=(at0 l 0).toNat_lt; have:=(at0 l 1).toNat_lt; have:=(at0 l 2).toNat_lt; have:=(at0 l 3).toNat_lt; omega) (by have:=(at0 l 0).toNat_lt; have:=(at0 l 1).toNat_lt; have:=(at0 l 2).toNat_lt; have:=(at0 l 3).toNat_lt; omega) (by have:=(at0 l 0).toNat_lt; have:=(at0 l 1).toNat_lt; have:=(at0 l 2).toNat_lt; have:=(at0 l 3).toNat_lt; omega) (by omega))) (T9 22 rfl rfl (Pg9 rfl rfl) (Ad9 (by kernel_rfl) (X9 ?_)))))))))))))))))))))))))
 refine W_ret ?_
 exact Xq9 [] (Ps:=[]) (res1 Try.results40 rfl) rfl (by decide) ⟨by rw [val_four],rfl⟩
theorem lnode_spec (nm:List UInt8) (hn:nm.length=16) (r:Int) (mark:UInt8) (lv:Value) (l:List (List UInt8)) (hids:Ids l) (hll:l.length≤1000) (F:HP) (hl:∀ h,F h→rdI lv l h):CallsS Try.prog 42 #[idV nm,.int .i64 r,bv mark,lv] F [] (fun v Ps=>v=idV (nodH nm r mark l.flatten)∧Ps=[]):=by
 refine callsS_enter Try.func42 rfl Try.ntmps42 (by simp) (fun E=>?_)
 refine Q9 (R9 (Lc9 rfl rfl (by decide) (OpT_box (r:=101) rfl rfl rfl (fun g101=>(Lc9 rfl rfl (by decide) (OpT_alloc (r:=102) (cs:=(bs zeroId)) rfl (zero_run (by kernel_rfl:(Try.prog.info? 29).bind (·.zero)=some (.agg (bs zeroId).toArray))) rfl (fun g102=>(N9 (X9 (Q9 (R9 (M9 rfl rfl (L9 rfl (Pl9 (r:=0) rfl Try.runUnderlying80 rfl rfl hl) (L9 rfl (Pn9 rfl rfl rfl (run_mul _ _ _ _ _ (by omega))) (L9 rfl (Pn9 rfl rfl rfl (run_add _ _ _ _ _ (by omega))) ?_)))))))))))))))
 rw [show (22:Int) + (l.length:Int) * 32=((22 + l.length * 32:Nat):Int) by omega]
 refine (Lc9 rfl rfl (by decide) (OpT_makeCap (r:=103) (m:=22 + l.length * 32) rfl Try.underlying30 TI.hi5 TI.hz5 TI.hs5 rfl rfl (by rw [TI.hby5]; omega) (by unfold maxLen; omega) (fun v16=>?_)))
 refine (G9 rfl rfl (N9 (X9 ?_)))
 refine Q9 (R9 (M9 rfl rfl (L9 rfl (Pu_sliceArr rfl Try.runUnderlying52 Try.sizeOf5 rfl) (Lc9 rfl rfl (by decide) (Oa9 (r:=103) (r2:=101) rfl Try.underlying30 TI.hi5 TI.hz5 TI.hs5 TI.hby5 TI.hzs5 (by decide) rfl rfl rfl rfl (fun _ h=>blk_all h hn) (bs_one _) (by unfold maxLen; omega) (by omega) (fun v19=>?_))))))
 refine Lt9 (P':=rowB 5 v19 (nm)) 103 rfl (fun h hp=>rowB_mk hp (by simp [hn]) (by simp [bs])) ?_
 refine (G9 rfl rfl (N9 (X9 ?_)))
 refine Q9 (R9 (M9 rfl rfl (M9 rfl rfl (Lc9 rfl rfl (by decide) (Oc9 200 [0,101,102,103] [] rfl Try.call65 rfl rfl rfl (by decide) (by decide) (lfour_spec r _) (fun v22 Ps22 hR22=>?_))))))
 subst hR22
 refine (Lc9 rfl rfl (by decide) (Oa9 (r:=103) (r2:=200) rfl Try.underlying30 TI.hi5 TI.hz5 TI.hs5 TI.hby5 TI.hzs5 (by decide) rfl rfl rfl rfl rowB_rd (bs_one _) (by unfold maxLen; simp [hn,numB_length]) (by simp [hn,numB_length]) (fun v23=>?_)))
 refine Lt9 (P':=rowB 5 v23 (hdL nm r)) 103 rfl (fun h hp=>rowB_mk hp (by unfold hdL; rw [List.length_append]) (by unfold hdL; rw [bs_append])) ?_
 refine (G9 rfl rfl (N9 (X9 ?_)))
 refine Q9 (R9 (M9 rfl rfl (M9 rfl rfl (M9 rfl rfl (Lc9 rfl rfl (by decide) (OpT_buildOnes (r:=201) (bs [mark,mark]) rfl rfl Try.runUnderlying30 Try.sizeOf5 Try.zeroValue5 rfl rfl (by decide) rfl (bs_cells _) (fun v27=>(Lc9 rfl rfl (by decide) (Oa9 (r:=103) (r2:=201) rfl Try.underlying30 TI.hi5 TI.hz5 TI.hs5 TI.hby5 TI.hzs5 (by decide) rfl rfl rfl rfl (fun _ h=>rp9 h) (bs_one _) (by unfold maxLen; simp [hdL_length hn,numB_length, *] <;> omega) (by simp [hdL_length hn,numB_length, *] <;> omega) (fun v28=>?_))))))))))
 refine Lt9 (P':=rowB 5 v28 (hdL nm r++[mark,mark])) 103 rfl (fun h hp=>rowB_mk hp (by simp [hdL_length hn,numB_length, *] <;> omega) (by simp only [bs_append])) ?_
 refine (G9 rfl rfl (N9 (X9 ?_)))
 refine Q9 (Q9 (R9 (M9 rfl rfl (L9 rfl (Pl9 (r:=0) rfl Try.runUnderlying80 rfl rfl hl) (M9 rfl rfl (N9 (X9 ?_)))))))
 refine W_block ?_
 refine W_loop (α:=Value × Nat) (fun y=>[(8,.pointer (some ⟨g102,0,none⟩)),(9,y.1),(29,lv),(30,.int .i64 (l.length:Int)),(31,.int .i64 (y.2:Int))]) (fun y=>[(0,F),(102,blk g102 29 (bs zeroId)),(103,rowB 5 y.1 (hdL nm r++[mark,mark]++(l.take y.2).flatten))]) (fun y=>y.2≤l.length) (fun y=>l.length - y.2) ((v28,0)) (by dsimp only; omega) ⟨rfl,rfl,rfl,rfl,rfl,trivial⟩ ⟨rfl,rfl,look_eq rfl (by rw [List.take_zero,List.flatten_nil,List.append_nil]),trivial⟩ (fun y hy=>?_)
 have hfl:=take_flat_len hids y.2
 refine Q9 (R9 (L9 rfl (Pn9 rfl rfl rfl (run_lss _ _ _ _ _ _)) (N9 (X9 (Q9 ?_)))))
 refine C9 rfl (fun hc32=>?_) (fun hc32=>?_)
 ·
  have hlt:y.2 < l.length:=by have:=of_decide_eq_true hc32; omega
  have hid:=hids.get hlt
  refine K9 (X9 ?_)
  refine Q9 ?_
  refine W_block ?_
  refine Q9 (R9 (L9 rfl (Pi9 (r:=0) rfl Try.runUnderlying80 Try.sizeOf29 rfl rfl rfl hl (by omega)) (L9 rfl (Pz9 (r:=0) rfl Try.isAgg29 Try.sizeOf29 rfl rfl hl ((bs_length _).trans hid) (by decide) (idsC_get (k:=y.2) hids hlt)) (Lc9 rfl rfl (by decide) (OpT_alloc (r:=202) (cs:=(bs zeroId)) rfl (zero_run (by kernel_rfl:(Try.prog.info? 29).bind (·.zero)=some (.agg (bs zeroId).toArray))) rfl (fun g202=>(Lc09 rfl rfl (OpT_storeAll (r:=202) rfl Try.sizeOf29 rfl rfl rfl rfl ((bs_length _).trans hid) (bs_one _) ?_))))))))
  refine (N9 (X9 ?_))
  refine R9 (M9 rfl rfl (L9 rfl (Pu_sliceArr rfl Try.runUnderlying29 Try.sizeOf5 rfl) (Lc9 rfl rfl (by decide) (Oa9 (r:=103) (r2:=202) rfl Try.underlying30 TI.hi5 TI.hz5 TI.hs5 TI.hby5 TI.hzs5 (by decide) rfl rfl rfl rfl (fun _ h=>blk_all h hid) (bs_one _) (by unfold maxLen; simp only [List.length_append,hdL_length hn,List.length_cons,List.length_nil]; omega) (by simp only [List.length_append,hdL_length hn,List.length_cons,List.length_nil]; omega) (fun v37=>?_)))))
  refine Lt9 (P':=rowB 5 v37 (hdL nm r++[mark,mark]++(l.take (y.2 + 1)).flatten)) 103 rfl (fun h hp=>rowB_mk hp (by rw [take_flat l hlt]; simp only [List.length_append,hid]; omega) (by rw [take_flat l hlt]; simp only [bs_append,List.append_assoc])) ?_
  refine (G9 rfl rfl (N9 (X_block (X9 ?_))))
  refine R9 (L9 rfl (Pn9 rfl rfl rfl (run_add _ _ _ _ _ (by omega))) (M9 rfl rfl (N9 ?_)))
  exact Xr9 (v37,y.2 + 1) (by dsimp only; omega) (by show l.length - (y.2 + 1) < l.length - y.2; omega) (a9 rfl) (a9 rfl)
 ·
  have hye:y.2=l.length:=by have:=of_decide_eq_false hc32; omega
  rw [hye,List.take_length]
  refine W_exit (X_then_exit (X_then_exit (X_block_exit (X9 ?_))))
  refine Q9 (R9 (M9 rfl rfl (Lc9 rfl rfl (by decide) (Oc9 300 [0,102,103] [] rfl Try.call24 rfl rfl rfl (by decide) (by decide) (sum_spec y.1 (hdL nm r++[mark,mark]++l.flatten) (by have:=flat_ids hids; simp only [List.length_append,hdL_length hn,this,List.length_cons,List.length_nil]; omega) _ (rs9 2 rfl rowB_rd)) (fun v40 Ps40 hR40=>?_)))))
  obtain ⟨rfl,rfl⟩:=hR40
  refine (Lc09 rfl rfl (OpT_storeAll (r:=102) rfl Try.sizeOf29 rfl rfl rfl rfl ((bs_length _).trans (sha_length _)) (bs_one _) ?_))
  refine (N9 (X9 ?_))
  refine W_ret ?_
  exact Xq9 [] (Ps:=[]) (resC1 (r:=102) Try.results42 rfl Try.isAgg29 Try.sizeOf29 rfl ((bs_length _).trans (sha_length _))) rfl (by decide) ⟨rfl,rfl⟩
open Go.RowKit
set_option maxRecDepth 8000

theorem lcheck_spec (pv mv sv:Value) (pub msg sig:List UInt8) (hml:msg.length≤1000000) (F:HP) (hp:∀ h,F h→rdB pv pub h) (hm:∀ h,F h→rdB mv msg h) (hsg:∀ h,F h→rdB sv sig h):CallsS Try.prog 21 #[pv,mv,sv] F [] (fun r Ps=>r = .int .i64 (checkT pub msg sig)∧Ps=[]):=by
 refine callsS_enter Try.func21 rfl Try.ntmps21 (by simp) (fun E=>?_)
 refine Q9 ?_
 refine J9 [(0,_),(1,_),(2,_)] [(0,_)] ?_ ⟨rfl,rfl,rfl,trivial⟩ ⟨rfl,trivial⟩
 refine R9 (G9 rfl rfl (N9 (X9 (Q9 (Q9 ?_)))))
 refine J9 [(0,_),(1,_),(2,_),(6,_)] [(0,_)] ?_ ⟨rfl,rfl,rfl,rfl,trivial⟩ ⟨rfl,trivial⟩
 rcases Bool.eq_false_or_eq_true (!decide ((pub.length:Int)=56)) with hsp1 | hsp1
 ·
  have hbad:badPub pub:=by unfold badPub; simp at hsp1; omega
  refine R9 (M9 rfl rfl (L9 rfl (Pl9 (r:=0) rfl Try.runUnderlying30 rfl rfl hp) (L9 rfl (Pn9 rfl rfl rfl (run_neq _ _ _ _ _ _)) (M9 rfl rfl (WL_gF rfl rfl rfl (by rw [hsp1]; rfl) rfl (by decide) (WL_gF rfl rfl rfl (by rw [hsp1]; rfl) rfl (by decide) (WL_gF rfl rfl rfl (by rw [hsp1]; rfl) rfl (by decide) (L9 rfl (Pu_pickT rfl rfl hsp1 rfl) (M9 rfl rfl (WL_gF rfl rfl rfl (by first | rfl | (rw [hsp1]; rfl)) rfl (by decide) (WL_gF rfl rfl rfl (by first | rfl | (rw [hsp1]; rfl)) rfl (by decide) (WL_gF rfl rfl rfl (by first | rfl | (rw [hsp1]; rfl)) rfl (by decide) (L9 rfl (Pu_pickT rfl rfl rfl rfl) (M9 rfl rfl (WL_gF rfl rfl rfl (by first | rfl | (rw [hsp1]; rfl)) rfl (by decide) (WL_gF rfl rfl rfl (by first | rfl | (rw [hsp1]; rfl)) rfl (by decide) (WL_gF rfl rfl rfl (by first | rfl | (rw [hsp1]; rfl)) rfl (by decide) (WL_gF rfl rfl rfl (by first | rfl | (rw [hsp1]; rfl)) rfl (by decide) (L9 rfl (Pu_pickT rfl rfl rfl rfl) (N9 (X9 ?_)))))))))))))))))))))
  refine W_true rfl (rfl) ?_
  refine Q9 ?_
  refine J9 [(0,_),(1,_),(2,_),(6,_),(35,_)] [(0,_)] ?_ ⟨rfl,rfl,rfl,rfl,rfl,trivial⟩ ⟨rfl,trivial⟩
  refine R9 (G9 rfl rfl (N9 (X9 ?_)))
  refine W_ret (X_then_ret ?_)
  exact Xq9 [] (Ps:=[]) (res1 Try.results21 rfl) rfl (by decide) ⟨by rw [checkT_pub hbad],rfl⟩
 ·
  have hpl:pub.length=56:=by simp at hsp1; omega
  refine R9 (M9 rfl rfl (L9 rfl (Pl9 (r:=0) rfl Try.runUnderlying30 rfl rfl hp) (L9 rfl (Pn9 rfl rfl rfl (run_neq _ _ _ _ _ _)) (M9 rfl rfl (WL_gPT rfl rfl rfl (by rw [hsp1]; rfl) rfl (by decide) (Pm9 rfl rfl) (WL_gT rfl rfl rfl (by rw [hsp1]; rfl) rfl (by decide) (Oc9 200 [0] [] rfl Try.call40 rfl rfl rfl (by decide) (by decide) (number6_spec _ pub _ (rs9 0 rfl hp) (by omega)) (fun v22 Ps22 hR22=>?_))))))))
  obtain ⟨rfl,rfl⟩:=hR22
  refine (WL_gPT rfl rfl rfl (by rw [hsp1]; rfl) rfl (by decide) (Pn9 rfl rfl rfl (run_lss _ _ _ _ _ _)) (L9 rfl (Pu_pickF rfl rfl hsp1 rfl) (M9 rfl rfl (Lg9 rfl rfl rfl rfl (by decide) (fun hb=>(Pm9 rfl rfl)) (WL_guard (V:=.int .i64 (val pub 4:Int)) rfl rfl rfl rfl (by decide) (fun hb=>(Oc9 300 [0] [] rfl Try.call40 (evL_cons (ev_gv rfl hb) evL_nil) rfl rfl (by decide) (by decide) (number6_spec _ pub _ (rs9 0 rfl hp) (by omega)) (fun v27 Ps27 hR27=>⟨hR27.1,fun w hw=>by rw [hR27.2] at hw; exact hw.sub (AllIn.look ⟨rfl,trivial⟩)⟩))) ?_)))))
  refine (Lg9 rfl rfl rfl rfl (by decide) (fun hb=>(Pn9 rfl (ev_gv rfl hb) rfl (run_gtr _ _ _ _ _ _))) (L9 rfl (Pu_or rfl rfl rfl) (M9 rfl rfl (Lg9 rfl rfl rfl rfl (by decide) (fun hb=>(Pm9 rfl rfl)) (Lg9 rfl rfl rfl rfl (by decide) (fun hb=>(Pu_slice (r:=0) (a:=4) (b:=pub.length) rfl Try.runUnderlying30 Try.sizeOf5 (ev_gv rfl hb) rfl hp (.inr ⟨_,_,_,rfl,rfl,rfl⟩) (.inl ⟨rfl,rfl⟩) (by omega) (by omega))) (WL_guard (V:=.int .i64 (val (pub.drop 4) 4:Int)) rfl rfl rfl rfl (by decide) (fun hb=>(Oc9 400 [0] [] rfl Try.call40 (evL_cons (ev_gv rfl hb) evL_nil) rfl rfl (by decide) (by decide) (number6_spec _ (pub.drop 4) _ (rs9 0 rfl (fun h hq=>rdB_tail (hp h hq) (by omega))) (by rw [List.length_drop]; omega)) (fun v33 Ps33 hR33=>⟨hR33.1,fun w hw=>by rw [hR33.2] at hw; exact hw.sub (AllIn.look ⟨rfl,trivial⟩)⟩))) ?_))))))
  refine (Lg9 rfl rfl rfl rfl (by decide) (fun hb=>(Pn9 rfl (ev_gv rfl hb) rfl (run_neq _ _ _ _ _ _))) (L9 rfl (Pu_or rfl rfl rfl) (N9 (X9 ?_))))
  refine C9 rfl (fun hc35=>?_) (fun hc35=>?_)
  ·
   have hbad:badPub pub:=by unfold badPub; simp at hc35; omega
   refine Q9 ?_
   refine J9 [(0,_),(1,_),(2,_),(6,_),(35,_)] [(0,_)] ?_ ⟨rfl,rfl,rfl,rfl,rfl,trivial⟩ ⟨rfl,trivial⟩
   refine R9 (G9 rfl rfl (N9 (X9 ?_)))
   refine W_ret (X_then_ret ?_)
   exact Xq9 [] (Ps:=[]) (res1 Try.results21 rfl) rfl (by decide) ⟨by rw [checkT_pub hbad],rfl⟩
  ·
   have hgood:¬ badPub pub:=by unfold badPub; simp at hc35; omega
   have hh:1≤val pub 4∧val pub 4≤5:=by unfold badPub at hgood; omega
   have hpw:2 ^ val pub 4≤32:=Nat.le_trans (Nat.pow_le_pow_right (by decide) hh.2) (by decide)
   refine K9 (X9 ?_)
   refine Q9 ?_
   refine J9 [(0,_),(1,_),(2,_),(6,_),(35,_)] [(0,_)] ?_ ⟨rfl,rfl,rfl,rfl,rfl,trivial⟩ ⟨rfl,trivial⟩
   refine R9 (M9 rfl rfl (Lc9 rfl rfl (by decide) (Oc9 500 [0] [] rfl Try.call40 rfl rfl rfl (by decide) (by decide) (number6_spec _ pub _ (rs9 0 rfl hp) (by omega)) (fun v37 Ps37 hR37=>?_))))
   obtain ⟨rfl,rfl⟩:=hR37
   refine (G9 rfl rfl (N9 (X9 ?_)))
   refine Q9 (Q9 ?_)
   refine J9 [(0,_),(1,_),(2,_),(6,_),(7,_),(35,_)] [(0,_)] ?_ ⟨rfl,rfl,rfl,rfl,rfl,rfl,trivial⟩ ⟨rfl,trivial⟩
   rcases Bool.eq_false_or_eq_true (!decide ((sig.length:Int)=4300 + 32 * (val pub 4:Int))) with hsp4 | hsp4
   ·
    have hbs:badSig (val pub 4) sig:=by unfold badSig; simp at hsp4; omega
    refine W_draw (N:=20) (by kernel_rfl) rfl [(0,_)] ⟨rfl,trivial⟩ ?_
    refine (T9 0 rfl rfl (Pm9 rfl rfl) (T9 1 rfl rfl (Pl9 (r:=0) rfl Try.runUnderlying30 rfl rfl hsg) (T9 2 rfl rfl (Pm9 rfl rfl) (T9 3 rfl rfl (Pn9 rfl rfl rfl (run_mul _ _ _ _ _ (by omega))) (T9 4 rfl rfl (Pn9 rfl rfl rfl (run_add _ _ _ _ _ (by omega))) (T9 5 rfl rfl (Pn9 rfl rfl rfl (run_neq _ _ _ _ _ _)) (T9 6 rfl rfl (Pm9 rfl rfl) (AH_takeF 7 rfl (by kernel_rfl) (by kernel_rfl) (by kernel_rfl) rfl rfl rfl (by rw [hsp4]; rfl) rfl (by decide) (AH_takeF 8 rfl (by kernel_rfl) (by kernel_rfl) (by kernel_rfl) rfl rfl rfl (by rw [hsp4]; rfl) rfl (by decide) (AH_takeF 10 rfl (by kernel_rfl) (by kernel_rfl) (by kernel_rfl) rfl rfl rfl (by rw [hsp4]; rfl) rfl (by decide) (Y9 [9] ?_)))))))))))
    refine AHs_gF rfl rfl rfl rfl (by rw [hsp4]; rfl) rfl (by decide) ?_ ?_
    ·
     refine (AH_takeF 11 rfl (by kernel_rfl) (by kernel_rfl) (by kernel_rfl) rfl rfl rfl (by rw [hsp4]; rfl) rfl (by decide) (T9 12 rfl rfl (Pu_pickT rfl rfl hsp4 rfl) (T9 13 rfl rfl (Pm9 rfl rfl) (AH_takeF 14 rfl (by kernel_rfl) (by kernel_rfl) (by kernel_rfl) rfl rfl rfl (by first | rfl | (rw [hsp4]; rfl)) rfl (by decide) (AH_takeF 16 rfl (by kernel_rfl) (by kernel_rfl) (by kernel_rfl) rfl rfl rfl (by first | rfl | (rw [hsp4]; rfl)) rfl (by decide) (AH_takeF 17 rfl (by kernel_rfl) (by kernel_rfl) (by kernel_rfl) rfl rfl rfl (by first | rfl | (rw [hsp4]; rfl)) rfl (by decide) (Y9 [15] ?_)))))))
     refine AHs_gF rfl rfl rfl rfl (by first | rfl | (rw [hsp4]; rfl)) rfl (by decide) ?_ ?_
     ·
      refine (AH_takeF 18 rfl (by kernel_rfl) (by kernel_rfl) (by kernel_rfl) rfl rfl rfl (by first | rfl | (rw [hsp4]; rfl)) rfl (by decide) (T9 19 rfl rfl (Pu_pickT rfl rfl rfl rfl) (Ad9 (by kernel_rfl) (X9 ?_))))
      refine W_true rfl (rfl) ?_
      refine Q9 ?_
      refine J9 [(0,_),(1,_),(2,_),(6,_),(7,_),(35,_),(57,_)] [(0,_)] ?_ ⟨rfl,rfl,rfl,rfl,rfl,rfl,rfl,trivial⟩ ⟨rfl,trivial⟩
      refine R9 (G9 rfl rfl (N9 (X9 ?_)))
      refine W_ret (X_then_ret ?_)
      exact Xq9 [] (Ps:=[]) (res1 Try.results21 rfl) rfl (by decide) ⟨by rw [checkT_sig hgood hbs],rfl⟩
     exact An9
    exact An9
   ·
    have hsl:sig.length=4300 + 32 * val pub 4:=by simp at hsp4; omega
    refine W_draw (N:=20) (by kernel_rfl) rfl [(0,_)] ⟨rfl,trivial⟩ ?_
    refine (T9 0 rfl rfl (Pm9 rfl rfl) (T9 1 rfl rfl (Pl9 (r:=0) rfl Try.runUnderlying30 rfl rfl hsg) (T9 2 rfl rfl (Pm9 rfl rfl) (T9 3 rfl rfl (Pn9 rfl rfl rfl (run_mul _ _ _ _ _ (by omega))) (T9 4 rfl rfl (Pn9 rfl rfl rfl (run_add _ _ _ _ _ (by omega))) (T9 5 rfl rfl (Pn9 rfl rfl rfl (run_neq _ _ _ _ _ _)) (T9 6 rfl rfl (Pm9 rfl rfl) (AH_takeT 7 rfl (by kernel_rfl) (by kernel_rfl) (by kernel_rfl) rfl rfl rfl (by rw [hsp4]; rfl) rfl (by decide) (Pm9 rfl rfl) (AH_takeT 8 rfl (by kernel_rfl) (by kernel_rfl) (by kernel_rfl) rfl rfl rfl (by rw [hsp4]; rfl) rfl (by decide) (Pu_slice (r:=0) (a:=4296) (b:=sig.length) rfl Try.runUnderlying30 Try.sizeOf5 rfl rfl hsg (.inr ⟨_,_,_,rfl,rfl,rfl⟩) (.inl ⟨rfl,rfl⟩) (by omega) (by omega)) (AH_takeT 10 rfl (by kernel_rfl) (by kernel_rfl) (by kernel_rfl) rfl rfl rfl (by rw [hsp4]; rfl) rfl (by decide) (Pm9 rfl rfl) (Y9 [9] ?_)))))))))))
    refine AHs_gT rfl rfl rfl rfl (by rw [hsp4]; rfl) rfl (by decide) (Oc9 600 [0] [] rfl Try.call40 rfl rfl rfl (by decide) (by decide) (number6_spec _ (sig.drop 4296) _ (rs9 0 rfl (fun h hq=>rdB_tail (hsg h hq) (by omega))) (by rw [List.length_drop]; omega)) (fun v47 Ps47 hR47=>?_)) ?_
    ·
     obtain ⟨rfl,rfl⟩:=hR47
     refine ⟨⟨rfl,trivial⟩,?_⟩
     refine (AH_takeT 11 rfl (by kernel_rfl) (by kernel_rfl) (by kernel_rfl) rfl rfl rfl (by rw [hsp4]; rfl) rfl (by decide) (Pn9 rfl rfl rfl (run_neq _ _ _ _ _ _)) (T9 12 rfl rfl (Pu_pickF rfl rfl hsp4 rfl) (T9 13 rfl rfl (Pm9 rfl rfl) (AH_takeG 14 rfl (by kernel_rfl) (by kernel_rfl) (by kernel_rfl) rfl rfl rfl rfl (by decide) (fun hb=>(Pm9 rfl rfl)) (AH_takeG 16 rfl (by kernel_rfl) (by kernel_rfl) (by kernel_rfl) rfl rfl rfl rfl (by decide) (fun hb=>(Pm9 rfl rfl)) (AH_takeG 17 rfl (by kernel_rfl) (by kernel_rfl) (by kernel_rfl) rfl rfl rfl rfl (by decide) (fun hb=>(Pn9 rfl rfl (ev_gv rfl hb) (run_shl 1 (val pub 4) _ _ _ (by omega) (by omega)))) (Y9 [15] ?_)))))))
     refine AHs_consG (V:=.int .i64 (val sig 4:Int)) rfl rfl rfl rfl rfl (by decide) (fun hb=>(Oc9 700 [0] [] rfl Try.call40 (evL_cons (ev_gv rfl hb) evL_nil) rfl rfl (by decide) (by decide) (number6_spec _ sig _ (rs9 0 rfl hsg) (by omega)) (fun v53 Ps53 hR53=>⟨hR53.1,fun w hw=>by rw [hR53.2] at hw; exact hw.sub (AllIn.look ⟨rfl,trivial⟩)⟩))) ⟨rfl,trivial⟩ ?_ ?_
     ·
      refine (AH_takeG 18 rfl (by kernel_rfl) (by kernel_rfl) (by kernel_rfl) rfl rfl rfl rfl (by decide) (fun hb=>(Pn9 rfl (ev_gv rfl hb) (ev_gv rfl hb) (run_geq _ _ _ _ _ _))) (T9 19 rfl rfl (Pu_or rfl rfl rfl) (Ad9 (by kernel_rfl) (X9 ?_))))
      refine C9 rfl (fun hc57=>?_) (fun hc57=>?_)
      ·
       have hbs:badSig (val pub 4) sig:=by rw [Nat.one_mul] at hc57; unfold badSig; generalize 2 ^ val pub 4=p2 at hc57 ⊢; simp at hc57; omega
       refine Q9 ?_
       refine J9 [(0,_),(1,_),(2,_),(6,_),(7,_),(35,_),(57,_)] [(0,_)] ?_ ⟨rfl,rfl,rfl,rfl,rfl,rfl,rfl,trivial⟩ ⟨rfl,trivial⟩
       refine R9 (G9 rfl rfl (N9 (X9 ?_)))
       refine W_ret (X_then_ret ?_)
       exact Xq9 [] (Ps:=[]) (res1 Try.results21 rfl) rfl (by decide) ⟨by rw [checkT_sig hgood hbs],rfl⟩
      ·
       have hgs:¬ badSig (val pub 4) sig:=by rw [Nat.one_mul] at hc57; unfold badSig; generalize 2 ^ val pub 4=p2 at hc57 ⊢; simp at hc57; omega
       have hq:val sig 4 < 2 ^ val pub 4:=by unfold badSig at hgs; omega
       have hnm:(nmP pub).length=16:=by rw [List.length_take,List.length_drop]; omega
       have h8:16≤(pub.drop 8).length:=by rw [List.length_drop]; omega
       refine K9 (X9 ?_)
       refine Q9 ?_
       refine J9 [(0,_),(1,_),(2,_),(6,_),(7,_),(35,_),(57,_)] [(0,_)] ?_ ⟨rfl,rfl,rfl,rfl,rfl,rfl,rfl,trivial⟩ ⟨rfl,trivial⟩
       refine R9 (Lc9 rfl rfl (by decide) (OpT_alloc (r:=701) (cs:=(bs (List.replicate 16 0))) rfl (zero_run (by kernel_rfl:(Try.prog.info? 52).bind (·.zero)=some (.agg (bs (List.replicate 16 0)).toArray))) rfl (fun g701=>(N9 (X9 (Q9 ?_))))))
       refine J9 [(0,_),(1,_),(2,_),(6,_),(7,_),(8,_),(35,_),(57,_)] [(0,_),(701,_)] ?_ ⟨rfl,rfl,rfl,rfl,rfl,rfl,rfl,rfl,trivial⟩ ⟨rfl,rfl,trivial⟩
       refine W_draw (N:=4) (by kernel_rfl) rfl [(0,_)] ⟨rfl,trivial⟩ ?_
       refine (T9 0 rfl rfl (Pu_sliceArr rfl Try.runUnderlying52 Try.sizeOf5 rfl) (T9 1 rfl rfl (Pm9 rfl rfl) (T9 2 rfl rfl (Pu_slice (r:=0) (a:=8) (b:=pub.length) rfl Try.runUnderlying30 Try.sizeOf5 rfl rfl hp (.inr ⟨_,_,_,rfl,rfl,rfl⟩) (.inl ⟨rfl,rfl⟩) (by omega) (by omega)) (Y9 [3] ?_))))
       refine Z9 rfl rfl (OpT_copyB (r:=701) (r2:=0) rfl Try.underlying30 TI.hsm5 rfl rfl rfl rfl (fun h hq=>rdB_tail (hp h hq) (by omega)) (bs_one _) (by rw [bs_length,List.length_replicate]; omega) (show over _ _ _=bs (nmP pub) from nm_copy h8) ?_) ?_
       ·
        refine ⟨⟨rfl,trivial⟩,?_⟩
        refine (Ad9 (by kernel_rfl) (X9 ?_))
        refine Q9 ?_
        refine J9 [(0,_),(1,_),(2,_),(6,_),(7,_),(8,_),(35,_),(57,_)] [(0,_),(701,_)] ?_ ⟨rfl,rfl,rfl,rfl,rfl,rfl,rfl,rfl,trivial⟩ ⟨rfl,rfl,trivial⟩
        refine R9 (M9 rfl rfl (Lc9 rfl rfl (by decide) (Oc9 800 [0,701] [] rfl Try.call40 rfl rfl rfl (by decide) (by decide) (number6_spec _ sig _ (rs9 0 rfl hsg) (by omega)) (fun v63 Ps63 hR63=>?_))))
        obtain ⟨rfl,rfl⟩:=hR63
        refine (G9 rfl rfl (N9 (X9 ?_)))
        refine W_cut (α:=Nat) (fun z10=>[(0,pv),(2,sv),(7,.int .i64 (val pub 4:Int)),(8,.pointer (some ⟨g701,0,none⟩)),(9,.int .i64 (val sig 4:Int)),(11,.int .i64 (bckE ((sig.drop 4).take 4292))),(10,.pointer (some ⟨z10,0,none⟩))]) (fun z10=>[(0,F),(701,blk g701 52 (bs (nmP pub))),(181,blk z10 29 (bs (bckR (nmP pub) (val sig 4:Nat) msg ((sig.drop 4).take 4292))))]) (fun z10=>True) ?_ (fun z10 _=>?_)
        ·
         refine J9 [(0,_),(1,_),(2,_),(6,_),(7,_),(8,_),(9,_),(35,_),(57,_)] [(0,_),(701,_)] ?_ ⟨rfl,rfl,rfl,rfl,rfl,rfl,rfl,rfl,rfl,trivial⟩ ⟨rfl,rfl,trivial⟩
         refine W_draw (N:=12) (by kernel_rfl) rfl [(0,_),(701,_)] ⟨rfl,rfl,trivial⟩ ?_
         refine (T9 0 rfl rfl (Px9 (r:=701) rfl Try.isAgg52 Try.sizeOf52 rfl rfl ((bs_length _).trans hnm) (load_all ((bs_length _).trans hnm))) (T9 1 rfl rfl (Pm9 rfl rfl) (T9 2 rfl rfl (Pm9 rfl rfl) (T9 3 rfl rfl (Pm9 rfl rfl) (T9 4 rfl rfl (Pu_slice (r:=0) (a:=4) (b:=4296) rfl Try.runUnderlying30 Try.sizeOf5 rfl rfl hsg (.inr ⟨_,_,_,rfl,rfl,rfl⟩) (.inr ⟨_,_,_,rfl,rfl,rfl⟩) (by omega) (by omega)) (Y9 [5,9] ?_))))))
         refine Z9 rfl rfl (Oc9 900 [0,701] [] rfl Try.call41 rfl rfl rfl (by decide) (by decide) (kback_spec (nmP pub) hnm (val sig 4:Nat) _ _ msg ((sig.drop 4).take 4292) hml _ (rs9 0 rfl hm) (rs9 0 rfl (fun h hq=>rdB_subL (hsg h hq) (by omega) (by omega) rfl))) (fun v70 Ps70 hR70=>?_)) ?_
         ·
          obtain ⟨rfl,rfl⟩:=hR70
          refine ⟨⟨rfl,rfl,trivial⟩,?_⟩
          refine (T9 6 rfl rfl (Pm9 rfl rfl) (T9 7 rfl rfl (Pe9 rfl rfl rfl) (T9 8 rfl rfl (Pe9 rfl rfl rfl) (Y9 [9] ?_))))
          refine Z9 rfl rfl (OpT_alloc (r:=901) (cs:=(bs zeroId)) rfl (zero_run (by kernel_rfl:(Try.prog.info? 29).bind (·.zero)=some (.agg (bs zeroId).toArray))) rfl (fun g901=>⟨⟨rfl,rfl,trivial⟩,?_⟩)) ?_
          ·
           refine (Y9 [10] ?_)
           refine Ac09 rfl rfl rfl (OpT_storeAll (r:=901) rfl Try.sizeOf29 rfl rfl rfl rfl ((bs_length _).trans (bckR_length _ _ _ _)) (bs_one _) ?_) ?_
           ·
            refine ⟨⟨rfl,rfl,trivial⟩,?_⟩
            refine (T9 11 rfl rfl (Pg9 rfl rfl) (Ad9 (by kernel_rfl) ?_))
            refine X_ren 901 181 rfl ?_
            exact X_cut g901 trivial (a9 rfl) (a9 rfl)
           exact An9
          exact An9
         refine Z9 rfl rfl (OpT_alloc (r:=801) (cs:=(bs zeroId)) rfl (zero_run (by kernel_rfl:(Try.prog.info? 29).bind (·.zero)=some (.agg (bs zeroId).toArray))) rfl (fun g801=>⟨⟨rfl,rfl,trivial⟩,?_⟩)) ?_
         ·
          refine (Y9 [5] ?_)
          refine Z9 rfl rfl (Oc9 900 [0,701,801] [] rfl Try.call41 rfl rfl rfl (by decide) (by decide) (kback_spec (nmP pub) hnm (val sig 4:Nat) _ _ msg ((sig.drop 4).take 4292) hml _ (rs9 0 rfl hm) (rs9 0 rfl (fun h hq=>rdB_subL (hsg h hq) (by omega) (by omega) rfl))) (fun v70 Ps70 hR70=>?_)) ?_
          ·
           obtain ⟨rfl,rfl⟩:=hR70
           refine ⟨⟨rfl,rfl,trivial⟩,?_⟩
           refine (T9 6 rfl rfl (Pm9 rfl rfl) (T9 7 rfl rfl (Pe9 rfl rfl rfl) (T9 8 rfl rfl (Pe9 rfl rfl rfl) (Y9 [10] ?_))))
           refine Ac09 rfl rfl rfl (OpT_storeAll (r:=801) rfl Try.sizeOf29 rfl rfl rfl rfl ((bs_length _).trans (bckR_length _ _ _ _)) (bs_one _) ?_) ?_
           ·
            refine ⟨⟨rfl,rfl,trivial⟩,?_⟩
            refine (T9 11 rfl rfl (Pg9 rfl rfl) (Ad9 (by kernel_rfl) ?_))
            refine X_ren 801 181 rfl ?_
            exact X_cut g801 trivial (a9 rfl) (a9 rfl)
           exact An9
          exact An9
         exact An9
        ·
         refine Q9 (Q9 ?_)
         refine J9 [(0,_),(2,_),(7,_),(8,_),(9,_),(10,_),(11,_)] [(0,_),(181,_),(701,_)] ?_ ⟨rfl,rfl,rfl,rfl,rfl,rfl,rfl,trivial⟩ ⟨rfl,rfl,rfl,trivial⟩
         refine R9 (M9 rfl rfl (L9 rfl (Pn9 rfl rfl rfl (run_neq _ _ _ _ _ _)) (N9 (X9 ?_))))
         refine C9 rfl (fun hc74=>?_) (fun hc74=>?_)
         ·
          have hno:=bckE_bad hc74
          refine Q9 ?_
          refine J9 [(0,_),(2,_),(7,_),(8,_),(9,_),(10,_),(11,_),(74,_)] [(0,_),(181,_),(701,_)] ?_ ⟨rfl,rfl,rfl,rfl,rfl,rfl,rfl,rfl,trivial⟩ ⟨rfl,rfl,rfl,trivial⟩
          refine R9 (M9 rfl rfl (G9 rfl rfl (N9 (X9 ?_))))
          refine W_ret (X_then_ret ?_)
          exact Xq9 [] (Ps:=[]) (res1 Try.results21 rfl) rfl (by decide) ⟨by rw [checkT_front hgood hgs hno,bckE_false hno],rfl⟩
         ·
          have hok:=bckE_good hc74
          refine K9 (X9 ?_)
          refine Q9 ?_
          refine J9 [(0,_),(2,_),(7,_),(8,_),(9,_),(10,_),(11,_),(74,_)] [(0,_),(181,_),(701,_)] ?_ ⟨rfl,rfl,rfl,rfl,rfl,rfl,rfl,rfl,trivial⟩ ⟨rfl,rfl,rfl,trivial⟩
          refine R9 (M9 rfl rfl (L9 rfl (Pn9 rfl rfl rfl (run_shl 1 (val pub 4) _ _ _ (by omega) (by omega))) (M9 rfl rfl (L9 rfl (Pn9 rfl rfl rfl (run_add _ _ _ _ _ (by omega))) ?_))))
          rw [show ((1 * 2 ^ val pub 4:Nat):Int) + (val sig 4:Int)=(((2 ^ val pub 4 + val sig 4:Nat)):Int) by rw [Nat.one_mul]; rfl]
          refine (G9 rfl rfl (N9 (X9 ?_)))
          refine Q9 ?_
          refine J9 [(0,_),(2,_),(7,_),(8,_),(9,_),(10,_),(11,_),(12,_),(74,_)] [(0,_),(181,_),(701,_)] ?_ ⟨rfl,rfl,rfl,rfl,rfl,rfl,rfl,rfl,rfl,trivial⟩ ⟨rfl,rfl,rfl,trivial⟩
          refine R9 (L9 rfl (Px9 (r:=701) rfl Try.isAgg52 Try.sizeOf52 rfl rfl ((bs_length _).trans hnm) (load_all ((bs_length _).trans hnm))) (M9 rfl rfl (L9 rfl (Px9 (r:=181) rfl Try.isAgg29 Try.sizeOf29 rfl rfl ((bs_length _).trans (bckR_length _ _ _ _)) (load_all ((bs_length _).trans (bckR_length _ _ _ _)))) (Lc9 rfl rfl (by decide) (OpT_buildRows (r:=801) [bs (bckR (nmP pub) (val sig 4:Nat) msg ((sig.drop 4).take 4292))] rfl rfl Try.runUnderlying80 Try.sizeOf29 Try.zeroValue29 rfl (by decide) rfl (by decide) (by intro r hr; simp at hr; rw [hr]; exact (bs_length _).trans (bckR_length _ _ _ _)) rfl (fun v83=>(Lc9 rfl rfl (by decide) (Oc9 900 [0,181,701,801] [] rfl Try.call42 rfl rfl rfl (by decide) (by decide) (lnode_spec (nmP pub) hnm (((2 ^ val pub 4 + val sig 4):Nat):Int) 130 _ [bckR (nmP pub) (val sig 4:Nat) msg ((sig.drop 4).take 4292)] (ids_one (bckR_length _ _ _ _)) (Nat.le_of_ble_eq_true rfl) _ (fun h hq=>rdP_cast (rs9 3 rfl (fun _ h=>rp9 h) h hq) (by simp [idsC]) rfl)) (fun v84 Ps84 hR84=>?_)))))))))
          obtain ⟨rfl,rfl⟩:=hR84
          rw [flat_one]
          refine (Lc9 rfl rfl (by decide) (OpT_alloc (r:=901) (cs:=(bs zeroId)) rfl (zero_run (by kernel_rfl:(Try.prog.info? 29).bind (·.zero)=some (.agg (bs zeroId).toArray))) rfl (fun g901=>(Lc09 rfl rfl (OpT_storeAll (r:=901) rfl Try.sizeOf29 rfl rfl rfl rfl ((bs_length _).trans (nodH_length _ _ _ _)) (bs_one _) ?_)))))
          refine (N9 (X9 ?_))
          refine Q9 (Q9 ?_)
          refine J9 [(0,_),(2,_),(7,_),(8,_),(9,_),(10,_),(11,_),(12,_),(13,_),(74,_)] [(0,_),(181,_),(701,_),(801,_),(901,_)] ?_ ⟨rfl,rfl,rfl,rfl,rfl,rfl,rfl,rfl,rfl,rfl,trivial⟩ ⟨rfl,rfl,rfl,rfl,rfl,trivial⟩
          refine R9 (M9 rfl rfl (L9 rfl (Pu_slice (r:=0) (a:=4300) (b:=sig.length) rfl Try.runUnderlying30 Try.sizeOf5 rfl rfl hsg (.inr ⟨_,_,_,rfl,rfl,rfl⟩) (.inl ⟨rfl,rfl⟩) (by omega) (by omega)) (G9 rfl rfl (N9 (X9 ?_)))))
          refine W_block ?_
          refine W_loop (α:=Nat × Nat × List UInt8 × Value) (fun y=>[(0,pv),(8,.pointer (some ⟨g701,0,none⟩)),(12,.int .i64 ((y.2.1:Nat):Int)),(13,.pointer (some ⟨g901,0,none⟩)),(14,y.2.2.2)]) (fun y=>[(0,F),(701,blk g701 52 (bs (nmP pub))),(901,blk g901 29 (bs y.2.2.1))]) (fun y=>UpT pub msg sig y.1 y.2.1 y.2.2.1∧∀ h,F h→rdB y.2.2.2 (sig.drop (4300 + 32 * y.1)) h) (fun y=>val pub 4 - y.1) ((0,(2 ^ val pub 4 + val sig 4),nodH (nmP pub) (((2 ^ val pub 4 + val sig 4):Nat):Int) 130 (bckR (nmP pub) (val sig 4:Nat) msg ((sig.drop 4).take 4292)),(subV 1 sv 4300 sig.length))) ⟨UpT.start hq hok,fun h hq=>rdB_tail (hsg h hq) (by omega)⟩ (a9 rfl) (a9 rfl) (fun y hy=>?_)
          obtain ⟨hu,hrd⟩:=hy
          have hy:UpT pub msg sig y.1 y.2.1 y.2.2.1∧True:=⟨hu,trivial⟩
          have hyl:=hu.len
          have hle:=hu.le
          have hhi:y.2.1 < 64:=by have h1:=hu.hi; have h2:2 ^ (val pub 4 - y.1 + 1)≤2 ^ 6:=Nat.pow_le_pow_right (by decide) (by omega); omega
          refine Q9 (Q9 ?_)
          refine J9 [(0,_),(8,_),(12,_),(13,_),(14,_)] [(0,_),(701,_),(901,_)] ?_ ⟨rfl,rfl,rfl,rfl,rfl,trivial⟩ ⟨rfl,rfl,rfl,trivial⟩
          refine R9 (M9 rfl rfl (L9 rfl (Pn9 rfl rfl rfl (run_gtr _ _ _ _ _ _)) (N9 (X9 ?_))))
          refine C9 rfl (fun hc88=>?_) (fun hc88=>?_)
          ·
           have hr1:1 < y.2.1:=by have:=of_decide_eq_true hc88; omega
           have hxh:=hu.more hr1
           have hPl:((sig.drop (4300 + 32 * y.1)).take 32).length=32:=by rw [List.length_take,List.length_drop]; omega
           refine K9 (X9 ?_)
           refine Q9 ?_
           refine W_block ?_
           refine Q9 ?_
           refine J9 [(0,_),(8,_),(12,_),(13,_),(14,_),(88,_)] [(0,_),(701,_),(901,_)] ?_ ⟨rfl,rfl,rfl,rfl,rfl,rfl,trivial⟩ ⟨rfl,rfl,rfl,trivial⟩
           refine R9 (Lc9 rfl rfl (by decide) (OpT_alloc (r:=902) (cs:=(bs zeroId)) rfl (zero_run (by kernel_rfl:(Try.prog.info? 29).bind (·.zero)=some (.agg (bs zeroId).toArray))) rfl (fun g902=>(N9 (X9 (Q9 ?_))))))
           refine J9 [(0,_),(8,_),(12,_),(13,_),(14,_),(15,_),(88,_)] [(0,_),(701,_),(901,_),(902,_)] ?_ ⟨rfl,rfl,rfl,rfl,rfl,rfl,rfl,trivial⟩ ⟨rfl,rfl,rfl,rfl,trivial⟩
           refine R9 (L9 rfl (Pu_sliceArr rfl Try.runUnderlying29 Try.sizeOf5 rfl) (M9 rfl rfl (Lc9 rfl rfl (by decide) (OpT_copyB (r:=902) (r2:=0) rfl Try.underlying30 TI.hsm5 rfl rfl rfl rfl hrd (bs_one _) (by rw [bs_length,zeroId_length]; omega) (show over _ _ _=bs ((sig.drop (4300 + 32 * y.1)).take 32) from id_copy (by rw [List.length_drop]; omega)) ?_))))
           refine (N9 (X9 ?_))
           refine Q9 ?_
           refine J9 [(0,_),(8,_),(12,_),(13,_),(14,_),(15,_),(88,_)] [(0,_),(701,_),(901,_),(902,_)] ?_ ⟨rfl,rfl,rfl,rfl,rfl,rfl,rfl,trivial⟩ ⟨rfl,rfl,rfl,rfl,trivial⟩
           refine R9 (L9 rfl (Px9 (r:=901) rfl Try.isAgg29 Try.sizeOf29 rfl rfl ((bs_length _).trans hyl) (load_all ((bs_length _).trans hyl))) (L9 rfl (Px9 (r:=902) rfl Try.isAgg29 Try.sizeOf29 rfl rfl ((bs_length _).trans hPl) (load_all ((bs_length _).trans hPl))) (L9 rfl (Pu_pair (zs:=(bs (List.replicate 64 0))) rfl Try.underlying86 (by kernel_rfl:(Try.prog.info? 86).bind (·.zero)=some (.agg (bs (List.replicate 64 0)).toArray)) TI.hi29 TI.hs29 (by rw [bs_length]; rfl) ((bs_length _).trans hyl) ((bs_length _).trans hPl) rfl rfl) (Lc9 rfl rfl (by decide) (OpT_alloc (r:=903) (cs:=(bs (List.replicate 64 0))) rfl (zero_run (by kernel_rfl:(Try.prog.info? 86).bind (·.zero)=some (.agg (bs (List.replicate 64 0)).toArray))) rfl (fun g903=>(Lc09 rfl rfl (OpT_storeAll (r:=903) rfl Try.sizeOf86 rfl rfl rfl rfl (by rw [List.length_append,bs_length,bs_length,hyl,hPl]) (by rw [← bs_append]; exact bs_one _) ?_))))))))
           refine (N9 (X9 ?_))
           refine Q9 (Q9 ?_)
           refine J9 [(0,_),(8,_),(12,_),(13,_),(14,_),(15,_),(16,_),(88,_)] [(0,_),(701,_),(901,_),(902,_),(903,_)] ?_ ⟨rfl,rfl,rfl,rfl,rfl,rfl,rfl,rfl,trivial⟩ ⟨rfl,rfl,rfl,rfl,rfl,trivial⟩
           refine R9 (M9 rfl rfl (L9 rfl (Pn9 rfl rfl rfl (run_rem _ _ _ _ _ (by omega))) (L9 rfl (Pn9 rfl rfl rfl (run_eql _ _ _ _ _ _)) (N9 (X9 ?_)))))
           refine C9 rfl (fun hc99=>?_) (fun hc99=>?_)
           ·
            have he:¬ y.2.1 % 2=0:=by have:=of_decide_eq_true hc99; omega
            refine J9 [(0,_),(8,_),(12,_),(13,_),(14,_),(15,_),(16,_),(88,_),(99,_)] [(0,_),(701,_),(901,_),(902,_),(903,_)] ?_ ⟨rfl,rfl,rfl,rfl,rfl,rfl,rfl,rfl,rfl,trivial⟩ ⟨rfl,rfl,rfl,rfl,rfl,trivial⟩
            refine R9 (L9 rfl (Px9 (r:=902) rfl Try.isAgg29 Try.sizeOf29 rfl rfl ((bs_length _).trans hPl) (load_all ((bs_length _).trans hPl))) (L9 rfl (Px9 (r:=901) rfl Try.isAgg29 Try.sizeOf29 rfl rfl ((bs_length _).trans hyl) (load_all ((bs_length _).trans hyl))) (L9 rfl (Pu_pair (zs:=(bs (List.replicate 64 0))) rfl Try.underlying86 (by kernel_rfl:(Try.prog.info? 86).bind (·.zero)=some (.agg (bs (List.replicate 64 0)).toArray)) TI.hi29 TI.hs29 (by rw [bs_length]; rfl) ((bs_length _).trans hPl) ((bs_length _).trans hyl) rfl rfl) (Lc09 rfl rfl (OpT_storeAll (r:=903) rfl Try.sizeOf86 rfl rfl rfl (by rw [List.length_append,bs_length,bs_length,hyl,hPl]) (by rw [List.length_append,bs_length,bs_length,hyl,hPl]) (by rw [← bs_append]; exact bs_one _) ?_)))))
            refine (N9 (X9 ?_))
            refine Q9 ?_
            refine J9 [(0,_),(8,_),(12,_),(13,_),(14,_),(15,_),(16,_),(88,_),(99,_)] [(0,_),(701,_),(901,_),(902,_),(903,_)] ?_ ⟨rfl,rfl,rfl,rfl,rfl,rfl,rfl,rfl,rfl,trivial⟩ ⟨rfl,rfl,rfl,rfl,rfl,trivial⟩
            refine R9 (M9 rfl rfl (L9 rfl (Pn9 rfl rfl rfl (run_quo _ _ _ _ _ (by omega))) ?_))
            rw [show ((y.2.1:Nat):Int) / 2=((y.2.1 / 2:Nat):Int) by omega]
            refine (G9 rfl rfl (N9 (X9 ?_)))
            refine J9 [(0,_),(8,_),(12,_),(13,_),(14,_),(15,_),(16,_),(88,_),(99,_)] [(0,_),(701,_),(901,_),(902,_),(903,_)] ?_ ⟨rfl,rfl,rfl,rfl,rfl,rfl,rfl,rfl,rfl,trivial⟩ ⟨rfl,rfl,rfl,rfl,rfl,trivial⟩
            refine W_draw (N:=5) (by kernel_rfl) rfl [(0,_),(701,_),(902,_),(903,_)] ⟨rfl,rfl,rfl,rfl,trivial⟩ ?_
            refine (T9 0 rfl rfl (Px9 (r:=701) rfl Try.isAgg52 Try.sizeOf52 rfl rfl ((bs_length _).trans hnm) (load_all ((bs_length _).trans hnm))) (T9 1 rfl rfl (Pm9 rfl rfl) (T9 2 rfl rfl (Pu_sliceArrN rfl Try.runUnderlying86 Try.sizeOf29 rfl) (Y9 [3] ?_))))
            refine Z9 rfl rfl (Oc9 1000 [0,701,901,902,903] [] rfl Try.call42 rfl rfl rfl (by decide) (by decide) (lnode_spec (nmP pub) hnm ((y.2.1 / 2:Nat):Int) 131 _ [((sig.drop (4300 + 32 * y.1)).take 32),y.2.2.1] (ids_two hPl hyl) (Nat.le_of_ble_eq_true rfl) _ (fun h hq=>rdP_cast (rs9 4 rfl (fun _ h=>blk_rd (size:=32) (m:=2) (c:=2) (xs:=bs ((sig.drop (4300 + 32 * y.1)).take 32)++bs y.2.2.1) h (by rw [List.drop_zero,List.take_of_length_le (by rw [List.length_append,bs_length,bs_length,hPl,hyl]; decide)]) (by rw [List.length_append,bs_length,bs_length,hPl,hyl]) (Nat.le_refl _)) h hq) (idsC_two _ _).symm rfl)) (fun v108 Ps108 hR108=>?_)) ?_
            ·
             obtain ⟨rfl,rfl⟩:=hR108
             refine ⟨⟨rfl,rfl,rfl,rfl,trivial⟩,?_⟩
             rw [flat_two]
             refine (Y9 [4] ?_)
             refine Ac09 rfl rfl rfl (OpT_storeAll (r:=901) rfl Try.sizeOf29 rfl rfl rfl ((bs_length _).trans hyl) ((bs_length _).trans (nodH_length _ _ _ _)) (bs_one _) ?_) ?_
             ·
              refine ⟨⟨rfl,rfl,rfl,rfl,trivial⟩,?_⟩
              refine (Ad9 (by kernel_rfl) (X_block (X9 ?_)))
              refine J9 [(0,_),(8,_),(12,_),(13,_),(14,_),(15,_),(16,_),(88,_),(99,_)] [(0,_),(701,_),(901,_),(902,_),(903,_)] ?_ ⟨rfl,rfl,rfl,rfl,rfl,rfl,rfl,rfl,rfl,trivial⟩ ⟨rfl,rfl,rfl,rfl,rfl,trivial⟩
              refine R9 (M9 rfl rfl (L9 rfl (Pu_slice (r:=0) (a:=32) (b:=(sig.drop (4300 + 32 * y.1)).length) rfl Try.runUnderlying30 Try.sizeOf5 rfl rfl hrd (.inr ⟨_,_,_,rfl,rfl,rfl⟩) (.inl ⟨rfl,rfl⟩) (by rw [List.length_drop]; omega) (Nat.le_refl _)) (G9 rfl rfl (N9 ?_))))
              exact Xr9 (y.1 + 1,y.2.1 / 2,_,_) ⟨hy.1.odd hr1 he,fun h hq=>(by have:=rdB_tail (hrd h hq) (a:=32) (by rw [List.length_drop]; omega); rw [List.drop_drop] at this; exact this)⟩ (by show val pub 4 - (y.1 + 1) < val pub 4 - y.1; omega) (a9 rfl) (a9 rfl)
             exact An9
            exact An9
           ·
            have he:y.2.1 % 2=0:=by have:=of_decide_eq_false hc99; omega
            refine K9 (X9 ?_)
            refine Q9 ?_
            refine J9 [(0,_),(8,_),(12,_),(13,_),(14,_),(15,_),(16,_),(88,_),(99,_)] [(0,_),(701,_),(901,_),(902,_),(903,_)] ?_ ⟨rfl,rfl,rfl,rfl,rfl,rfl,rfl,rfl,rfl,trivial⟩ ⟨rfl,rfl,rfl,rfl,rfl,trivial⟩
            refine R9 (M9 rfl rfl (L9 rfl (Pn9 rfl rfl rfl (run_quo _ _ _ _ _ (by omega))) ?_))
            rw [show ((y.2.1:Nat):Int) / 2=((y.2.1 / 2:Nat):Int) by omega]
            refine (G9 rfl rfl (N9 (X9 ?_)))
            refine J9 [(0,_),(8,_),(12,_),(13,_),(14,_),(15,_),(16,_),(88,_),(99,_)] [(0,_),(701,_),(901,_),(902,_),(903,_)] ?_ ⟨rfl,rfl,rfl,rfl,rfl,rfl,rfl,rfl,rfl,trivial⟩ ⟨rfl,rfl,rfl,rfl,rfl,trivial⟩
            refine W_draw (N:=5) (by kernel_rfl) rfl [(0,_),(701,_),(902,_),(903,_)] ⟨rfl,rfl,rfl,rfl,trivial⟩ ?_
            refine (T9 0 rfl rfl (Px9 (r:=701) rfl Try.isAgg52 Try.sizeOf52 rfl rfl ((bs_length _).trans hnm) (load_all ((bs_length _).trans hnm))) (T9 1 rfl rfl (Pm9 rfl rfl) (T9 2 rfl rfl (Pu_sliceArrN rfl Try.runUnderlying86 Try.sizeOf29 rfl) (Y9 [3] ?_))))
            refine Z9 rfl rfl (Oc9 1000 [0,701,901,902,903] [] rfl Try.call42 rfl rfl rfl (by decide) (by decide) (lnode_spec (nmP pub) hnm ((y.2.1 / 2:Nat):Int) 131 _ [y.2.2.1,((sig.drop (4300 + 32 * y.1)).take 32)] (ids_two hyl hPl) (Nat.le_of_ble_eq_true rfl) _ (fun h hq=>rdP_cast (rs9 4 rfl (fun _ h=>blk_rd (size:=32) (m:=2) (c:=2) (xs:=bs y.2.2.1++bs ((sig.drop (4300 + 32 * y.1)).take 32)) h (by rw [List.drop_zero,List.take_of_length_le (by rw [List.length_append,bs_length,bs_length,hyl,hPl]; decide)]) (by rw [List.length_append,bs_length,bs_length,hyl,hPl]) (Nat.le_refl _)) h hq) (idsC_two _ _).symm rfl)) (fun v108 Ps108 hR108=>?_)) ?_
            ·
             obtain ⟨rfl,rfl⟩:=hR108
             refine ⟨⟨rfl,rfl,rfl,rfl,trivial⟩,?_⟩
             rw [flat_two]
             refine (Y9 [4] ?_)
             refine Ac09 rfl rfl rfl (OpT_storeAll (r:=901) rfl Try.sizeOf29 rfl rfl rfl ((bs_length _).trans hyl) ((bs_length _).trans (nodH_length _ _ _ _)) (bs_one _) ?_) ?_
             ·
              refine ⟨⟨rfl,rfl,rfl,rfl,trivial⟩,?_⟩
              refine (Ad9 (by kernel_rfl) (X_block (X9 ?_)))
              refine J9 [(0,_),(8,_),(12,_),(13,_),(14,_),(15,_),(16,_),(88,_),(99,_)] [(0,_),(701,_),(901,_),(902,_),(903,_)] ?_ ⟨rfl,rfl,rfl,rfl,rfl,rfl,rfl,rfl,rfl,trivial⟩ ⟨rfl,rfl,rfl,rfl,rfl,trivial⟩
              refine R9 (M9 rfl rfl (L9 rfl (Pu_slice (r:=0) (a:=32) (b:=(sig.drop (4300 + 32 * y.1)).length) rfl Try.runUnderlying30 Try.sizeOf5 rfl rfl hrd (.inr ⟨_,_,_,rfl,rfl,rfl⟩) (.inl ⟨rfl,rfl⟩) (by rw [List.length_drop]; omega) (Nat.le_refl _)) (G9 rfl rfl (N9 ?_))))
              exact Xr9 (y.1 + 1,y.2.1 / 2,_,_) ⟨hy.1.even hr1 he,fun h hq=>(by have:=rdB_tail (hrd h hq) (a:=32) (by rw [List.length_drop]; omega); rw [List.drop_drop] at this; exact this)⟩ (by show val pub 4 - (y.1 + 1) < val pub 4 - y.1; omega) (a9 rfl) (a9 rfl)
             exact An9
            exact An9
          ·
           have hr1:¬ 1 < y.2.1:=by have:=of_decide_eq_false hc88; omega
           have hroot:=hu.done hr1
           refine W_exit (X_then_exit (X_then_exit (X_block_exit (X9 ?_))))
           refine Q9 (Q9 ?_)
           refine J9 [(0,_),(8,_),(12,_),(13,_),(14,_),(88,_)] [(0,_),(701,_),(901,_)] ?_ ⟨rfl,rfl,rfl,rfl,rfl,rfl,trivial⟩ ⟨rfl,rfl,rfl,trivial⟩
           refine W_draw (N:=6) (by kernel_rfl) rfl [(0,_),(701,_),(901,_)] ⟨rfl,rfl,rfl,trivial⟩ ?_
           refine (T9 0 rfl rfl (Pu_sliceArr rfl Try.runUnderlying29 Try.sizeOf5 rfl) (T9 1 rfl rfl (Pu_convBS (r:=901) rfl Try.underlying30 Try.underlying5 Try.underlying9 rfl rfl (fun _ h=>rdP_cast (blk_all h hyl) rfl hyl.symm)) (T9 2 rfl rfl (Pm9 rfl rfl) (T9 3 rfl rfl (Pu_slice (r:=0) (a:=24) (b:=pub.length) rfl Try.runUnderlying30 Try.sizeOf5 rfl rfl hp (.inr ⟨_,_,_,rfl,rfl,rfl⟩) (.inl ⟨rfl,rfl⟩) (by omega) (by omega)) (T9 4 rfl rfl (Pu_convBS (r:=0) rfl Try.underlying30 Try.underlying5 Try.underlying9 rfl rfl (fun h hq=>rdB_tail (hp h hq) (by omega))) (T9 5 rfl rfl (Pn9 rfl rfl rfl (run_strNe _ _ _ _ _)) (Ad9 (by kernel_rfl) (X9 ?_))))))))
           refine C9 rfl (fun hc114=>?_) (fun hc114=>?_)
           ·
            refine Q9 ?_
            refine J9 [(0,_),(8,_),(12,_),(13,_),(14,_),(88,_),(114,_)] [(0,_),(701,_),(901,_)] ?_ ⟨rfl,rfl,rfl,rfl,rfl,rfl,rfl,trivial⟩ ⟨rfl,rfl,rfl,trivial⟩
            refine R9 (G9 rfl rfl (N9 (X9 ?_)))
            refine W_ret (X_then_ret ?_)
            exact Xq9 [] (Ps:=[]) (res1 Try.results21 rfl) rfl (by decide) ⟨by rw [checkT_at hgood hgs hok,if_neg (by rw [← hroot]; simpa using hc114)],rfl⟩
           ·
            refine K9 (X9 ?_)
            refine Q9 ?_
            refine J9 [(0,_),(8,_),(12,_),(13,_),(14,_),(88,_),(114,_)] [(0,_),(701,_),(901,_)] ?_ ⟨rfl,rfl,rfl,rfl,rfl,rfl,rfl,trivial⟩ ⟨rfl,rfl,rfl,trivial⟩
            refine R9 (G9 rfl rfl (N9 (X9 ?_)))
            refine W_ret ?_
            exact Xq9 [] (Ps:=[]) (res1 Try.results21 rfl) rfl (by decide) ⟨by rw [checkT_at hgood hgs hok,if_pos (by rw [← hroot]; simpa using hc114)],rfl⟩
       exact An9
     exact An9
    exact An9
open Go.RowKit
section
variable {P:Program} {E:Env} {n:Nat} {K:Slots} {L:Res} {o:Oper} {C:Value→Res→Prop}
theorem Pu_max {x y:Operand} {ts:Array TypeId} {a b:Int} (ho:o.op = .call { callee:=.builtin .max,args:=#[x,y],argTypes:=ts }) (hx:evK K x=some (.int .i64 a)) (hy:evK K y=some (.int .i64 b)):Pure P E n o K L (.int .i64 (max a b)):=fun c w hA hS=>by
  have:(if b > a then b else a)=max a b:=by simp only [Int.max_def]; split <;> split <;> omega
  simp only [execOp,ho,resolve,invoke,builtin,Sem.run_bind,Sem.run_pure,Result.andThen_ok,List.map_toArray,List.map_cons,List.map_nil,hA.eval hx,hA.eval hy]
  simp [Builtin.max_,Builtin.max2,this,Result.andThen]
section
variable {κ:Type} [DecidableEq κ] {kt mt et:TypeId} {enc:κ→Value} {ok:κ→Prop}
def putQ (k:κ) (v:Value) (es:List (κ × Value)):List (κ × Value):=if (lookQ k es).isSome then setQ k v es else es++[(k,v)]
theorem OpT_mapPutQ {r g:Nat} {x y z:Operand} {k:κ} {v:Value} {es:List (κ × Value)} (T:KeyT P kt enc ok) (ho:o.op = .mapUpdate mt x y z) (hm:P.underlying mt=some (.map kt et))
    (hx:evK K x=some (.map (some g))) (hy:evK K y=some (enc k)) (hl:ok k) (hz:evK K z=some v) (hr:look L r=some (mapQ enc ok g es none)) (hc:C undef ((r,mapQ enc ok g (putQ k v es) none)::L)):OpT P E n o K L C:=by
  unfold putQ at hc
  cases h:(lookQ k es).isSome with
  | true=>rw [h] at hc; exact OpT_mapSetQ T ho hm hx hy hl hz hr h hc
  | false=>rw [h] at hc; exact OpT_mapAddQ T ho hm hx hy hl hz hr (Option.isNone_iff_eq_none.1 (Option.isSome_eq_false_iff.1 h)) hc
end

theorem Pu_lenQ {κ:Type} [DecidableEq κ] {enc:κ→Value} {ok:κ→Prop} {kt et t:TypeId} {r g:Nat} {x:Operand} {es:List (κ × Value)} {it:Option (It κ)} (ho:o.op = .call { callee:=.builtin .len,args:=#[x],argTypes:=#[t] }) (ht:P.underlying t=some (.map kt et)) (hx:evK K x=some (.map (some g))) (hr:look L r=some (mapQ enc ok g es it)):Pure P E n o K L (.int .i64 (es.length:Int)):=fun a w hA hS=>by
  obtain ⟨h,⟨_,b,clk,h2,_,h3,_⟩,hi⟩:=hS.read hr
  have hg:=hi _ _ h2
  have hl:=ekv_len h3
  simp [execOp,ho,resolve,invoke,builtin,hA.eval hx,Builtin.len_,run_underlying ht,MapKept.run_getObj_map hg,goInt,hl,Result.andThen]
end
abbrev EB:=BV × List UInt8
structure S1 where
  key:List UInt8
  ver:Int
  data:List UInt8
  src:Int
  exp:Int
def toS (p:EB):S1:=⟨p.1.key,p.1.ver,p.2,p.1.src,p.1.exp⟩
def entsOf (es:List EB):List (List UInt8 × Value):=mbs (es.map (·.1))
def datP (es:List EB):HP:=fun h=>∀ p ∈ es,rdB p.1.sl p.2 h
def findE (k:List UInt8):List EB→Option EB
  | []=>none
  | p::es=>if k=p.1.key then some p else findE k es
def getB (k:List UInt8) (es:List EB):BV:=((findE k es).map (·.1)).getD default
theorem lookQ_ents (k:List UInt8):∀ es:List EB,lookQ k (entsOf es)=(findE k es).map fun p=>encB p.1
  | []=>rfl
  | p::es=>by
    show (if k=p.1.key then some (encB p.1) else lookQ k (entsOf es))=_
    rw [findE,lookQ_ents k es]
    split <;> rfl
theorem ents_get (k:List UInt8) (es:List EB):(lookQ k (entsOf es)).getD (.agg (bkC zeroId 0 (.slice none 0 0) 0 0).toArray)=encB (getB k es):=by
  rw [lookQ_ents]
  unfold getB
  cases findE k es <;> rfl
theorem ents_is (k:List UInt8) (es:List EB):(lookQ k (entsOf es)).isSome=(findE k es).isSome:=by rw [lookQ_ents]; cases findE k es <;> rfl
theorem starL_le {Ps:List HP} {h:Hlt} (hs:starL Ps h) {φ:HP} (k:Nat) {P:HP} (hk:Ps[k]?=some P) (hφ:∀ h',P h'→(∀ g o,h' g=some o→h g=some o)→φ h):φ h:=by
  obtain ⟨f,h1,_,h3⟩:=hs
  exact hφ _ (h1 k P hk) (fun g o ho=>h3 k g o ho)
theorem datP_add {es:List EB} {p:EB} {t:TypeId} {h:Hlt} (hs:starL [datP es,rowB t p.1.sl p.2] h):datP (es++[p]) h:=by
  intro q hq
  rcases List.mem_append.1 hq with hq | hq
  · exact starL_le hs (φ:=rdB q.1.sl q.2) 0 rfl fun h' h1 h2=>rdP_le h2 (h1 q hq)
  · simp only [List.mem_singleton] at hq
    subst hq
    exact starL_le hs (φ:=rdB q.1.sl q.2) 1 rfl fun h' h1 h2=>rdP_le h2 (rp9 h1)

abbrev slotB (g:Nat) (most:Int) (gm:Nat):HP:=blk g 51 [.int .i64 most,.map (some gm)]
abbrev slotParts (g:Nat) (most:Int) (gm:Nat) (es:List EB):List HP:=[slotB g most gm,mapB gm (entsOf es) none,datP es]
def slotP (g:Nat) (most:Int) (o:Option S1):HP:=fun h=>∃ q:Nat × List EB,q.2.map toS=o.toList∧starL (slotParts g most q.1 q.2) h
theorem closeS {g:Nat} {most:Int} {o:Option S1} {gm:Nat} {es:List EB} (he:es.map toS=o.toList) {h:Hlt} (hs:starL (slotParts g most gm es) h):slotP g most o h:=⟨(gm,es),he,hs⟩
theorem W_openS {P:Program} {E:Env} {n:Nat} {K:Slots} {L:Res} {Q:Exit→Act→World→Prop} {c:Code} (r b:Nat) {g:Nat} {most:Int} {o:Option S1} (hr:look L r=some (slotP g most o))
    (k:∀ gm es,es.map toS=o.toList→W P E n c K (En b (slotParts g most gm es)++(r,emp)::L) Q):W P E n c K L Q :=
  W_open (φ:=fun q:Nat × List EB=>q.2.map toS=o.toList) (Ps:=fun q=>slotParts g most q.1 q.2) r b hr (fun h hp=>hp) (fun q hq=>k q.1 q.2 hq)
theorem es_none {es:List EB} (h:es.map toS=(none:Option S1).toList):es=[]:=List.map_eq_nil_iff.1 h
theorem es_some {es:List EB} {p:S1} (h:es.map toS=(some p).toList):∃ e,es=[e]∧toS e=p:=by
  match es,h with
  | [e],h=>exact ⟨e,rfl,by simpa using h⟩
section
variable {P:Program} {E:Env} {n:Nat} {K:Slots} {L:Res} {o:Oper}
theorem Pu_look {r g:Nat} {x y:Operand} {k:List UInt8} {es:List EB} {it:Option (It (List UInt8))} (ho:o.op = .lookup 49 x y true) (hx:evK K x=some (.map (some g))) (hy:evK K y=some (idV k)) (hl:k.length=32) (hr:look L r=some (mapB g (entsOf es) it)) :
    Pure Try.prog E n o K L (.tuple #[encB (getB k es),.bool (findE k es).isSome]):=by
  rw [← ents_get,← ents_is]
  exact Pu_lookupOkQ keyB ho Try.underlying49 (zero_run (by kernel_rfl:(Try.prog.info? 37).bind (·.zero)=some (.agg (bkC zeroId 0 (.slice none 0 0) 0 0).toArray))) hx hy hl hr
end
noncomputable def setO (o:Option S1) (l:List UInt8) (src exp now:Int):Int × Option S1 :=
  if (decide (src < 0) || decide (exp≤now))=true then (1,o)
  else if pRootE l≠0 then (pRootE l,o)
  else if checkT (pRoot l).pl (claimL (pRoot l).ver (pRoot l).top) (pRoot l).tl≠0 then (checkT (pRoot l).pl (claimL (pRoot l).ver (pRoot l).top) (pRoot l).tl,o)
  else match o with
    | none=>(0,some ⟨sha (pRoot l).pl,(pRoot l).ver,l,src,exp⟩)
    | some p=>if (pRoot l).ver < p.ver then (14,some p) else if p.ver=(pRoot l).ver then (0,some ⟨p.key,p.ver,p.data,p.src,max p.exp exp⟩) else (0,some ⟨sha (pRoot l).pl,(pRoot l).ver,l,src,exp⟩)
open Go.RowKit
set_option maxRecDepth 8000

theorem newS_spec (most:Int) (hm:1≤most∧most≤100) (F:HP):CallsS Try.prog 7 #[.int .i64 most] F [] (fun r Ps=>∃ g,r = .tuple #[.pointer (some ⟨g,0,none⟩),.int .i64 0]∧Ps=[slotP g most none]):=by
 refine callsS_enter Try.func7 rfl Try.ntmps7 (by simp) (fun E=>?_)
 refine Q9 (R9 (G9 rfl rfl (G9 rfl rfl (N9 (X9 (Q9 (Q9 (R9 (M9 rfl rfl (L9 rfl (Pn9 rfl rfl rfl (run_lss _ _ _ _ _ _)) (M9 rfl rfl (Lg9 rfl rfl rfl rfl (by decide) (fun hb=>(Pm9 rfl rfl)) (Lg9 rfl rfl rfl rfl (by decide) (fun hb=>(Pn9 rfl (ev_gv rfl hb) rfl (run_gtr _ _ _ _ _ _))) (L9 rfl (Pu_or rfl rfl rfl) (N9 (X9 ?_))))))))))))))))
 refine W_false rfl (by simp; omega) ?_
 refine K9 (X9 ?_)
 refine Q9 (R9 (M9 rfl rfl (Lc9 rfl rfl (by decide) (OpT_makeMapQ (r:=150) (enc:=idV) (ok:=ok32) rfl (fun gm=>?_)))))
 skip
 refine (L9 rfl (Pu_build (V:=.agg #[.int .i64 most,.map (some gm)]) [(0,1),(1,1)] ([.int .i64 0,.map none]) rfl rfl (by kernel_rfl) (by kernel_rfl) (.one rfl rfl (by simp []) rfl (.one rfl rfl (by simp []) rfl (.nil _))) rfl) (Lc9 rfl rfl (by decide) (OpT_box (r:=101) rfl rfl rfl (fun g101=>(G9 rfl rfl (G9 rfl rfl (N9 (X9 ?_))))))))
 refine W_ret ?_
 refine X_nilRow 9901 29 32 ?_
 refine X_turn (P':=datP []) 9901 rfl (fun h hp p hm=>by simp at hm) ?_
 refine X_join [101,150,9901] 160 (slotP g101 most none) rfl (by decide) (fun h hs=>closeS (es:=[]) rfl hs) ?_
 exact Xq9 [160] (Ps:=[_]) (res2 Try.results7 rfl rfl) rfl (by decide) ⟨_,rfl,rfl⟩
theorem sweep1_spec (b:BV) (bx:Nat) (now:Int) (F:HP):CallsS Try.prog 45 #[idV b.key,encB b,.pointer (some ⟨bx,0,none⟩)] F [blk bx 3 [.int .i64 now]] (fun r Ps=>r = .bool (decide (b.exp≤now))∧Ps=[blk bx 3 [.int .i64 now]]):=by
 refine callsS_enter Try.func45 rfl Try.ntmps45 (by simp) (fun E=>?_)
 refine Q9 (R9 (Lc9 rfl rfl (by decide) (OpT_box (r:=101) rfl rfl rfl (fun g101=>(Lc9 rfl rfl (by decide) (OpT_box (r:=102) rfl rfl rfl (fun g102=>(G9 rfl rfl (N9 (X9 (Q9 (R9 (L9 rfl (F9 35 rfl rfl) (L9 rfl (Pb9 (r:=102) rfl Try.isAgg3 rfl rfl (bk_exp b.len)) (L9 rfl (Pb9 (r:=1) rfl Try.isAgg3 rfl rfl rfl) (L9 rfl (Pn9 rfl rfl rfl (run_leq _ _ _ _ _ _)) (G9 rfl rfl (N9 (X9 ?_)))))))))))))))))))
 refine W_ret ?_
 exact Xq9 [1] (Ps:=[_]) (res1 Try.results45 rfl) rfl (by decide) ⟨rfl,rfl⟩
theorem ents_mem {es:List EB} {p:List UInt8 × Value} (h:p ∈ entsOf es):∃ b ∈ es,p=(b.1.key,encB b.1):=by
  unfold entsOf mbs at h
  rw [List.map_map] at h
  obtain ⟨b,hb,rfl⟩:=List.mem_map.1 h
  exact ⟨b,hb,rfl⟩
theorem delf_spec (gm bx:Nat) (now:Int) (es:List EB) (hexp:∀ b ∈ es,now < b.1.exp) (F:HP):CallsS Try.prog 44 #[.map (some gm),.func (.func 45) #[] #[.pointer (some ⟨bx,0,none⟩)]] F [mapB gm (entsOf es) none,blk bx 3 [.int .i64 now]] (fun r Ps=>r = .tuple #[]∧Ps=[mapB gm (entsOf es) none,blk bx 3 [.int .i64 now]]):=by
 refine callsS_enter Try.func44 rfl Try.ntmps44 (by simp) (fun E=>?_)
 refine Q9 (R9 (M9 rfl rfl (Lc9 rfl rfl (by decide) (OpT_rangeQ (r:=1) rfl Try.underlying49 rfl rfl (fun it=>(N9 (X9 ?_)))))))
 refine W_block ?_
 refine W_loop (α:=List (List UInt8 × Value)) (fun x=>[(0,.map (some gm)),(1,.func (.func 45) #[] #[.pointer (some ⟨bx,0,none⟩)]),(7,.pointer (some ⟨it,0,none⟩))]) (fun x=>[(0,F),(1,mapB gm (entsOf es) (some (it,x,none))),(2,blk bx 3 [.int .i64 now])]) (fun x=>∀ q ∈ x,q ∈ entsOf es) (fun x=>x.length) ((entsOf es)) (fun q hq=>hq) (a9 rfl) (a9 rfl) (fun x hx=>?_)
 refine Q9 ?_
 refine R9 (Lc9 rfl rfl (by decide) (OpT_nextQ (r:=1) keyB rfl rfl rfl (fun hnil=>?_) (fun p left hpe hpm=>?_)))
 ·
  refine (L9 rfl (Pe9 rfl rfl rfl) (N9 (X9 ?_)))
  refine Q9 ?_
  refine W_false rfl (rfl) ?_
  refine W_exit (X_then_exit (X_then_exit (X_block_exit ?_)))
  refine X_turn 1 rfl (fun h hp=>mapQ_none hp) ?_
  exact Xe9 [1,2] (Ps:=[_,_]) (res0 Try.results44) rfl (by decide) ⟨rfl,rfl⟩
 ·
  obtain ⟨b,hb,rfl⟩:=ents_mem (hx p (hpm.mem_iff.2 (by simp)))
  have hbx:=hexp b hb
  refine (L9 rfl (Pe9 rfl rfl rfl) (N9 (X9 ?_)))
  refine Q9 ?_
  refine W_true rfl (rfl) ?_
  refine K9 (X9 ?_)
  refine W_block ?_
  refine Q9 (R9 (L9 rfl (Pu_entryQ (r:=1) rfl rfl rfl) (L9 rfl (Pe9 rfl rfl rfl) (L9 rfl (Pe9 rfl rfl rfl) (Lc9 rfl rfl (by decide) (OpT_alloc (r:=101) (cs:=(bs zeroId)) rfl (zero_run (by kernel_rfl:(Try.prog.info? 29).bind (·.zero)=some (.agg (bs zeroId).toArray))) rfl (fun g101=>(Lc9 rfl rfl (by decide) (OpT_alloc (r:=102) (cs:=(bkC zeroId 0 (.slice none 0 0) 0 0)) rfl (zero_run (by kernel_rfl:(Try.prog.info? 37).bind (·.zero)=some (.agg (bkC zeroId 0 (.slice none 0 0) 0 0).toArray))) rfl (fun g102=>(Lc09 rfl rfl (OpT_storeAll (r:=101) rfl Try.sizeOf29 rfl rfl rfl rfl ((bs_length _).trans b.1.len) (bs_one _) ?_))))))))))))
  refine (Lc09 rfl rfl (OpT_storeAll (r:=102) rfl Try.sizeOf37 rfl rfl rfl (bkC_length rfl) (bvC_length _) (bvC_one _) ?_))
  refine (N9 (X9 ?_))
  refine Q9 (R9 (M9 rfl rfl (L9 rfl (Px9 (r:=101) rfl Try.isAgg29 Try.sizeOf29 rfl rfl ((bs_length _).trans b.1.len) (load_all ((bs_length _).trans b.1.len))) (L9 rfl (Px9 (r:=102) rfl Try.isAgg37 Try.sizeOf37 rfl rfl (bvC_length b.1) (load_all (bvC_length b.1))) (Lc9 rfl rfl (by decide) (OpT_callV (cap:=[.pointer (some ⟨bx,0,none⟩)]) 900 [0,1,101,102] [2] rfl rfl Try.call45 rfl rfl rfl (by decide) (by decide) (sweep1_spec b.1 bx now _) (fun v16 Ps16 hR16=>?_)))))))
  obtain ⟨rfl,rfl⟩:=hR16
  refine (N9 (X9 ?_))
  refine W_false rfl (decide_eq_false (by omega)) ?_
  refine K9 (X_block ?_)
  refine X_ren 900 2 rfl ?_
  refine X_turn 1 rfl (fun h hp=>mapQ_uncur hp) ?_
  exact Xr9 left (fun q hq=>hx q (hpm.mem_iff.2 (by simp [hq]))) (by have:=hpm.length_eq; simp at this; omega) (a9 rfl) (a9 rfl)
theorem es_live {es:List EB} {o:Option S1} {now:Int} (h:es.map toS=o.toList) (hl:∀ p,o=some p→now < p.exp):∀ b ∈ es,now < b.1.exp:=by
  intro b hb
  cases o with
  | none=>rw [es_none h] at hb; simp at hb
  | some p =>
    obtain ⟨e,rfl,he⟩:=es_some h
    simp at hb
    subst hb
    have:=hl p rfl
    rw [← he] at this
    exact this
theorem es_len {es:List EB} {o:Option S1} (h:es.map toS=o.toList):es.length≤1:=by
  have:=congrArg List.length h
  rw [List.length_map] at this
  rw [this]
  cases o <;> simp
theorem sweepS_spec (g:Nat) (most now:Int) (o:Option S1) (hlive:∀ p,o=some p→now < p.exp) (F:HP):CallsS Try.prog 23 #[.pointer (some ⟨g,0,none⟩),.int .i64 now] F [slotP g most o] (fun r Ps=>r = .int .i64 0∧Ps=[slotP g most o]):=by
 refine callsS_enter Try.func23 rfl Try.ntmps23 (by simp) (fun E=>?_)
 refine Q9 (R9 (Lc9 rfl rfl (by decide) (OpT_box (r:=101) rfl rfl rfl (fun g101=>(G9 rfl rfl (N9 (X9 (Q9 ?_))))))))
 refine W_openS 1 200 rfl (fun gm es hes=>?_)
 have hexp:∀ b ∈ es,now < b.1.exp:=es_live hes hlive
 refine R9 (M9 rfl rfl (L9 rfl (Pu_nilCheck rfl rfl) (L9 rfl (F9 1 rfl rfl) (L9 rfl (Pb9 (r:=200) rfl Try.isAgg49 rfl rfl rfl) (L9 rfl (Pu_lenQ (r:=201) rfl Try.underlying49 rfl rfl) (G9 rfl rfl (N9 (X9 (Q9 (R9 (M9 rfl rfl (L9 rfl (Pu_nilCheck rfl rfl) (L9 rfl (F9 1 rfl rfl) (L9 rfl (Pb9 (r:=200) rfl Try.isAgg49 rfl rfl rfl) (L9 rfl (Pu_makeFunc rfl rfl) (Lc9 rfl rfl (by decide) (Oc9 300 [0,200,202] [201,101] rfl Try.call44 rfl rfl rfl (by decide) (by decide) (delf_spec gm g101 now es hexp _) (fun v16 Ps16 hR16=>?_))))))))))))))))))
 obtain ⟨rfl,rfl⟩:=hR16
 skip
 refine (N9 (X9 ?_))
 refine Q9 (R9 (M9 rfl rfl (M9 rfl rfl (L9 rfl (Pu_nilCheck rfl rfl) (L9 rfl (F9 1 rfl rfl) (L9 rfl (Pb9 (r:=200) rfl Try.isAgg49 rfl rfl rfl) (L9 rfl (Pu_lenQ (r:=300) rfl Try.underlying49 rfl rfl) (L9 rfl (Pn9 rfl rfl rfl (run_sub _ _ _ _ _ (by have:=es_len hes; omega))) (G9 rfl rfl (N9 (X9 ?_)))))))))))
 refine W_ret ?_
 refine X_join [200,300,202] 1 (slotP g most o) rfl (by decide) (fun h hs=>closeS hes hs) ?_
 exact Xq9 [1] (Ps:=[_]) (res1 Try.results23 rfl) rfl (by decide) ⟨by rw [Int.sub_self],rfl⟩
open Go.RowKit
set_option maxRecDepth 8000

theorem pRoot_pl (l:List UInt8):(pRoot l).pl.length≤l.length:=by
  unfold pRoot
  split
  · show ((l.drop 1).take 56).length≤_
    simp only [List.length_take,List.length_drop]
    omega
  · exact Nat.zero_le _
theorem slot_over {k:List UInt8} (h:k.length=32):over (bkC zeroId 0 (.slice none 0 0) 0 0) 0 (bs k)=bkC k 0 (.slice none 0 0) 0 0:=by
  unfold over bkC
  rw [bs_length,h,List.take_zero,List.nil_append,List.drop_append_of_le_length (by rw [bs_length]; decide),List.drop_of_length_le (by rw [bs_length]; decide),List.nil_append]
theorem bk_set_ver {k:List UInt8} {n:Int} {v:Value} {s e:Int} (h:k.length=32) (n':Int):(bkC k n v s e).set 32 (.int .i64 n')=bkC k n' v s e:=by
  unfold bkC; rw [List.set_append_right _ _ (by rw [bs_length]; omega),bs_length,h]; rfl
theorem bk_set_src {k:List UInt8} {n:Int} {v:Value} {s e:Int} (h:k.length=32) (s':Int):(bkC k n v s e).set 34 (.int .i64 s')=bkC k n v s' e:=by
  unfold bkC; rw [List.set_append_right _ _ (by rw [bs_length]; omega),bs_length,h]; rfl
theorem slot_build {k:List UInt8} (h:k.length=32) (n:Int) (v:Value) (s e:Int):Value.agg ((((over (bkC zeroId 0 (.slice none 0 0) 0 0) 0 (bs k)).set 32 (.int .i64 n)).set 33 v).set 34 (.int .i64 s) |>.set 35 (.int .i64 e)).toArray = .agg (bkC k n v s e).toArray:=by
  rw [slot_over h,bk_set_ver h,bk_set_data h,bk_set_src h,bk_set_exp h]
theorem slot_fit {k:List UInt8} (h:k.length=32):(over (bkC zeroId 0 (.slice none 0 0) 0 0) 0 (bs k)).length=36:=by rw [slot_over h,bkC_length h]
theorem setO_arg {o:Option S1} {l:List UInt8} {src exp now:Int} (h:(decide (src < 0) || decide (exp≤now))=true):setO o l src exp now=(1,o):=by unfold setO; rw [if_pos h]
theorem setO_cut {o:Option S1} {l:List UInt8} {src exp now:Int} (h:(decide (src < 0) || decide (exp≤now))=false) (h2:pRootE l≠0):setO o l src exp now=(pRootE l,o):=by unfold setO; rw [if_neg (by rw [h]; decide),if_pos h2]
noncomputable abbrev chkL (l:List UInt8):Int:=checkT (pRoot l).pl (claimL (pRoot l).ver (pRoot l).top) (pRoot l).tl
theorem setO_sign {o:Option S1} {l:List UInt8} {src exp now:Int} (h:(decide (src < 0) || decide (exp≤now))=false) (h2:pRootE l=0) (h3:chkL l≠0):setO o l src exp now=(chkL l,o):=by unfold setO; rw [if_neg (by rw [h]; decide),if_neg (by rw [h2]; simp),if_pos h3]
theorem setO_none {l:List UInt8} {src exp now:Int} (h:(decide (src < 0) || decide (exp≤now))=false) (h2:pRootE l=0) (h3:chkL l=0):setO none l src exp now=(0,some ⟨sha (pRoot l).pl,(pRoot l).ver,l,src,exp⟩):=by unfold setO; rw [if_neg (by rw [h]; decide),if_neg (by rw [h2]; simp),if_neg (fun q=>q h3)]
theorem setO_stale {p:S1} {l:List UInt8} {src exp now:Int} (h:(decide (src < 0) || decide (exp≤now))=false) (h2:pRootE l=0) (h3:chkL l=0) (h4:(pRoot l).ver < p.ver):setO (some p) l src exp now=(14,some p):=by unfold setO; rw [if_neg (by rw [h]; decide),if_neg (by rw [h2]; simp),if_neg (fun q=>q h3)]; simp only [if_pos h4]
theorem setO_same {p:S1} {l:List UInt8} {src exp now:Int} (h:(decide (src < 0) || decide (exp≤now))=false) (h2:pRootE l=0) (h3:chkL l=0) (h4:¬ (pRoot l).ver < p.ver) (h5:p.ver=(pRoot l).ver):setO (some p) l src exp now=(0,some ⟨p.key,p.ver,p.data,p.src,max p.exp exp⟩):=by unfold setO; rw [if_neg (by rw [h]; decide),if_neg (by rw [h2]; simp),if_neg (fun q=>q h3)]; simp only [if_neg h4,if_pos h5]
theorem setO_newer {p:S1} {l:List UInt8} {src exp now:Int} (h:(decide (src < 0) || decide (exp≤now))=false) (h2:pRootE l=0) (h3:chkL l=0) (h4:¬ (pRoot l).ver < p.ver) (h5:¬ p.ver=(pRoot l).ver):setO (some p) l src exp now=(0,some ⟨sha (pRoot l).pl,(pRoot l).ver,l,src,exp⟩):=by unfold setO; rw [if_neg (by rw [h]; decide),if_neg (by rw [h2]; simp),if_neg (fun q=>q h3)]; simp only [if_neg h4,if_neg h5]
theorem put_one {e:EB} {k:List UInt8} {v:Value} (h:e.1.key=k):putQ k v (entsOf [e])=[(k,v)]:=by
  subst h
  unfold putQ entsOf mbs
  simp [lookQ,setQ]
theorem put_turn {gm:Nat} {e:EB} {k:List UInt8} {v:Value} (h:e.1.key=k) {hh:Hlt} (hp:mapB gm (putQ k v (entsOf [e])) none hh):mapB gm [(k,v)] none hh:=by rw [put_one h] at hp; exact hp
theorem setS_none (g:Nat) (most:Int) (hm:1≤most) (v:Value) (l:List UInt8) (hl:l.length≤1000000) (src exp now:Int) (F:HP) (hF:∀ h,F h→rdB v l h):CallsS Try.prog 10 #[.pointer (some ⟨g,0,none⟩),v,.int .i64 src,.int .i64 exp,.int .i64 now] F [slotP g most none] (fun r Ps=>r = .int .i64 (setO none l src exp now).1∧Ps=[slotP g most (setO none l src exp now).2]):=by
 refine callsS_enter Try.func10 rfl Try.ntmps10 (by simp) (fun E=>?_)
 refine Q9 (R9 (G9 rfl rfl (N9 (X9 (Q9 (Q9 (R9 (M9 rfl rfl (L9 rfl (Pn9 rfl rfl rfl (run_lss _ _ _ _ _ _)) (M9 rfl rfl (Lg9 rfl rfl rfl rfl (by decide) (fun hb=>(Pm9 rfl rfl)) (Lg9 rfl rfl rfl rfl (by decide) (fun hb=>(Pm9 rfl rfl)) (Lg9 rfl rfl rfl rfl (by decide) (fun hb=>(Pn9 rfl (ev_gv rfl hb) (ev_gv rfl hb) (run_leq _ _ _ _ _ _))) (L9 rfl (Pu_or rfl rfl rfl) (N9 (X9 ?_))))))))))))))))
 refine C9 rfl (fun hc23=>?_) (fun hc23=>?_)
 ·
  have hset:=setO_arg (o:=none) (l:=l) hc23
  refine Q9 (R9 (G9 rfl rfl (N9 (X9 ?_))))
  refine W_ret (X_then_ret ?_)
  exact Xq9 [1] (Ps:=[_]) (res1 Try.results10 rfl) rfl (by decide) ⟨by rw [hset]; try rfl,by rw [hset]; try rfl⟩
 ·
  refine K9 (X9 ?_)
  refine Q9 (R9 (M9 rfl rfl (Lc9 rfl rfl (by decide) (Oc9 200 [0,1] [] rfl Try.call20 rfl rfl rfl (by decide) (by decide) (parseRoot_spec v l (by omega) _ (rs9 0 rfl hF)) (fun v26 Ps26 hR26=>?_)))))
  obtain ⟨pv,tv,rfl,rfl⟩:=hR26
  have ht:=pRoot_top l
  refine WL_fact (r:=200) rfl (fun h hp=>rd_one (rowB_rd _ hp)) (fun hpo=>?_)
  refine WL_fact (r:=201) rfl (fun h hp=>rd_one (rowB_rd _ hp)) (fun hto=>?_)
  refine (M9 rfl rfl (L9 rfl (Pe9 rfl rfl rfl) (L9 rfl (Pe9 rfl rfl rfl) (Lc9 rfl rfl (by decide) (OpT_alloc (r:=203) (cs:=(rootC nilS 0 zeroId nilS)) rfl (zero_run (by kernel_rfl:(Try.prog.info? 39).bind (·.zero)=some (.agg (rootC nilS 0 zeroId nilS).toArray))) rfl (fun g203=>(Lc09 rfl rfl (OpT_storeAll (r:=203) rfl Try.sizeOf39 rfl rfl rfl (rootC_length zeroId_length) (rootC_length ht) (one_root hpo hto) ?_))))))))
  skip
  refine (G9 rfl rfl (N9 (X9 ?_)))
  refine Q9 (Q9 (R9 (M9 rfl rfl (L9 rfl (Pn9 rfl rfl rfl (run_neq _ _ _ _ _ _)) (N9 (X9 ?_))))))
  refine C9 rfl (fun hc30=>?_) (fun hc30=>?_)
  ·
   have hne:pRootE l≠0:=by simpa using hc30
   have hset:=setO_cut (o:=none) hc23 hne
   refine Q9 (R9 (M9 rfl rfl (G9 rfl rfl (N9 (X9 ?_)))))
   refine W_ret (X_then_ret ?_)
   exact Xq9 [1] (Ps:=[_]) (res1 Try.results10 rfl) rfl (by decide) ⟨by rw [hset]; try rfl,by rw [hset]; try rfl⟩
  ·
   have hok:pRootE l=0:=by simpa using hc30
   refine K9 (X9 ?_)
   refine Q9 (Q9 ?_)
   refine W_draw (N:=11) (by kernel_rfl) rfl [(0,_),(203,_)] ⟨rfl,rfl,trivial⟩ ?_
   refine (T9 0 rfl rfl (F9 0 rfl rfl) (T9 1 rfl rfl (Pb9 (r:=203) rfl Try.isAgg30 rfl rfl rfl) (T9 2 rfl rfl (F9 1 rfl rfl) (T9 3 rfl rfl (Pb9 (r:=203) rfl Try.isAgg3 rfl rfl rfl) (T9 4 rfl rfl (F9 2 rfl rfl) (T9 5 rfl rfl (Px9 (r:=203) rfl Try.isAgg29 Try.sizeOf29 rfl rfl ((bs_length _).trans ht) (take_rtop ht)) (T9 7 rfl rfl (F9 34 rfl rfl) (T9 8 rfl rfl (Pb9 (r:=203) rfl Try.isAgg30 rfl rfl (root_tail ht)) (Y9 [6] ?_)))))))))
   refine Z9 rfl rfl (Oc9 300 [0,1,200,201,203] [] rfl Try.call22 rfl rfl rfl (by decide) (by decide) (claim_spec (pRoot l).ver (pRoot l).top ht _) (fun v38 Ps38 hR38=>?_)) ?_
   ·
    subst hR38
    refine ⟨⟨rfl,rfl,trivial⟩,?_⟩
    refine (Y9 [9] ?_)
    refine Z9 rfl rfl (Oc9 400 [0,1,200,201,203,300] [] rfl Try.call21 rfl rfl rfl (by decide) (by decide) (lcheck_spec pv _ tv (pRoot l).pl (claimL (pRoot l).ver (pRoot l).top) (pRoot l).tl (by rw [claimL_length ht]; omega) _ (rs9 2 rfl rowB_rd) (rs9 5 rfl rowB_rd) (rs9 3 rfl rowB_rd)) (fun v41 Ps41 hR41=>?_)) ?_
    ·
     obtain ⟨rfl,rfl⟩:=hR41
     refine ⟨⟨rfl,rfl,trivial⟩,?_⟩
     refine (T9 10 rfl rfl (Pg9 rfl rfl) (Ad9 (by kernel_rfl) (X9 ?_)))
     refine Q9 (R9 (M9 rfl rfl (L9 rfl (Pn9 rfl rfl rfl (run_neq _ _ _ _ _ _)) (N9 (X9 ?_)))))
     refine C9 rfl (fun hc43=>?_) (fun hc43=>?_)
     ·
      have hbad:chkL l≠0:=by simpa using hc43
      have hset:=setO_sign (o:=none) hc23 hok hbad
      refine Q9 (R9 (M9 rfl rfl (G9 rfl rfl (N9 (X9 ?_)))))
      refine W_ret (X_then_ret ?_)
      exact Xq9 [1] (Ps:=[_]) (res1 Try.results10 rfl) rfl (by decide) ⟨by rw [hset]; try rfl,by rw [hset]; try rfl⟩
     ·
      have hgood:chkL l=0:=by simpa using hc43
      refine K9 (X9 ?_)
      refine Q9 (R9 (M9 rfl rfl (M9 rfl rfl (Lc9 rfl rfl (by decide) (Oc9 500 [0,200,201,203,300] [1] rfl Try.call23 rfl rfl rfl (by decide) (by decide) (sweepS_spec g most now none (fun q h=>by cases h) _) (fun v47 Ps47 hR47=>?_))))))
      obtain ⟨rfl,rfl⟩:=hR47
      skip
      refine (N9 (X9 ?_))
      refine W_cut (α:=Nat × Value) (fun z=>[(0,.pointer (some ⟨g,0,none⟩)),(3,.int .i64 exp),(11,.pointer (some ⟨g203,0,none⟩)),(14,.pointer (some ⟨z.1,0,none⟩))]) (fun z=>[(0,F),(500,slotP g most none),(203,blk g203 39 (rootC pv (pRoot l).ver (pRoot l).top tv)),(182,blk z.1 37 (bkC (sha (pRoot l).pl) (pRoot l).ver z.2 src exp)),(183,rowB 5 z.2 l)]) (fun z=>z.2.oneCell'=true) ?_ (fun z hzo=>?_)
      ·
       refine W_draw (N:=12) (by kernel_rfl) rfl [(0,_),(203,_)] ⟨rfl,rfl,trivial⟩ ?_
       refine (T9 0 rfl rfl (F9 0 rfl rfl) (T9 1 rfl rfl (Pb9 (r:=203) rfl Try.isAgg30 rfl rfl rfl) (T9 3 rfl rfl (F9 1 rfl rfl) (T9 4 rfl rfl (Pb9 (r:=203) rfl Try.isAgg3 rfl rfl rfl) (T9 5 rfl rfl (Pm9 rfl rfl) (T9 7 rfl rfl (Pm9 rfl rfl) (T9 8 rfl rfl (Pm9 rfl rfl) (Y9 [2,10] ?_))))))))
       refine Z9 rfl rfl (Oc9 600 [0,200,201,203,300,500] [] rfl Try.call24 rfl rfl rfl (by decide) (by decide) (sum_spec pv (pRoot l).pl (by have:=pRoot_pl l; omega) _ (rs9 1 rfl rowB_rd)) (fun v50 Ps50 hR50=>?_)) ?_
       ·
        obtain ⟨rfl,rfl⟩:=hR50
        refine ⟨⟨rfl,rfl,trivial⟩,?_⟩
        refine (Y9 [6,10] ?_)
        refine Z9 rfl rfl (Oc9 700 [0,200,201,203,300,500] [] rfl Try.call25 rfl rfl rfl (by decide) (by decide) (clone_spec v l (by omega) _ (rs9 0 rfl hF)) (fun v54 Ps54 hR54=>?_)) ?_
        ·
         obtain ⟨ho54,rfl⟩:=hR54
         refine ⟨⟨rfl,rfl,trivial⟩,?_⟩
         skip
         refine (T9 9 rfl rfl (Pu_build (V:=.agg (bkC (sha (pRoot l).pl) (pRoot l).ver v54 src exp).toArray) [(0,32),(32,1),(33,1),(34,1),(35,1)] (bkC zeroId 0 (.slice none 0 0) 0 0) rfl rfl (by kernel_rfl) (by kernel_rfl) (.many rfl ((bs_length _).trans (sha_length _)) (by simp [bkC,bs_length,zeroId_length]) rfl (.one rfl rfl (by simp only [List.length_set,slot_fit (sha_length _)]; decide) rfl (.one rfl ho54 (by simp only [List.length_set,slot_fit (sha_length _)]; decide) rfl (.one rfl rfl (by simp only [List.length_set,slot_fit (sha_length _)]; decide) rfl (.one rfl rfl (by simp only [List.length_set,slot_fit (sha_length _)]; decide) rfl (.nil _)))))) (slot_build (sha_length _) _ _ _ _)) (Y9 [10] ?_))
         refine Z9 rfl rfl (OpT_alloc (r:=701) (cs:=(bkC zeroId 0 (.slice none 0 0) 0 0)) rfl (zero_run (by kernel_rfl:(Try.prog.info? 37).bind (·.zero)=some (.agg (bkC zeroId 0 (.slice none 0 0) 0 0).toArray))) rfl (fun g701=>⟨⟨rfl,rfl,trivial⟩,?_⟩)) ?_
         ·
          refine (Y9 [11] ?_)
          refine Ac09 rfl rfl rfl (OpT_storeAll (r:=701) rfl Try.sizeOf37 rfl rfl rfl (bkC_length rfl) (bkC_length (sha_length _)) (bkC_one ho54) ?_) ?_
          ·
           refine ⟨⟨rfl,rfl,trivial⟩,?_⟩
           refine (Ad9 (by kernel_rfl) ?_)
           refine X_ren 701 182 rfl ?_
           refine X_ren 700 183 rfl ?_
           exact X_cut (g701,v54) ho54 (a9 rfl) (a9 rfl)
          exact An9
         exact An9
        refine Z9 rfl rfl (OpT_alloc (r:=601) (cs:=(bkC zeroId 0 (.slice none 0 0) 0 0)) rfl (zero_run (by kernel_rfl:(Try.prog.info? 37).bind (·.zero)=some (.agg (bkC zeroId 0 (.slice none 0 0) 0 0).toArray))) rfl (fun g601=>⟨⟨rfl,rfl,trivial⟩,?_⟩)) ?_
        ·
         refine (Y9 [6] ?_)
         refine Z9 rfl rfl (Oc9 700 [0,200,201,203,300,500,601] [] rfl Try.call25 rfl rfl rfl (by decide) (by decide) (clone_spec v l (by omega) _ (rs9 0 rfl hF)) (fun v54 Ps54 hR54=>?_)) ?_
         ·
          obtain ⟨ho54,rfl⟩:=hR54
          refine ⟨⟨rfl,rfl,trivial⟩,?_⟩
          skip
          refine (T9 9 rfl rfl (Pu_build (V:=.agg (bkC (sha (pRoot l).pl) (pRoot l).ver v54 src exp).toArray) [(0,32),(32,1),(33,1),(34,1),(35,1)] (bkC zeroId 0 (.slice none 0 0) 0 0) rfl rfl (by kernel_rfl) (by kernel_rfl) (.many rfl ((bs_length _).trans (sha_length _)) (by simp [bkC,bs_length,zeroId_length]) rfl (.one rfl rfl (by simp only [List.length_set,slot_fit (sha_length _)]; decide) rfl (.one rfl ho54 (by simp only [List.length_set,slot_fit (sha_length _)]; decide) rfl (.one rfl rfl (by simp only [List.length_set,slot_fit (sha_length _)]; decide) rfl (.one rfl rfl (by simp only [List.length_set,slot_fit (sha_length _)]; decide) rfl (.nil _)))))) (slot_build (sha_length _) _ _ _ _)) (Y9 [11] ?_))
          refine Ac09 rfl rfl rfl (OpT_storeAll (r:=601) rfl Try.sizeOf37 rfl rfl rfl (bkC_length rfl) (bkC_length (sha_length _)) (bkC_one ho54) ?_) ?_
          ·
           refine ⟨⟨rfl,rfl,trivial⟩,?_⟩
           refine (Ad9 (by kernel_rfl) ?_)
           refine X_ren 601 182 rfl ?_
           refine X_ren 700 183 rfl ?_
           exact X_cut (g601,v54) ho54 (a9 rfl) (a9 rfl)
          exact An9
         exact An9
        exact An9
       refine Z9 rfl rfl (OpT_alloc (r:=501) (cs:=(bkC zeroId 0 (.slice none 0 0) 0 0)) rfl (zero_run (by kernel_rfl:(Try.prog.info? 37).bind (·.zero)=some (.agg (bkC zeroId 0 (.slice none 0 0) 0 0).toArray))) rfl (fun g501=>⟨⟨rfl,rfl,trivial⟩,?_⟩)) ?_
       ·
        refine (Y9 [2] ?_)
        refine Z9 rfl rfl (Oc9 600 [0,200,201,203,300,500,501] [] rfl Try.call24 rfl rfl rfl (by decide) (by decide) (sum_spec pv (pRoot l).pl (by have:=pRoot_pl l; omega) _ (rs9 1 rfl rowB_rd)) (fun v50 Ps50 hR50=>?_)) ?_
        ·
         obtain ⟨rfl,rfl⟩:=hR50
         refine ⟨⟨rfl,rfl,trivial⟩,?_⟩
         refine (Y9 [6] ?_)
         refine Z9 rfl rfl (Oc9 700 [0,200,201,203,300,500,501] [] rfl Try.call25 rfl rfl rfl (by decide) (by decide) (clone_spec v l (by omega) _ (rs9 0 rfl hF)) (fun v54 Ps54 hR54=>?_)) ?_
         ·
          obtain ⟨ho54,rfl⟩:=hR54
          refine ⟨⟨rfl,rfl,trivial⟩,?_⟩
          skip
          refine (T9 9 rfl rfl (Pu_build (V:=.agg (bkC (sha (pRoot l).pl) (pRoot l).ver v54 src exp).toArray) [(0,32),(32,1),(33,1),(34,1),(35,1)] (bkC zeroId 0 (.slice none 0 0) 0 0) rfl rfl (by kernel_rfl) (by kernel_rfl) (.many rfl ((bs_length _).trans (sha_length _)) (by simp [bkC,bs_length,zeroId_length]) rfl (.one rfl rfl (by simp only [List.length_set,slot_fit (sha_length _)]; decide) rfl (.one rfl ho54 (by simp only [List.length_set,slot_fit (sha_length _)]; decide) rfl (.one rfl rfl (by simp only [List.length_set,slot_fit (sha_length _)]; decide) rfl (.one rfl rfl (by simp only [List.length_set,slot_fit (sha_length _)]; decide) rfl (.nil _)))))) (slot_build (sha_length _) _ _ _ _)) (Y9 [11] ?_))
          refine Ac09 rfl rfl rfl (OpT_storeAll (r:=501) rfl Try.sizeOf37 rfl rfl rfl (bkC_length rfl) (bkC_length (sha_length _)) (bkC_one ho54) ?_) ?_
          ·
           refine ⟨⟨rfl,rfl,trivial⟩,?_⟩
           refine (Ad9 (by kernel_rfl) ?_)
           refine X_ren 501 182 rfl ?_
           refine X_ren 700 183 rfl ?_
           exact X_cut (g501,v54) ho54 (a9 rfl) (a9 rfl)
          exact An9
         exact An9
        exact An9
       exact An9
      ·
       refine Q9 ?_
       refine W_openS 500 500 rfl (fun gm es hes=>?_)
       obtain rfl:=es_none hes
       refine W_draw (N:=13) (by kernel_rfl) rfl [(0,_),(182,_),(203,_),(500,_)] ⟨rfl,rfl,rfl,rfl,trivial⟩ ?_
       refine (T9 0 rfl rfl (Pm9 rfl rfl) (T9 1 rfl rfl (Pu_nilCheck rfl rfl) (T9 2 rfl rfl (F9 1 rfl rfl) (T9 3 rfl rfl (Pb9 (r:=500) rfl Try.isAgg49 rfl rfl rfl) (T9 4 rfl rfl (F9 0 rfl rfl) (T9 5 rfl rfl (Px9 (r:=182) rfl Try.isAgg29 Try.sizeOf29 rfl rfl ((bs_length _).trans (sha_length _)) (bk_key (sha_length _))) (Y9 [6,10] ?_)))))))
       refine Z9 rfl rfl (Or9 (Pu_look (r:=501) rfl rfl rfl (sha_length _) rfl) ⟨⟨rfl,rfl,rfl,rfl,trivial⟩,?_⟩) ?_
       ·
        refine (T9 7 rfl rfl (Pm9 rfl rfl) (T9 8 rfl rfl (Pe9 rfl rfl rfl) (T9 9 rfl rfl (Pe9 rfl rfl rfl) (Y9 [10] ?_))))
        refine Z9 rfl rfl (OpT_alloc (r:=551) (cs:=(bkC zeroId 0 (.slice none 0 0) 0 0)) rfl (zero_run (by kernel_rfl:(Try.prog.info? 37).bind (·.zero)=some (.agg (bkC zeroId 0 (.slice none 0 0) 0 0).toArray))) rfl (fun g551=>⟨⟨rfl,rfl,rfl,rfl,trivial⟩,?_⟩)) ?_
        ·
         refine (Y9 [11] ?_)
         refine Ac09 rfl rfl rfl (OpT_storeAll (r:=551) rfl Try.sizeOf37 rfl rfl rfl (bkC_length rfl) (bvC_length _) (bvC_one _) ?_) ?_
         ·
          refine ⟨⟨rfl,rfl,rfl,rfl,trivial⟩,?_⟩
          refine (T9 12 rfl rfl (Pg9 rfl rfl) (Ad9 (by kernel_rfl) (X9 ?_)))
          refine Q9 ?_
          refine W_block ?_
          refine Q9 (R9 (M9 rfl rfl (M9 rfl rfl (WL_gF rfl rfl rfl rfl rfl (by decide) (WL_gF rfl rfl rfl rfl rfl (by decide) (WL_gF rfl rfl rfl rfl rfl (by decide) (WL_gF rfl rfl rfl rfl rfl (by decide) (WL_gF rfl rfl rfl rfl rfl (by decide) (L9 rfl (Pu_pickF rfl rfl rfl rfl) (G9 rfl rfl (N9 (X9 ?_))))))))))))
          refine W_false rfl (rfl) ?_
          refine Q9 (R9 (M9 rfl rfl (M9 rfl rfl (WL_gF rfl rfl rfl rfl rfl (by decide) (WL_gF rfl rfl rfl rfl rfl (by decide) (WL_gF rfl rfl rfl rfl rfl (by decide) (WL_gF rfl rfl rfl rfl rfl (by decide) (WL_gF rfl rfl rfl rfl rfl (by decide) (L9 rfl (Pu_pickF rfl rfl rfl rfl) (G9 rfl rfl (N9 (X9 ?_))))))))))))
          refine W_false rfl (rfl) ?_
          refine Q9 ?_
          refine W_draw (N:=15) (by kernel_rfl) rfl [(0,_),(182,_),(203,_),(500,_),(551,_),(501,_)] ⟨rfl,rfl,rfl,rfl,rfl,rfl,trivial⟩ ?_
          refine (T9 0 rfl rfl (Pm9 rfl rfl) (T9 1 rfl rfl (Pu_un rfl rfl (run_not _)) (T9 2 rfl rfl (Pm9 rfl rfl) (AH_takeT 3 rfl (by kernel_rfl) (by kernel_rfl) (by kernel_rfl) rfl rfl rfl rfl rfl (by decide) (Pm9 rfl rfl) (AH_takeT 4 rfl (by kernel_rfl) (by kernel_rfl) (by kernel_rfl) rfl rfl rfl rfl rfl (by decide) (Pu_nilCheck rfl rfl) (AH_takeT 5 rfl (by kernel_rfl) (by kernel_rfl) (by kernel_rfl) rfl rfl rfl rfl rfl (by decide) (F9 1 rfl rfl) (AH_takeT 6 rfl (by kernel_rfl) (by kernel_rfl) (by kernel_rfl) rfl rfl rfl rfl rfl (by decide) (Pb9 (r:=500) rfl Try.isAgg49 rfl rfl rfl) (AH_takeT 7 rfl (by kernel_rfl) (by kernel_rfl) (by kernel_rfl) rfl rfl rfl rfl rfl (by decide) (Pu_lenQ (r:=501) rfl Try.underlying49 rfl rfl) (AH_takeT 8 rfl (by kernel_rfl) (by kernel_rfl) (by kernel_rfl) rfl rfl rfl rfl rfl (by decide) (Pm9 rfl rfl) (AH_takeT 9 rfl (by kernel_rfl) (by kernel_rfl) (by kernel_rfl) rfl rfl rfl rfl rfl (by decide) (Pu_nilCheck rfl rfl) (AH_takeT 10 rfl (by kernel_rfl) (by kernel_rfl) (by kernel_rfl) rfl rfl rfl rfl rfl (by decide) (F9 0 rfl rfl) (AH_takeT 11 rfl (by kernel_rfl) (by kernel_rfl) (by kernel_rfl) rfl rfl rfl rfl rfl (by decide) (Pb9 (r:=500) rfl Try.isAgg3 rfl rfl rfl) (AH_takeT 12 rfl (by kernel_rfl) (by kernel_rfl) (by kernel_rfl) rfl rfl rfl rfl rfl (by decide) (Pn9 rfl rfl rfl (run_geq _ _ _ _ _ _)) (T9 13 rfl rfl (Pu_pickT rfl rfl rfl rfl) (T9 14 rfl rfl (Pg9 rfl rfl) (Ad9 (by kernel_rfl) (X9 ?_)))))))))))))))))
          refine W_false rfl (decide_eq_false (by show ¬ (most≤((0:Nat):Int)); omega)) ?_
          refine K9 (X_block (X9 ?_))
          refine Q9 ?_
          refine W_draw (N:=8) (by kernel_rfl) rfl [(0,_),(182,_),(203,_),(500,_),(551,_)] ⟨rfl,rfl,rfl,rfl,rfl,trivial⟩ ?_
          refine (T9 0 rfl rfl (Pm9 rfl rfl) (T9 1 rfl rfl (Pu_nilCheck rfl rfl) (T9 2 rfl rfl (F9 1 rfl rfl) (T9 3 rfl rfl (Pb9 (r:=500) rfl Try.isAgg49 rfl rfl rfl) (T9 4 rfl rfl (F9 0 rfl rfl) (T9 5 rfl rfl (Px9 (r:=182) rfl Try.isAgg29 Try.sizeOf29 rfl rfl ((bs_length _).trans (sha_length _)) (bk_key (sha_length _))) (T9 6 rfl rfl (Px9 (r:=182) rfl Try.isAgg37 Try.sizeOf37 rfl rfl (bkC_length (sha_length _)) (load_all (bkC_length (sha_length _)))) (Y9 [7] ?_))))))))
          refine Ac09 rfl rfl rfl (OpT_mapPutQ (r:=501) (k:=(sha (pRoot l).pl)) (es:=entsOf []) (g:=gm) keyB rfl Try.underlying49 rfl rfl (sha_length _) rfl rfl ?_) ?_
          ·
           refine ⟨⟨rfl,rfl,rfl,rfl,rfl,trivial⟩,?_⟩
           refine (Ad9 (by kernel_rfl) (X9 ?_))
           refine Q9 (R9 (G9 rfl rfl (N9 (X9 ?_))))
           refine W_ret ?_
           have hset:=setO_none hc23 hok hgood
           refine X_turn (P':=mapB gm (entsOf [((⟨((sha (pRoot l).pl),(pRoot l).ver,z.2,src,exp),sha_length _,hzo⟩,l):EB)]) none) 501 rfl (fun h hp=>hp) ?_
           refine X_turn (P':=datP [((⟨((sha (pRoot l).pl),(pRoot l).ver,z.2,src,exp),sha_length _,hzo⟩,l):EB)]) 183 rfl (fun h hp q hq=>by rw [List.mem_singleton.1 hq]; exact rowB_rd _ hp) ?_
           refine X_join [500,501,183] 1 (slotP g most (some ⟨(sha (pRoot l).pl),(pRoot l).ver,l,src,exp⟩)) rfl (by decide) (fun h hs=>closeS (es:=[((⟨((sha (pRoot l).pl),(pRoot l).ver,z.2,src,exp),sha_length _,hzo⟩,l):EB)]) rfl hs) ?_
           exact Xq9 [1] (Ps:=[_]) (res1 Try.results10 rfl) rfl (by decide) ⟨by rw [hset]; try rfl,by rw [hset]; try rfl⟩
          exact An9
         exact An9
        exact An9
       refine Z9 rfl rfl (OpT_alloc (r:=551) (cs:=(bkC zeroId 0 (.slice none 0 0) 0 0)) rfl (zero_run (by kernel_rfl:(Try.prog.info? 37).bind (·.zero)=some (.agg (bkC zeroId 0 (.slice none 0 0) 0 0).toArray))) rfl (fun g551=>⟨⟨rfl,rfl,rfl,rfl,trivial⟩,?_⟩)) ?_
       ·
        refine (Y9 [6] ?_)
        refine Z9 rfl rfl (Or9 (Pu_look (r:=501) rfl rfl rfl (sha_length _) rfl) ⟨⟨rfl,rfl,rfl,rfl,trivial⟩,?_⟩) ?_
        ·
         refine (T9 7 rfl rfl (Pm9 rfl rfl) (T9 8 rfl rfl (Pe9 rfl rfl rfl) (T9 9 rfl rfl (Pe9 rfl rfl rfl) (Y9 [11] ?_))))
         refine Ac09 rfl rfl rfl (OpT_storeAll (r:=551) rfl Try.sizeOf37 rfl rfl rfl (bkC_length rfl) (bvC_length _) (bvC_one _) ?_) ?_
         ·
          refine ⟨⟨rfl,rfl,rfl,rfl,trivial⟩,?_⟩
          refine (T9 12 rfl rfl (Pg9 rfl rfl) (Ad9 (by kernel_rfl) (X9 ?_)))
          refine Q9 ?_
          refine W_block ?_
          refine Q9 (R9 (M9 rfl rfl (M9 rfl rfl (WL_gF rfl rfl rfl rfl rfl (by decide) (WL_gF rfl rfl rfl rfl rfl (by decide) (WL_gF rfl rfl rfl rfl rfl (by decide) (WL_gF rfl rfl rfl rfl rfl (by decide) (WL_gF rfl rfl rfl rfl rfl (by decide) (L9 rfl (Pu_pickF rfl rfl rfl rfl) (G9 rfl rfl (N9 (X9 ?_))))))))))))
          refine W_false rfl (rfl) ?_
          refine Q9 (R9 (M9 rfl rfl (M9 rfl rfl (WL_gF rfl rfl rfl rfl rfl (by decide) (WL_gF rfl rfl rfl rfl rfl (by decide) (WL_gF rfl rfl rfl rfl rfl (by decide) (WL_gF rfl rfl rfl rfl rfl (by decide) (WL_gF rfl rfl rfl rfl rfl (by decide) (L9 rfl (Pu_pickF rfl rfl rfl rfl) (G9 rfl rfl (N9 (X9 ?_))))))))))))
          refine W_false rfl (rfl) ?_
          refine Q9 ?_
          refine W_draw (N:=15) (by kernel_rfl) rfl [(0,_),(182,_),(203,_),(500,_),(551,_),(501,_)] ⟨rfl,rfl,rfl,rfl,rfl,rfl,trivial⟩ ?_
          refine (T9 0 rfl rfl (Pm9 rfl rfl) (T9 1 rfl rfl (Pu_un rfl rfl (run_not _)) (T9 2 rfl rfl (Pm9 rfl rfl) (AH_takeT 3 rfl (by kernel_rfl) (by kernel_rfl) (by kernel_rfl) rfl rfl rfl rfl rfl (by decide) (Pm9 rfl rfl) (AH_takeT 4 rfl (by kernel_rfl) (by kernel_rfl) (by kernel_rfl) rfl rfl rfl rfl rfl (by decide) (Pu_nilCheck rfl rfl) (AH_takeT 5 rfl (by kernel_rfl) (by kernel_rfl) (by kernel_rfl) rfl rfl rfl rfl rfl (by decide) (F9 1 rfl rfl) (AH_takeT 6 rfl (by kernel_rfl) (by kernel_rfl) (by kernel_rfl) rfl rfl rfl rfl rfl (by decide) (Pb9 (r:=500) rfl Try.isAgg49 rfl rfl rfl) (AH_takeT 7 rfl (by kernel_rfl) (by kernel_rfl) (by kernel_rfl) rfl rfl rfl rfl rfl (by decide) (Pu_lenQ (r:=501) rfl Try.underlying49 rfl rfl) (AH_takeT 8 rfl (by kernel_rfl) (by kernel_rfl) (by kernel_rfl) rfl rfl rfl rfl rfl (by decide) (Pm9 rfl rfl) (AH_takeT 9 rfl (by kernel_rfl) (by kernel_rfl) (by kernel_rfl) rfl rfl rfl rfl rfl (by decide) (Pu_nilCheck rfl rfl) (AH_takeT 10 rfl (by kernel_rfl) (by kernel_rfl) (by kernel_rfl) rfl rfl rfl rfl rfl (by decide) (F9 0 rfl rfl) (AH_takeT 11 rfl (by kernel_rfl) (by kernel_rfl) (by kernel_rfl) rfl rfl rfl rfl rfl (by decide) (Pb9 (r:=500) rfl Try.isAgg3 rfl rfl rfl) (AH_takeT 12 rfl (by kernel_rfl) (by kernel_rfl) (by kernel_rfl) rfl rfl rfl rfl rfl (by decide) (Pn9 rfl rfl rfl (run_geq _ _ _ _ _ _)) (T9 13 rfl rfl (Pu_pickT rfl rfl rfl rfl) (T9 14 rfl rfl (Pg9 rfl rfl) (Ad9 (by kernel_rfl) (X9 ?_)))))))))))))))))
          refine W_false rfl (decide_eq_false (by show ¬ (most≤((0:Nat):Int)); omega)) ?_
          refine K9 (X_block (X9 ?_))
          refine Q9 ?_
          refine W_draw (N:=8) (by kernel_rfl) rfl [(0,_),(182,_),(203,_),(500,_),(551,_)] ⟨rfl,rfl,rfl,rfl,rfl,trivial⟩ ?_
          refine (T9 0 rfl rfl (Pm9 rfl rfl) (T9 1 rfl rfl (Pu_nilCheck rfl rfl) (T9 2 rfl rfl (F9 1 rfl rfl) (T9 3 rfl rfl (Pb9 (r:=500) rfl Try.isAgg49 rfl rfl rfl) (T9 4 rfl rfl (F9 0 rfl rfl) (T9 5 rfl rfl (Px9 (r:=182) rfl Try.isAgg29 Try.sizeOf29 rfl rfl ((bs_length _).trans (sha_length _)) (bk_key (sha_length _))) (T9 6 rfl rfl (Px9 (r:=182) rfl Try.isAgg37 Try.sizeOf37 rfl rfl (bkC_length (sha_length _)) (load_all (bkC_length (sha_length _)))) (Y9 [7] ?_))))))))
          refine Ac09 rfl rfl rfl (OpT_mapPutQ (r:=501) (k:=(sha (pRoot l).pl)) (es:=entsOf []) (g:=gm) keyB rfl Try.underlying49 rfl rfl (sha_length _) rfl rfl ?_) ?_
          ·
           refine ⟨⟨rfl,rfl,rfl,rfl,rfl,trivial⟩,?_⟩
           refine (Ad9 (by kernel_rfl) (X9 ?_))
           refine Q9 (R9 (G9 rfl rfl (N9 (X9 ?_))))
           refine W_ret ?_
           have hset:=setO_none hc23 hok hgood
           refine X_turn (P':=mapB gm (entsOf [((⟨((sha (pRoot l).pl),(pRoot l).ver,z.2,src,exp),sha_length _,hzo⟩,l):EB)]) none) 501 rfl (fun h hp=>hp) ?_
           refine X_turn (P':=datP [((⟨((sha (pRoot l).pl),(pRoot l).ver,z.2,src,exp),sha_length _,hzo⟩,l):EB)]) 183 rfl (fun h hp q hq=>by rw [List.mem_singleton.1 hq]; exact rowB_rd _ hp) ?_
           refine X_join [500,501,183] 1 (slotP g most (some ⟨(sha (pRoot l).pl),(pRoot l).ver,l,src,exp⟩)) rfl (by decide) (fun h hs=>closeS (es:=[((⟨((sha (pRoot l).pl),(pRoot l).ver,z.2,src,exp),sha_length _,hzo⟩,l):EB)]) rfl hs) ?_
           exact Xq9 [1] (Ps:=[_]) (res1 Try.results10 rfl) rfl (by decide) ⟨by rw [hset]; try rfl,by rw [hset]; try rfl⟩
          exact An9
         exact An9
        exact An9
       exact An9
    exact An9
   exact An9
open Go.RowKit
set_option maxRecDepth 8000

theorem bvs_len (xs:List BV):∀ x ∈ xs,(bvC x).length=36:=fun x _=>bvC_length x
theorem bvs_all {xs:List BV} {k:Nat} (hk:k < xs.length):((recC bvC xs).drop (k * 36)).take 36=bvC (xs.getD k default):=recC_get (d:=default) (bvs_len xs) hk
def setSl (v:Value) (hv:v.oneCell'=true) (x:BV):BV:=⟨(x.key,x.ver,v,x.src,x.exp),x.len,hv⟩
theorem bvs_setData {xs:List BV} {k:Nat} (hk:k < xs.length) (v:Value) (hv:v.oneCell'=true):(recC bvC xs).set (k * 36 + 33) v=recC bvC (xs.set k (setSl v hv (xs.getD k default))):=by
  have hl:=recC_length (bvs_len xs)
  rw [show (recC bvC xs).set (k * 36 + 33) v=over (recC bvC xs) (k * 36 + 33) [v] from (over_one _ _ _ (by rw [hl]; omega)).symm]
  refine recC_setF (d:=default) (bvs_len xs) hk (by simp) ?_
  have:over (bvC (xs.getD k default)) 33 [v]=(bvC (xs.getD k default)).set 33 v:=over_one _ _ _ (by rw [bvC_length]; decide)
  rw [this]
  exact bk_set_data (xs.getD k default).len v
def moveE (k:Nat) (v:Value) (hv:v.oneCell'=true) (ys:List EB):List EB:=ys.set k (setSl v hv (ys.getD k default).1,(ys.getD k default).2)
theorem moveE_len (k:Nat) (v:Value) (hv:v.oneCell'=true) (ys:List EB):(moveE k v hv ys).length=ys.length:=by simp [moveE]
theorem moveE_told {k:Nat} {v:Value} {hv:v.oneCell'=true} {ys:List EB} (hk:k < ys.length):(moveE k v hv ys).map toS=ys.map toS:=by
  unfold moveE
  apply List.ext_getElem?
  intro j
  rw [List.getElem?_map,List.getElem?_map,List.getElem?_set]
  by_cases h:k=j
  · subst h
    rw [if_pos rfl,if_pos hk,show ys.getD k default=ys[k] by simp [hk],List.getElem?_eq_getElem hk]
    rfl
  · rw [if_neg h]
theorem moveE_sl {k:Nat} {v:Value} {hv:v.oneCell'=true} {ys:List EB} (hk:k < ys.length):(moveE k v hv ys).map (·.1)=(ys.map (·.1)).set k (setSl v hv ((ys.map (·.1)).getD k default)):=by
  unfold moveE
  rw [List.map_set]
  congr 2
  simp [hk]
theorem moveE_drop {k:Nat} {v:Value} {hv:v.oneCell'=true} {ys:List EB}:(moveE k v hv ys).drop (k + 1)=ys.drop (k + 1):=by
  unfold moveE
  rw [List.drop_set]
  simp
theorem moveE_take {k:Nat} {v:Value} {hv:v.oneCell'=true} {ys:List EB} (hk:k < ys.length):(moveE k v hv ys).take (k + 1)=ys.take k++[(setSl v hv (ys.getD k default).1,(ys.getD k default).2)]:=by
  have hl:k < (moveE k v hv ys).length:=by rw [moveE_len]; exact hk
  rw [List.take_succ_eq_append_getElem hl]
  congr 1
  · unfold moveE; rw [List.take_set,List.set_eq_of_length_le (by rw [List.length_take]; omega)]
  · unfold moveE; simp
theorem getD_map1 {ys:List EB} {k:Nat} (hk:k < ys.length):(ys.map (·.1)).getD k default=(ys.getD k default).1:=by simp [hk]
theorem getD_of_drop {ys zs:List EB} {k:Nat} (h:zs.drop k=ys.drop k) (hk:k < zs.length):zs.getD k default=ys.getD k default∧k < ys.length:=by
  have h0:=congrArg List.length h
  simp only [List.length_drop] at h0
  have h1:zs[k]?=ys[k]?:=by have:=congrArg (fun l=>l[0]?) h; simpa using this
  have h2:k < ys.length:=by omega
  refine ⟨by simp [List.getD_eq_getElem?_getD,h1],h2⟩
theorem drop_next {ys zs:List EB} {k:Nat} (h:zs.drop k=ys.drop k):zs.drop (k + 1)=ys.drop (k + 1):=by
  have:=congrArg (List.drop 1) h
  simpa [List.drop_drop] using this
theorem small_told {o:Option S1} {es:List EB} (h:es.map toS=o.toList) {xs:List BV} (hp:xs.Perm (es.map (·.1))):∃ ys:List EB,ys.Perm es∧ys.map (·.1)=xs∧ys.map toS=o.toList:=by
  have hl:=es_len h
  match es,hl with
  | [],_=>exact ⟨[],List.Perm.refl _,(List.Perm.eq_nil hp).symm,h⟩
  | [e],_=>exact ⟨[e],List.Perm.refl _,(List.perm_singleton.1 hp).symm,h⟩
open Go.RowKit
set_option maxRecDepth 8000

theorem es_data {es:List EB} {o:Option S1} (h:es.map toS=o.toList) (hd:∀ p,o=some p→p.data.length≤1000000):∀ b ∈ es,b.2.length≤1000000:=by
  intro b hb
  cases o with
  | none=>rw [es_none h] at hb; simp at hb
  | some p =>
    obtain ⟨e,rfl,he⟩:=es_some h
    simp at hb
    subst hb
    have:=hd p rfl
    rw [← he] at this
    exact this
theorem allS_spec (g:Nat) (most:Int) (o:Option S1) (hdat:∀ p,o=some p→p.data.length≤1000000) (F:HP):CallsS Try.prog 11 #[.pointer (some ⟨g,0,none⟩)] F [slotP g most o] (fun r Ps=>∃ zs:List EB,zs.map toS=o.toList∧Ps=[slotP g most o,rowB2 r (zs.map (·.1)),datP zs]):=by
 refine callsS_enter Try.func11 rfl Try.ntmps11 (by simp) (fun E=>?_)
 refine Q9 (R9 (G9 rfl rfl (N9 (X9 (Q9 ?_)))))
 refine W_openS 1 200 rfl (fun gm es hes=>?_)
 have hel:(es.map (·.1)).length=es.length:=List.length_map _
 have hesl:=es_len hes
 refine R9 (M9 rfl rfl (L9 rfl (Pu_nilCheck rfl rfl) (L9 rfl (F9 1 rfl rfl) (L9 rfl (Pb9 (r:=200) rfl Try.isAgg49 rfl rfl rfl) (Lc9 rfl rfl (by decide) (Oc9 300 [0,200,202] [201] rfl Try.call27 rfl rfl rfl (by decide) (by decide) (values_spec gm (es.map (·.1)) _) (fun v10 Ps10 hR10=>?_)))))))
 obtain ⟨bx,rfl,rfl⟩:=hR10
 skip
 refine (Lc9 rfl rfl (by decide) (Oc9 400 [0,200,202] [300,301] rfl Try.call26 rfl rfl rfl (by decide) (by decide) (sortedFunc_spec bx gm (es.map (·.1)) (by omega) _) (fun v11 Ps11 hR11=>?_)))
 obtain ⟨xs,hxp,hxs,rfl⟩:=hR11
 skip
 refine (G9 rfl rfl (N9 (X9 ?_)))
 refine Q9 (Q9 ?_)
 obtain ⟨ys,hyp,rfl,hyB⟩:=small_told hes hxp
 have hyl:=hyp.length_eq
 have hyl2:(ys.map (·.1)).length=ys.length:=List.length_map _
 refine R9 (M9 rfl rfl (L9 rfl (Pl9 (r:=400) rfl Try.runUnderlying34 rfl rfl (fun h hp=>rp9 hp)) (M9 rfl rfl (N9 (X9 ?_)))))
 refine W_block ?_
 refine W_nilRow 290 29 32 ?_
 refine Wt9 (P':=datP (ys.take 0)) 290 rfl (fun h hp p hm=>by simp at hm) ?_
 refine W_loop (α:=Nat × List EB) (fun x=>[(3,v11),(12,v11),(13,.int .i64 (ys.length:Int)),(14,.int .i64 (x.1:Int))]) (fun x=>[(0,F),(200,slotB g most gm),(401,mapB gm (entsOf es) none),(202,datP es),(400,rowB2 v11 (x.2.map (fun p:EB=>p.1))),(290,datP (x.2.take x.1))]) (fun x=>x.2.map toS=o.toList∧x.2.drop x.1=ys.drop x.1∧x.2.length=ys.length∧x.1≤ys.length) (fun x=>ys.length - x.1) ((0,ys)) ⟨hyB,rfl,rfl,Nat.zero_le _⟩ ⟨rfl,rfl,(by show look _ 13=some (Value.int .i64 (ys.length:Int)); rw [← hyl2]; rfl),rfl,trivial⟩ ⟨rfl,rfl,rfl,rfl,rfl,rfl,trivial⟩ (fun x hx=>?_)
 obtain ⟨hx1,hx2,hx3,hx4⟩:=hx
 have hxl:(x.2.map (fun p:EB=>p.1)).length=x.2.length:=List.length_map _
 refine Q9 (R9 (L9 rfl (Pn9 rfl rfl rfl (run_lss _ _ _ _ _ _)) (N9 (X9 (Q9 ?_)))))
 refine C9 rfl (fun hc15=>?_) (fun hc15=>?_)
 ·
  have hlt:x.1 < x.2.length:=by have:=of_decide_eq_true hc15; omega
  obtain ⟨hgd,hlt2⟩:=getD_of_drop hx2 hlt
  have hmm:x.2.getD x.1 default ∈ es:=hyp.mem_iff.1 (by rw [hgd]; simp [hlt2])
  have hdl:(x.2.getD x.1 default).2.length≤1000000:=es_data hes hdat _ hmm
  refine K9 (X9 ?_)
  refine Q9 ?_
  refine W_block ?_
  refine Q9 (R9 (M9 rfl rfl (L9 rfl (Pi9 (r:=400) rfl Try.runUnderlying34 Try.sizeOf37 rfl rfl rfl (fun h hp=>rp9 hp) (by omega)) (L9 rfl (Pz9 (r:=400) rfl Try.isAgg37 Try.sizeOf37 rfl rfl (fun h hp=>rp9 hp) (bvC_length ((x.2.map (fun p:EB=>p.1)).getD x.1 default)) (by decide) (bvs_all (xs:=x.2.map (fun p:EB=>p.1)) (k:=x.1) (by omega))) (Lc9 rfl rfl (by decide) (OpT_alloc (r:=404) (cs:=(bkC zeroId 0 (.slice none 0 0) 0 0)) rfl (zero_run (by kernel_rfl:(Try.prog.info? 37).bind (·.zero)=some (.agg (bkC zeroId 0 (.slice none 0 0) 0 0).toArray))) rfl (fun g404=>(G9 rfl rfl (Lc09 rfl rfl (OpT_storeAll (r:=404) rfl Try.sizeOf37 rfl rfl rfl (bkC_length rfl) (bvC_length _) (bvC_one _) ?_))))))))))
  refine (N9 (X9 ?_))
  rw [getD_map1 hlt]
  refine R9 (M9 rfl rfl (M9 rfl rfl (L9 rfl (F9 33 rfl rfl) (L9 rfl (Pb9 (r:=404) rfl Try.isAgg30 rfl rfl (bk_data (x.2.getD x.1 default).1.len)) (Lc9 rfl rfl (by decide) (Oc9 500 [0,200,202,290,400,401,404] [] rfl Try.call25 rfl rfl rfl (by decide) (by decide) (clone_spec _ (x.2.getD x.1 default).2 (by omega) _ (rs9 2 rfl (fun h hp=>hp _ hmm))) (fun v23 Ps23 hR23=>?_)))))))
  obtain ⟨ho23,rfl⟩:=hR23
  skip
  refine (L9 rfl (Pi9 (r:=400) rfl Try.runUnderlying34 Try.sizeOf37 rfl rfl rfl (fun h hp=>rp9 hp) (by omega)) (L9 rfl (Pu_fieldAddrE (off:=33) rfl rfl (by kernel_rfl)) (Lc09 rfl rfl (OpT_storeS1 (r:=400) rfl Try.sizeOf30 rfl rfl rfl ho23 (by rw [recC_length (bvs_len _)]; omega) (bvs_setData (xs:=x.2.map (fun p:EB=>p.1)) (k:=x.1) (by omega) v23 ho23) ?_))))
  refine (N9 (X_block (X9 ?_)))
  refine R9 (L9 rfl (Pn9 rfl rfl rfl (run_add _ _ _ _ _ (by omega))) (M9 rfl rfl (N9 ?_)))
  have hmt:=moveE_told (v:=v23) (hv:=ho23) hlt
  refine X_join [290,500] 290 (datP ((moveE x.1 v23 ho23 x.2).take (x.1 + 1))) rfl (by decide) (fun h hs=>by rw [moveE_take hlt]; exact datP_add (p:=(setSl v23 ho23 (x.2.getD x.1 default).1,(x.2.getD x.1 default).2)) hs) ?_
  refine X_turn (P':=rowB2 v11 ((moveE x.1 v23 ho23 x.2).map (fun p:EB=>p.1))) 400 rfl (fun h hp=>by rw [moveE_sl hlt]; unfold rowB2; rw [List.length_set]; exact hp) ?_
  exact Xr9 (x.1 + 1,moveE x.1 v23 ho23 x.2) ⟨by rw [hmt]; exact hx1,by rw [moveE_drop]; exact drop_next hx2,by rw [moveE_len]; exact hx3,by dsimp only; omega⟩ (by show ys.length - (x.1 + 1) < ys.length - x.1; omega) (a9 rfl) (a9 rfl)
 ·
  have hnl:x.1=ys.length:=by have:=of_decide_eq_false hc15; omega
  refine W_exit (X_then_exit (X_then_exit (X_block_exit (X9 ?_))))
  refine Q9 (R9 (M9 rfl rfl (G9 rfl rfl (N9 (X9 ?_)))))
  refine W_ret ?_
  rw [hnl,show x.2.take ys.length=x.2 from List.take_of_length_le (by omega)]
  refine X_join [200,401,202] 1 (slotP g most o) rfl (by decide) (fun h hs=>closeS hes hs) ?_
  exact Xq9 [1,400,290] (Ps:=[_,_,_]) (res1 Try.results11 rfl) rfl (by decide) ⟨x.2,hx1,rfl⟩
open Go.RowKit
set_option maxRecDepth 8000

section
variable {P:Program} {E:Env} {n:Nat} {K:Slots} {L:Res}
theorem resCC {fn:Func} {t d r g te m t2 d2 r2 g2 te2 m2:Nat} {cs cs2:List Value} (hr:fn.results = #[.cell d t,.cell d2 t2]) (hd:look K d=some (.pointer (some ⟨g,0,none⟩))) (hd2:look K d2=some (.pointer (some ⟨g2,0,none⟩))) (ha:∀ w,(isAgg t).run P w = .ok true w) (hs:∀ w,(sizeOf t).run P w = .ok m w) (ha2:∀ w,(isAgg t2).run P w = .ok true w) (hs2:∀ w,(sizeOf t2).run P w = .ok m2 w) (hL:look L r=some (blk g te cs)) (hL2:look L r2=some (blk g2 te2 cs2)) (hm:cs.length=m) (hm2:cs2.length=m2) :
    ∀ a w,Agr n K a→Sat E L w→(results fn a.tmps).run P w = .ok (.tuple #[.agg cs.toArray,.agg cs2.toArray]) w:=fun a w hA hS=>by
  have h1:=run_loadVarB hS hL ha hs hm
  have h2:=run_loadVarB hS hL2 ha2 hs2 hm2
  simp [results,hr,hA.2.2 d _ hd,hA.2.2 d2 _ hd2,asAddr,h1,h2]
end
def seedL (who:Int):List UInt8:=byte who::List.replicate 31 0
def nameL (who:Int):List UInt8:=byte who::List.replicate 15 0
theorem seedL_length (who:Int):(seedL who).length=32:=by simp [seedL]
theorem nameL_length (who:Int):(nameL who).length=16:=by simp [nameL]
def pubL (who:Int):List UInt8:=pubT (nameL who) (seedL who)
def sigL (who:Int) (q:Nat) (ver:Int) (node:List UInt8):List UInt8:=sgnT (nameL who) (seedL who) q (claimL ver node)
def signedL (who:Int) (q:Nat) (ver:Int) (node:List UInt8):List UInt8:=(rootLs (pubL who) ver node (sigL who q ver node)).flatten
theorem pubL_length (who:Int):(pubL who).length=56:=by
  have ht:(topT (nameL who) (seedL who)).length=32:=topT_length _ _
  unfold pubL pubT
  simp only [List.length_append,numB_length,nameL_length,ht]
theorem sigL_length (who:Int) (q:Nat) (ver:Int) (node:List UInt8):(sigL who q ver node).length=4332:=by
  unfold sigL sgnT
  simp only [List.length_append,numB_length,sgnO_length,leafT_length]
section
variable {who:Int} {q:Nat} {ver:Int} {node:List UInt8} (hv:1≤ver∧ver≤2147483647) (hn:node.length=32)
include hv hn
theorem signed_parse:pRootE (signedL who q ver node)=0∧pRoot (signedL who q ver node)=⟨pubL who,ver,node,sigL who q ver node⟩:=parse_root (pubL_length who) hv hn (by rw [sigL_length]; decide)
omit hv in
theorem signed_length:(signedL who q ver node).length=4427:=by unfold signedL; rw [root_length (pubL_length who) hn,sigL_length]
theorem signed_chk (hq:q < 2):chkL (signedL who q ver node)=0:=by
  unfold chkL
  rw [(signed_parse hv hn).2]
  exact checkT_sgn (nameL_length who) hq
theorem signed_key:sha (pRoot (signedL who q ver node)).pl=sha (pubL who):=by rw [(signed_parse hv hn).2]
theorem signed_ver:(pRoot (signedL who q ver node)).ver=ver:=by rw [(signed_parse hv hn).2]
theorem signed_new (hq:q < 2) {src exp now:Int} (h:(decide (src < 0) || decide (exp≤now))=false):setO none (signedL who q ver node) src exp now=(0,some ⟨sha (pubL who),ver,signedL who q ver node,src,exp⟩):=by
  rw [setO_none h (signed_parse hv hn).1 (signed_chk hv hn hq),signed_key hv hn,signed_ver hv hn]
end
theorem set_nil:setO none [] 0 1 0=(8,none):=by rw [setO_cut (by decide) (by decide)]; rfl
theorem seed_spec (who:Int) (F:HP):CallsS Try.prog 16 #[.int .i64 who] F [] (fun r Ps=>r = .tuple #[idV (seedL who),idV (nameL who)]∧Ps=[]):=by
 refine callsS_enter Try.func16 rfl Try.ntmps16 (by simp) (fun E=>?_)
 refine Q9 (R9 (Lc9 rfl rfl (by decide) (OpT_alloc (r:=101) (cs:=(bs zeroId)) rfl (zero_run (by kernel_rfl:(Try.prog.info? 29).bind (·.zero)=some (.agg (bs zeroId).toArray))) rfl (fun g101=>(Lc9 rfl rfl (by decide) (OpT_alloc (r:=102) (cs:=(bs (List.replicate 16 0))) rfl (zero_run (by kernel_rfl:(Try.prog.info? 52).bind (·.zero)=some (.agg (bs (List.replicate 16 0)).toArray))) rfl (fun g102=>(N9 (X9 (Q9 (R9 (Lc9 rfl rfl (by decide) (OpT_alloc (r:=103) (cs:=(bs zeroId)) rfl (zero_run (by kernel_rfl:(Try.prog.info? 29).bind (·.zero)=some (.agg (bs zeroId).toArray))) rfl (fun g103=>(N9 (X9 (Q9 (R9 (Lc9 rfl rfl (by decide) (OpT_alloc (r:=104) (cs:=(bs (List.replicate 16 0))) rfl (zero_run (by kernel_rfl:(Try.prog.info? 52).bind (·.zero)=some (.agg (bs (List.replicate 16 0)).toArray))) rfl (fun g104=>(N9 (X9 (Q9 (R9 (M9 rfl rfl (L9 rfl (Pu_conv rfl rfl (conv_byte _ _ Try.runUnderlying3 Try.runUnderlying5)) (M9 rfl rfl (L9 rfl (Pu_conv rfl rfl (conv_byte _ _ Try.runUnderlying3 Try.runUnderlying5)) (L9 rfl (Pu_idxA rfl Try.runUnderlying29 Try.sizeOf5 rfl rfl (by decide)) (Lc09 rfl rfl (OpT_storeB1 (r:=103) rfl Try.sizeOf5 rfl rfl rfl rfl (by rw [bs_length]; decide) (show _=bs (seedL who) from rfl) ?_))))))))))))))))))))))))))))))))
 refine (L9 rfl (Pu_idxA rfl Try.runUnderlying52 Try.sizeOf5 rfl rfl (by decide)) (Lc09 rfl rfl (OpT_storeB1 (r:=104) rfl Try.sizeOf5 rfl rfl rfl rfl (by rw [bs_length]; decide) (show _=bs (nameL who) from rfl) ?_)))
 refine (N9 (X9 ?_))
 refine Q9 ?_
 refine W_draw (N:=4) (by kernel_rfl) rfl [(0,_),(103,_),(104,_)] ⟨rfl,rfl,rfl,trivial⟩ ?_
 refine (T9 0 rfl rfl (Px9 (r:=103) rfl Try.isAgg29 Try.sizeOf29 rfl rfl ((bs_length _).trans (seedL_length who)) (load_all ((bs_length _).trans (seedL_length who)))) (T9 1 rfl rfl (Px9 (r:=104) rfl Try.isAgg52 Try.sizeOf52 rfl rfl ((bs_length _).trans (nameL_length who)) (load_all ((bs_length _).trans (nameL_length who)))) (Y9 [2] ?_)))
 refine Ac09 rfl rfl rfl (OpT_storeAll (r:=101) rfl Try.sizeOf29 rfl rfl rfl rfl ((bs_length _).trans (seedL_length who)) (bs_one _) ?_) ?_
 ·
  refine ⟨⟨rfl,rfl,rfl,trivial⟩,?_⟩
  refine (Y9 [3] ?_)
  refine Ac09 rfl rfl rfl (OpT_storeAll (r:=102) rfl Try.sizeOf52 rfl rfl rfl rfl ((bs_length _).trans (nameL_length who)) (bs_one _) ?_) ?_
  ·
   refine ⟨⟨rfl,rfl,rfl,trivial⟩,?_⟩
   refine (Ad9 (by kernel_rfl) (X9 ?_))
   refine W_ret ?_
   exact Xq9 [] (Ps:=[]) (resCC (r:=101) (r2:=102) Try.results16 rfl rfl Try.isAgg29 Try.sizeOf29 Try.isAgg52 Try.sizeOf52 rfl rfl ((bs_length _).trans (seedL_length who)) ((bs_length _).trans (nameL_length who))) rfl (by decide) ⟨rfl,rfl⟩
  exact An9
 exact An9
theorem root_build4 {pv:Value} {ver:Int} {top:List UInt8} {tv:Value} (ht:top.length=32):Value.agg ((over (((rootC nilS 0 zeroId nilS).set 0 pv).set 1 (.int .i64 ver)) 2 (bs top)).set 34 tv).toArray=rootV pv ver top tv:=by
  have h:=root_over (pv:=pv) (ver:=ver) (tv:=nilS) zeroId_length ht
  unfold rootV
  rw [← root_set (tv:=nilS) ht,← h]
  rfl
theorem signed_spec (who ver:Int) (q:Nat) (hq:q < 2) (hv:ver=(q:Int) + 1) (node:List UInt8) (hn:node.length=32) (F:HP):CallsS Try.prog 8 #[.int .i64 who,.int .i64 ver,idV node] F [] (fun r Ps=>Ps=[rowB 5 r (signedL who q ver node)]):=by
 refine callsS_enter Try.func8 rfl Try.ntmps8 (by simp) (fun E=>?_)
 refine Q9 (R9 (Lc9 rfl rfl (by decide) (OpT_box (r:=101) rfl rfl rfl (fun g101=>(G9 rfl rfl (N9 (X9 (Q9 (R9 (M9 rfl rfl (Lc9 rfl rfl (by decide) (Oc9 200 [0,101] [] rfl Try.call16 rfl rfl rfl (by decide) (by decide) (seed_spec who _) (fun v17 Ps17 hR17=>?_)))))))))))))
 obtain ⟨rfl,rfl⟩:=hR17
 refine (M9 rfl rfl (L9 rfl (Pe9 rfl rfl rfl) (L9 rfl (Pe9 rfl rfl rfl) (Lc9 rfl rfl (by decide) (OpT_alloc (r:=201) (cs:=(bs zeroId)) rfl (zero_run (by kernel_rfl:(Try.prog.info? 29).bind (·.zero)=some (.agg (bs zeroId).toArray))) rfl (fun g201=>(Lc9 rfl rfl (by decide) (OpT_alloc (r:=202) (cs:=(bs (List.replicate 16 0))) rfl (zero_run (by kernel_rfl:(Try.prog.info? 52).bind (·.zero)=some (.agg (bs (List.replicate 16 0)).toArray))) rfl (fun g202=>(Lc09 rfl rfl (OpT_storeAll (r:=201) rfl Try.sizeOf29 rfl rfl rfl rfl ((bs_length _).trans (seedL_length who)) (bs_one _) ?_)))))))))))
 refine (Lc09 rfl rfl (OpT_storeAll (r:=202) rfl Try.sizeOf52 rfl rfl rfl rfl ((bs_length _).trans (nameL_length who)) (bs_one _) ?_))
 refine (N9 (X9 ?_))
 refine Q9 (R9 (L9 rfl (Px9 (r:=202) rfl Try.isAgg52 Try.sizeOf52 rfl rfl ((bs_length _).trans (nameL_length who)) (load_all ((bs_length _).trans (nameL_length who)))) (L9 rfl (Px9 (r:=201) rfl Try.isAgg29 Try.sizeOf29 rfl rfl ((bs_length _).trans (seedL_length who)) (load_all ((bs_length _).trans (seedL_length who)))) (Lc9 rfl rfl (by decide) (Oc9 300 [0,101,201,202] [] rfl Try.call17 rfl rfl rfl (by decide) (by decide) (public6_spec (nameL who) (nameL_length who) (seedL who) (seedL_length who) _) (fun v23 Ps23 hR23=>?_))))))
 obtain ⟨pv,rfl,rfl⟩:=hR23
 refine (M9 rfl rfl (L9 rfl (Pe9 rfl rfl rfl) (L9 rfl (Pe9 rfl rfl rfl) (G9 rfl rfl (G9 rfl rfl (N9 (X9 ?_)))))))
 refine Q9 ?_
 refine W_draw (N:=13) (by kernel_rfl) rfl [(0,_),(101,_),(201,_),(202,_)] ⟨rfl,rfl,rfl,rfl,trivial⟩ ?_
 refine (T9 0 rfl rfl (Px9 (r:=202) rfl Try.isAgg52 Try.sizeOf52 rfl rfl ((bs_length _).trans (nameL_length who)) (load_all ((bs_length _).trans (nameL_length who)))) (T9 1 rfl rfl (Px9 (r:=201) rfl Try.isAgg29 Try.sizeOf29 rfl rfl ((bs_length _).trans (seedL_length who)) (load_all ((bs_length _).trans (seedL_length who)))) (T9 2 rfl rfl (Pm9 rfl rfl) (T9 3 rfl rfl (Pn9 rfl rfl rfl (run_sub _ _ _ _ _ (by omega))) ?_))))
 rw [show ver - 1=(q:Int) by omega]
 refine (T9 4 rfl rfl (Pm9 rfl rfl) (T9 5 rfl rfl (Px9 (r:=101) rfl Try.isAgg29 Try.sizeOf29 rfl rfl ((bs_length _).trans hn) (load_all ((bs_length _).trans hn))) (Y9 [6] ?_)))
 refine Z9 rfl rfl (Oc9 400 [0,101,201,202,300] [] rfl Try.call19 rfl rfl rfl (by decide) (by decide) (claim9_spec ver node hn _) (fun v33 Ps33 hR33=>?_)) ?_
 ·
  subst hR33
  refine ⟨⟨rfl,rfl,rfl,rfl,trivial⟩,?_⟩
  refine (Y9 [7] ?_)
  refine Z9 rfl rfl (Oc9 500 [0,101,201,202,300,400] [] rfl Try.call18 rfl rfl rfl (by decide) (by decide) (sign6_spec (nameL who) (nameL_length who) (seedL who) (seedL_length who) q hq _ (claimL ver node) (by rw [claimL_length hn]; decide) _ (rs9 5 rfl rowB_rd)) (fun v34 Ps34 hR34=>?_)) ?_
  ·
   obtain ⟨gv,rfl,rfl⟩:=hR34
   refine ⟨⟨rfl,rfl,rfl,rfl,trivial⟩,?_⟩
   refine (T9 8 rfl rfl (Pm9 rfl rfl) (T9 9 rfl rfl (Pe9 rfl rfl rfl) (T9 10 rfl rfl (Pe9 rfl rfl rfl) (T9 11 rfl rfl (Pg9 rfl rfl) (T9 12 rfl rfl (Pg9 rfl rfl) (Ad9 (by kernel_rfl) (X9 ?_)))))))
   refine Q9 ?_
   refine W_fact (r:=300) rfl (fun h hp=>rd_one (rowB_rd _ hp)) (fun hpo=>?_)
   refine W_fact (r:=500) rfl (fun h hp=>rd_one (rowB_rd _ hp)) (fun hgo=>?_)
   refine R9 (M9 rfl rfl (M9 rfl rfl (L9 rfl (Px9 (r:=101) rfl Try.isAgg29 Try.sizeOf29 rfl rfl ((bs_length _).trans hn) (load_all ((bs_length _).trans hn))) (M9 rfl rfl (L9 rfl (Pu_build (V:=rootV pv ver node gv) [(0,1),(1,1),(2,32),(34,1)] (rootC nilS 0 zeroId nilS) rfl rfl (by kernel_rfl) (by kernel_rfl) (.one rfl hpo (by simp [rootC,bs_length,zeroId_length]) rfl (.one rfl rfl (by simp [rootC,bs_length,zeroId_length]) rfl (.many rfl ((bs_length _).trans hn) (by simp [rootC,bs_length,zeroId_length]) rfl (.one rfl hgo (by rw [over_length _ _ _ (by simp [rootC,bs_length,hn,zeroId_length])]; simp [rootC,bs_length,zeroId_length]) rfl (.nil _))))) (root_build4 hn)) (Lc9 rfl rfl (by decide) (Oc9 600 [0,101,201,202,300,400,500] [] rfl Try.call15 rfl rfl rfl (by decide) (by decide) (root9_spec pv (pubL who) ver node hn gv (sigL who q ver node) (by rw [pubL_length]; decide) (by rw [sigL_length]; decide) _ (rs9 4 rfl rowB_rd) (rs9 6 rfl rowB_rd)) (fun v43 Ps43 hR43=>?_))))))))
   obtain ⟨rv,rfl,rfl⟩:=hR43
   refine (M9 rfl rfl (L9 rfl (Pe9 rfl rfl rfl) (L9 rfl (Pe9 rfl rfl rfl) (G9 rfl rfl (G9 rfl rfl (N9 (X9 ?_)))))))
   refine Q9 (R9 (M9 rfl rfl (G9 rfl rfl (N9 (X9 ?_)))))
   refine W_ret ?_
   have hE:rootE (pubL who) ver (sigL who q ver node)=0:=by unfold rootE; rw [if_neg (by rw [pubL_length]; omega),if_neg (by rw [sigL_length]; decide)]
   exact Xq9 [600] (Ps:=[_]) (res1 Try.results8 rfl) rfl (by decide) (by unfold rootR; rw [if_pos hE]; rfl)
  exact An9
 exact An9
theorem known_spec (F:HP):CallsS Try.prog 6 #[] F [] (fun v Ps=>v = .bool true∧Ps=[]):=by
 refine callsS_enter Try.func6 rfl Try.ntmps6 (by simp) (fun E=>?_)
 refine Q9 (R9 (G9 rfl rfl (N9 (X9 (Q9 (R9 (Lc9 rfl rfl (by decide) (Oc9 200 [0] [] rfl Try.call7 rfl rfl rfl (by decide) (by decide) (newS_spec 2 (by decide) _) (fun v5 Ps5 hR5=>?_)))))))))
 obtain ⟨gs,rfl,rfl⟩:=hR5
 skip
 refine (M9 rfl rfl (L9 rfl (Pe9 rfl rfl rfl) (L9 rfl (Pe9 rfl rfl rfl) (G9 rfl rfl (G9 rfl rfl (N9 (X9 ?_)))))))
 refine Q9 (Q9 (R9 (M9 rfl rfl (L9 rfl (Pn9 rfl rfl rfl (run_neq _ _ _ _ _ _)) (M9 rfl rfl (Lg9 rfl rfl rfl rfl (by decide) (fun hb=>(Pm9 rfl rfl)) (Lg9 rfl rfl rfl rfl (by decide) (fun hb=>(Pn9 rfl (ev_gv rfl hb) rfl (run_ptrNil Try.underlying24 _ _ _))) (L9 rfl (Pu_or rfl rfl rfl) (N9 (X9 ?_))))))))))
 refine W_false rfl (rfl) ?_
 refine K9 (X9 ?_)
 refine Q9 (R9 (L9 rfl (Pu_idZero rfl) (Lc9 rfl rfl (by decide) (Oc9 300 [0,200] [] rfl Try.call8 rfl rfl rfl (by decide) (by decide) (signed_spec 0 1 0 (by decide) (by decide) zeroId zeroId_length _) (fun v15 Ps15 hR15=>?_)))))
 subst hR15
 refine (G9 rfl rfl (N9 (X9 ?_)))
 refine Q9 ?_
 have hs2:=signed_new (who:=0) (q:=0) (ver:=1) (node:=zeroId) (by decide) zeroId_length (by decide) (src:=0) (exp:=9) (now:=0) (by decide)
 refine R9 (M9 rfl rfl (Lc9 rfl rfl (by decide) (Oc9 400 [0,300] [200] rfl Try.call10 rfl rfl rfl (by decide) (by decide) (setS_none gs 2 (by decide) _ [] (by decide) 0 1 0 _ (fun h _=>rd_const 0 1 h)) (fun v17 Ps17 hR17=>?_))))
 obtain ⟨rfl,rfl⟩:=hR17
 skip
 rw [set_nil]
 refine (L9 rfl (Pn9 rfl rfl rfl (run_eql _ _ _ _ _ _)) (M9 rfl rfl (WL_gPT rfl rfl rfl rfl rfl (by decide) (Pm9 rfl rfl) (WL_gPT rfl rfl rfl rfl rfl (by decide) (Pm9 rfl rfl) (WL_gT rfl rfl rfl rfl rfl (by decide) (Oc9 500 [0,300] [400] rfl Try.call10 rfl rfl rfl (by decide) (by decide) (setS_none gs 2 (by decide) _ (signedL 0 0 1 zeroId) (by rw [signed_length zeroId_length]; decide) 0 9 0 _ (rs9 1 rfl rowB_rd)) (fun v22 Ps22 hR22=>?_)))))))
 obtain ⟨rfl,rfl⟩:=hR22
 skip
 rw [hs2]
 refine (WL_gPT rfl rfl rfl rfl rfl (by decide) (Pn9 rfl rfl rfl (run_eql _ _ _ _ _ _)) (L9 rfl (Pu_pickT rfl rfl rfl rfl) (M9 rfl rfl (WL_gPT rfl rfl rfl rfl rfl (by decide) (Pm9 rfl rfl) (WL_gT rfl rfl rfl rfl rfl (by decide) (Oc9 600 [0,300] [500] rfl Try.call11 rfl rfl rfl (by decide) (by decide) (allS_spec gs 2 _ (fun p h=>by injection h with h; subst h; show (signedL 0 0 1 zeroId).length≤_; rw [signed_length zeroId_length]; decide) _) (fun v27 Ps27 hR27=>?_)))))))
 obtain ⟨zs,hzs,rfl⟩:=hR27
 obtain ⟨z0,rfl,hz0⟩:=es_some hzs
 refine (WL_gPT rfl rfl rfl rfl rfl (by decide) (Pl9 (r:=601) rfl Try.runUnderlying34 rfl rfl (fun h hp=>rp9 hp)) (WL_gPT rfl rfl rfl rfl rfl (by decide) (Pn9 rfl rfl rfl (run_eql _ _ _ _ _ _)) (L9 rfl (Pu_pickT rfl rfl rfl rfl) (G9 rfl rfl (N9 (X9 ?_))))))
 refine W_ret ?_
 exact Xq9 [] (Ps:=[]) (res1 Try.results6 rfl) rfl (by decide) ⟨rfl,rfl⟩
theorem within13_spec (a n:Int) (hn:0 < n) (hn2:n < 9223372036854775808) (F:HP):CallsS Try.prog 9 #[.int .i64 a,.int .i64 n] F [] (fun v Ps=>v = .int .i64 (a % n)∧Ps=[]):=by
 have htb:=tmod_bounds a hn
 refine callsS_enter Try.func9 rfl Try.ntmps9 (by simp) (fun E=>?_)
 refine Q9 (R9 (G9 rfl rfl (N9 (X9 (Q9 (R9 (M9 rfl rfl (M9 rfl rfl (L9 rfl (Pn9 rfl rfl rfl (run_tmod _ _ _ _ _ (by omega))) (G9 rfl rfl (N9 (X9 (Q9 (Q9 (R9 (M9 rfl rfl (L9 rfl (Pn9 rfl rfl rfl (run_lss _ _ _ _ _ _)) (N9 (X9 ?_)))))))))))))))))))
 refine C9 rfl (fun hc10=>?_) (fun hc10=>?_)
 ·
  have hlt:=of_decide_eq_true hc10
  refine R9 (M9 rfl rfl (M9 rfl rfl (L9 rfl (Pn9 rfl rfl rfl (run_add _ _ _ _ _ (by omega))) (G9 rfl rfl (N9 (X9 (Q9 (R9 (M9 rfl rfl (G9 rfl rfl (N9 (X9 ?_))))))))))))
  refine W_ret ?_
  exact Xq9 [] (Ps:=[]) (res1 Try.results9 rfl) rfl (by decide) ⟨int_val (emod_neg hn (of_decide_eq_true hc10)),rfl⟩
 ·
  refine K9 (X9 ?_)
  refine Q9 (R9 (M9 rfl rfl (G9 rfl rfl (N9 (X9 ?_)))))
  refine W_ret ?_
  exact Xq9 [] (Ps:=[]) (res1 Try.results9 rfl) rfl (by decide) ⟨int_val (emod_pos hn (of_decide_eq_false hc10)),rfl⟩
open Go.RowKit
set_option maxRecDepth 8000

theorem setS_live (g:Nat) (most:Int) (hm:1≤most) (v:Value) (l:List UInt8) (hl:l.length≤1000000) (src exp now:Int) (p:S1) (hkey:pRootE l=0→chkL l=0→p.key=sha (pRoot l).pl) (hlive:now < p.exp) (F:HP) (hF:∀ h,F h→rdB v l h):CallsS Try.prog 10 #[.pointer (some ⟨g,0,none⟩),v,.int .i64 src,.int .i64 exp,.int .i64 now] F [slotP g most (some p)] (fun r Ps=>r = .int .i64 (setO (some p) l src exp now).1∧Ps=[slotP g most (setO (some p) l src exp now).2]):=by
 refine callsS_enter Try.func10 rfl Try.ntmps10 (by simp) (fun E=>?_)
 refine Q9 (R9 (G9 rfl rfl (N9 (X9 (Q9 (Q9 (R9 (M9 rfl rfl (L9 rfl (Pn9 rfl rfl rfl (run_lss _ _ _ _ _ _)) (M9 rfl rfl (Lg9 rfl rfl rfl rfl (by decide) (fun hb=>(Pm9 rfl rfl)) (Lg9 rfl rfl rfl rfl (by decide) (fun hb=>(Pm9 rfl rfl)) (Lg9 rfl rfl rfl rfl (by decide) (fun hb=>(Pn9 rfl (ev_gv rfl hb) (ev_gv rfl hb) (run_leq _ _ _ _ _ _))) (L9 rfl (Pu_or rfl rfl rfl) (N9 (X9 ?_))))))))))))))))
 refine C9 rfl (fun hc23=>?_) (fun hc23=>?_)
 ·
  have hset:=setO_arg (o:=(some p)) (l:=l) hc23
  refine Q9 (R9 (G9 rfl rfl (N9 (X9 ?_))))
  refine W_ret (X_then_ret ?_)
  exact Xq9 [1] (Ps:=[_]) (res1 Try.results10 rfl) rfl (by decide) ⟨by rw [hset]; try rfl,by rw [hset]; try rfl⟩
 ·
  refine K9 (X9 ?_)
  refine Q9 (R9 (M9 rfl rfl (Lc9 rfl rfl (by decide) (Oc9 200 [0,1] [] rfl Try.call20 rfl rfl rfl (by decide) (by decide) (parseRoot_spec v l (by omega) _ (rs9 0 rfl hF)) (fun v26 Ps26 hR26=>?_)))))
  obtain ⟨pv,tv,rfl,rfl⟩:=hR26
  have ht:=pRoot_top l
  refine WL_fact (r:=200) rfl (fun h hp=>rd_one (rowB_rd _ hp)) (fun hpo=>?_)
  refine WL_fact (r:=201) rfl (fun h hp=>rd_one (rowB_rd _ hp)) (fun hto=>?_)
  refine (M9 rfl rfl (L9 rfl (Pe9 rfl rfl rfl) (L9 rfl (Pe9 rfl rfl rfl) (Lc9 rfl rfl (by decide) (OpT_alloc (r:=203) (cs:=(rootC nilS 0 zeroId nilS)) rfl (zero_run (by kernel_rfl:(Try.prog.info? 39).bind (·.zero)=some (.agg (rootC nilS 0 zeroId nilS).toArray))) rfl (fun g203=>(Lc09 rfl rfl (OpT_storeAll (r:=203) rfl Try.sizeOf39 rfl rfl rfl (rootC_length zeroId_length) (rootC_length ht) (one_root hpo hto) ?_))))))))
  skip
  refine (G9 rfl rfl (N9 (X9 ?_)))
  refine Q9 (Q9 (R9 (M9 rfl rfl (L9 rfl (Pn9 rfl rfl rfl (run_neq _ _ _ _ _ _)) (N9 (X9 ?_))))))
  refine C9 rfl (fun hc30=>?_) (fun hc30=>?_)
  ·
   have hne:pRootE l≠0:=by simpa using hc30
   have hset:=setO_cut (o:=(some p)) hc23 hne
   refine Q9 (R9 (M9 rfl rfl (G9 rfl rfl (N9 (X9 ?_)))))
   refine W_ret (X_then_ret ?_)
   exact Xq9 [1] (Ps:=[_]) (res1 Try.results10 rfl) rfl (by decide) ⟨by rw [hset]; try rfl,by rw [hset]; try rfl⟩
  ·
   have hok:pRootE l=0:=by simpa using hc30
   refine K9 (X9 ?_)
   refine Q9 (Q9 ?_)
   refine W_draw (N:=11) (by kernel_rfl) rfl [(0,_),(203,_)] ⟨rfl,rfl,trivial⟩ ?_
   refine (T9 0 rfl rfl (F9 0 rfl rfl) (T9 1 rfl rfl (Pb9 (r:=203) rfl Try.isAgg30 rfl rfl rfl) (T9 2 rfl rfl (F9 1 rfl rfl) (T9 3 rfl rfl (Pb9 (r:=203) rfl Try.isAgg3 rfl rfl rfl) (T9 4 rfl rfl (F9 2 rfl rfl) (T9 5 rfl rfl (Px9 (r:=203) rfl Try.isAgg29 Try.sizeOf29 rfl rfl ((bs_length _).trans ht) (take_rtop ht)) (T9 7 rfl rfl (F9 34 rfl rfl) (T9 8 rfl rfl (Pb9 (r:=203) rfl Try.isAgg30 rfl rfl (root_tail ht)) (Y9 [6] ?_)))))))))
   refine Z9 rfl rfl (Oc9 300 [0,1,200,201,203] [] rfl Try.call22 rfl rfl rfl (by decide) (by decide) (claim_spec (pRoot l).ver (pRoot l).top ht _) (fun v38 Ps38 hR38=>?_)) ?_
   ·
    subst hR38
    refine ⟨⟨rfl,rfl,trivial⟩,?_⟩
    refine (Y9 [9] ?_)
    refine Z9 rfl rfl (Oc9 400 [0,1,200,201,203,300] [] rfl Try.call21 rfl rfl rfl (by decide) (by decide) (lcheck_spec pv _ tv (pRoot l).pl (claimL (pRoot l).ver (pRoot l).top) (pRoot l).tl (by rw [claimL_length ht]; omega) _ (rs9 2 rfl rowB_rd) (rs9 5 rfl rowB_rd) (rs9 3 rfl rowB_rd)) (fun v41 Ps41 hR41=>?_)) ?_
    ·
     obtain ⟨rfl,rfl⟩:=hR41
     refine ⟨⟨rfl,rfl,trivial⟩,?_⟩
     refine (T9 10 rfl rfl (Pg9 rfl rfl) (Ad9 (by kernel_rfl) (X9 ?_)))
     refine Q9 (R9 (M9 rfl rfl (L9 rfl (Pn9 rfl rfl rfl (run_neq _ _ _ _ _ _)) (N9 (X9 ?_)))))
     refine C9 rfl (fun hc43=>?_) (fun hc43=>?_)
     ·
      have hbad:chkL l≠0:=by simpa using hc43
      have hset:=setO_sign (o:=(some p)) hc23 hok hbad
      refine Q9 (R9 (M9 rfl rfl (G9 rfl rfl (N9 (X9 ?_)))))
      refine W_ret (X_then_ret ?_)
      exact Xq9 [1] (Ps:=[_]) (res1 Try.results10 rfl) rfl (by decide) ⟨by rw [hset]; try rfl,by rw [hset]; try rfl⟩
     ·
      have hgood:chkL l=0:=by simpa using hc43
      refine K9 (X9 ?_)
      refine Q9 (R9 (M9 rfl rfl (M9 rfl rfl (Lc9 rfl rfl (by decide) (Oc9 500 [0,200,201,203,300] [1] rfl Try.call23 rfl rfl rfl (by decide) (by decide) (sweepS_spec g most now (some p) (fun q h=>by injection h with h; subst h; exact hlive) _) (fun v47 Ps47 hR47=>?_))))))
      obtain ⟨rfl,rfl⟩:=hR47
      skip
      refine (N9 (X9 ?_))
      refine W_cut (α:=Nat × Value) (fun z=>[(0,.pointer (some ⟨g,0,none⟩)),(3,.int .i64 exp),(11,.pointer (some ⟨g203,0,none⟩)),(14,.pointer (some ⟨z.1,0,none⟩))]) (fun z=>[(0,F),(500,slotP g most (some p)),(203,blk g203 39 (rootC pv (pRoot l).ver (pRoot l).top tv)),(182,blk z.1 37 (bkC (sha (pRoot l).pl) (pRoot l).ver z.2 src exp)),(183,rowB 5 z.2 l)]) (fun z=>z.2.oneCell'=true) ?_ (fun z hzo=>?_)
      ·
       refine W_draw (N:=12) (by kernel_rfl) rfl [(0,_),(203,_)] ⟨rfl,rfl,trivial⟩ ?_
       refine (T9 0 rfl rfl (F9 0 rfl rfl) (T9 1 rfl rfl (Pb9 (r:=203) rfl Try.isAgg30 rfl rfl rfl) (T9 3 rfl rfl (F9 1 rfl rfl) (T9 4 rfl rfl (Pb9 (r:=203) rfl Try.isAgg3 rfl rfl rfl) (T9 5 rfl rfl (Pm9 rfl rfl) (T9 7 rfl rfl (Pm9 rfl rfl) (T9 8 rfl rfl (Pm9 rfl rfl) (Y9 [2,10] ?_))))))))
       refine Z9 rfl rfl (Oc9 600 [0,200,201,203,300,500] [] rfl Try.call24 rfl rfl rfl (by decide) (by decide) (sum_spec pv (pRoot l).pl (by have:=pRoot_pl l; omega) _ (rs9 1 rfl rowB_rd)) (fun v50 Ps50 hR50=>?_)) ?_
       ·
        obtain ⟨rfl,rfl⟩:=hR50
        refine ⟨⟨rfl,rfl,trivial⟩,?_⟩
        refine (Y9 [6,10] ?_)
        refine Z9 rfl rfl (Oc9 700 [0,200,201,203,300,500] [] rfl Try.call25 rfl rfl rfl (by decide) (by decide) (clone_spec v l (by omega) _ (rs9 0 rfl hF)) (fun v54 Ps54 hR54=>?_)) ?_
        ·
         obtain ⟨ho54,rfl⟩:=hR54
         refine ⟨⟨rfl,rfl,trivial⟩,?_⟩
         skip
         refine (T9 9 rfl rfl (Pu_build (V:=.agg (bkC (sha (pRoot l).pl) (pRoot l).ver v54 src exp).toArray) [(0,32),(32,1),(33,1),(34,1),(35,1)] (bkC zeroId 0 (.slice none 0 0) 0 0) rfl rfl (by kernel_rfl) (by kernel_rfl) (.many rfl ((bs_length _).trans (sha_length _)) (by simp [bkC,bs_length,zeroId_length]) rfl (.one rfl rfl (by simp only [List.length_set,slot_fit (sha_length _)]; decide) rfl (.one rfl ho54 (by simp only [List.length_set,slot_fit (sha_length _)]; decide) rfl (.one rfl rfl (by simp only [List.length_set,slot_fit (sha_length _)]; decide) rfl (.one rfl rfl (by simp only [List.length_set,slot_fit (sha_length _)]; decide) rfl (.nil _)))))) (slot_build (sha_length _) _ _ _ _)) (Y9 [10] ?_))
         refine Z9 rfl rfl (OpT_alloc (r:=701) (cs:=(bkC zeroId 0 (.slice none 0 0) 0 0)) rfl (zero_run (by kernel_rfl:(Try.prog.info? 37).bind (·.zero)=some (.agg (bkC zeroId 0 (.slice none 0 0) 0 0).toArray))) rfl (fun g701=>⟨⟨rfl,rfl,trivial⟩,?_⟩)) ?_
         ·
          refine (Y9 [11] ?_)
          refine Ac09 rfl rfl rfl (OpT_storeAll (r:=701) rfl Try.sizeOf37 rfl rfl rfl (bkC_length rfl) (bkC_length (sha_length _)) (bkC_one ho54) ?_) ?_
          ·
           refine ⟨⟨rfl,rfl,trivial⟩,?_⟩
           refine (Ad9 (by kernel_rfl) ?_)
           refine X_ren 701 182 rfl ?_
           refine X_ren 700 183 rfl ?_
           exact X_cut (g701,v54) ho54 (a9 rfl) (a9 rfl)
          exact An9
         exact An9
        refine Z9 rfl rfl (OpT_alloc (r:=601) (cs:=(bkC zeroId 0 (.slice none 0 0) 0 0)) rfl (zero_run (by kernel_rfl:(Try.prog.info? 37).bind (·.zero)=some (.agg (bkC zeroId 0 (.slice none 0 0) 0 0).toArray))) rfl (fun g601=>⟨⟨rfl,rfl,trivial⟩,?_⟩)) ?_
        ·
         refine (Y9 [6] ?_)
         refine Z9 rfl rfl (Oc9 700 [0,200,201,203,300,500,601] [] rfl Try.call25 rfl rfl rfl (by decide) (by decide) (clone_spec v l (by omega) _ (rs9 0 rfl hF)) (fun v54 Ps54 hR54=>?_)) ?_
         ·
          obtain ⟨ho54,rfl⟩:=hR54
          refine ⟨⟨rfl,rfl,trivial⟩,?_⟩
          skip
          refine (T9 9 rfl rfl (Pu_build (V:=.agg (bkC (sha (pRoot l).pl) (pRoot l).ver v54 src exp).toArray) [(0,32),(32,1),(33,1),(34,1),(35,1)] (bkC zeroId 0 (.slice none 0 0) 0 0) rfl rfl (by kernel_rfl) (by kernel_rfl) (.many rfl ((bs_length _).trans (sha_length _)) (by simp [bkC,bs_length,zeroId_length]) rfl (.one rfl rfl (by simp only [List.length_set,slot_fit (sha_length _)]; decide) rfl (.one rfl ho54 (by simp only [List.length_set,slot_fit (sha_length _)]; decide) rfl (.one rfl rfl (by simp only [List.length_set,slot_fit (sha_length _)]; decide) rfl (.one rfl rfl (by simp only [List.length_set,slot_fit (sha_length _)]; decide) rfl (.nil _)))))) (slot_build (sha_length _) _ _ _ _)) (Y9 [11] ?_))
          refine Ac09 rfl rfl rfl (OpT_storeAll (r:=601) rfl Try.sizeOf37 rfl rfl rfl (bkC_length rfl) (bkC_length (sha_length _)) (bkC_one ho54) ?_) ?_
          ·
           refine ⟨⟨rfl,rfl,trivial⟩,?_⟩
           refine (Ad9 (by kernel_rfl) ?_)
           refine X_ren 601 182 rfl ?_
           refine X_ren 700 183 rfl ?_
           exact X_cut (g601,v54) ho54 (a9 rfl) (a9 rfl)
          exact An9
         exact An9
        exact An9
       refine Z9 rfl rfl (OpT_alloc (r:=501) (cs:=(bkC zeroId 0 (.slice none 0 0) 0 0)) rfl (zero_run (by kernel_rfl:(Try.prog.info? 37).bind (·.zero)=some (.agg (bkC zeroId 0 (.slice none 0 0) 0 0).toArray))) rfl (fun g501=>⟨⟨rfl,rfl,trivial⟩,?_⟩)) ?_
       ·
        refine (Y9 [2] ?_)
        refine Z9 rfl rfl (Oc9 600 [0,200,201,203,300,500,501] [] rfl Try.call24 rfl rfl rfl (by decide) (by decide) (sum_spec pv (pRoot l).pl (by have:=pRoot_pl l; omega) _ (rs9 1 rfl rowB_rd)) (fun v50 Ps50 hR50=>?_)) ?_
        ·
         obtain ⟨rfl,rfl⟩:=hR50
         refine ⟨⟨rfl,rfl,trivial⟩,?_⟩
         refine (Y9 [6] ?_)
         refine Z9 rfl rfl (Oc9 700 [0,200,201,203,300,500,501] [] rfl Try.call25 rfl rfl rfl (by decide) (by decide) (clone_spec v l (by omega) _ (rs9 0 rfl hF)) (fun v54 Ps54 hR54=>?_)) ?_
         ·
          obtain ⟨ho54,rfl⟩:=hR54
          refine ⟨⟨rfl,rfl,trivial⟩,?_⟩
          skip
          refine (T9 9 rfl rfl (Pu_build (V:=.agg (bkC (sha (pRoot l).pl) (pRoot l).ver v54 src exp).toArray) [(0,32),(32,1),(33,1),(34,1),(35,1)] (bkC zeroId 0 (.slice none 0 0) 0 0) rfl rfl (by kernel_rfl) (by kernel_rfl) (.many rfl ((bs_length _).trans (sha_length _)) (by simp [bkC,bs_length,zeroId_length]) rfl (.one rfl rfl (by simp only [List.length_set,slot_fit (sha_length _)]; decide) rfl (.one rfl ho54 (by simp only [List.length_set,slot_fit (sha_length _)]; decide) rfl (.one rfl rfl (by simp only [List.length_set,slot_fit (sha_length _)]; decide) rfl (.one rfl rfl (by simp only [List.length_set,slot_fit (sha_length _)]; decide) rfl (.nil _)))))) (slot_build (sha_length _) _ _ _ _)) (Y9 [11] ?_))
          refine Ac09 rfl rfl rfl (OpT_storeAll (r:=501) rfl Try.sizeOf37 rfl rfl rfl (bkC_length rfl) (bkC_length (sha_length _)) (bkC_one ho54) ?_) ?_
          ·
           refine ⟨⟨rfl,rfl,trivial⟩,?_⟩
           refine (Ad9 (by kernel_rfl) ?_)
           refine X_ren 501 182 rfl ?_
           refine X_ren 700 183 rfl ?_
           exact X_cut (g501,v54) ho54 (a9 rfl) (a9 rfl)
          exact An9
         exact An9
        exact An9
       exact An9
      ·
       refine Q9 ?_
       refine W_openS 500 500 rfl (fun gm es hes=>?_)
       obtain ⟨e0,rfl,rfl⟩:=es_some hes
       have hk0:e0.1.key=(sha (pRoot l).pl):=hkey hok hgood
       have hf0:findE (sha (pRoot l).pl) [e0]=some e0:=by simp [findE,hk0]
       have hB:getB (sha (pRoot l).pl) [e0]=e0.1:=by unfold getB; rw [hf0]; rfl
       refine W_draw (N:=13) (by kernel_rfl) rfl [(0,_),(182,_),(203,_),(500,_)] ⟨rfl,rfl,rfl,rfl,trivial⟩ ?_
       refine (T9 0 rfl rfl (Pm9 rfl rfl) (T9 1 rfl rfl (Pu_nilCheck rfl rfl) (T9 2 rfl rfl (F9 1 rfl rfl) (T9 3 rfl rfl (Pb9 (r:=500) rfl Try.isAgg49 rfl rfl rfl) (T9 4 rfl rfl (F9 0 rfl rfl) (T9 5 rfl rfl (Px9 (r:=182) rfl Try.isAgg29 Try.sizeOf29 rfl rfl ((bs_length _).trans (sha_length _)) (bk_key (sha_length _))) (Y9 [6,10] ?_)))))))
       refine Z9 rfl rfl (Or9 (Pu_look (r:=501) rfl rfl rfl (sha_length _) rfl) ⟨⟨rfl,rfl,rfl,rfl,trivial⟩,?_⟩) ?_
       ·
        rw [hB,hf0]
        refine (T9 7 rfl rfl (Pm9 rfl rfl) (T9 8 rfl rfl (Pe9 rfl rfl rfl) (T9 9 rfl rfl (Pe9 rfl rfl rfl) (Y9 [10] ?_))))
        refine Z9 rfl rfl (OpT_alloc (r:=551) (cs:=(bkC zeroId 0 (.slice none 0 0) 0 0)) rfl (zero_run (by kernel_rfl:(Try.prog.info? 37).bind (·.zero)=some (.agg (bkC zeroId 0 (.slice none 0 0) 0 0).toArray))) rfl (fun g551=>⟨⟨rfl,rfl,rfl,rfl,trivial⟩,?_⟩)) ?_
        ·
         refine (Y9 [11] ?_)
         refine Ac09 rfl rfl rfl (OpT_storeAll (r:=551) rfl Try.sizeOf37 rfl rfl rfl (bkC_length rfl) (bvC_length _) (bvC_one _) ?_) ?_
         ·
          refine ⟨⟨rfl,rfl,rfl,rfl,trivial⟩,?_⟩
          refine (T9 12 rfl rfl (Pg9 rfl rfl) (Ad9 (by kernel_rfl) (X9 ?_)))
          refine Q9 ?_
          refine W_block ?_
          refine Q9 (R9 (M9 rfl rfl (M9 rfl rfl (WL_gPT rfl rfl rfl rfl rfl (by decide) (F9 32 rfl rfl) (WL_gPT rfl rfl rfl rfl rfl (by decide) (Pb9 (r:=551) rfl Try.isAgg3 rfl rfl (bk_ver (BV.len _))) (WL_gPT rfl rfl rfl rfl rfl (by decide) (F9 1 rfl rfl) (WL_gPT rfl rfl rfl rfl rfl (by decide) (Pb9 (r:=203) rfl Try.isAgg3 rfl rfl rfl) (WL_gPT rfl rfl rfl rfl rfl (by decide) (Pn9 rfl rfl rfl (run_gtr _ _ _ _ _ _)) (L9 rfl (Pu_pickT rfl rfl rfl rfl) (G9 rfl rfl (N9 (X9 ?_))))))))))))
          refine C9 rfl (fun hc68=>?_) (fun hc68=>?_)
          ·
           have hset:=setO_stale (p:=toS e0) hc23 hok hgood (of_decide_eq_true hc68)
           refine Q9 (R9 (G9 rfl rfl (N9 (X9 ?_))))
           refine W_ret (X_block_ret (X_then_ret ?_))
           refine X_join [500,501,502] 1 (slotP g most (some (toS e0))) rfl (by decide) (fun h hs=>closeS rfl hs) ?_
           exact Xq9 [1] (Ps:=[_]) (res1 Try.results10 rfl) rfl (by decide) ⟨by rw [hset]; try rfl,by rw [hset]; try rfl⟩
          ·
           have hnl:=of_decide_eq_false hc68
           refine Q9 (R9 (M9 rfl rfl (M9 rfl rfl (WL_gPT rfl rfl rfl rfl rfl (by decide) (F9 32 rfl rfl) (WL_gPT rfl rfl rfl rfl rfl (by decide) (Pb9 (r:=551) rfl Try.isAgg3 rfl rfl (bk_ver (BV.len _))) (WL_gPT rfl rfl rfl rfl rfl (by decide) (F9 1 rfl rfl) (WL_gPT rfl rfl rfl rfl rfl (by decide) (Pb9 (r:=203) rfl Try.isAgg3 rfl rfl rfl) (WL_gPT rfl rfl rfl rfl rfl (by decide) (Pn9 rfl rfl rfl (run_eql _ _ _ _ _ _)) (L9 rfl (Pu_pickT rfl rfl rfl rfl) (G9 rfl rfl (N9 (X9 ?_))))))))))))
           refine C9 rfl (fun hc77=>?_) (fun hc77=>?_)
           ·
            have hset:=setO_same (p:=toS e0) hc23 hok hgood hnl (of_decide_eq_true hc77)
            refine Q9 (R9 (L9 rfl (F9 35 rfl rfl) (L9 rfl (Pb9 (r:=551) rfl Try.isAgg3 rfl rfl (bk_exp (BV.len _))) (M9 rfl rfl (L9 rfl (Pu_max rfl rfl rfl) (L9 rfl (F9 35 rfl rfl) (Lc09 rfl rfl (OpT_storeB1 (r:=551) rfl Try.sizeOf3 rfl rfl rfl rfl (by rw [bvC_length]; decide) (bk_set_exp (BV.len _) _) ?_))))))))
            refine (N9 (X9 ?_))
            refine R9 (L9 rfl (Px9 (r:=551) rfl Try.isAgg37 Try.sizeOf37 rfl rfl (bkC_length (BV.len _)) (load_all (bkC_length (BV.len _)))) (Lc09 rfl rfl (OpT_storeAll (r:=182) rfl Try.sizeOf37 rfl rfl rfl (bkC_length (sha_length _)) (bkC_length (BV.len _)) (bkC_one (BV.one _)) ?_)))
            refine (N9 (X_block (X9 ?_)))
            refine Q9 ?_
            refine W_draw (N:=8) (by kernel_rfl) rfl [(0,_),(182,_),(203,_),(500,_),(551,_)] ⟨rfl,rfl,rfl,rfl,rfl,trivial⟩ ?_
            refine (T9 0 rfl rfl (Pm9 rfl rfl) (T9 1 rfl rfl (Pu_nilCheck rfl rfl) (T9 2 rfl rfl (F9 1 rfl rfl) (T9 3 rfl rfl (Pb9 (r:=500) rfl Try.isAgg49 rfl rfl rfl) (T9 4 rfl rfl (F9 0 rfl rfl) (T9 5 rfl rfl (Px9 (r:=182) rfl Try.isAgg29 Try.sizeOf29 rfl rfl ((bs_length _).trans (BV.len _)) (bk_key (BV.len _))) (T9 6 rfl rfl (Px9 (r:=182) rfl Try.isAgg37 Try.sizeOf37 rfl rfl (bkC_length (BV.len _)) (load_all (bkC_length (BV.len _)))) (Y9 [7] ?_))))))))
            refine Ac09 rfl rfl rfl (OpT_mapPutQ (r:=501) (k:=e0.1.key) (es:=entsOf [e0]) (g:=gm) keyB rfl Try.underlying49 rfl rfl (BV.len _) rfl rfl ?_) ?_
            ·
             refine ⟨⟨rfl,rfl,rfl,rfl,rfl,trivial⟩,?_⟩
             refine (Ad9 (by kernel_rfl) (X9 ?_))
             refine Q9 (R9 (G9 rfl rfl (N9 (X9 ?_))))
             refine W_ret ?_
             refine X_turn (P':=mapB gm (entsOf [((⟨(e0.1.key,e0.1.ver,e0.1.sl,e0.1.src,max e0.1.exp exp),e0.1.len,e0.1.one⟩,e0.2):EB)]) none) 501 rfl (fun h hp=>put_turn (e:=e0) rfl hp) ?_
             refine X_turn (P':=datP [((⟨(e0.1.key,e0.1.ver,e0.1.sl,e0.1.src,max e0.1.exp exp),e0.1.len,e0.1.one⟩,e0.2):EB)]) 502 rfl (fun h hp q hq=>by rw [List.mem_singleton.1 hq]; exact hp e0 (List.mem_singleton.2 rfl)) ?_
             refine X_join [500,501,502] 1 (slotP g most (some ⟨e0.1.key,e0.1.ver,e0.2,e0.1.src,max e0.1.exp exp⟩)) rfl (by decide) (fun h hs=>closeS (es:=[((⟨(e0.1.key,e0.1.ver,e0.1.sl,e0.1.src,max e0.1.exp exp),e0.1.len,e0.1.one⟩,e0.2):EB)]) rfl hs) ?_
             exact Xq9 [1] (Ps:=[_]) (res1 Try.results10 rfl) rfl (by decide) ⟨by rw [hset]; try rfl,by rw [hset]; try rfl⟩
            exact An9
           ·
            have hset:=setO_newer (p:=toS e0) hc23 hok hgood hnl (of_decide_eq_false hc77)
            refine Q9 ?_
            refine W_draw (N:=15) (by kernel_rfl) rfl [(0,_),(182,_),(203,_),(500,_),(551,_),(501,_)] ⟨rfl,rfl,rfl,rfl,rfl,rfl,trivial⟩ ?_
            refine (T9 0 rfl rfl (Pm9 rfl rfl) (T9 1 rfl rfl (Pu_un rfl rfl (run_not _)) (T9 2 rfl rfl (Pm9 rfl rfl) (AH_takeF 3 rfl (by kernel_rfl) (by kernel_rfl) (by kernel_rfl) rfl rfl rfl rfl rfl (by decide) (AH_takeF 4 rfl (by kernel_rfl) (by kernel_rfl) (by kernel_rfl) rfl rfl rfl rfl rfl (by decide) (AH_takeF 5 rfl (by kernel_rfl) (by kernel_rfl) (by kernel_rfl) rfl rfl rfl rfl rfl (by decide) (AH_takeF 6 rfl (by kernel_rfl) (by kernel_rfl) (by kernel_rfl) rfl rfl rfl rfl rfl (by decide) (AH_takeF 7 rfl (by kernel_rfl) (by kernel_rfl) (by kernel_rfl) rfl rfl rfl rfl rfl (by decide) (AH_takeF 8 rfl (by kernel_rfl) (by kernel_rfl) (by kernel_rfl) rfl rfl rfl rfl rfl (by decide) (AH_takeF 9 rfl (by kernel_rfl) (by kernel_rfl) (by kernel_rfl) rfl rfl rfl rfl rfl (by decide) (AH_takeF 10 rfl (by kernel_rfl) (by kernel_rfl) (by kernel_rfl) rfl rfl rfl rfl rfl (by decide) (AH_takeF 11 rfl (by kernel_rfl) (by kernel_rfl) (by kernel_rfl) rfl rfl rfl rfl rfl (by decide) (AH_takeF 12 rfl (by kernel_rfl) (by kernel_rfl) (by kernel_rfl) rfl rfl rfl rfl rfl (by decide) (T9 13 rfl rfl (Pu_pickF rfl rfl rfl rfl) (T9 14 rfl rfl (Pg9 rfl rfl) (Ad9 (by kernel_rfl) (X9 ?_)))))))))))))))))
            refine W_false rfl (rfl) ?_
            refine K9 (X_block (X9 ?_))
            refine Q9 ?_
            refine W_draw (N:=8) (by kernel_rfl) rfl [(0,_),(182,_),(203,_),(500,_),(551,_)] ⟨rfl,rfl,rfl,rfl,rfl,trivial⟩ ?_
            refine (T9 0 rfl rfl (Pm9 rfl rfl) (T9 1 rfl rfl (Pu_nilCheck rfl rfl) (T9 2 rfl rfl (F9 1 rfl rfl) (T9 3 rfl rfl (Pb9 (r:=500) rfl Try.isAgg49 rfl rfl rfl) (T9 4 rfl rfl (F9 0 rfl rfl) (T9 5 rfl rfl (Px9 (r:=182) rfl Try.isAgg29 Try.sizeOf29 rfl rfl ((bs_length _).trans (sha_length _)) (bk_key (sha_length _))) (T9 6 rfl rfl (Px9 (r:=182) rfl Try.isAgg37 Try.sizeOf37 rfl rfl (bkC_length (sha_length _)) (load_all (bkC_length (sha_length _)))) (Y9 [7] ?_))))))))
            refine Ac09 rfl rfl rfl (OpT_mapPutQ (r:=501) (k:=(sha (pRoot l).pl)) (es:=entsOf [e0]) (g:=gm) keyB rfl Try.underlying49 rfl rfl (sha_length _) rfl rfl ?_) ?_
            ·
             refine ⟨⟨rfl,rfl,rfl,rfl,rfl,trivial⟩,?_⟩
             refine (Ad9 (by kernel_rfl) (X9 ?_))
             refine Q9 (R9 (G9 rfl rfl (N9 (X9 ?_))))
             refine W_ret ?_
             refine X_turn (P':=mapB gm (entsOf [((⟨((sha (pRoot l).pl),(pRoot l).ver,z.2,src,exp),sha_length _,hzo⟩,l):EB)]) none) 501 rfl (fun h hp=>put_turn (e:=e0) hk0 hp) ?_
             refine X_turn (P':=datP [((⟨((sha (pRoot l).pl),(pRoot l).ver,z.2,src,exp),sha_length _,hzo⟩,l):EB)]) 183 rfl (fun h hp q hq=>by rw [List.mem_singleton.1 hq]; exact rowB_rd _ hp) ?_
             refine X_join [500,501,183] 1 (slotP g most (some ⟨(sha (pRoot l).pl),(pRoot l).ver,l,src,exp⟩)) rfl (by decide) (fun h hs=>closeS (es:=[((⟨((sha (pRoot l).pl),(pRoot l).ver,z.2,src,exp),sha_length _,hzo⟩,l):EB)]) rfl hs) ?_
             exact Xq9 [1] (Ps:=[_]) (res1 Try.results10 rfl) rfl (by decide) ⟨by rw [hset]; try rfl,by rw [hset]; try rfl⟩
            exact An9
         exact An9
        exact An9
       refine Z9 rfl rfl (OpT_alloc (r:=551) (cs:=(bkC zeroId 0 (.slice none 0 0) 0 0)) rfl (zero_run (by kernel_rfl:(Try.prog.info? 37).bind (·.zero)=some (.agg (bkC zeroId 0 (.slice none 0 0) 0 0).toArray))) rfl (fun g551=>⟨⟨rfl,rfl,rfl,rfl,trivial⟩,?_⟩)) ?_
       ·
        refine (Y9 [6] ?_)
        refine Z9 rfl rfl (Or9 (Pu_look (r:=501) rfl rfl rfl (sha_length _) rfl) ⟨⟨rfl,rfl,rfl,rfl,trivial⟩,?_⟩) ?_
        ·
         rw [hB,hf0]
         refine (T9 7 rfl rfl (Pm9 rfl rfl) (T9 8 rfl rfl (Pe9 rfl rfl rfl) (T9 9 rfl rfl (Pe9 rfl rfl rfl) (Y9 [11] ?_))))
         refine Ac09 rfl rfl rfl (OpT_storeAll (r:=551) rfl Try.sizeOf37 rfl rfl rfl (bkC_length rfl) (bvC_length _) (bvC_one _) ?_) ?_
         ·
          refine ⟨⟨rfl,rfl,rfl,rfl,trivial⟩,?_⟩
          refine (T9 12 rfl rfl (Pg9 rfl rfl) (Ad9 (by kernel_rfl) (X9 ?_)))
          refine Q9 ?_
          refine W_block ?_
          refine Q9 (R9 (M9 rfl rfl (M9 rfl rfl (WL_gPT rfl rfl rfl rfl rfl (by decide) (F9 32 rfl rfl) (WL_gPT rfl rfl rfl rfl rfl (by decide) (Pb9 (r:=551) rfl Try.isAgg3 rfl rfl (bk_ver (BV.len _))) (WL_gPT rfl rfl rfl rfl rfl (by decide) (F9 1 rfl rfl) (WL_gPT rfl rfl rfl rfl rfl (by decide) (Pb9 (r:=203) rfl Try.isAgg3 rfl rfl rfl) (WL_gPT rfl rfl rfl rfl rfl (by decide) (Pn9 rfl rfl rfl (run_gtr _ _ _ _ _ _)) (L9 rfl (Pu_pickT rfl rfl rfl rfl) (G9 rfl rfl (N9 (X9 ?_))))))))))))
          refine C9 rfl (fun hc68=>?_) (fun hc68=>?_)
          ·
           have hset:=setO_stale (p:=toS e0) hc23 hok hgood (of_decide_eq_true hc68)
           refine Q9 (R9 (G9 rfl rfl (N9 (X9 ?_))))
           refine W_ret (X_block_ret (X_then_ret ?_))
           refine X_join [500,501,502] 1 (slotP g most (some (toS e0))) rfl (by decide) (fun h hs=>closeS rfl hs) ?_
           exact Xq9 [1] (Ps:=[_]) (res1 Try.results10 rfl) rfl (by decide) ⟨by rw [hset]; try rfl,by rw [hset]; try rfl⟩
          ·
           have hnl:=of_decide_eq_false hc68
           refine Q9 (R9 (M9 rfl rfl (M9 rfl rfl (WL_gPT rfl rfl rfl rfl rfl (by decide) (F9 32 rfl rfl) (WL_gPT rfl rfl rfl rfl rfl (by decide) (Pb9 (r:=551) rfl Try.isAgg3 rfl rfl (bk_ver (BV.len _))) (WL_gPT rfl rfl rfl rfl rfl (by decide) (F9 1 rfl rfl) (WL_gPT rfl rfl rfl rfl rfl (by decide) (Pb9 (r:=203) rfl Try.isAgg3 rfl rfl rfl) (WL_gPT rfl rfl rfl rfl rfl (by decide) (Pn9 rfl rfl rfl (run_eql _ _ _ _ _ _)) (L9 rfl (Pu_pickT rfl rfl rfl rfl) (G9 rfl rfl (N9 (X9 ?_))))))))))))
           refine C9 rfl (fun hc77=>?_) (fun hc77=>?_)
           ·
            have hset:=setO_same (p:=toS e0) hc23 hok hgood hnl (of_decide_eq_true hc77)
            refine Q9 (R9 (L9 rfl (F9 35 rfl rfl) (L9 rfl (Pb9 (r:=551) rfl Try.isAgg3 rfl rfl (bk_exp (BV.len _))) (M9 rfl rfl (L9 rfl (Pu_max rfl rfl rfl) (L9 rfl (F9 35 rfl rfl) (Lc09 rfl rfl (OpT_storeB1 (r:=551) rfl Try.sizeOf3 rfl rfl rfl rfl (by rw [bvC_length]; decide) (bk_set_exp (BV.len _) _) ?_))))))))
            refine (N9 (X9 ?_))
            refine R9 (L9 rfl (Px9 (r:=551) rfl Try.isAgg37 Try.sizeOf37 rfl rfl (bkC_length (BV.len _)) (load_all (bkC_length (BV.len _)))) (Lc09 rfl rfl (OpT_storeAll (r:=182) rfl Try.sizeOf37 rfl rfl rfl (bkC_length (sha_length _)) (bkC_length (BV.len _)) (bkC_one (BV.one _)) ?_)))
            refine (N9 (X_block (X9 ?_)))
            refine Q9 ?_
            refine W_draw (N:=8) (by kernel_rfl) rfl [(0,_),(182,_),(203,_),(500,_),(551,_)] ⟨rfl,rfl,rfl,rfl,rfl,trivial⟩ ?_
            refine (T9 0 rfl rfl (Pm9 rfl rfl) (T9 1 rfl rfl (Pu_nilCheck rfl rfl) (T9 2 rfl rfl (F9 1 rfl rfl) (T9 3 rfl rfl (Pb9 (r:=500) rfl Try.isAgg49 rfl rfl rfl) (T9 4 rfl rfl (F9 0 rfl rfl) (T9 5 rfl rfl (Px9 (r:=182) rfl Try.isAgg29 Try.sizeOf29 rfl rfl ((bs_length _).trans (BV.len _)) (bk_key (BV.len _))) (T9 6 rfl rfl (Px9 (r:=182) rfl Try.isAgg37 Try.sizeOf37 rfl rfl (bkC_length (BV.len _)) (load_all (bkC_length (BV.len _)))) (Y9 [7] ?_))))))))
            refine Ac09 rfl rfl rfl (OpT_mapPutQ (r:=501) (k:=e0.1.key) (es:=entsOf [e0]) (g:=gm) keyB rfl Try.underlying49 rfl rfl (BV.len _) rfl rfl ?_) ?_
            ·
             refine ⟨⟨rfl,rfl,rfl,rfl,rfl,trivial⟩,?_⟩
             refine (Ad9 (by kernel_rfl) (X9 ?_))
             refine Q9 (R9 (G9 rfl rfl (N9 (X9 ?_))))
             refine W_ret ?_
             refine X_turn (P':=mapB gm (entsOf [((⟨(e0.1.key,e0.1.ver,e0.1.sl,e0.1.src,max e0.1.exp exp),e0.1.len,e0.1.one⟩,e0.2):EB)]) none) 501 rfl (fun h hp=>put_turn (e:=e0) rfl hp) ?_
             refine X_turn (P':=datP [((⟨(e0.1.key,e0.1.ver,e0.1.sl,e0.1.src,max e0.1.exp exp),e0.1.len,e0.1.one⟩,e0.2):EB)]) 502 rfl (fun h hp q hq=>by rw [List.mem_singleton.1 hq]; exact hp e0 (List.mem_singleton.2 rfl)) ?_
             refine X_join [500,501,502] 1 (slotP g most (some ⟨e0.1.key,e0.1.ver,e0.2,e0.1.src,max e0.1.exp exp⟩)) rfl (by decide) (fun h hs=>closeS (es:=[((⟨(e0.1.key,e0.1.ver,e0.1.sl,e0.1.src,max e0.1.exp exp),e0.1.len,e0.1.one⟩,e0.2):EB)]) rfl hs) ?_
             exact Xq9 [1] (Ps:=[_]) (res1 Try.results10 rfl) rfl (by decide) ⟨by rw [hset]; try rfl,by rw [hset]; try rfl⟩
            exact An9
           ·
            have hset:=setO_newer (p:=toS e0) hc23 hok hgood hnl (of_decide_eq_false hc77)
            refine Q9 ?_
            refine W_draw (N:=15) (by kernel_rfl) rfl [(0,_),(182,_),(203,_),(500,_),(551,_),(501,_)] ⟨rfl,rfl,rfl,rfl,rfl,rfl,trivial⟩ ?_
            refine (T9 0 rfl rfl (Pm9 rfl rfl) (T9 1 rfl rfl (Pu_un rfl rfl (run_not _)) (T9 2 rfl rfl (Pm9 rfl rfl) (AH_takeF 3 rfl (by kernel_rfl) (by kernel_rfl) (by kernel_rfl) rfl rfl rfl rfl rfl (by decide) (AH_takeF 4 rfl (by kernel_rfl) (by kernel_rfl) (by kernel_rfl) rfl rfl rfl rfl rfl (by decide) (AH_takeF 5 rfl (by kernel_rfl) (by kernel_rfl) (by kernel_rfl) rfl rfl rfl rfl rfl (by decide) (AH_takeF 6 rfl (by kernel_rfl) (by kernel_rfl) (by kernel_rfl) rfl rfl rfl rfl rfl (by decide) (AH_takeF 7 rfl (by kernel_rfl) (by kernel_rfl) (by kernel_rfl) rfl rfl rfl rfl rfl (by decide) (AH_takeF 8 rfl (by kernel_rfl) (by kernel_rfl) (by kernel_rfl) rfl rfl rfl rfl rfl (by decide) (AH_takeF 9 rfl (by kernel_rfl) (by kernel_rfl) (by kernel_rfl) rfl rfl rfl rfl rfl (by decide) (AH_takeF 10 rfl (by kernel_rfl) (by kernel_rfl) (by kernel_rfl) rfl rfl rfl rfl rfl (by decide) (AH_takeF 11 rfl (by kernel_rfl) (by kernel_rfl) (by kernel_rfl) rfl rfl rfl rfl rfl (by decide) (AH_takeF 12 rfl (by kernel_rfl) (by kernel_rfl) (by kernel_rfl) rfl rfl rfl rfl rfl (by decide) (T9 13 rfl rfl (Pu_pickF rfl rfl rfl rfl) (T9 14 rfl rfl (Pg9 rfl rfl) (Ad9 (by kernel_rfl) (X9 ?_)))))))))))))))))
            refine W_false rfl (rfl) ?_
            refine K9 (X_block (X9 ?_))
            refine Q9 ?_
            refine W_draw (N:=8) (by kernel_rfl) rfl [(0,_),(182,_),(203,_),(500,_),(551,_)] ⟨rfl,rfl,rfl,rfl,rfl,trivial⟩ ?_
            refine (T9 0 rfl rfl (Pm9 rfl rfl) (T9 1 rfl rfl (Pu_nilCheck rfl rfl) (T9 2 rfl rfl (F9 1 rfl rfl) (T9 3 rfl rfl (Pb9 (r:=500) rfl Try.isAgg49 rfl rfl rfl) (T9 4 rfl rfl (F9 0 rfl rfl) (T9 5 rfl rfl (Px9 (r:=182) rfl Try.isAgg29 Try.sizeOf29 rfl rfl ((bs_length _).trans (sha_length _)) (bk_key (sha_length _))) (T9 6 rfl rfl (Px9 (r:=182) rfl Try.isAgg37 Try.sizeOf37 rfl rfl (bkC_length (sha_length _)) (load_all (bkC_length (sha_length _)))) (Y9 [7] ?_))))))))
            refine Ac09 rfl rfl rfl (OpT_mapPutQ (r:=501) (k:=(sha (pRoot l).pl)) (es:=entsOf [e0]) (g:=gm) keyB rfl Try.underlying49 rfl rfl (sha_length _) rfl rfl ?_) ?_
            ·
             refine ⟨⟨rfl,rfl,rfl,rfl,rfl,trivial⟩,?_⟩
             refine (Ad9 (by kernel_rfl) (X9 ?_))
             refine Q9 (R9 (G9 rfl rfl (N9 (X9 ?_))))
             refine W_ret ?_
             refine X_turn (P':=mapB gm (entsOf [((⟨((sha (pRoot l).pl),(pRoot l).ver,z.2,src,exp),sha_length _,hzo⟩,l):EB)]) none) 501 rfl (fun h hp=>put_turn (e:=e0) hk0 hp) ?_
             refine X_turn (P':=datP [((⟨((sha (pRoot l).pl),(pRoot l).ver,z.2,src,exp),sha_length _,hzo⟩,l):EB)]) 183 rfl (fun h hp q hq=>by rw [List.mem_singleton.1 hq]; exact rowB_rd _ hp) ?_
             refine X_join [500,501,183] 1 (slotP g most (some ⟨(sha (pRoot l).pl),(pRoot l).ver,l,src,exp⟩)) rfl (by decide) (fun h hs=>closeS (es:=[((⟨((sha (pRoot l).pl),(pRoot l).ver,z.2,src,exp),sha_length _,hzo⟩,l):EB)]) rfl hs) ?_
             exact Xq9 [1] (Ps:=[_]) (res1 Try.results10 rfl) rfl (by decide) ⟨by rw [hset]; try rfl,by rw [hset]; try rfl⟩
            exact An9
         exact An9
        exact An9
       exact An9
    exact An9
   exact An9
theorem setS_opt (g:Nat) (most:Int) (hm:1≤most) (v:Value) (l:List UInt8) (hl:l.length≤1000000) (src exp now:Int) (o:Option S1) (hkey:∀ p,o=some p→(pRootE l=0→chkL l=0→p.key=sha (pRoot l).pl)∧now < p.exp) (F:HP) (hF:∀ h,F h→rdB v l h):CallsS Try.prog 10 #[.pointer (some ⟨g,0,none⟩),v,.int .i64 src,.int .i64 exp,.int .i64 now] F [slotP g most o] (fun r Ps=>r = .int .i64 (setO o l src exp now).1∧Ps=[slotP g most (setO o l src exp now).2]):=by
  cases o with
  | none=>exact setS_none g most hm v l hl src exp now F hF
  | some p=>exact setS_live g most hm v l hl src exp now p (hkey p rfl).1 (hkey p rfl).2 F hF
open Go.RowKit
def pw (i:Nat):Nat:=2 ^ (64 * i)
theorem pw_pos (i:Nat):0 < pw i:=Nat.pow_pos (by decide)
theorem pw_succ (i:Nat):pw (i + 1)=pw i * 2 ^ 64:=by unfold pw; rw [Nat.mul_add,Nat.mul_one,Nat.pow_add]
def laneN (X i:Nat):Nat:=X / pw i % 2 ^ 64
def VB (b X:Nat):Prop:=∀ i,laneN X i≤b
theorem VB.le {b c X:Nat} (h:VB b X) (hc:b≤c):VB c X:=fun i=>Nat.le_trans (h i) hc
theorem lane_xor (X Y i:Nat):laneN (X ^^^ Y) i=laneN X i ^^^ laneN Y i:=by unfold laneN pw; rw [Nat.xor_div_two_pow,Nat.xor_mod_two_pow]
theorem lane_and (X Y i:Nat):laneN (X &&& Y) i=laneN X i &&& laneN Y i:=by unfold laneN pw; rw [Nat.and_div_two_pow,Nat.and_mod_two_pow]
theorem lane_or (X Y i:Nat):laneN (X ||| Y) i=laneN X i ||| laneN Y i:=by unfold laneN pw; rw [Nat.or_div_two_pow,Nat.or_mod_two_pow]
theorem div_pw_succ (X i:Nat):X / pw (i + 1)=X / pw i / 2 ^ 64:=by rw [pw_succ,Nat.div_div_eq_div_mul]
theorem add_div_no {U V B:Nat} (hB:0 < B) (h:U % B + V % B < B):(U + V) / B=U / B + V / B:=by
  have h1:=Nat.div_add_mod U B
  have h2:=Nat.div_add_mod V B
  have h3:U + V=(U % B + V % B) + B * (U / B + V / B):=by rw [Nat.mul_add]; omega
  rw [h3,Nat.add_mul_div_left _ _ hB,Nat.div_eq_of_lt h,Nat.zero_add]
theorem div_add_lanes {b c X Y:Nat} (hX:VB b X) (hY:VB c Y) (h:b + c < 2 ^ 64):∀ i,(X + Y) / pw i=X / pw i + Y / pw i
  | 0=>by unfold pw; simp
  | i + 1=>by
    have h1:=hX i
    have h2:=hY i
    unfold laneN at h1 h2
    rw [div_pw_succ,div_pw_succ,div_pw_succ,div_add_lanes hX hY h i,add_div_no (by decide) (by omega)]
theorem lane_add {b c X Y:Nat} (hX:VB b X) (hY:VB c Y) (h:b + c < 2 ^ 64) (i:Nat):laneN (X + Y) i=laneN X i + laneN Y i:=by
  have h1:=hX i
  have h2:=hY i
  unfold laneN at h1 h2 ⊢
  rw [div_add_lanes hX hY h,Nat.add_mod,Nat.mod_eq_of_lt (a:=X / pw i % 2 ^ 64 + Y / pw i % 2 ^ 64) (by omega)]
theorem VB_add {b c X Y:Nat} (hX:VB b X) (hY:VB c Y) (h:b + c < 2 ^ 64):VB (b + c) (X + Y):=fun i=>by
  rw [lane_add hX hY h]
  exact Nat.add_le_add (hX i) (hY i)
theorem div_mul_lanes {b k X:Nat} (hX:VB b X) (h:k * b < 2 ^ 64):∀ i,(k * X) / pw i=k * (X / pw i)
  | 0=>by unfold pw; simp
  | i + 1=>by
    have h1:=hX i
    unfold laneN at h1
    rw [div_pw_succ,div_pw_succ,div_mul_lanes hX h i]
    have h2:k * (X / pw i % 2 ^ 64) < 2 ^ 64:=Nat.lt_of_le_of_lt (Nat.mul_le_mul_left k h1) h
    have h3:k * (X / pw i)=k * (X / pw i % 2 ^ 64) + 2 ^ 64 * (k * (X / pw i / 2 ^ 64)):=by
      have:=Nat.div_add_mod (X / pw i) (2 ^ 64)
      rw [← Nat.mul_left_comm k,← Nat.mul_add,Nat.add_comm,this]
    rw [h3,Nat.add_mul_div_left _ _ (by decide),Nat.div_eq_of_lt h2,Nat.zero_add]
theorem lane_mul {b k X:Nat} (hX:VB b X) (h:k * b < 2 ^ 64) (i:Nat):laneN (k * X) i=k * laneN X i:=by
  have h1:=hX i
  unfold laneN at h1 ⊢
  rw [div_mul_lanes hX h]
  generalize X / pw i=U at h1
  have h2:k * (U % 2 ^ 64) < 2 ^ 64:=Nat.lt_of_le_of_lt (Nat.mul_le_mul_left k h1) h
  have h3:k * U=k * (U % 2 ^ 64) + 2 ^ 64 * (k * (U / 2 ^ 64)):=by
    have:=Nat.div_add_mod U (2 ^ 64)
    rw [← Nat.mul_left_comm k,← Nat.mul_add,Nat.add_comm,this]
  rw [h3,Nat.add_mul_mod_self_left,Nat.mod_eq_of_lt h2]
theorem VB_mul {b k X:Nat} (hX:VB b X) (h:k * b < 2 ^ 64):VB (k * b) (k * X):=fun i=>by
  rw [lane_mul hX h]
  exact Nat.mul_le_mul_left k (hX i)
theorem lane_shl {b s X:Nat} (hX:VB b X) (h:2 ^ s * b < 2 ^ 64) (i:Nat):laneN (X <<< s) i=2 ^ s * laneN X i:=by
  rw [Nat.shiftLeft_eq,Nat.mul_comm]
  exact lane_mul hX h i
theorem VB_shl {b s X:Nat} (hX:VB b X) (h:2 ^ s * b < 2 ^ 64):VB (2 ^ s * b) (X <<< s):=fun i=>by
  rw [lane_shl hX h]
  exact Nat.mul_le_mul_left _ (hX i)
theorem lane_shr (X n i:Nat) (hn:n≤32):laneN (X >>> n) i % 2 ^ 32=(laneN X i >>> n) % 2 ^ 32:=by
  unfold laneN
  rw [Nat.shiftRight_eq_div_pow,Nat.shiftRight_eq_div_pow]
  have h1:X / 2 ^ n / pw i=X / pw i / 2 ^ n:=by rw [Nat.div_div_eq_div_mul,Nat.div_div_eq_div_mul,Nat.mul_comm]
  rw [h1]
  generalize X / pw i=U
  have h2:(2:Nat) ^ 64=2 ^ n * 2 ^ (64 - n):=by rw [← Nat.pow_add]; congr 1; omega
  have h3:U % 2 ^ 64 / 2 ^ n=U / 2 ^ n % 2 ^ (64 - n):=by rw [h2,Nat.mod_mul_right_div_self]
  rw [h3,Nat.mod_mod_of_dvd _ (show 2 ^ 32 ∣ 2 ^ 64 from Nat.pow_dvd_pow 2 (by decide)),Nat.mod_mod_of_dvd _ (Nat.pow_dvd_pow 2 (show 32≤64 - n by omega))]
def packN (f:Nat→Nat):Nat→Nat
  | 0=>0
  | n + 1=>packN f n + f n * pw n
theorem pack_lt {f:Nat→Nat} (hf:∀ i,f i < 2 ^ 64):∀ n,packN f n < pw n
  | 0=>pw_pos 0
  | n + 1=>by
    have h1:=pack_lt hf n
    have h2:=Nat.mul_le_mul_right (pw n) (show f n≤2 ^ 64 - 1 by have:=hf n; omega)
    rw [packN,pw_succ]
    have h3:pw n * 2 ^ 64=(2 ^ 64 - 1) * pw n + pw n:=by omega
    omega
theorem pw_le {i j:Nat} (h:i≤j):pw i≤pw j:=Nat.pow_le_pow_right (by decide) (by omega)
theorem pw_add (i j:Nat):pw (i + j)=pw i * pw j:=by unfold pw; rw [Nat.mul_add,Nat.pow_add]
theorem lane_pack {f:Nat→Nat} (hf:∀ i,f i < 2 ^ 64):∀ n i,laneN (packN f n) i=if i < n then f i else 0
  | 0,i=>by rw [packN,if_neg (Nat.not_lt_zero i)]; unfold laneN; simp
  | n + 1,i=>by
    have hlt:=pack_lt hf n
    rw [packN]
    rcases Nat.lt_trichotomy i n with h | h | h
    · have ih:=lane_pack hf n i
      rw [if_pos h] at ih
      rw [if_pos (by omega),← ih]
      unfold laneN
      have e:f n * pw n=pw i * (2 ^ 64 * (f n * pw (n - (i + 1)))):=by
        have e1:n=i + (1 + (n - (i + 1))):=by omega
        have e2:pw n=pw i * (2 ^ 64 * pw (n - (i + 1))):=by
          conv=>lhs; rw [e1,pw_add,pw_add]
          rfl
        rw [e2]
        simp only [Nat.mul_left_comm,Nat.mul_assoc]
      rw [e,Nat.add_mul_div_left _ _ (pw_pos i),Nat.add_mul_mod_self_left]
    · subst h
      rw [if_pos (by omega)]
      unfold laneN
      rw [Nat.add_mul_div_right _ _ (pw_pos i),Nat.div_eq_of_lt hlt,Nat.zero_add,Nat.mod_eq_of_lt (hf i)]
    · rw [if_neg (by omega)]
      unfold laneN
      have h1:=pack_lt hf (n + 1)
      rw [packN] at h1
      rw [Nat.div_eq_of_lt (Nat.lt_of_lt_of_le h1 (pw_le (by omega)))]
def ones (n:Nat):Nat:=packN (fun _=>1) n
theorem lane_ones (n i:Nat):laneN (ones n) i=if i < n then 1 else 0:=lane_pack (fun _=>by decide) n i
theorem VB_ones (n:Nat):VB 1 (ones n):=fun i=>by rw [lane_ones]; split <;> omega
theorem lane_const {k:Nat} (hk:k < 2 ^ 64) (n i:Nat):laneN (k * ones n) i=if i < n then k else 0:=by
  rw [lane_mul (VB_ones n) (by omega),lane_ones]
  split <;> omega
theorem VB_const {k:Nat} (hk:k < 2 ^ 64) (n:Nat):VB k (k * ones n):=fun i=>by rw [lane_const hk]; split <;> omega
theorem VB_and_left {b X Y:Nat} (h:VB b Y):VB b (X &&& Y):=fun i=>by
  rw [lane_and]
  exact Nat.le_trans Nat.and_le_right (h i)
open Go.RowKit
def ew (i X:Nat):UInt32:=UInt32.ofNat (laneN X i)
structure Lb (N b X:Nat) (x:Nat→UInt32):Prop where
  vb:VB b X
  eq:∀ i,i < N→ew i X=x i
abbrev Lw (N X:Nat) (x:Nat→UInt32):Prop:=Lb N (2 ^ 32 - 1) X x
theorem ofNat_toNat32 (n:Nat):(UInt32.ofNat n).toNat=n % 2 ^ 32:=UInt32.toNat_ofNat'
theorem u32_ext {a b:UInt32} (h:a.toNat=b.toNat):a=b:=UInt32.toNat_inj.1 h
theorem ofNat_xor32 (a b:Nat):UInt32.ofNat (a ^^^ b)=UInt32.ofNat a ^^^ UInt32.ofNat b:=u32_ext (by rw [UInt32.toNat_xor,ofNat_toNat32,ofNat_toNat32,ofNat_toNat32,Nat.xor_mod_two_pow])
theorem ofNat_and32 (a b:Nat):UInt32.ofNat (a &&& b)=UInt32.ofNat a &&& UInt32.ofNat b:=u32_ext (by rw [UInt32.toNat_and,ofNat_toNat32,ofNat_toNat32,ofNat_toNat32,Nat.and_mod_two_pow])
theorem ofNat_or32 (a b:Nat):UInt32.ofNat (a ||| b)=UInt32.ofNat a ||| UInt32.ofNat b:=u32_ext (by rw [UInt32.toNat_or,ofNat_toNat32,ofNat_toNat32,ofNat_toNat32,Nat.or_mod_two_pow])
theorem ofNat_mod32 (a:Nat):UInt32.ofNat (a % 2 ^ 32)=UInt32.ofNat a:=u32_ext (by rw [ofNat_toNat32,ofNat_toNat32,Nat.mod_mod])
theorem ew_xor (X Y i:Nat):ew i (X ^^^ Y)=ew i X ^^^ ew i Y:=by unfold ew; rw [lane_xor,ofNat_xor32]
theorem ew_and (X Y i:Nat):ew i (X &&& Y)=ew i X &&& ew i Y:=by unfold ew; rw [lane_and,ofNat_and32]
theorem ew_or (X Y i:Nat):ew i (X ||| Y)=ew i X ||| ew i Y:=by unfold ew; rw [lane_or,ofNat_or32]
section
variable {N b c X Y:Nat} {x y:Nat→UInt32}
theorem Lb.add (hX:Lb N b X x) (hY:Lb N c Y y) (h:b + c < 2 ^ 64):Lb N (b + c) (X + Y) (fun i=>x i + y i):=⟨VB_add hX.vb hY.vb h,fun i hi=>by
  rw [← hX.eq i hi,← hY.eq i hi]
  unfold ew
  rw [lane_add hX.vb hY.vb h,UInt32.ofNat_add]⟩
theorem VB_xor (hX:VB (2 ^ 32 - 1) X) (hY:VB (2 ^ 32 - 1) Y):VB (2 ^ 32 - 1) (X ^^^ Y):=fun i=>by
  rw [lane_xor]
  have:=Nat.xor_lt_two_pow (n:=32) (show laneN X i < 2 ^ 32 by have:=hX i; omega) (show laneN Y i < 2 ^ 32 by have:=hY i; omega)
  omega
theorem VB_or (hX:VB (2 ^ 32 - 1) X) (hY:VB (2 ^ 32 - 1) Y):VB (2 ^ 32 - 1) (X ||| Y):=fun i=>by
  rw [lane_or]
  have:=Nat.or_lt_two_pow (n:=32) (show laneN X i < 2 ^ 32 by have:=hX i; omega) (show laneN Y i < 2 ^ 32 by have:=hY i; omega)
  omega
theorem Lb.xor (hX:Lw N X x) (hY:Lw N Y y):Lw N (X ^^^ Y) (fun i=>x i ^^^ y i):=⟨VB_xor hX.vb hY.vb,fun i hi=>by rw [ew_xor,hX.eq i hi,hY.eq i hi]⟩
theorem Lb.and (hX:Lw N X x) (hY:Lw N Y y):Lw N (X &&& Y) (fun i=>x i &&& y i):=⟨VB_and_left hY.vb,fun i hi=>by rw [ew_and,hX.eq i hi,hY.eq i hi]⟩
theorem Lb.or (hX:Lw N X x) (hY:Lw N Y y):Lw N (X ||| Y) (fun i=>x i ||| y i):=⟨VB_or hX.vb hY.vb,fun i hi=>by rw [ew_or,hX.eq i hi,hY.eq i hi]⟩
def msk (N:Nat):Nat:=(2 ^ 32 - 1) * ones N
theorem lane_msk (N i:Nat):laneN (msk N) i=if i < N then 2 ^ 32 - 1 else 0:=lane_const (by decide) N i
theorem VB_msk (N:Nat):VB (2 ^ 32 - 1) (msk N):=VB_const (by decide) N
theorem Lw.mask (h:∀ i,i < N→ew i X=x i):Lw N (X &&& msk N) x:=⟨VB_and_left (VB_msk N),fun i hi=>by
  rw [← h i hi,ew_and]
  unfold ew
  rw [lane_msk,if_pos hi,← ofNat_and32,Nat.and_two_pow_sub_one_eq_mod,ofNat_mod32]⟩
theorem Lw.const {k:Nat} (hk:k < 2 ^ 32):Lw N (k * ones N) (fun _=>UInt32.ofNat k):=⟨(VB_const (by omega) N).le (by omega),fun i hi=>by unfold ew; rw [lane_const (by omega),if_pos hi]⟩
theorem Lb.toNat (h:Lw N X x) {i:Nat} (hi:i < N):laneN X i=(x i).toNat:=by
  rw [← h.eq i hi]
  unfold ew
  rw [ofNat_toNat32,Nat.mod_eq_of_lt]
  have:=h.vb i
  omega
def dblP (X:Nat):Nat:=Nat.lor X (Nat.shiftLeft X 32)
theorem lane_dbl (h:VB (2 ^ 32 - 1) X) (i:Nat):laneN (dblP X) i=laneN X i ||| (laneN X i <<< 32):=by
  show laneN (X ||| (X <<< 32)) i=_
  rw [lane_or,lane_shl h (by decide),Nat.shiftLeft_eq,Nat.mul_comm]
theorem ew_shr (X n i:Nat) (hn:n≤32):ew i (X >>> n)=UInt32.ofNat (laneN X i >>> n):=by
  unfold ew
  rw [← ofNat_mod32,lane_shr X n i hn,ofNat_mod32]
theorem rot_two {v n:Nat} (hv:v < 2 ^ 32) (h0:0 < n) (hn:n < 32):UInt32.ofNat ((v ||| (v <<< 32)) >>> n)=rotr (UInt32.ofNat v) n:=by
  refine u32_ext (Nat.eq_of_testBit_eq fun j=>?_)
  unfold rotr
  rw [ofNat_toNat32,UInt32.toNat_or,UInt32.toNat_shiftRight,UInt32.toNat_shiftLeft,ofNat_toNat32,ofNat_toNat32,ofNat_toNat32]
  rw [Nat.mod_eq_of_lt hv,Nat.mod_eq_of_lt (show n < 2 ^ 32 by omega),Nat.mod_eq_of_lt hn,Nat.mod_eq_of_lt (show 32 - n < 2 ^ 32 by omega),Nat.mod_eq_of_lt (show 32 - n < 32 by omega)]
  rw [Nat.testBit_mod_two_pow,Nat.testBit_or,Nat.testBit_shiftRight,Nat.testBit_shiftRight,Nat.testBit_or,Nat.testBit_shiftLeft,Nat.testBit_mod_two_pow,Nat.testBit_shiftLeft]
  by_cases hj:j < 32
  · have e:n + j - 32=j - (32 - n):=by omega
    by_cases h2:32≤n + j
    · rw [decide_eq_true hj,decide_eq_true (show n + j ≥ 32 from h2),decide_eq_true (show j ≥ 32 - n by omega),e]
      simp
    · rw [decide_eq_true hj,decide_eq_false (show ¬ n + j ≥ 32 from h2),decide_eq_false (show ¬ j ≥ 32 - n by omega)]
      simp
  · have h3:v.testBit (n + j)=false:=Nat.testBit_lt_two_pow (Nat.lt_of_lt_of_le hv (Nat.pow_le_pow_right (by decide) (by omega)))
    rw [decide_eq_false hj,h3]
    simp
theorem ew_rot (h:Lw N X x) {i n:Nat} (hi:i < N) (h0:0 < n) (hn:n < 32):ew i (dblP X >>> n)=rotr (x i) n:=by
  rw [ew_shr _ _ _ (by omega),lane_dbl h.vb,rot_two (by have:=h.vb i; omega) h0 hn,← h.eq i hi]
  rfl
theorem ofNat_shr32 {v n:Nat} (hv:v < 2 ^ 32) (hn:n < 32):UInt32.ofNat (v >>> n)=UInt32.ofNat v >>> UInt32.ofNat n:=by
  refine u32_ext ?_
  rw [ofNat_toNat32,UInt32.toNat_shiftRight,ofNat_toNat32,ofNat_toNat32,Nat.mod_eq_of_lt hv,Nat.mod_eq_of_lt (show n < 2 ^ 32 by omega),Nat.mod_eq_of_lt hn,Nat.mod_eq_of_lt]
  exact Nat.lt_of_le_of_lt (by rw [Nat.shiftRight_eq_div_pow]; exact Nat.div_le_self _ _) hv
theorem ew_shrW (h:Lw N X x) {i n:Nat} (hi:i < N) (hn:n < 32):ew i (X >>> n)=x i >>> UInt32.ofNat n:=by
  rw [ew_shr _ _ _ (by omega),ofNat_shr32 (by have:=h.vb i; omega) hn,← h.eq i hi]
  rfl
end
section
variable {N X Y Z:Nat} {x y z:Nat→UInt32}
def rot3P (M E p q r:Nat):Nat:=Nat.land (Nat.xor (Nat.xor (Nat.shiftRight E p) (Nat.shiftRight E q)) (Nat.shiftRight E r)) M
theorem rot3_gr0 (h:Lw N X x):Lw N (rot3P (msk N) (dblP X) 2 13 22) (fun i=>gr0 (x i)):=Lw.mask fun i hi=>by
  show ew i ((dblP X >>> 2 ^^^ dblP X >>> 13) ^^^ dblP X >>> 22)=_
  rw [ew_xor,ew_xor,ew_rot h hi (by decide) (by decide),ew_rot h hi (by decide) (by decide),ew_rot h hi (by decide) (by decide)]
  rfl
theorem rot3_gr1 (h:Lw N X x):Lw N (rot3P (msk N) (dblP X) 6 11 25) (fun i=>gr1 (x i)):=Lw.mask fun i hi=>by
  show ew i ((dblP X >>> 6 ^^^ dblP X >>> 11) ^^^ dblP X >>> 25)=_
  rw [ew_xor,ew_xor,ew_rot h hi (by decide) (by decide),ew_rot h hi (by decide) (by decide),ew_rot h hi (by decide) (by decide)]
  rfl
def rot2P (M E X p q r:Nat):Nat:=Nat.land (Nat.xor (Nat.xor (Nat.shiftRight E p) (Nat.shiftRight E q)) (Nat.shiftRight X r)) M
theorem rot2_sm0 (h:Lw N X x):Lw N (rot2P (msk N) (dblP X) X 7 18 3) (fun i=>sm0 (x i)):=Lw.mask fun i hi=>by
  show ew i ((dblP X >>> 7 ^^^ dblP X >>> 18) ^^^ X >>> 3)=_
  rw [ew_xor,ew_xor,ew_rot h hi (by decide) (by decide),ew_rot h hi (by decide) (by decide),ew_shrW h hi (by decide)]
  rfl
theorem rot2_sm1 (h:Lw N X x):Lw N (rot2P (msk N) (dblP X) X 17 19 10) (fun i=>sm1 (x i)):=Lw.mask fun i hi=>by
  show ew i ((dblP X >>> 17 ^^^ dblP X >>> 19) ^^^ X >>> 10)=_
  rw [ew_xor,ew_xor,ew_rot h hi (by decide) (by decide),ew_rot h hi (by decide) (by decide),ew_shrW h hi (by decide)]
  rfl
theorem u32_bits {a b:UInt32} (h:∀ j,j < 32→a.toNat.testBit j=b.toNat.testBit j):a=b:=by
  refine u32_ext (Nat.eq_of_testBit_eq fun j=>?_)
  by_cases hj:j < 32
  · exact h j hj
  · have e:∀ c:UInt32,c.toNat.testBit j=false:=fun c=>Nat.testBit_lt_two_pow (Nat.lt_of_lt_of_le c.toNat_lt (Nat.pow_le_pow_right (by decide) (show 32≤j by omega)))
    rw [e a,e b]
theorem not_bit (a:UInt32) {j:Nat} (hj:j < 32):(~~~ a).toNat.testBit j = !a.toNat.testBit j:=by
  rw [UInt32.toNat_not,show UInt32.size - 1 - a.toNat=2 ^ 32 - (a.toNat + 1) by show 4294967296 - 1 - a.toNat=_; omega,Nat.testBit_two_pow_sub_succ a.toNat_lt,decide_eq_true hj,Bool.true_and]
theorem ch_eq (e f g:UInt32):g ^^^ (e &&& (f ^^^ g))=(e &&& f) ^^^ (~~~ e &&& g):=u32_bits fun j hj=>by
  rw [UInt32.toNat_xor,UInt32.toNat_and,UInt32.toNat_xor,UInt32.toNat_xor,UInt32.toNat_and,UInt32.toNat_and,Nat.testBit_xor,Nat.testBit_and,Nat.testBit_xor,Nat.testBit_xor,Nat.testBit_and,Nat.testBit_and,not_bit e hj]
  cases e.toNat.testBit j <;> cases f.toNat.testBit j <;> cases g.toNat.testBit j <;> rfl
theorem maj_eq (a b c:UInt32):(a &&& b) ^^^ (c &&& (a ^^^ b))=(a &&& b) ^^^ (a &&& c) ^^^ (b &&& c):=u32_bits fun j hj=>by
  simp only [UInt32.toNat_xor,UInt32.toNat_and,Nat.testBit_xor,Nat.testBit_and]
  cases a.toNat.testBit j <;> cases b.toNat.testBit j <;> cases c.toNat.testBit j <;> rfl
def chP (e f g:Nat):Nat:=Nat.xor g (Nat.land e (Nat.xor f g))
def majP (a b c:Nat):Nat:=Nat.xor (Nat.land a b) (Nat.land c (Nat.xor a b))
theorem Lw.ch {e f g:Nat} {ee ff gg:Nat→UInt32} (he:Lw N e ee) (hf:Lw N f ff) (hg:Lw N g gg):Lw N (chP e f g) (fun i=>(ee i &&& ff i) ^^^ (~~~ ee i &&& gg i)):=by
  have:=hg.xor (he.and (hf.xor hg))
  exact ⟨this.vb,fun i hi=>(this.eq i hi).trans (ch_eq _ _ _)⟩
theorem Lw.maj {a b c:Nat} {aa bb cc:Nat→UInt32} (ha:Lw N a aa) (hb:Lw N b bb) (hc:Lw N c cc):Lw N (majP a b c) (fun i=>(aa i &&& bb i) ^^^ (aa i &&& cc i) ^^^ (bb i &&& cc i)):=by
  have:=(ha.and hb).xor (hc.and (ha.xor hb))
  exact ⟨this.vb,fun i hi=>(this.eq i hi).trans (maj_eq _ _ _)⟩
end
open Go.RowKit
noncomputable def frc (x:Nat) (k:Nat→Bool):Bool:=@Bool.rec (fun _=>Bool) false (k x) (Nat.beq x x)
theorem frc_eq (x:Nat) (k:Nat→Bool):frc x k=k x:=by
  unfold frc
  rw [show Nat.beq x x=true from Nat.beq_refl x]
def KN:List Nat:=[0x428a2f98,0x71374491,0xb5c0fbcf,0xe9b5dba5,0x3956c25b,0x59f111f1,0x923f82a4,0xab1c5ed5,0xd807aa98,0x12835b01,0x243185be,0x550c7dc3,0x72be5d74,0x80deb1fe,0x9bdc06a7,0xc19bf174,0xe49b69c1,0xefbe4786,0x0fc19dc6,0x240ca1cc,0x2de92c6f,0x4a7484aa,0x5cb0a9dc,0x76f988da,0x983e5152,0xa831c66d,0xb00327c8,0xbf597fc7,0xc6e00bf3,0xd5a79147,0x06ca6351,0x14292967,0x27b70a85,0x2e1b2138,0x4d2c6dfc,0x53380d13,0x650a7354,0x766a0abb,0x81c2c92e,0x92722c85,0xa2bfe8a1,0xa81a664b,0xc24b8b70,0xc76c51a3,0xd192e819,0xd6990624,0xf40e3585,0x106aa070,0x19a4c116,0x1e376c08,0x2748774c,0x34b0bcb5,0x391c0cb3,0x4ed8aa4a,0x5b9cca4f,0x682e6ff3,0x748f82ee,0x78a5636f,0x84c87814,0x8cc70208,0x90befffa,0xa4506ceb,0xbef9a3f7,0xc67178f2]
theorem KN_small:∀ t,t < 64→KN.getD t 0 < 2 ^ 32∧UInt32.ofNat (KN.getD t 0)=KS.getD t 0:=by decide +kernel
theorem KN_length:KN.length=64:=rfl
abbrev K8:=Nat→Nat→Nat→Nat→Nat→Nat→Nat→Nat→Bool
def tmpP (M O e2 e f g h k w:Nat):Nat:=Nat.add (Nat.add (Nat.add h (rot3P M e2 6 11 25)) (chP e f g)) (Nat.add (Nat.mul k O) w)
def newA (M a2 a b c t1:Nat):Nat:=Nat.land (Nat.add t1 (Nat.add (rot3P M a2 2 13 22) (majP a b c))) M
def newE (M d t1:Nat):Nat:=Nat.land (Nat.add d t1) M
def newX (M p q x0 x1 x9 xe:Nat):Nat:=Nat.land (Nat.add (Nat.add x0 (rot2P M p x1 7 18 3)) (Nat.add x9 (rot2P M q xe 17 19 10))) M
noncomputable def rndK (M O:Nat) (ks:List Nat):Nat→Nat→Nat→Nat→Nat→Nat→Nat→Nat→Nat→Nat→Nat→Nat→Nat→Nat→Nat→Nat→Nat→Nat→Nat→Nat→Nat→Nat→Nat→Nat→K8→Bool :=
  @List.rec Nat (fun _=>Nat→Nat→Nat→Nat→Nat→Nat→Nat→Nat→Nat→Nat→Nat→Nat→Nat→Nat→Nat→Nat→Nat→Nat→Nat→Nat→Nat→Nat→Nat→Nat→K8→Bool) (fun a b c d e f g h x0 x1 x2 x3 x4 x5 x6 x7 x8 x9 xa xb xc xd xe xf r=>r a b c d e f g h)
    (fun k _ ih a b c d e f g h x0 x1 x2 x3 x4 x5 x6 x7 x8 x9 xa xb xc xd xe xf r=>frc (dblP e) fun e2=>frc (dblP a) fun a2=>frc (tmpP M O e2 e f g h k x0) fun t1=>frc (newE M d t1) fun e'=>frc (newA M a2 a b c t1) fun a' =>
      frc (dblP x1) fun p=>frc (dblP xe) fun q=>frc (newX M p q x0 x1 x9 xe) fun y=>ih a' a b c e' e f g x1 x2 x3 x4 x5 x6 x7 x8 x9 xa xb xc xd xe xf y r) ks
theorem rndK_cons (M O k:Nat) (ks:List Nat) (a b c d e f g h x0 x1 x2 x3 x4 x5 x6 x7 x8 x9 xa xb xc xd xe xf:Nat) (r:K8):rndK M O (k::ks) a b c d e f g h x0 x1 x2 x3 x4 x5 x6 x7 x8 x9 xa xb xc xd xe xf r=frc (dblP e) fun e2=>frc (dblP a) fun a2=>frc (tmpP M O e2 e f g h k x0) fun t1=>frc (newE M d t1) fun e'=>frc (newA M a2 a b c t1) fun a' =>
    frc (dblP x1) fun p=>frc (dblP xe) fun q=>frc (newX M p q x0 x1 x9 xe) fun y=>rndK M O ks a' a b c e' e f g x1 x2 x3 x4 x5 x6 x7 x8 x9 xa xb xc xd xe xf y r:=rfl
structure LS (N a b c d e f g h:Nat) (s:Nat→S8):Prop where
  a0:Lw N a (fun i=>(s i).a)
  b0:Lw N b (fun i=>(s i).b)
  c0:Lw N c (fun i=>(s i).c)
  d0:Lw N d (fun i=>(s i).d)
  e0:Lw N e (fun i=>(s i).e)
  f0:Lw N f (fun i=>(s i).f)
  g0:Lw N g (fun i=>(s i).g)
  h0:Lw N h (fun i=>(s i).h)
structure LX (N x0 x1 x2 x3 x4 x5 x6 x7 x8 x9 xa xb xc xd xe xf:Nat) (w:Nat→Nat→UInt32) (t:Nat):Prop where
  y0:Lw N x0 (fun i=>w i (t + 0))
  y1:Lw N x1 (fun i=>w i (t + 1))
  y2:Lw N x2 (fun i=>w i (t + 2))
  y3:Lw N x3 (fun i=>w i (t + 3))
  y4:Lw N x4 (fun i=>w i (t + 4))
  y5:Lw N x5 (fun i=>w i (t + 5))
  y6:Lw N x6 (fun i=>w i (t + 6))
  y7:Lw N x7 (fun i=>w i (t + 7))
  y8:Lw N x8 (fun i=>w i (t + 8))
  y9:Lw N x9 (fun i=>w i (t + 9))
  ya:Lw N xa (fun i=>w i (t + 10))
  yb:Lw N xb (fun i=>w i (t + 11))
  yc:Lw N xc (fun i=>w i (t + 12))
  yd:Lw N xd (fun i=>w i (t + 13))
  ye:Lw N xe (fun i=>w i (t + 14))
  yf:Lw N xf (fun i=>w i (t + 15))
def Nxt (w:Nat→UInt32):Prop:=∀ t,w (t + 16)=sm1 (w (t + 14)) + w (t + 9) + sm0 (w (t + 1)) + w t
section
variable {N:Nat}
theorem rnd_step {a b c d e f g h x0 x1 x2 x3 x4 x5 x6 x7 x8 x9 xa xb xc xd xe xf k:Nat} {s:Nat→S8} {w:Nat→Nat→UInt32} {t:Nat} (hs:LS N a b c d e f g h s) (hx:LX N x0 x1 x2 x3 x4 x5 x6 x7 x8 x9 xa xb xc xd xe xf w t) (hw:∀ i,Nxt (w i)) (hk:k < 2 ^ 32) :
    LS N (newA (msk N) (dblP a) a b c (tmpP (msk N) (ones N) (dblP e) e f g h k x0)) a b c (newE (msk N) d (tmpP (msk N) (ones N) (dblP e) e f g h k x0)) e f g (fun i=>rnd (UInt32.ofNat k) (w i t) (s i))∧LX N x1 x2 x3 x4 x5 x6 x7 x8 x9 xa xb xc xd xe xf (newX (msk N) (dblP x1) (dblP xe) x0 x1 x9 xe) w (t + 1):=by
  have hT:Lb N (2 ^ 32 - 1 + (2 ^ 32 - 1) + (2 ^ 32 - 1) + (2 ^ 32 - 1 + (2 ^ 32 - 1))) (tmpP (msk N) (ones N) (dblP e) e f g h k x0) (fun i=>rndP (UInt32.ofNat k) (w i t) (s i)):=by
    have h1:=(((hs.h0.add (rot3_gr1 hs.e0) (by decide)).add (hs.e0.ch hs.f0 hs.g0) (by decide)).add ((Lw.const (N:=N) hk).add hx.y0 (by decide)) (by decide))
    exact ⟨h1.vb,fun i hi=>(h1.eq i hi).trans (by unfold rndP; simp only [Nat.add_zero,UInt32.add_assoc])⟩
  have hQ:Lb N (2 ^ 32 - 1 + (2 ^ 32 - 1)) (Nat.add (rot3P (msk N) (dblP a) 2 13 22) (majP a b c)) (fun i=>rndQ (s i)):=(rot3_gr0 hs.a0).add (hs.a0.maj hs.b0 hs.c0) (by decide)
  have hA:Lw N (newA (msk N) (dblP a) a b c (tmpP (msk N) (ones N) (dblP e) e f g h k x0)) (fun i=>rndP (UInt32.ofNat k) (w i t) (s i) + rndQ (s i)):=Lw.mask (hT.add hQ (by decide)).eq
  have hE:Lw N (newE (msk N) d (tmpP (msk N) (ones N) (dblP e) e f g h k x0)) (fun i=>(s i).d + rndP (UInt32.ofNat k) (w i t) (s i)):=Lw.mask (hs.d0.add hT (by decide)).eq
  have hX:Lw N (newX (msk N) (dblP x1) (dblP xe) x0 x1 x9 xe) (fun i=>w i (t + 1 + 15)):=by
    have h1:=(hx.y0.add (rot2_sm0 hx.y1) (by decide)).add (hx.y9.add (rot2_sm1 hx.ye) (by decide)) (by decide)
    refine Lw.mask fun i hi=>(h1.eq i hi).trans ?_
    have h2:=hw i t
    show w i (t + 0) + sm0 (w i (t + 1)) + (w i (t + 9) + sm1 (w i (t + 14)))=w i (t + 16)
    rw [h2,Nat.add_zero]
    ac_rfl
  refine ⟨⟨hA,hs.a0,hs.b0,hs.c0,hE,hs.e0,hs.f0,hs.g0⟩,⟨by have:=hx.y1; rw [show t + 1=t + 1 + 0 by omega] at this; exact this,by have:=hx.y2; rw [show t + 2=t + 1 + 1 by omega] at this; exact this,by have:=hx.y3; rw [show t + 3=t + 1 + 2 by omega] at this; exact this,by have:=hx.y4; rw [show t + 4=t + 1 + 3 by omega] at this; exact this,by have:=hx.y5; rw [show t + 5=t + 1 + 4 by omega] at this; exact this,by have:=hx.y6; rw [show t + 6=t + 1 + 5 by omega] at this; exact this,by have:=hx.y7; rw [show t + 7=t + 1 + 6 by omega] at this; exact this,by have:=hx.y8; rw [show t + 8=t + 1 + 7 by omega] at this; exact this,by have:=hx.y9; rw [show t + 9=t + 1 + 8 by omega] at this; exact this,by have:=hx.ya; rw [show t + 10=t + 1 + 9 by omega] at this; exact this,by have:=hx.yb; rw [show t + 11=t + 1 + 10 by omega] at this; exact this,by have:=hx.yc; rw [show t + 12=t + 1 + 11 by omega] at this; exact this,by have:=hx.yd; rw [show t + 13=t + 1 + 12 by omega] at this; exact this,by have:=hx.ye; rw [show t + 14=t + 1 + 13 by omega] at this; exact this,by have:=hx.yf; rw [show t + 15=t + 1 + 14 by omega] at this; exact this,hX⟩⟩
theorem rndK_spec {w:Nat→Nat→UInt32} (hw:∀ i,Nxt (w i)) {st:Nat→Nat→S8} (hst:∀ i t,st i (t + 1)=rnd (KS.getD t 0) (w i t) (st i t)):∀ (n t:Nat),t + n=64→∀ a b c d e f g h x0 x1 x2 x3 x4 x5 x6 x7 x8 x9 xa xb xc xd xe xf:Nat,LS N a b c d e f g h (fun i=>st i t)→LX N x0 x1 x2 x3 x4 x5 x6 x7 x8 x9 xa xb xc xd xe xf w t →
    ∃ A B C D E F G H:Nat,LS N A B C D E F G H (fun i=>st i 64)∧∀ r:K8,rndK (msk N) (ones N) (KN.drop t) a b c d e f g h x0 x1 x2 x3 x4 x5 x6 x7 x8 x9 xa xb xc xd xe xf r=r A B C D E F G H
  | 0,t,ht,a,b,c,d,e,f,g,h,x0,x1,x2,x3,x4,x5,x6,x7,x8,x9,xa,xb,xc,xd,xe,xf,hs,hx=>by
    obtain rfl:t=64:=by omega
    exact ⟨a,b,c,d,e,f,g,h,hs,fun r=>rfl⟩
  | n + 1,t,ht,a,b,c,d,e,f,g,h,x0,x1,x2,x3,x4,x5,x6,x7,x8,x9,xa,xb,xc,xd,xe,xf,hs,hx=>by
    obtain ⟨hk,hkk⟩:=KN_small t (by omega)
    obtain ⟨h1,h2⟩:=rnd_step hs hx hw hk
    simp only [hkk,← hst] at h1
    obtain ⟨A,B,C,D,E,F,G,H,h3,h4⟩:=rndK_spec hw hst n (t + 1) (by omega) _ _ _ _ _ _ _ _ _ _ _ _ _ _ _ _ _ _ _ _ _ _ _ _ h1 h2
    refine ⟨A,B,C,D,E,F,G,H,h3,fun r=>?_⟩
    rw [← h4 r]
    have hd:KN.drop t=KN.getD t 0::KN.drop (t + 1):=by
      rw [List.drop_eq_getElem_cons (by rw [KN_length]; omega)]
      congr 1
      rw [List.getD_eq_getElem?_getD,List.getElem?_eq_getElem (by rw [KN_length]; omega)]
      rfl
    rw [hd,rndK_cons]
    simp only [frc_eq]
end
open Go.RowKit
def eb (i X:Nat):UInt8:=UInt8.ofNat (laneN X i)
structure BL (N:Nat) (L:List Nat) (l:Nat→List UInt8):Prop where
  vb:∀ X ∈ L,VB 255 X
  eq:∀ i,i < N→L.map (eb i)=l i
theorem BL.append {N:Nat} {L M:List Nat} {l m:Nat→List UInt8} (h:BL N L l) (h2:BL N M m):BL N (L++M) (fun i=>l i++m i):=⟨fun X hX=>(List.mem_append.1 hX).elim (h.vb X) (h2.vb X),fun i hi=>by rw [List.map_append,h.eq i hi,h2.eq i hi]⟩
theorem BL.nil (N:Nat):BL N [] (fun _=>[]):=⟨fun X hX=>(by cases hX),fun i hi=>rfl⟩
theorem BL.cons {N X:Nat} {L:List Nat} {x:Nat→UInt8} {l:Nat→List UInt8} (hv:VB 255 X) (hx:∀ i,i < N→eb i X=x i) (h:BL N L l):BL N (X::L) (fun i=>x i::l i):=⟨fun Y hY=>(List.mem_cons.1 hY).elim (fun e=>e ▸ hv) (h.vb Y),fun i hi=>by rw [List.map_cons,h.eq i hi,hx i hi]⟩
theorem BL.congr {N:Nat} {L:List Nat} {l m:Nat→List UInt8} (h:BL N L l) (he:∀ i,i < N→l i=m i):BL N L m:=⟨h.vb,fun i hi=>(h.eq i hi).trans (he i hi)⟩
theorem BL.len {N:Nat} {L:List Nat} {l:Nat→List UInt8} (h:BL N L l) {i:Nat} (hi:i < N):(l i).length=L.length:=by rw [← h.eq i hi,List.length_map]
theorem eb_nat {X i:Nat} (h:VB 255 X):(eb i X).toNat=laneN X i:=by
  unfold eb
  rw [UInt8.toNat_ofNat',Nat.mod_eq_of_lt]
  have:=h i
  omega
theorem BL.at {N:Nat} {L:List Nat} {l:Nat→List UInt8} (h:BL N L l) {i q:Nat} (hi:i < N) (hq:q < L.length):at0 (l i) q=eb i L[q]:=by
  rw [← h.eq i hi]
  simp [at0,hq]
noncomputable def cst (O:Nat) (ns:List Nat):List Nat:=@List.rec Nat (fun _=>List Nat) [] (fun n _ ih=>Nat.mul n O::ih) ns
theorem cst_map (O:Nat):∀ ns:List Nat,cst O ns=ns.map (fun n=>n * O)
  | []=>rfl
  | n::r=>by rw [List.map_cons,← cst_map O r]; rfl
theorem BL.cst {N:Nat} {ns:List Nat} (h:∀ n ∈ ns,n < 256):BL N (cst (ones N) ns) (fun _=>ns.map UInt8.ofNat):=⟨fun X hX=>by
  rw [cst_map] at hX
  obtain ⟨n,hn,rfl⟩:=List.mem_map.1 hX
  have:=h n hn
  exact (VB_const (by omega) N).le (by omega),fun i hi=>by
  rw [cst_map,List.map_map]
  refine List.map_congr_left fun n hn=>?_
  have:=h n hn
  show UInt8.ofNat (laneN (n * ones N) i)=_
  rw [lane_const (by omega),if_pos hi]⟩
def wordB (x y z w:UInt8):UInt32:=((x.toUInt32 <<< UInt32.ofNat 24) ||| (y.toUInt32 <<< UInt32.ofNat 16)) ||| (z.toUInt32 <<< UInt32.ofNat 8) ||| w.toUInt32
theorem word_B (b:List UInt8) (q:Nat):word b q=wordB (at0 b q) (at0 b (q + 1)) (at0 b (q + 2)) (at0 b (q + 3)):=rfl
theorem shl8 (x:UInt8) {s:Nat} (hs:s≤24):(x.toUInt32 <<< UInt32.ofNat s).toNat=x.toNat <<< s:=by
  have h:=x.toNat_lt
  have h2:x.toNat * 2 ^ s≤255 * 2 ^ 24:=Nat.mul_le_mul (by omega) (Nat.pow_le_pow_right (by decide) hs)
  rw [UInt32.toNat_shiftLeft,ofNat_toNat32,UInt8.toNat_toUInt32,Nat.mod_eq_of_lt (show s < 2 ^ 32 by omega),Nat.mod_eq_of_lt (show s < 32 by omega),Nat.mod_eq_of_lt]
  rw [Nat.shiftLeft_eq]
  omega
theorem wordB_nat (x y z w:UInt8):(wordB x y z w).toNat=(x.toNat <<< 24 + y.toNat <<< 16) + (z.toNat <<< 8 + w.toNat):=by
  have hx:=x.toNat_lt
  have hy:=y.toNat_lt
  have hz:=z.toNat_lt
  have hw:=w.toNat_lt
  unfold wordB
  rw [UInt32.toNat_or,UInt32.toNat_or,UInt32.toNat_or,shl8 x (by decide),shl8 y (by decide),shl8 z (by decide),UInt8.toNat_toUInt32]
  rw [← Nat.shiftLeft_add_eq_or_of_lt (show y.toNat <<< 16 < 2 ^ 24 by rw [Nat.shiftLeft_eq]; omega) x.toNat]
  have e1:x.toNat <<< 24 + y.toNat <<< 16=(x.toNat * 256 + y.toNat) <<< 16:=by simp only [Nat.shiftLeft_eq]; omega
  rw [e1,← Nat.shiftLeft_add_eq_or_of_lt (show z.toNat <<< 8 < 2 ^ 16 by rw [Nat.shiftLeft_eq]; omega)]
  have e2:(x.toNat * 256 + y.toNat) <<< 16 + z.toNat <<< 8=(x.toNat * 65536 + y.toNat * 256 + z.toNat) <<< 8:=by simp only [Nat.shiftLeft_eq]; omega
  rw [e2,← Nat.shiftLeft_add_eq_or_of_lt (show w.toNat < 2 ^ 8 by omega)]
  simp only [Nat.shiftLeft_eq]
  omega
def wrdP (p q r s:Nat):Nat:=Nat.add (Nat.add (Nat.shiftLeft p 24) (Nat.shiftLeft q 16)) (Nat.add (Nat.shiftLeft r 8) s)
theorem wrd_spec (N:Nat) {p q r s:Nat} (hp:VB 255 p) (hq:VB 255 q) (hr:VB 255 r) (hs:VB 255 s):Lw N (wrdP p q r s) (fun i=>wordB (eb i p) (eb i q) (eb i r) (eb i s)):=by
  have h1:=VB_shl hp (s:=24) (by decide)
  have h2:=VB_shl hq (s:=16) (by decide)
  have h3:=VB_shl hr (s:=8) (by decide)
  have h12:=VB_add h1 h2 (by decide)
  have h34:=VB_add h3 hs (by decide)
  have hl:∀ i,laneN (wrdP p q r s) i=(laneN p i <<< 24 + laneN q i <<< 16) + (laneN r i <<< 8 + laneN s i):=fun i=>by
    show laneN ((p <<< 24 + q <<< 16) + (r <<< 8 + s)) i=_
    rw [lane_add h12 h34 (by decide),lane_add h1 h2 (by decide),lane_add h3 hs (by decide),lane_shl hp (by decide),lane_shl hq (by decide),lane_shl hr (by decide)]
    simp only [Nat.shiftLeft_eq,Nat.mul_comm]
  refine ⟨fun i=>?_,fun i hi=>u32_ext ?_⟩
  · rw [hl]
    have:=hp i; have:=hq i; have:=hr i; have:=hs i
    simp only [Nat.shiftLeft_eq]
    omega
  · unfold ew
    rw [wordB_nat,ofNat_toNat32,hl,eb_nat hp,eb_nat hq,eb_nat hr,eb_nat hs,Nat.mod_eq_of_lt]
    have:=hp i; have:=hq i; have:=hr i; have:=hs i
    simp only [Nat.shiftLeft_eq]
    omega
noncomputable def rdK (L:List Nat) (k:Nat→List Nat→Bool):Bool :=
  @List.rec Nat (fun _=>Bool) false (fun p L _=>@List.rec Nat (fun _=>Bool) false (fun q L _=>@List.rec Nat (fun _=>Bool) false (fun r L _=>@List.rec Nat (fun _=>Bool) false (fun s L _=>frc (wrdP p q r s) fun w=>k w L) L) L) L) L
theorem rdK_cons (p q r s:Nat) (L:List Nat) (k:Nat→List Nat→Bool):rdK (p::q::r::s::L) k=k (wrdP p q r s) L:=by
  show frc (wrdP p q r s) (fun w=>k w L)=_
  rw [frc_eq]
theorem rdK_spec {N:Nat} {L:List Nat} {l:Nat→List UInt8} (h:BL N L l) {q:Nat} (hq:q + 4≤L.length):∃ w,Lw N w (fun i=>word (l i) q)∧∀ k:Nat→List Nat→Bool,rdK (L.drop q) k=k w (L.drop (q + 4)):=by
  have e:L.drop q=L[q]::L[q + 1]::L[q + 2]::L[q + 3]::L.drop (q + 4):=by
    rw [List.drop_eq_getElem_cons (by omega),List.drop_eq_getElem_cons (by omega),List.drop_eq_getElem_cons (by omega),List.drop_eq_getElem_cons (by omega)]
  have hv:∀ (j:Nat) (hj:j < L.length),VB 255 L[j]:=fun j hj=>h.vb _ (List.getElem_mem hj)
  have hw:=wrd_spec N (hv q (by omega)) (hv (q + 1) (by omega)) (hv (q + 2) (by omega)) (hv (q + 3) (by omega))
  refine ⟨_,⟨hw.vb,fun i hi=>?_⟩,fun k=>by rw [e,rdK_cons]⟩
  rw [hw.eq i hi,word_B,h.at hi (show q < L.length by omega),h.at hi (show q + 1 < L.length by omega),h.at hi (show q + 2 < L.length by omega),h.at hi (show q + 3 < L.length by omega)]
noncomputable def rd16 (L:List Nat) (k:Nat→Nat→Nat→Nat→Nat→Nat→Nat→Nat→Nat→Nat→Nat→Nat→Nat→Nat→Nat→Nat→List Nat→Bool):Bool :=
  rdK L fun x0 L =>
  rdK L fun x1 L =>
  rdK L fun x2 L =>
  rdK L fun x3 L =>
  rdK L fun x4 L =>
  rdK L fun x5 L =>
  rdK L fun x6 L =>
  rdK L fun x7 L =>
  rdK L fun x8 L =>
  rdK L fun x9 L =>
  rdK L fun xa L =>
  rdK L fun xb L =>
  rdK L fun xc L =>
  rdK L fun xd L =>
  rdK L fun xe L =>
  rdK L fun xf L =>
  k x0 x1 x2 x3 x4 x5 x6 x7 x8 x9 xa xb xc xd xe xf L
theorem rd16_spec {N:Nat} {L:List Nat} {l:Nat→List UInt8} (h:BL N L l) {q:Nat} (hq:q + 64≤L.length):∃ x0 x1 x2 x3 x4 x5 x6 x7 x8 x9 xa xb xc xd xe xf:Nat,LX N x0 x1 x2 x3 x4 x5 x6 x7 x8 x9 xa xb xc xd xe xf (fun i t=>word (l i) (q + 4 * t)) 0∧∀ k:Nat→Nat→Nat→Nat→Nat→Nat→Nat→Nat→Nat→Nat→Nat→Nat→Nat→Nat→Nat→Nat→List Nat→Bool,rd16 (L.drop q) k=k x0 x1 x2 x3 x4 x5 x6 x7 x8 x9 xa xb xc xd xe xf (L.drop (q + 64)):=by
  obtain ⟨x0,h0,r0⟩:=rdK_spec h (q:=q + 0) (by omega)
  obtain ⟨x1,h1,r1⟩:=rdK_spec h (q:=q + 4) (by omega)
  obtain ⟨x2,h2,r2⟩:=rdK_spec h (q:=q + 8) (by omega)
  obtain ⟨x3,h3,r3⟩:=rdK_spec h (q:=q + 12) (by omega)
  obtain ⟨x4,h4,r4⟩:=rdK_spec h (q:=q + 16) (by omega)
  obtain ⟨x5,h5,r5⟩:=rdK_spec h (q:=q + 20) (by omega)
  obtain ⟨x6,h6,r6⟩:=rdK_spec h (q:=q + 24) (by omega)
  obtain ⟨x7,h7,r7⟩:=rdK_spec h (q:=q + 28) (by omega)
  obtain ⟨x8,h8,r8⟩:=rdK_spec h (q:=q + 32) (by omega)
  obtain ⟨x9,h9,r9⟩:=rdK_spec h (q:=q + 36) (by omega)
  obtain ⟨xa,ha,ra⟩:=rdK_spec h (q:=q + 40) (by omega)
  obtain ⟨xb,hb,rb⟩:=rdK_spec h (q:=q + 44) (by omega)
  obtain ⟨xc,hc,rc⟩:=rdK_spec h (q:=q + 48) (by omega)
  obtain ⟨xd,hd,rd⟩:=rdK_spec h (q:=q + 52) (by omega)
  obtain ⟨xe,he,re⟩:=rdK_spec h (q:=q + 56) (by omega)
  obtain ⟨xf,hf,rf⟩:=rdK_spec h (q:=q + 60) (by omega)
  refine ⟨x0,x1,x2,x3,x4,x5,x6,x7,x8,x9,xa,xb,xc,xd,xe,xf,⟨h0,h1,h2,h3,h4,h5,h6,h7,h8,h9,ha,hb,hc,hd,he,hf⟩,fun k=>?_⟩
  unfold rd16
  rw [Nat.add_zero] at r0
  rw [r0,r1,r2,r3,r4,r5,r6,r7,r8,r9,ra,rb,rc,rd,re,rf]
def wS (b:List UInt8) (p t:Nat):UInt32:=(sch b p (t + 1)).getD t 0
theorem sch_get (b:List UInt8) (p:Nat):∀ n j,j < n→(sch b p n).getD j 0=wS b p j
  | 0,j,h=>absurd h (Nat.not_lt_zero j)
  | n + 1,j,h=>by
    by_cases hj:j=n
    · subst hj; rfl
    · rw [← sch_get b p n j (by omega),sch,List.getD_eq_getElem?_getD,List.getD_eq_getElem?_getD,List.getElem?_append_left (by rw [sch_length]; omega)]
theorem wS_eq (b:List UInt8) (p t:Nat):wS b p t=if t < 16 then word b (p + 4 * t) else nextW (sch b p t) t:=by
  unfold wS
  rw [sch,List.getD_eq_getElem?_getD,List.getElem?_append_right (by rw [sch_length]; exact Nat.le_refl _),sch_length,Nat.sub_self]
  rfl
theorem wS_nxt (b:List UInt8) (p:Nat):Nxt (wS b p):=fun t=>by
  rw [wS_eq b p (t + 16),if_neg (by omega)]
  unfold nextW
  rw [show t + 16 - 2=t + 14 by omega,show t + 16 - 7=t + 9 by omega,show t + 16 - 15=t + 1 by omega,Nat.add_sub_cancel,sch_get b p _ _ (by omega),sch_get b p _ _ (by omega),sch_get b p _ _ (by omega),sch_get b p _ _ (by omega)]
def stS (b:List UInt8) (p:Nat) (s:S8):Nat→S8
  | 0=>s
  | t + 1=>rnd (KS.getD t 0) (wS b p t) (stS b p s t)
theorem stS_eq (b:List UInt8) (p:Nat) (s:S8):∀ t,t≤64→stS b p s t=rnds (sch b p 64) s t
  | 0,_=>rfl
  | t + 1,h=>by rw [stS,rnds,stS_eq b p s t (by omega),sch_get b p 64 t (by omega)]
noncomputable def cmpK (M O:Nat) (a b c d e f g h x0 x1 x2 x3 x4 x5 x6 x7 x8 x9 xa xb xc xd xe xf:Nat) (r:K8):Bool:=rndK M O KN a b c d e f g h x0 x1 x2 x3 x4 x5 x6 x7 x8 x9 xa xb xc xd xe xf fun A B C D E F G H =>
  frc (Nat.land (Nat.add a A) M) fun A =>
  frc (Nat.land (Nat.add b B) M) fun B =>
  frc (Nat.land (Nat.add c C) M) fun C =>
  frc (Nat.land (Nat.add d D) M) fun D =>
  frc (Nat.land (Nat.add e E) M) fun E =>
  frc (Nat.land (Nat.add f F) M) fun F =>
  frc (Nat.land (Nat.add g G) M) fun G =>
  frc (Nat.land (Nat.add h H) M) fun H =>
  r A B C D E F G H
theorem cmpK_spec {N:Nat} {l:Nat→List UInt8} {p:Nat} {s:Nat→S8} {a b c d e f g h x0 x1 x2 x3 x4 x5 x6 x7 x8 x9 xa xb xc xd xe xf:Nat} (hs:LS N a b c d e f g h s) (hx:LX N x0 x1 x2 x3 x4 x5 x6 x7 x8 x9 xa xb xc xd xe xf (fun i t=>word (l i) (p + 4 * t)) 0):∃ A B C D E F G H:Nat,LS N A B C D E F G H (fun i=>mixS (l i) p (s i))∧∀ r:K8,cmpK (msk N) (ones N) a b c d e f g h x0 x1 x2 x3 x4 x5 x6 x7 x8 x9 xa xb xc xd xe xf r=r A B C D E F G H:=by
  have hx2:LX N x0 x1 x2 x3 x4 x5 x6 x7 x8 x9 xa xb xc xd xe xf (fun i t=>wS (l i) p t) 0:=⟨⟨hx.y0.vb,fun i hi=>(hx.y0.eq i hi).trans (by show word (l i) (p + 4 * (0 + 0))=wS (l i) p (0 + 0); rw [wS_eq,if_pos (by decide)])⟩,⟨hx.y1.vb,fun i hi=>(hx.y1.eq i hi).trans (by show word (l i) (p + 4 * (0 + 1))=wS (l i) p (0 + 1); rw [wS_eq,if_pos (by decide)])⟩,⟨hx.y2.vb,fun i hi=>(hx.y2.eq i hi).trans (by show word (l i) (p + 4 * (0 + 2))=wS (l i) p (0 + 2); rw [wS_eq,if_pos (by decide)])⟩,⟨hx.y3.vb,fun i hi=>(hx.y3.eq i hi).trans (by show word (l i) (p + 4 * (0 + 3))=wS (l i) p (0 + 3); rw [wS_eq,if_pos (by decide)])⟩,⟨hx.y4.vb,fun i hi=>(hx.y4.eq i hi).trans (by show word (l i) (p + 4 * (0 + 4))=wS (l i) p (0 + 4); rw [wS_eq,if_pos (by decide)])⟩,⟨hx.y5.vb,fun i hi=>(hx.y5.eq i hi).trans (by show word (l i) (p + 4 * (0 + 5))=wS (l i) p (0 + 5); rw [wS_eq,if_pos (by decide)])⟩,⟨hx.y6.vb,fun i hi=>(hx.y6.eq i hi).trans (by show word (l i) (p + 4 * (0 + 6))=wS (l i) p (0 + 6); rw [wS_eq,if_pos (by decide)])⟩,⟨hx.y7.vb,fun i hi=>(hx.y7.eq i hi).trans (by show word (l i) (p + 4 * (0 + 7))=wS (l i) p (0 + 7); rw [wS_eq,if_pos (by decide)])⟩,⟨hx.y8.vb,fun i hi=>(hx.y8.eq i hi).trans (by show word (l i) (p + 4 * (0 + 8))=wS (l i) p (0 + 8); rw [wS_eq,if_pos (by decide)])⟩,⟨hx.y9.vb,fun i hi=>(hx.y9.eq i hi).trans (by show word (l i) (p + 4 * (0 + 9))=wS (l i) p (0 + 9); rw [wS_eq,if_pos (by decide)])⟩,⟨hx.ya.vb,fun i hi=>(hx.ya.eq i hi).trans (by show word (l i) (p + 4 * (0 + 10))=wS (l i) p (0 + 10); rw [wS_eq,if_pos (by decide)])⟩,⟨hx.yb.vb,fun i hi=>(hx.yb.eq i hi).trans (by show word (l i) (p + 4 * (0 + 11))=wS (l i) p (0 + 11); rw [wS_eq,if_pos (by decide)])⟩,⟨hx.yc.vb,fun i hi=>(hx.yc.eq i hi).trans (by show word (l i) (p + 4 * (0 + 12))=wS (l i) p (0 + 12); rw [wS_eq,if_pos (by decide)])⟩,⟨hx.yd.vb,fun i hi=>(hx.yd.eq i hi).trans (by show word (l i) (p + 4 * (0 + 13))=wS (l i) p (0 + 13); rw [wS_eq,if_pos (by decide)])⟩,⟨hx.ye.vb,fun i hi=>(hx.ye.eq i hi).trans (by show word (l i) (p + 4 * (0 + 14))=wS (l i) p (0 + 14); rw [wS_eq,if_pos (by decide)])⟩,⟨hx.yf.vb,fun i hi=>(hx.yf.eq i hi).trans (by show word (l i) (p + 4 * (0 + 15))=wS (l i) p (0 + 15); rw [wS_eq,if_pos (by decide)])⟩⟩
  obtain ⟨A,B,C,D,E,F,G,H,h1,h2⟩:=rndK_spec (N:=N) (w:=fun i t=>wS (l i) p t) (fun i=>wS_nxt (l i) p) (st:=fun i t=>stS (l i) p (s i) t) (fun i t=>rfl) 64 0 rfl a b c d e f g h x0 x1 x2 x3 x4 x5 x6 x7 x8 x9 xa xb xc xd xe xf hs hx2
  simp only [stS_eq _ _ _ 64 (Nat.le_refl _)] at h1
  refine ⟨_,_,_,_,_,_,_,_,⟨Lw.mask (hs.a0.add h1.a0 (by decide)).eq,Lw.mask (hs.b0.add h1.b0 (by decide)).eq,Lw.mask (hs.c0.add h1.c0 (by decide)).eq,Lw.mask (hs.d0.add h1.d0 (by decide)).eq,Lw.mask (hs.e0.add h1.e0 (by decide)).eq,Lw.mask (hs.f0.add h1.f0 (by decide)).eq,Lw.mask (hs.g0.add h1.g0 (by decide)).eq,Lw.mask (hs.h0.add h1.h0 (by decide)).eq⟩,fun r=>?_⟩
  unfold cmpK
  rw [show KN=KN.drop 0 from rfl,h2]
  simp only [frc_eq]
  rfl
noncomputable def mixK (M O n:Nat):List Nat→Nat→Nat→Nat→Nat→Nat→Nat→Nat→Nat→K8→Bool:=@Nat.rec (fun _=>List Nat→Nat→Nat→Nat→Nat→Nat→Nat→Nat→Nat→K8→Bool) (fun _ a b c d e f g h r=>r a b c d e f g h) (fun _ ih L a b c d e f g h r=>rd16 L fun x0 x1 x2 x3 x4 x5 x6 x7 x8 x9 xa xb xc xd xe xf L=>cmpK M O a b c d e f g h x0 x1 x2 x3 x4 x5 x6 x7 x8 x9 xa xb xc xd xe xf fun A B C D E F G H=>ih L A B C D E F G H r) n
theorem mixK_succ (M O n:Nat) (L:List Nat) (a b c d e f g h:Nat) (r:K8):mixK M O (n + 1) L a b c d e f g h r=rd16 L fun x0 x1 x2 x3 x4 x5 x6 x7 x8 x9 xa xb xc xd xe xf L=>cmpK M O a b c d e f g h x0 x1 x2 x3 x4 x5 x6 x7 x8 x9 xa xb xc xd xe xf fun A B C D E F G H=>mixK M O n L A B C D E F G H r:=rfl
theorem mixK_spec {N:Nat} {L:List Nat} {l:Nat→List UInt8} (hB:BL N L l) {s:Nat→S8}:∀ (n m:Nat),64 * (m + n)≤L.length→∀ a b c d e f g h:Nat,LS N a b c d e f g h (fun i=>mixes (l i) (s i) m)→∃ A B C D E F G H:Nat,LS N A B C D E F G H (fun i=>mixes (l i) (s i) (m + n))∧∀ r:K8,mixK (msk N) (ones N) n (L.drop (64 * m)) a b c d e f g h r=r A B C D E F G H
  | 0,m,hl,a,b,c,d,e,f,g,h,hs=>⟨a,b,c,d,e,f,g,h,hs,fun r=>rfl⟩
  | n + 1,m,hl,a,b,c,d,e,f,g,h,hs=>by
    obtain ⟨x0,x1,x2,x3,x4,x5,x6,x7,x8,x9,xa,xb,xc,xd,xe,xf,hx,hr⟩:=rd16_spec hB (q:=64 * m) (by omega)
    obtain ⟨a',b',c',d',e',f',g',h',h1,h2⟩:=cmpK_spec hs hx
    obtain ⟨A,B,C,D,E,F,G,H,h3,h4⟩:=mixK_spec hB n (m + 1) (by omega) _ _ _ _ _ _ _ _ h1
    rw [show m + 1 + n=m + (n + 1) by omega] at h3
    refine ⟨A,B,C,D,E,F,G,H,h3,fun r=>?_⟩
    rw [mixK_succ,hr,h2,show 64 * m + 64=64 * (m + 1) by omega,h4]
def byP (M8 x s:Nat):Nat:=Nat.land (Nat.shiftRight x s) M8
theorem ofNat8_mod (a:Nat):UInt8.ofNat (a % 2 ^ 8)=UInt8.ofNat a:=UInt8.toNat_inj.1 (by rw [UInt8.toNat_ofNat',UInt8.toNat_ofNat',Nat.mod_mod])
theorem byP_spec {N X:Nat} {x:Nat→UInt32} (h:Lw N X x) {s:Nat} (hs:s≤24):VB 255 (byP (255 * ones N) X s)∧∀ i,i < N→eb i (byP (255 * ones N) X s)=(x i >>> UInt32.ofNat s).toUInt8:=by
  refine ⟨VB_and_left (VB_const (by decide) N),fun i hi=>UInt8.toNat_inj.1 ?_⟩
  show (UInt8.ofNat (laneN (X >>> s &&& 255 * ones N) i)).toNat=_
  rw [lane_and,lane_const (by decide),if_pos hi,show (255:Nat)=2 ^ 8 - 1 from rfl,Nat.and_two_pow_sub_one_eq_mod,ofNat8_mod,UInt8.toNat_ofNat',UInt32.toNat_toUInt8,← ew_shrW h hi (by omega)]
  unfold ew
  rw [ofNat_toNat32,Nat.mod_mod_of_dvd _ (show 2 ^ 8 ∣ 2 ^ 32 from Nat.pow_dvd_pow 2 (by decide))]
theorem shr0 (x:UInt32):x >>> UInt32.ofNat 0=x:=u32_ext (by rw [UInt32.toNat_shiftRight]; rfl)
noncomputable def outK (M8 a b c d e f g h:Nat) (k:List Nat→Bool):Bool :=
  frc (byP M8 a 24) fun a24 =>
  frc (byP M8 a 16) fun a16 =>
  frc (byP M8 a 8) fun a8 =>
  frc (byP M8 a 0) fun a0 =>
  frc (byP M8 b 24) fun b24 =>
  frc (byP M8 b 16) fun b16 =>
  frc (byP M8 b 8) fun b8 =>
  frc (byP M8 b 0) fun b0 =>
  frc (byP M8 c 24) fun c24 =>
  frc (byP M8 c 16) fun c16 =>
  frc (byP M8 c 8) fun c8 =>
  frc (byP M8 c 0) fun c0 =>
  frc (byP M8 d 24) fun d24 =>
  frc (byP M8 d 16) fun d16 =>
  frc (byP M8 d 8) fun d8 =>
  frc (byP M8 d 0) fun d0 =>
  frc (byP M8 e 24) fun e24 =>
  frc (byP M8 e 16) fun e16 =>
  frc (byP M8 e 8) fun e8 =>
  frc (byP M8 e 0) fun e0 =>
  frc (byP M8 f 24) fun f24 =>
  frc (byP M8 f 16) fun f16 =>
  frc (byP M8 f 8) fun f8 =>
  frc (byP M8 f 0) fun f0 =>
  frc (byP M8 g 24) fun g24 =>
  frc (byP M8 g 16) fun g16 =>
  frc (byP M8 g 8) fun g8 =>
  frc (byP M8 g 0) fun g0 =>
  frc (byP M8 h 24) fun h24 =>
  frc (byP M8 h 16) fun h16 =>
  frc (byP M8 h 8) fun h8 =>
  frc (byP M8 h 0) fun h0 =>
  k [a24,a16,a8,a0,b24,b16,b8,b0,c24,c16,c8,c0,d24,d16,d8,d0,e24,e16,e8,e0,f24,f16,f8,f0,g24,g16,g8,g0,h24,h16,h8,h0]
theorem BL.word {N X:Nat} {x:Nat→UInt32} (h:Lw N X x):BL N [byP (255 * ones N) X 24,byP (255 * ones N) X 16,byP (255 * ones N) X 8,byP (255 * ones N) X 0] (fun i=>[(x i >>> UInt32.ofNat 24).toUInt8,(x i >>> UInt32.ofNat 16).toUInt8,(x i >>> UInt32.ofNat 8).toUInt8,(x i).toUInt8]):=by
  have h0:=byP_spec h (s:=0) (by decide)
  refine BL.cons (byP_spec h (by decide)).1 (byP_spec h (by decide)).2 (BL.cons (byP_spec h (by decide)).1 (byP_spec h (by decide)).2 (BL.cons (byP_spec h (by decide)).1 (byP_spec h (by decide)).2 (BL.cons h0.1 (fun i hi=>?_) (BL.nil N))))
  rw [h0.2 i hi,shr0]
theorem outK_spec {N a b c d e f g h:Nat} {s:Nat→S8} (hs:LS N a b c d e f g h s):∃ r:List Nat,BL N r (fun i=>outB (s i))∧r.length=32∧∀ k:List Nat→Bool,outK (255 * ones N) a b c d e f g h k=k r:=by
  refine ⟨_,((BL.word hs.a0).append ((BL.word hs.b0).append ((BL.word hs.c0).append ((BL.word hs.d0).append ((BL.word hs.e0).append ((BL.word hs.f0).append ((BL.word hs.g0).append (BL.word hs.h0)))))))),rfl,fun k=>?_⟩
  unfold outK
  simp only [frc_eq]
  rfl
noncomputable def shaK (M O M8 nb:Nat) (L:List Nat) (k:List Nat→Bool):Bool :=
  frc (Nat.mul 0x6a09e667 O) fun a =>
  frc (Nat.mul 0xbb67ae85 O) fun b =>
  frc (Nat.mul 0x3c6ef372 O) fun c =>
  frc (Nat.mul 0xa54ff53a O) fun d =>
  frc (Nat.mul 0x510e527f O) fun e =>
  frc (Nat.mul 0x9b05688c O) fun f =>
  frc (Nat.mul 0x1f83d9ab O) fun g =>
  frc (Nat.mul 0x5be0cd19 O) fun h =>
  mixK M O nb L a b c d e f g h fun A B C D E F G H=>outK M8 A B C D E F G H k
theorem shaK_spec {N nb:Nat} {L:List Nat} {d:Nat→List UInt8} (h:BL N L (fun i=>padB (d i))) (hl:L.length=64 * nb):∃ r:List Nat,BL N r (fun i=>sha (d i))∧r.length=32∧∀ k:List Nat→Bool,shaK (msk N) (ones N) (255 * ones N) nb L k=k r:=by
  have hs:LS N (0x6a09e667 * ones N) (0xbb67ae85 * ones N) (0x3c6ef372 * ones N) (0xa54ff53a * ones N) (0x510e527f * ones N) (0x9b05688c * ones N) (0x1f83d9ab * ones N) (0x5be0cd19 * ones N) (fun i=>mixes (padB (d i)) (S8.of HS) 0):=⟨Lw.const (by decide),Lw.const (by decide),Lw.const (by decide),Lw.const (by decide),Lw.const (by decide),Lw.const (by decide),Lw.const (by decide),Lw.const (by decide)⟩
  obtain ⟨A,B,C,D,E,F,G,H,h1,h2⟩:=mixK_spec h (s:=fun _=>S8.of HS) nb 0 (by omega) _ _ _ _ _ _ _ _ hs
  obtain ⟨r,h3,h4,h5⟩:=outK_spec h1
  refine ⟨r,h3.congr fun i hi=>?_,h4,fun k=>?_⟩
  · have:=h.len hi
    unfold sha
    rw [this,hl,Nat.mul_div_cancel_left _ (by decide),Nat.zero_add]
  · rw [← h5 k]
    unfold shaK
    simp only [frc_eq]
    rw [show L=L.drop (64 * 0) from rfl]
    exact h2 _
open Go.RowKit
noncomputable def app (a b:List Nat):List Nat:=@List.rec Nat (fun _=>List Nat) b (fun x _ ih=>x::ih) a
theorem app_eq (a b:List Nat):app a b=a++b:=by
  induction a with
  | nil=>rfl
  | cons x r ih=>show x::app r b=_; rw [ih]; rfl
def tlB (n:Nat):List UInt8:=[0x80]++List.replicate (padZ n) 0++lenB n
theorem padB_tl (d:List UInt8):padB d=d++tlB d.length:=by unfold padB tlB; simp only [List.append_assoc]
theorem shaM {N n nb:Nat} {L tl:List Nat} {d:Nat→List UInt8} (h:BL N L d) (hn:L.length=n) (htl:tl.map UInt8.ofNat=tlB n) (h6:∀ t ∈ tl,t < 256) (hl:n + tl.length=64 * nb) :
    ∃ r:List Nat,BL N r (fun i=>sha (d i))∧r.length=32∧∀ k:List Nat→Bool,shaK (msk N) (ones N) (255 * ones N) nb (app L (cst (ones N) tl)) k=k r:=by
  refine shaK_spec ?_ ?_
  · rw [app_eq]
    exact (h.append (BL.cst h6)).congr fun i hi=>by rw [padB_tl,h.len hi,hn,htl]
  · rw [app_eq,List.length_append,cst_map,List.length_map,hn,hl]
noncomputable def hcK (M O M8:Nat) (tl hd mk t:List Nat) (k:List Nat→Bool):Bool:=shaK M O M8 1 (app (app hd (app (cst O mk) t)) (cst O tl)) k
def tl55:List Nat:=[128,0,0,0,0,0,0,1,184]
theorem tl55_ok:tl55.map UInt8.ofNat=tlB 55:=by decide +kernel
theorem hcK_spec {N:Nat} {hd t:List Nat} {nm:List UInt8} {q mark by':Int} {T:Nat→List UInt8} {mk:List Nat} (hh:BL N hd (fun _=>hdL nm q)) (hhl:hd.length=20) (ht:BL N t T) (htl:t.length=32) (hm:mk.map UInt8.ofNat=numB mark 2++[byte by']) (h6:∀ x ∈ mk,x < 256) (hml:mk.length=3) :
    ∃ r:List Nat,BL N r (fun i=>hashC nm q mark by' (T i))∧r.length=32∧∀ k:List Nat→Bool,hcK (msk N) (ones N) (255 * ones N) tl55 hd mk t k=k r:=by
  have h1:BL N (app hd (app (cst (ones N) mk) t)) (fun i=>hdL nm q++numB mark 2++[byte by']++T i):=by
    rw [app_eq,app_eq]
    exact (hh.append ((BL.cst h6).append ht)).congr fun i hi=>by rw [hm]; simp only [List.append_assoc]
  exact shaM h1 (by rw [app_eq,app_eq,List.length_append,List.length_append,cst_map,List.length_map,hhl,hml,htl]) tl55_ok (by decide) rfl
noncomputable def digsK (O3:Nat) (L:List Nat):(List Nat→Bool)→Bool:=@List.rec Nat (fun _=>(List Nat→Bool)→Bool) (fun k=>k [])
  (fun B _ ih k=>frc (Nat.land (Nat.shiftRight B 6) O3) fun p=>frc (Nat.land (Nat.shiftRight B 4) O3) fun q=>frc (Nat.land (Nat.shiftRight B 2) O3) fun r=>frc (Nat.land B O3) fun s=>ih fun l=>k (p::q::r::s::l)) L
theorem digsK_cons (O3 B:Nat) (L:List Nat) (k:List Nat→Bool):digsK O3 (B::L) k=frc (Nat.land (Nat.shiftRight B 6) O3) fun p=>frc (Nat.land (Nat.shiftRight B 4) O3) fun q=>frc (Nat.land (Nat.shiftRight B 2) O3) fun r=>frc (Nat.land B O3) fun s=>digsK O3 L fun l=>k (p::q::r::s::l):=rfl
def DL (N:Nat) (ds:List Nat) (f:Nat→Nat→Nat):Prop:=∀ j (h:j < ds.length),VB 3 ds[j]∧∀ i,i < N→laneN ds[j] i=f i j
theorem dig_lane {N B s:Nat} (hB:VB 255 B) (hs:s≤6):VB 3 (Nat.land (Nat.shiftRight B s) (3 * ones N))∧∀ i,i < N→laneN (Nat.land (Nat.shiftRight B s) (3 * ones N)) i=laneN B i / 2 ^ s % 4:=by
  refine ⟨VB_and_left (VB_const (by decide) N),fun i hi=>?_⟩
  show laneN (B >>> s &&& 3 * ones N) i=_
  rw [lane_and,lane_const (by decide),if_pos hi,show (3:Nat)=2 ^ 2 - 1 from rfl,Nat.and_two_pow_sub_one_eq_mod]
  have h:=lane_shr B s i (by omega)
  rw [Nat.shiftRight_eq_div_pow (laneN B i)] at h
  have h2:laneN (B >>> s) i % 2 ^ 32 % 2 ^ 2=laneN B i / 2 ^ s % 2 ^ 32 % 2 ^ 2:=by rw [h]
  rw [Nat.mod_mod_of_dvd _ (show 2 ^ 2 ∣ 2 ^ 32 from Nat.pow_dvd_pow 2 (by decide)),Nat.mod_mod_of_dvd _ (show 2 ^ 2 ∣ 2 ^ 32 from Nat.pow_dvd_pow 2 (by decide))] at h2
  exact h2
theorem dig_four {b:List UInt8} {x:UInt8} {k:Nat} (hx:at0 b k=x):dig b (4 * k)=x.toNat / 2 ^ 6 % 4∧dig b (4 * k + 1)=x.toNat / 2 ^ 4 % 4∧dig b (4 * k + 2)=x.toNat / 2 ^ 2 % 4∧dig b (4 * k + 3)=x.toNat / 2 ^ 0 % 4:=by
  subst hx
  unfold dig
  refine ⟨?_,?_,?_,?_⟩
  · rw [show 4 * k / 4=k by omega,show 4 * k % 4=0 by omega]
  · rw [show (4 * k + 1) / 4=k by omega,show (4 * k + 1) % 4=1 by omega]
  · rw [show (4 * k + 2) / 4=k by omega,show (4 * k + 2) % 4=2 by omega]
  · rw [show (4 * k + 3) / 4=k by omega,show (4 * k + 3) % 4=3 by omega]
theorem digsK_spec {N:Nat}:∀ {L:List Nat} {b:Nat→List UInt8},BL N L b→∃ ds:List Nat,ds.length=4 * L.length∧DL N ds (fun i j=>dig (b i) j)∧∀ k:List Nat→Bool,digsK (3 * ones N) L k=k ds
  | [],b,h=>⟨[],rfl,fun j hj=>absurd hj (Nat.not_lt_zero j),fun k=>rfl⟩
  | B::L,b,h=>by
    have hB:=h.vb B (by simp)
    have hL:BL N L (fun i=>(b i).drop 1):=⟨fun X hX=>h.vb X (by simp [hX]),fun i hi=>by rw [← h.eq i hi]; rfl⟩
    obtain ⟨ds,h1,h2,h3⟩:=digsK_spec hL
    have h6:=dig_lane (N:=N) hB (s:=6) (by decide)
    have h4:=dig_lane (N:=N) hB (s:=4) (by decide)
    have h22:=dig_lane (N:=N) hB (s:=2) (by decide)
    have h0:=dig_lane (N:=N) hB (s:=0) (by decide)
    have hb:∀ i,i < N→at0 (b i) 0=eb i B:=fun i hi=>h.at hi (q:=0) (by simp)
    have hf:∀ i,i < N→_:=fun i hi=>dig_four (hb i hi)
    have hsh:∀ i j,dig ((b i).drop 1) j=dig (b i) (j + 4):=fun i j=>by
      unfold dig
      rw [show (j + 4) / 4=j / 4 + 1 by omega,show (j + 4) % 4=j % 4 by omega]
      congr 3
      simp [at0,Nat.add_comm]
    refine ⟨Nat.land (Nat.shiftRight B 6) (3 * ones N)::Nat.land (Nat.shiftRight B 4) (3 * ones N)::Nat.land (Nat.shiftRight B 2) (3 * ones N)::Nat.land B (3 * ones N)::ds,by simp only [List.length_cons,h1]; omega,fun j hj=>?_,fun k=>?_⟩
    · match j,hj with
      | 0,_=>exact ⟨h6.1,fun i hi=>(h6.2 i hi).trans (by have:=(hf i hi).1; rw [eb_nat hB] at this; exact this.symm)⟩
      | 1,_=>exact ⟨h4.1,fun i hi=>(h4.2 i hi).trans (by have:=(hf i hi).2.1; rw [eb_nat hB] at this; exact this.symm)⟩
      | 2,_=>exact ⟨h22.1,fun i hi=>(h22.2 i hi).trans (by have:=(hf i hi).2.2.1; rw [eb_nat hB] at this; exact this.symm)⟩
      | 3,_=>exact ⟨h0.1,fun i hi=>(h0.2 i hi).trans (by have:=(hf i hi).2.2.2; rw [eb_nat hB] at this; exact this.symm)⟩
      | j + 4,hj =>
        have hj2:j < ds.length:=by simpa using hj
        have:=h2 j hj2
        exact ⟨this.1,fun i hi=>(this.2 i hi).trans (hsh i j)⟩
    · rw [← h3 (fun l=>k (Nat.land (Nat.shiftRight B 6) (3 * ones N)::Nat.land (Nat.shiftRight B 4) (3 * ones N)::Nat.land (Nat.shiftRight B 2) (3 * ones N)::Nat.land B (3 * ones N)::l)),digsK_cons]
      simp only [frc_eq]
noncomputable def sumK (O3:Nat) (ds:List Nat):Nat→(Nat→Bool)→Bool:=@List.rec Nat (fun _=>Nat→(Nat→Bool)→Bool) (fun a k=>k a) (fun d _ ih a k=>frc (Nat.add a (Nat.xor d O3)) fun a'=>ih a' k) ds
theorem sumK_cons (O3 d:Nat) (ds:List Nat) (a:Nat) (k:Nat→Bool):sumK O3 (d::ds) a k=frc (Nat.add a (Nat.xor d O3)) fun a'=>sumK O3 ds a' k:=rfl
theorem xor3 {d:Nat} (h:d≤3):d ^^^ 3=3 - d:=by
  have:∀ d < 4,d ^^^ 3=3 - d:=by decide
  exact this d (by omega)
theorem sumK_spec {N:Nat} {b:Nat→List UInt8}:∀ (ds:List Nat) (m:Nat),DL N ds (fun i j=>dig (b i) (m + j))→∀ (a c:Nat),VB c a→c + 3 * ds.length < 2 ^ 64→(∀ i,i < N→laneN a i=digSum (b i) m)→∃ S,VB (c + 3 * ds.length) S∧(∀ i,i < N→laneN S i=digSum (b i) (m + ds.length))∧∀ k:Nat→Bool,sumK (3 * ones N) ds a k=k S
  | [],m,hd,a,c,ha,hc,hl=>⟨a,ha,hl,fun k=>rfl⟩
  | d::ds,m,hd,a,c,ha,hc,hl=>by
    obtain ⟨hd0,hd1⟩:=hd 0 (by simp)
    simp only [List.getElem_cons_zero,Nat.add_zero] at hd0 hd1
    rw [List.length_cons] at hc
    have hx:∀ i,laneN (d ^^^ 3 * ones N) i=laneN d i ^^^ (if i < N then 3 else 0):=fun i=>by rw [lane_xor,lane_const (by decide)]
    have hxv:VB 3 (d ^^^ 3 * ones N):=fun i=>by
      rw [hx]
      have h3:=hd0 i
      split
      · rw [xor3 h3]; omega
      · rw [Nat.xor_zero]; exact h3
    have hs:=VB_add ha hxv (by omega)
    obtain ⟨S,h1,h2,h3⟩:=sumK_spec ds (m + 1) (fun j hj=>by
      have:=hd (j + 1) (by simpa using hj)
      simp only [List.getElem_cons_succ] at this
      dsimp only
      rw [show m + 1 + j=m + (j + 1) by omega]
      exact this) (a + (d ^^^ 3 * ones N)) (c + 3) hs (by omega) (fun i hi=>by
      rw [lane_add ha hxv (by omega),hx,if_pos hi,xor3 (hd0 i),hd1 i hi,hl i hi]
      rfl)
    refine ⟨S,by rw [List.length_cons,show c + 3 * (ds.length + 1)=c + 3 + 3 * ds.length by omega]; exact h1,by rw [List.length_cons,show m + (ds.length + 1)=m + 1 + ds.length by omega]; exact h2,fun k=>?_⟩
    rw [← h3 k,sumK_cons,frc_eq]
    rfl
end Go.Proofs.Ytinamipkpdlphaa
