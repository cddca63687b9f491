/- Texts of this proof, one behind the other: TreeJ, TreeK, BlobD, TreeL, TreeM, TreeN, TreeO, TreeP, TreeQ, Froz, TreeR, TreeS, TreeU, TreeV, TreeBA, TreeBB, TreeBD, TreeBE, TreeBF, TreeBG. -/
import Derived.Test.YthkdkmaacjpneaaGreatDoorK4
import Derived.Test.YthkdkmaacjpneaaGreatDoorK2
import Derived.Test.YthkdkmaacjpneaaGreatDoorK3
import Derived.Deep.AppendSrc
import Derived.Lib.SlBytesConst
set_option linter.unusedVariables false
set_option linter.unusedSimpArgs false
set_option linter.unusedSectionVars false
namespace Go.Proofs.YthkdkmaacjpneaaGreatDoor
open Go.RowKit
set_option maxRecDepth 8000
theorem folder_spec (g m:Nat) (R:Value→List UInt8→Prop) (hm:m≤1000):∀ (T:HT),Fit m R T→∀ (hist:List (List UInt8)) (F:HP),(∀ v x,R v x→∀ h,F h→rdB v x h)→(∀ h,F h→tabsP h)→CallsS Tryz.prog 38 #[.pointer (some ⟨g,0,none⟩),.pointer (some ⟨T.g,0,none⟩)] F [bldP g hist,htP T] (fun r Ps=>r=idV (idT T)∧∃ hs:List (List UInt8),hs.Perm (blocksT T)∧Ps=[bldP g (hist++hs),htP T])
  | .mk gT gd gf dirs files,hF0=>folder_walk g m R hm gT gd gf dirs files hF0 (fun d hd=>folder_spec g m R hm d.2 (FitL_iff.1 (Fit_mk.1 hF0).2.2.1 d hd).2)
termination_by T=>SizeOf.sizeOf T
decreasing_by
  have h1:=List.sizeOf_lt_of_mem hd
  have h2:SizeOf.sizeOf d=1 + SizeOf.sizeOf d.1 + SizeOf.sizeOf d.2:=by cases d; rfl
  simp only [HT.mk.sizeOf_spec]
  omega
theorem treeC_length {v:Value} {id:List UInt8} (h:id.length=32):(treeC v id).length=33:=by simp [treeC,bs_length,h]
theorem treeC_one {v:Value} {id:List UInt8} (h:v.oneCell'=true):∀ u ∈ treeC v id,u.oneCell'=true:=by
  intro u hu
  rcases List.mem_cons.1 hu with rfl | hu
  · exact h
  · exact bs_one id u hu
theorem tree_build {id:List UInt8} (h:id.length=32):over (treeC (.slice none 0 0) zeroId) 1 (bs id)=treeC (.slice none 0 0) id:=by
  have hz:(bs zeroId).length=32:=by rw [bs_length,zeroId_length]
  have:=over_mid [.slice none 0 0] (bs zeroId) (bs id) [] (by rw [hz,bs_length,h])
  simpa [treeC] using this
theorem bk_build {id:List UInt8} {v:Value} (h:id.length=32):(over (bkC zeroId (.slice none 0 0) 0 0) 0 (bs id)).set 32 v=bkC id v 0 0:=by
  have hz:(bs zeroId).length=32:=by rw [bs_length,zeroId_length]
  have:=over_mid [] (bs zeroId) (bs id) [.slice none 0 0,.int .i64 0,.int .i64 0] (by rw [hz,bs_length,h])
  simp only [List.nil_append,List.length_nil] at this
  unfold bkC
  rw [this]
  rw [List.set_append_right _ _ (by rw [bs_length]; omega),bs_length,h]
  rfl
theorem row_lb {v:Value} {xs:List LB} {b:LB} {h:Hlt} (hp:rowP 59 35 v (xs.length + 1) (recC bvC ((xs.map lbV).map (·.1))++[bvC (lbV b).1].flatten) h):rowP 59 35 v (xs++[b]).length (recC bvC (((xs++[b]).map lbV).map (·.1))) h:=by
  rw [List.length_append,List.map_append,List.map_append,recC_append,List.map_cons,List.map_nil,List.map_cons,List.map_nil,recC_one]
  simpa using hp
theorem above_len:∀ (f:Nat) (l:List (List UInt8)),(above f l).1.length≤l.length
  | 0,l=>by rw [above]; simp
  | f + 1,l=>by
    by_cases h:1 < l.length
    · rw [above_big h]
      have h1:=above_len f ((rowsI l).map sha)
      rw [List.length_map,rowsI_length] at h1
      rw [List.length_append,rowsI_length]
      omega
    · rw [above_small h]; simp
theorem blocksF_len (k:Int) {d:List UInt8} (h:d.length≤100000):(blocksF k d).length≤4000:=by
  unfold blocksF aboveD
  have h1:=above_len (d.length + 1) ((rowsD d).map sha)
  rw [List.length_map,rowsD_length] at h1
  rw [List.length_append,List.length_append,rowsD_length,List.length_singleton]
  omega
mutual
def cnt:HT→Nat
  | .mk _ _ _ dirs files=>1 + files.length + cntD dirs
def cntD:List (List UInt8 × HT)→Nat
  | []=>0
  | d::ds=>cnt d.2 + cntD ds
end
theorem cnt_mk (g gd gf:Nat) (dirs:List (List UInt8 × HT)) (files:List F3):cnt (.mk g gd gf dirs files)=1 + files.length + cntD dirs:=by rw [cnt]
theorem cntD_app:∀ (a b:List (List UInt8 × HT)),cntD (a++b)=cntD a + cntD b
  | [],b=>by rw [List.nil_append,cntD]; omega
  | d::a,b=>by rw [List.cons_append,cntD,cntD,cntD_app a b]; omega
theorem cnt_put:∀ (p:List (List UInt8)) (v:Value) (d:List UInt8) (T T':HT),Put p v d T T'→cnt T'≤cnt T + p.length
  | [],_,_,_,_,h=>by simp [Put] at h
  | [n],v,d,.mk g gd gf dirs files,T',hp=>by
    simp only [Put] at hp
    subst hp
    rw [cnt_mk,cnt_mk,List.length_append,List.length_singleton,List.length_singleton]
    omega
  | n::k::p,v,d,.mk g gd gf dirs files,T',hp=>by
    simp only [Put] at hp
    rcases hp with ⟨a,c,t,t',rfl,_,hpt,rfl⟩ | ⟨_,g1,gd1,gf1,t',hpt,rfl⟩
    · have:=cnt_put (k::p) v d t t' hpt
      rw [cnt_mk,cnt_mk,cntD_app,cntD_app,cntD,cntD,List.length_cons]
      dsimp only
      omega
    · have:=cnt_put (k::p) v d _ t' hpt
      rw [cnt_mk,cntD] at this
      rw [cnt_mk,cnt_mk,cntD_app,cntD,cntD,List.length_cons]
      simp only [List.length_nil] at this ⊢
      omega
theorem Filled.cnt_le {b:Nat} {l:List F3} {T:HT} (h:Filled l T):(∀ x ∈ l,(pathOf x).length≤b)→cnt T≤1 + l.length * b:=by
  induction h with
  | nil g gd gf=>intro _; rw [cnt_mk,cntD]; simp
  | snoc l x T T' h1 h2 h3 ih =>
    intro hx
    have h4:=cnt_put _ _ _ _ _ h3
    have h5:=ih fun y hy=>hx y (by simp [hy])
    have h6:=hx x (by simp)
    rw [List.length_append,List.length_singleton,Nat.succ_mul]
    omega
theorem fileBs_len:∀ {fs:List F3},(∀ x ∈ fs,x.2.2.length≤100000)→(fileBs fs).length≤4000 * fs.length
  | [],_=>by simp [fileBs]
  | f::fs,h=>by
    have h1:=fileBs_len (fs:=fs) fun x hx=>h x (by simp [hx])
    have h2:=blocksF_len 1 (h f (by simp))
    unfold fileBs at h1 ⊢
    rw [List.map_cons,List.flatten_cons,List.length_append,List.length_cons]
    omega
theorem sortEs (m:Nat) (R:Value→List UInt8→Prop) (dirs:List (List UInt8 × HT)) (files:List F3):Ents (sortN (fileEs files++entsD dirs)):=fun e he=>by
  rcases List.mem_append.1 ((sortN_perm _).mem_iff.1 he) with h | h
  · obtain ⟨f,_,rfl⟩:=List.mem_map.1 h; exact sha_length _
  · rw [entsD_map] at h; obtain ⟨d,_,rfl⟩:=List.mem_map.1 h; exact idT_length _
mutual
theorem blocksT_len {m:Nat} {R:Value→List UInt8→Prop}:∀ {T:HT},Fit m R T→(blocksT T).length≤4000 * cnt T
  | .mk g gd gf dirs files,h=>by
    rw [Fit_mk] at h
    have h1:=fileBs_len fun x hx=>(h.2.1 x hx).2.1
    have h2:=blocksDs_len h.2.2.1
    have h3:=blocksF_len 2 (dirR_len5 (sortEs m R dirs files))
    rw [blocksT,cnt_mk,List.length_append,List.length_append]
    omega
theorem blocksDs_len {m:Nat} {R:Value→List UInt8→Prop}:∀ {ds:List (List UInt8 × HT)},FitL m R ds→(blocksDs ds).length≤4000 * cntD ds
  | [],_=>by rw [blocksDs]; simp
  | d::ds,h=>by
    rw [FitL] at h
    have h1:=blocksT_len h.2.1
    have h2:=blocksDs_len h.2.2
    rw [blocksDs,cntD,List.length_append]
    omega
end
theorem build_spec (v:Value) (xs:List F3) (hxn:xs.length≤1000000000000) (hb:∀ x ∈ xs,x.1.length≤900000∧x.2.2.length≤100000000000) (F:HP) (hF:∀ h,F h→rdIt v xs h) (hD:∀ h,F h→datI xs h) (hT:∀ h,F h→tabsP h):CallsS Tryz.prog 16 #[v] F [] (fun r Ps=>∃ (v':Value) (id:List UInt8) (l:List TB),r = .tuple #[.agg (treeC v' id).toArray,.int .i64 (buildE xs:Int)]∧Ps=[treeP v' l]∧id.length=32∧(buildE xs≠0→l=[]∧v' = .slice none 0 0∧id=zeroId)∧(buildE xs=0→∃ T,Filled xs T∧id=idT T∧TreeOf (blocksT T) l)):=by
 refine callsS_enter Tryz.func16 rfl Tryz.ntmps16 (by simp) (fun E=>?_)
 refine Q9 (R9 (Lc9 rfl rfl (by decide) (OpT_alloc (r:=101) (cs:=(treeC (.slice none 0 0) zeroId)) rfl (zero_run (by kernel_rfl:(Tryz.prog.info? 31).bind (·.zero)=some (.agg (treeC (.slice none 0 0) zeroId).toArray))) rfl (fun g101=>(G9 rfl rfl (N9 (X9 (Q9 (Q9 ?_)))))))))
 refine W_nilRow 1 59 35 ?_
 refine W_fact (r:=0) rfl (fun h hp x hx=>rd_one (hD h hp x hx)) (fun (hone:∀ x ∈ xs,x.2.1.oneCell'=true)=>?_)
 refine R9 (M9 rfl rfl (L9 rfl (Pl9 (r:=0) rfl Tryz.runUnderlying24 rfl rfl hF) (L9 rfl (Pn9 rfl rfl rfl (run_gtr _ _ _ _ _ _)) (N9 (X9 ?_)))))
 refine C9 rfl (fun hc18=>?_) (fun hc18=>?_)
 ·
  have hbe:buildE xs=4:=by unfold buildE; rw [if_pos (by have:=of_decide_eq_true hc18; omega)]
  refine Q9 (R9 (L9 rfl (Pu_build (V:=.agg (treeC (.slice none 0 0) zeroId).toArray) [(0,1),(1,32)] (treeC (.slice none 0 0) zeroId) rfl rfl (by kernel_rfl) (by kernel_rfl) (.nil _) rfl) (Lc09 rfl rfl (OpT_storeAll (r:=101) rfl Tryz.sizeOf31 rfl rfl rfl rfl rfl (treeC_one rfl) ?_))))
  refine (G9 rfl rfl (N9 (X9 ?_)))
  refine W_ret (X_then_ret ?_)
  refine X_turn (P':=treeP (.slice none 0 0) []) 1 rfl (fun h hp=>treeP_nil hp) ?_
  exact Xq9 [1] (Ps:=[_]) (resC2 (r:=101) Tryz.results16 rfl rfl Tryz.isAgg31 Tryz.sizeOf31 rfl (treeC_length zeroId_length)) rfl (by decide) ⟨.slice none 0 0,zeroId,[],by rw [hbe] <;> rfl,rfl,zeroId_length,fun _=>⟨rfl,rfl,rfl⟩,fun h=>absurd h (by rw [hbe]; first | decide | exact hne)⟩
 ·
  have hn20:xs.length≤20:=by have:=of_decide_eq_false hc18; omega
  refine K9 (X9 ?_)
  refine Q9 (Q9 ?_)
  have hn20:xs.length≤20:=by have:=of_decide_eq_false hc18; omega
  refine R9 (M9 rfl rfl (L9 rfl (Pl9 (r:=0) rfl Tryz.runUnderlying24 rfl rfl hF) (M9 rfl rfl (N9 (X9 ?_)))))
  refine W_block ?_
  refine W_loop (α:=Nat) (fun x=>[(0,v),(2,.pointer (some ⟨g101,0,none⟩)),(20,v),(21,.int .i64 (xs.length:Int)),(22,.int .i64 (x:Int))]) (fun x=>[(0,F),(1,rowP 59 35 (.slice none 0 0) 0 []),(101,blk g101 31 (treeC (.slice none 0 0) zeroId))]) (fun x=>x≤xs.length∧firstW (xs.drop x)=firstW xs) (fun x=>xs.length - x) (0) ⟨Nat.zero_le _,rfl⟩ (a9 rfl) (a9 rfl) (fun x hx=>?_)
  obtain ⟨hx,hfw⟩:=hx
  refine Q9 (R9 (L9 rfl (Pn9 rfl rfl rfl (run_lss _ _ _ _ _ _)) (N9 (X9 (Q9 ?_)))))
  refine C9 rfl (fun hc23=>?_) (fun hc23=>?_)
  ·
   have hlt:x < xs.length:=by have:=of_decide_eq_true hc23; omega
   have hxm:xs.getD x it0 ∈ xs:=getD_mem' hlt
   have hxb:=hb _ hxm
   have hxo:=hone _ hxm
   refine K9 (X9 ?_)
   refine Q9 ?_
   refine W_block ?_
   refine Q9 (R9 (L9 rfl (Pi9 (r:=0) rfl Tryz.runUnderlying24 Tryz.sizeOf38 rfl rfl rfl hF (by omega)) (L9 rfl (Pz9 (r:=0) rfl Tryz.isAgg38 Tryz.sizeOf38 rfl rfl hF rfl (by decide) (its_all hlt)) (Lc9 rfl rfl (by decide) (OpT_alloc (r:=102) (cs:=(itC it0)) rfl (zero_run (by kernel_rfl:(Tryz.prog.info? 38).bind (·.zero)=some (.agg (itC it0).toArray))) rfl (fun g102=>(Lc09 rfl rfl (OpT_storeAll (r:=102) rfl Tryz.sizeOf38 rfl rfl rfl rfl rfl (itC_one hxo) ?_))))))))
   refine (N9 (X9 ?_))
   refine Q9 (R9 (L9 rfl (Px9 (r:=102) rfl Tryz.isAgg38 Tryz.sizeOf38 rfl rfl rfl (load_all rfl)) (Lc9 rfl rfl (by decide) (Oc9 200 [0,1,101,102] [] rfl Tryz.call34 rfl rfl rfl (by decide) (by decide) (wrongI_spec (xs.getD x it0).1 (xs.getD x it0).2.2 (xs.getD x it0).2.1 (by omega) hxb.2 _ (rs9 0 rfl (fun h hp=>hD h hp _ hxm)) (ts9 0 rfl hT)) (fun v27 Ps27 hR27=>?_)))))
   obtain ⟨rfl,rfl⟩:=hR27
   refine (G9 rfl rfl (N9 (X9 ?_)))
   refine Q9 (R9 (M9 rfl rfl (L9 rfl (Pn9 rfl rfl rfl (run_neq _ _ _ _ _ _)) (N9 (X9 ?_)))))
   refine C9 rfl (fun hc29=>?_) (fun hc29=>?_)
   ·
    have hne:wrongI (xs.getD x it0).1 (xs.getD x it0).2.2≠0:=by simpa using hc29
    have hbe:buildE xs=wrongI (xs.getD x it0).1 (xs.getD x it0).2.2:=by unfold buildE; rw [if_neg (by omega),← hfw,firstW_at hlt,if_pos hne,if_pos hne]
    refine Q9 (R9 (L9 rfl (Pu_build (V:=.agg (treeC (.slice none 0 0) zeroId).toArray) [(0,1),(1,32)] (treeC (.slice none 0 0) zeroId) rfl rfl (by kernel_rfl) (by kernel_rfl) (.nil _) rfl) (M9 rfl rfl (Lc09 rfl rfl (OpT_storeAll (r:=101) rfl Tryz.sizeOf31 rfl rfl rfl rfl rfl (treeC_one rfl) ?_)))))
    refine (G9 rfl rfl (N9 (X9 ?_)))
    refine W_ret (X_block_ret (X_then_ret (X_then_ret (X_block_ret (X_then_ret ?_)))))
    refine X_turn (P':=treeP (.slice none 0 0) []) 1 rfl (fun h hp=>treeP_nil hp) ?_
    exact Xq9 [1] (Ps:=[_]) (resC2 (r:=101) Tryz.results16 rfl rfl Tryz.isAgg31 Tryz.sizeOf31 rfl (treeC_length zeroId_length)) rfl (by decide) ⟨.slice none 0 0,zeroId,[],by rw [hbe] <;> rfl,rfl,zeroId_length,fun _=>⟨rfl,rfl,rfl⟩,fun h=>absurd h (by rw [hbe]; first | decide | exact hne)⟩
   ·
    have hgood:wrongI (xs.getD x it0).1 (xs.getD x it0).2.2=0:=by simpa using hc29
    refine K9 (X_block (X9 ?_))
    refine R9 (L9 rfl (Pn9 rfl rfl rfl (run_add _ _ _ _ _ (by omega))) (M9 rfl rfl (N9 ?_)))
    exact Xr9 (x + 1) ⟨by omega,by rw [← hfw,firstW_at hlt,if_neg (fun h=>h hgood)]⟩ (by omega) (a9 rfl) (a9 rfl)
  ·
   have hge:xs.length≤x:=by have:=of_decide_eq_false hc23; omega
   have hfw0:firstW xs=0:=by rw [← hfw,List.drop_of_length_le hge]; rfl
   refine W_exit (X_then_exit (X_then_exit (X_block_exit (X9 ?_))))
   refine Q9 (R9 (Lc9 rfl rfl (by decide) (Oc9 200 [0,1,101] [] rfl Tryz.call35 rfl rfl rfl (by decide) (by decide) (empty_spec _) (fun v33 Ps33 hR33=>?_))))
   obtain ⟨g7,gd7,gf7,rfl,rfl⟩:=hR33
   skip
   refine (G9 rfl rfl (N9 (X9 ?_)))
   refine Q9 (Q9 (R9 (M9 rfl rfl (L9 rfl (Pl9 (r:=0) rfl Tryz.runUnderlying24 rfl rfl hF) (M9 rfl rfl (N9 (X9 ?_)))))))
   refine W_block ?_
   have hzw:=firstW_zero hfw0
   have hpl:(xs.map pathOf).length=xs.length:=List.length_map _
   refine W_loop (α:=Nat × HT) (fun y=>[(0,v),(2,.pointer (some ⟨g101,0,none⟩)),(7,.pointer (some ⟨g7,0,none⟩)),(34,v),(35,.int .i64 (xs.length:Int)),(36,.int .i64 (y.1:Int))]) (fun y=>[(0,F),(1,rowP 59 35 (.slice none 0 0) 0 []),(101,blk g101 31 (treeC (.slice none 0 0) zeroId)),(200,htP y.2)]) (fun y=>y.1≤xs.length∧y.2.g=g7∧Filled (xs.take y.1) y.2∧fits ((xs.map pathOf).take y.1) ((xs.map pathOf).drop y.1)=fits [] (xs.map pathOf)) (fun y=>xs.length - y.1) ((0,.mk g7 gd7 gf7 [] [])) ⟨Nat.zero_le _,rfl,Filled.nil _ _ _,rfl⟩ (a9 rfl) (a9 rfl) (fun y hy=>?_)
   obtain ⟨hy,hyg,hyf,hyt⟩:=hy
   refine Q9 (R9 (L9 rfl (Pn9 rfl rfl rfl (run_lss _ _ _ _ _ _)) (N9 (X9 (Q9 ?_)))))
   refine C9 rfl (fun hc37=>?_) (fun hc37=>?_)
   ·
    have hlt2:y.1 < xs.length:=by have:=of_decide_eq_true hc37; omega
    have hxm2:xs.getD y.1 it0 ∈ xs:=getD_mem' hlt2
    have hxb2:=hb _ hxm2
    have hxo2:=hone _ hxm2
    obtain ⟨hz1,hz2,hz3⟩:=wrongI_zero (hzw _ hxm2)
    have hzl:=splitN_len (xs.getD y.1 it0).1
    have hcf:=hyf.can (pathOf (xs.getD y.1 it0)) hz2
    have hpe:(xs.map pathOf).getD y.1 []=pathOf (xs.getD y.1 it0):=by simp [hlt2]
    have hal2:((xs.map pathOf).take y.1).all (fun q=>!clash q ((xs.map pathOf).getD y.1 []))=canPut (pathOf (xs.getD y.1 it0)) y.2:=by rw [hcf,hpe,← List.map_take,List.all_map]; rfl
    refine K9 (X9 ?_)
    refine Q9 ?_
    refine W_block ?_
    refine Q9 (R9 (L9 rfl (Pi9 (r:=0) rfl Tryz.runUnderlying24 Tryz.sizeOf38 rfl rfl rfl hF (by omega)) (L9 rfl (Pz9 (r:=0) rfl Tryz.isAgg38 Tryz.sizeOf38 rfl rfl hF rfl (by decide) (its_all hlt2)) (Lc9 rfl rfl (by decide) (OpT_alloc (r:=201) (cs:=(itC it0)) rfl (zero_run (by kernel_rfl:(Tryz.prog.info? 38).bind (·.zero)=some (.agg (itC it0).toArray))) rfl (fun g201=>(Lc09 rfl rfl (OpT_storeAll (r:=201) rfl Tryz.sizeOf38 rfl rfl rfl rfl rfl (itC_one hxo2) ?_))))))))
    refine (N9 (X9 ?_))
    refine Q9 (R9 (L9 rfl (F9 0 rfl rfl) (L9 rfl (Pb9 (r:=201) rfl Tryz.isAgg9 rfl rfl rfl) (Lc9 rfl rfl (by decide) (Oc9 300 [0,1,101,200,201] [] rfl Tryz.call36 rfl rfl rfl (by decide) (by decide) (split_nspec (xs.getD y.1 it0).1 (by omega) _ (ts9 0 rfl hT)) (fun v43 Ps43 hR43=>?_))))))
    obtain ⟨vs43,rfl,rfl⟩:=hR43
    skip
    refine (M9 rfl rfl (L9 rfl (Pe9 rfl rfl rfl) (L9 rfl (Pe9 rfl rfl rfl) (G9 rfl rfl (G9 rfl rfl (N9 (X9 ?_)))))))
    refine Q9 (R9 (M9 rfl rfl (M9 rfl rfl (L9 rfl (F9 1 rfl rfl) (L9 rfl (Pb9 (r:=201) rfl Tryz.isAgg36 rfl rfl rfl) (Lc9 rfl rfl (by decide) (Oc9 400 [0,1,101,201,300] [200] rfl Tryz.call37 (by rw [← hyg]; rfl) rfl rfl (by decide) (by decide) (put_spec (splitN (xs.getD y.1 it0).1).1 y.2 vs43 (xs.getD y.1 it0).2.1 (xs.getD y.1 it0).2.2 _ hz2 (by omega) (rs9 4 rfl rowS_rd)) (fun v50 Ps50 hR50=>?_))))))))
    obtain ⟨T1,hg1,rfl,hput1,rfl⟩:=hR50
    skip
    refine (L9 rfl (Pu_un rfl rfl (run_not _)) (N9 (X9 ?_)))
    refine C9 rfl (fun hc51=>?_) (fun hc51=>?_)
    ·
     have hcan:canPut (pathOf (xs.getD y.1 it0)) y.2=false:=by simpa [pathOf] using hc51
     have hnf:fits [] (xs.map pathOf)=false:=by rw [← hyt,fits_step (by omega),hal2,hcan]; rfl
     have hbe:buildE xs=7:=by unfold buildE; rw [if_neg (by omega),if_neg (fun h=>h hfw0),hnf]; rfl
     refine Q9 (R9 (L9 rfl (Pu_build (V:=.agg (treeC (.slice none 0 0) zeroId).toArray) [(0,1),(1,32)] (treeC (.slice none 0 0) zeroId) rfl rfl (by kernel_rfl) (by kernel_rfl) (.nil _) rfl) (Lc09 rfl rfl (OpT_storeAll (r:=101) rfl Tryz.sizeOf31 rfl rfl rfl rfl rfl (treeC_one rfl) ?_))))
     refine (G9 rfl rfl (N9 (X9 ?_)))
     refine W_ret (X_block_ret (X_then_ret (X_then_ret (X_block_ret (X_then_ret ?_)))))
     refine X_turn (P':=treeP (.slice none 0 0) []) 1 rfl (fun h hp=>treeP_nil hp) ?_
     exact Xq9 [1] (Ps:=[_]) (resC2 (r:=101) Tryz.results16 rfl rfl Tryz.isAgg31 Tryz.sizeOf31 rfl (treeC_length zeroId_length)) rfl (by decide) ⟨.slice none 0 0,zeroId,[],by rw [hbe] <;> rfl,rfl,zeroId_length,fun _=>⟨rfl,rfl,rfl⟩,fun h=>absurd h (by rw [hbe]; first | decide | exact hne)⟩
    ·
     have hcan:canPut (pathOf (xs.getD y.1 it0)) y.2=true:=by simpa [pathOf] using hc51
     have hall:((xs.map pathOf).take y.1).all (fun q=>!clash q ((xs.map pathOf).getD y.1 []))=true:=by rw [hal2,hcan]
     refine K9 (X_block (X9 ?_))
     refine R9 (L9 rfl (Pn9 rfl rfl rfl (run_add _ _ _ _ _ (by omega))) (M9 rfl rfl (N9 ?_)))
     refine X_ren 400 200 rfl ?_
     have htk1:xs.take (y.1 + 1)=xs.take y.1++[(xs.getD y.1 it0)]:=by rw [List.take_add_one]; simp [List.getElem?_eq_getElem hlt2]
     exact Xr9 (y.1 + 1,T1) ⟨by dsimp only; omega,hg1.trans hyg,by rw [htk1]; exact Filled.snoc _ _ _ _ hyf hcan (hput1 hcan),by rw [← hyt]; exact ((fits_step (k:=y.1) (by omega)).trans (by rw [hall]; rfl)).symm⟩ (by dsimp only; omega) (a9 rfl) (a9 rfl)
   ·
    have hge2:xs.length≤y.1:=by have:=of_decide_eq_false hc37; omega
    have hfits:fits [] (xs.map pathOf)=true:=by rw [← hyt,List.drop_of_length_le (by omega)]; rfl
    have hbe:buildE xs=0:=by unfold buildE; rw [if_neg (by omega),if_neg (fun h=>h hfw0),if_pos hfits]
    have hfil:Filled xs y.2:=by rwa [List.take_of_length_le hge2] at hyf
    have hfit:Fit xs.length (fun v0 x0=>∀ h,F h→rdB v0 x0 h) y.2:=hfil.fit (fun x hx=>⟨by have:=(hb x hx).1; omega,by have:=(wrongI_zero (hzw x hx)).2.2; omega,fun h hp=>hD h hp x hx⟩)
    refine W_exit (X_then_exit (X_then_exit (X_block_exit (X9 ?_))))
    refine Q9 (R9 (Lc9 rfl rfl (by decide) (OpT_makeMapQ (r:=3) (enc:=idV) (ok:=ok32) rfl (fun gm0=>?_))))
    skip
    refine (L9 rfl (Pu_build (V:=.agg #[.map (some gm0)]) [(0,1)] ([.map none]) rfl rfl (by kernel_rfl) (by kernel_rfl) (.one rfl rfl (by simp [List.length_cons]) rfl (.nil _)) rfl) (Lc9 rfl rfl (by decide) (OpT_box (r:=201) rfl rfl rfl (fun g201=>(G9 rfl rfl (N9 (X9 ?_)))))))
    refine Q9 ?_
    refine W_join [201,3] 4 (bldP g201 []) rfl (by decide) (fun h hs=>closeBld (es:=[]) Laid.nil (starL_add (Ps:=[_,_]) (fun p hp=>by cases hp) hs)) ?_
    rw [← hyg]
    refine R9 (M9 rfl rfl (M9 rfl rfl (Lc9 rfl rfl (by decide) (Oc9 300 [0,1,101] [4,200] rfl Tryz.call38 rfl rfl rfl (by decide) (by decide) (folder_spec g201 xs.length _ (by omega) y.2 hfit [] _ (fun v0 x0 hq=>rs9 0 rfl hq) (ts9 0 rfl hT)) (fun v59 Ps59 hR59=>?_)))))
    obtain ⟨rfl,hs59,hp59,rfl⟩:=hR59
    skip
    refine (L9 rfl (Pu_build (V:=.agg (treeC (.slice none 0 0) (idT y.2)).toArray) [(0,1),(1,32)] (treeC (.slice none 0 0) zeroId) rfl rfl (by kernel_rfl) (by kernel_rfl) (.many rfl ((bs_length _).trans (idT_length _)) (by simp [treeC,bs_length,zeroId_length]) rfl (.nil _)) (congrArg (fun q:List Value=>Value.agg q.toArray) (tree_build (idT_length _)))) (Lc9 rfl rfl (by decide) (OpT_alloc (r:=303) (cs:=(treeC (.slice none 0 0) zeroId)) rfl (zero_run (by kernel_rfl:(Tryz.prog.info? 31).bind (·.zero)=some (.agg (treeC (.slice none 0 0) zeroId).toArray))) rfl (fun g303=>(Lc09 rfl rfl (OpT_storeAll (r:=303) rfl Tryz.sizeOf31 rfl rfl rfl (treeC_length zeroId_length) (treeC_length (idT_length _)) (treeC_one rfl) ?_))))))
    refine (N9 (X9 ?_))
    refine Q9 (Q9 ?_)
    refine W_openBld 300 600 rfl (fun gm es hl=>?_)
    refine W_fact (r:=602) rfl (fun h hp=>laid_ok hl hp) (fun hok=>?_)
    have hesl:es.length≤1000000000000:=by have h1:=hl.len; have h2:=hp59.length_eq; have h3:=blocksT_len hfit; have h4:=hfil.cnt_le (b:=900001) (fun x hx=>by have h5:=splitN_len x.1; have h6:=(hb x hx).1; unfold pathOf; omega); have h7:xs.length * 900001≤20 * 900001:=Nat.mul_le_mul_right _ hn20; simp only [List.nil_append] at h1; omega
    refine R9 (M9 rfl rfl (L9 rfl (Pu_nilCheck rfl rfl) (L9 rfl (F9 0 rfl rfl) (L9 rfl (Pb9 (r:=600) rfl Tryz.isAgg86 rfl rfl rfl) (Lc9 rfl rfl (by decide) (OpT_rangeQ (r:=601) rfl Tryz.underlying86 rfl rfl (fun it1=>(N9 (X9 ?_)))))))))
    refine W_block ?_
    refine W_loop (α:=Value × List LB × List LB × List (List UInt8 × Value)) (fun z=>[(2,.pointer (some ⟨g101,0,none⟩)),(13,.pointer (some ⟨g303,0,none⟩)),(65,.pointer (some ⟨it1,0,none⟩))]) (fun z=>[(0,F),(1,rowP 59 35 z.1 z.2.1.length (recC bvC ((z.2.1.map lbV).map (·.1)))),(101,blk g101 31 (treeC (.slice none 0 0) zeroId)),(303,blk g303 31 (treeC z.1 (idT y.2))),(601,mapQ idV ok32 gm (entsL es) (some (it1,z.2.2.2,none))),(602,datL es)]) (fun z=>z.1.oneCell'=true∧(z.2.1++z.2.2.1).Perm es∧z.2.2.2.Perm (entsL z.2.2.1)) (fun z=>z.2.2.1.length) ((.slice none 0 0,[],es,entsL es)) ⟨rfl,List.Perm.refl _,List.Perm.refl _⟩ (a9 rfl) (a9 rfl) (fun z hz=>?_)
    obtain ⟨hzo,hz1,hz2⟩:=hz
    refine Q9 ?_
    refine R9 (Lc9 rfl rfl (by decide) (OpT_nextQ (r:=601) keyB rfl rfl rfl (fun hnil=>?_) (fun p left hpe hpm=>?_)))
    ·
     rw [hnil] at hz2
     have hl2:=nil_map hz2
     rw [hl2,List.append_nil] at hz1
     refine (L9 rfl (Pe9 rfl rfl rfl) (N9 (X9 ?_)))
     refine Q9 ?_
     refine W_false rfl (rfl) ?_
     refine W_exit (X_then_exit (X_then_exit (X_block_exit (X9 ?_))))
     refine Q9 ?_
     refine Wt9 601 rfl (fun h hp=>mapQ_none hp) ?_
     refine Wt9 (P':=rowP 59 35 z.1 ((z.2.1.map lbV).map (·.1)).length (recC bvC ((z.2.1.map lbV).map (·.1)))) 1 rfl (fun h hp=>by rw [List.length_map,List.length_map]; exact hp) ?_
     refine R9 (L9 rfl (F9 0 rfl rfl) (L9 rfl (Pb9 (r:=303) rfl Tryz.isAgg27 rfl rfl rfl) (Lc9 rfl rfl (by decide) (Oc9 700 [0,101,303,601,602] [1] rfl Tryz.call39 rfl rfl rfl (by decide) (by decide) (sortB_spec z.1 ((z.2.1.map lbV).map (·.1)) (by rw [List.length_map,List.length_map]; have:=hz1.length_eq; omega) _) (fun v81 Ps81 hR81=>?_)))))
     obtain ⟨rfl,ys,hys,hsrt,rfl⟩:=hR81
     skip
     refine (N9 (X9 ?_))
     refine Q9 (R9 (L9 rfl (Px9 (r:=303) rfl Tryz.isAgg31 Tryz.sizeOf31 rfl rfl (treeC_length (idT_length _)) (load_all (treeC_length (idT_length _)))) (Lc09 rfl rfl (OpT_storeAll (r:=101) rfl Tryz.sizeOf31 rfl rfl rfl (treeC_length zeroId_length) (treeC_length (idT_length _)) (treeC_one hzo) ?_))))
     refine (G9 rfl rfl (N9 (X9 ?_)))
     refine W_ret ?_
     obtain ⟨zs,hzs,htree,hclose⟩:=tree_done hl hok hz1 hp59 hys hsrt
     refine X_join [700,602] 1 (treeP z.1 (zs.map toTB)) rfl (by decide) (fun h hs=>hclose _ h hs) ?_
     exact Xq9 [1] (Ps:=[_]) (resC2 (r:=101) Tryz.results16 rfl rfl Tryz.isAgg31 Tryz.sizeOf31 rfl (treeC_length (idT_length _))) rfl (by decide) ⟨z.1,idT y.2,zs.map toTB,by rw [hbe] <;> rfl,rfl,idT_length _,fun h=>absurd hbe h,fun _=>⟨y.2,hfil,rfl,htree⟩⟩
    ·
     obtain ⟨b,l3,rfl,hb2,hb3⟩:=pick_map hz2 hpm
     have hbm:b ∈ es:=hz1.mem_iff.1 (List.mem_append.2 (.inr (hb2.mem_iff.2 (by simp))))
     have hbo:=hok b hbm
     have hzlen:z.2.1.length≤1000000000000:=by have:=hz1.length_eq; rw [List.length_append] at this; omega
     refine (L9 rfl (Pe9 rfl rfl rfl) (N9 (X9 ?_)))
     refine Q9 ?_
     refine W_true rfl (rfl) ?_
     refine K9 (X9 ?_)
     refine W_block ?_
     refine Q9 (R9 (L9 rfl (Pu_entryQ (r:=601) rfl rfl rfl) (L9 rfl (Pe9 rfl rfl rfl) (L9 rfl (Pe9 rfl rfl rfl) (Lc9 rfl rfl (by decide) (OpT_alloc (r:=651) (cs:=(bs zeroId)) rfl (zero_run (by kernel_rfl:(Tryz.prog.info? 29).bind (·.zero)=some (.agg (bs zeroId).toArray))) rfl (fun g651=>(Lc09 rfl rfl (OpT_storeAll (r:=651) rfl Tryz.sizeOf29 rfl rfl rfl ((bs_length _).trans zeroId_length) ((bs_length _).trans hbo.1) (bs_one _) ?_)))))))))
     refine (G9 rfl rfl (N9 (X9 ?_)))
     refine R9 (L9 rfl (F9 0 rfl rfl) (L9 rfl (Pb9 (r:=303) rfl Tryz.isAgg27 rfl rfl rfl) (L9 rfl (Px9 (r:=651) rfl Tryz.isAgg29 Tryz.sizeOf29 rfl rfl ((bs_length _).trans hbo.1) (load_all ((bs_length _).trans hbo.1))) (M9 rfl rfl (L9 rfl (Pu_build (V:=.agg (bvC (lbV b).1).toArray) [(0,32),(32,1),(33,1),(34,1)] (bkC zeroId (.slice none 0 0) 0 0) rfl rfl (by kernel_rfl) (by kernel_rfl) (.many rfl ((bs_length _).trans hbo.1) (by rw [bkC_length zeroId_length]; decide) rfl (.one rfl hbo.2 (by rw [over_length,bkC_length zeroId_length] <;> first | decide | (rw [bs_length,hbo.1,bkC_length zeroId_length]; decide)) rfl (.nil _))) (congrArg (fun q:List Value=>Value.agg q.toArray) ((bk_build hbo.1).trans (lbV_c hbo).symm))) (Lc9 rfl rfl (by decide) (OpT_buildRows (r:=652) [bvC (lbV b).1] rfl rfl Tryz.runUnderlying27 Tryz.sizeOf59 Tryz.zeroValue59 rfl (by decide) rfl (by decide) (by intro r hr; simp at hr; rw [hr]; exact bvC_length _) rfl (fun v76=>(Lc9 rfl rfl (by decide) (Oa9 (r:=1) (r2:=652) rfl Tryz.underlying27 TI.hi59 TI.hz59 TI.hs59 TI.hby59 TI.hzs59 (by decide) rfl rfl rfl rfl (fun _ h=>rp9 h) (by intro u hu; simp at hu; exact bvC_one _ u hu) (by unfold maxLen; omega) (by omega) (fun v77=>?_)))))))))))
     refine WL_fact (r:=1) rfl (fun h hp=>rd_one (rp9 hp)) (fun ho77=>?_)
     refine (L9 rfl (F9 0 rfl rfl) (Lc09 rfl rfl (OpT_storeB1 (r:=303) rfl Tryz.sizeOf27 rfl rfl rfl ho77 (by rw [treeC_length (idT_length _)]; decide) (show _=treeC v77 (idT y.2) from rfl) ?_)))
     refine (N9 (X_block ?_))
     refine X_turn 601 rfl (fun h hp=>mapQ_uncur hp) ?_
     refine X_turn (P':=rowP 59 35 v77 (z.2.1++[b]).length (recC bvC (((z.2.1++[b]).map lbV).map (·.1)))) 1 rfl (fun h hp=>row_lb hp) ?_
     exact Xr9 (v77,z.2.1++[b],l3,left) ⟨ho77,by refine List.Perm.trans ?_ hz1; rw [List.append_assoc]; exact List.Perm.append_left _ hb2.symm,hb3⟩ (by have:=hb2.length_eq; simp at this; dsimp only; omega) (a9 rfl) (a9 rfl)
open Go.RowKit
theorem mapQ_le {κ:Type} [DecidableEq κ] {enc:κ→Value} {ok:κ→Prop} {g:Nat} {es:List (κ × Value)} {h h':Hlt} (hp:mapQ enc ok g es none h') (hle:∀ q o,h' q=some o→h q=some o):mapQ enc ok g es none h:=by
  obtain ⟨h1,a,clk,h2,h3,h4,_⟩:=hp
  exact ⟨h1,a,clk,hle _ _ h2,h3,h4,trivial⟩
theorem mapQ_star {κ:Type} [DecidableEq κ] {enc:κ→Value} {ok:κ→Prop} {g:Nat} {es:List (κ × Value)} {Js:List HP} {P:HP} (k:Nat) (hk:Js[k]?=some P) (hp:∀ h,P h→mapQ enc ok g es none h):∀ h,starL Js h→mapQ enc ok g es none h:=fun h ⟨hs,h1,_,h3⟩=>mapQ_le (hp _ (h1 k P hk)) (fun q o hq=>h3 k q o hq)
section
variable {P:Program} {E:Env} {n:Nat} {K:Slots} {L:Res} {o:Oper} {C:Value→Res→Prop} {κ:Type} [DecidableEq κ] {kt mt et:TypeId} {enc:κ→Value} {ok:κ→Prop}
theorem Pu_lookupOkF {r g:Nat} {x y:Operand} {k:κ} {es:List (κ × Value)} {Pr:HP} {z:Value} (T:KeyT P kt enc ok) (ho:o.op = .lookup mt x y true) (hm:P.underlying mt=some (.map kt et)) (hz:∀ w,(zeroValue et).run P w = .ok z w)
    (hx:evK K x=some (.map (some g))) (hy:evK K y=some (enc k)) (hl:ok k) (hr:look L r=some Pr) (hM:∀ h,Pr h→mapQ enc ok g es none h):Pure P E n o K L (.tuple #[(lookQ k es).getD z,.bool (lookQ k es).isSome]):=fun a w hA hS=>by
  obtain ⟨h,q1,q2⟩:=hS.read hr
  have:=run_lookupQ T hm hz (hM h q1) q2 k hl true
  simp only [if_true] at this
  simp only [execOp,ho,hA.eval hx,hA.eval hy,Sem.run_bind,this]
  rfl
end
theorem entsL_fil (es:List LB):entsL es=filM es:=rfl
abbrev VW:=List UInt8→Option (List UInt8)
abbrev Nd:=Int × Int × Int × List UInt8
def nd0:Nd:=(0,0,0,zeroId)
def ndC (n:Nd):List Value:=nodeC n.1 n.2.1 n.2.2.1 n.2.2.2
def NdOk (n:Nd):Prop:=(n.1=1∨n.1=2)∧0≤n.2.1∧n.2.1≤1048576∧n.2.2.1=(lev n.2.1:Int)∧n.2.2.2.length=32
theorem parseI_nd {b:List UInt8} (h:(parseI b).2=0):NdOk (parseI b).1:=by
  have ht:=parseI_top b
  unfold parseI at h ht ⊢
  split at h
  · cases h
  · split at h
    · cases h
    · split at h
      · cases h
      · rename_i h1 h2 h3
        rw [if_neg h1,if_neg h2,if_neg h3] at ht ⊢
        have hw:wrongN (parsed b).1 (parsed b).2.1 (parsed b).2.2.1 (parsed b).2.2.2=0:=by
          cases hh:decide (wrongN (parsed b).1 (parsed b).2.1 (parsed b).2.2.1 (parsed b).2.2.2=0) with
          | true=>exact of_decide_eq_true hh
          | false=>exact absurd (.inr (of_decide_eq_false hh)) h2
        obtain ⟨k1,k2,k3,k4⟩:=wrong_zero hw
        exact ⟨k1,k2,k3,k4,ht⟩
theorem ndC_length {n:Nd} (h:n.2.2.2.length=32):(ndC n).length=35:=nodeC_length h
def vw (ls:List LB):VW:=fun k=>(lookA k ls).map (·.2)
def inodeV (V:VW) (id:List UInt8):Nd × Int:=match V id with
  | none=>(nd0,18)
  | some b=>parseI b
theorem inodeV_top (V:VW) (id:List UInt8):(inodeV V id).1.2.2.2.length=32:=by
  unfold inodeV
  split
  · exact zeroId_length
  · exact parseI_top _
theorem inodeV_ok {V:VW} {id:List UInt8} (h:(inodeV V id).2=0):NdOk (inodeV V id).1:=by
  unfold inodeV at h ⊢
  split at h
  · cases h
  · rename_i b hb
    exact parseI_nd h
def rowA (V:VW) (k:Nat):Nat→List UInt8→List UInt8 × Nat
  | 0,id=>(id,0)
  | l + 1,id=>match V id with
    | none=>([],18)
    | some b=>if parseNE b≠0∨(parseNL b).length≤k / 8 ^ l % 8 then ([],11) else rowA V k l ((parseNL b).getD (k / 8 ^ l % 8) [])
def rowE2 (V:VW) (size k:Nat) (p:List UInt8 × Nat):List UInt8 × Nat:=if p.2≠0 then ([],p.2) else match V p.1 with
  | none=>([],18)
  | some b=>if b.length≠1 + min 64 (size - k * 64)∨at0 b 0≠100 then ([],11) else (b.drop 1,0)
def rowV (V:VW) (size lv:Nat) (top:List UInt8) (k:Nat):List UInt8 × Nat:=rowE2 V size k (rowA V k lv top)
theorem rowV_len {V:VW} {size lv k:Nat} {top:List UInt8} (h:(rowV V size lv top k).2=0):(rowV V size lv top k).1.length=min 64 (size - k * 64):=by
  unfold rowV rowE2 at h ⊢
  split at h
  · omega
  · rename_i h1
    rw [if_neg h1]
    split at h
    · cases h
    · rename_i b hb
      split at h
      · cases h
      · rename_i h2
        rw [if_neg h2]
        show (b.drop 1).length=_
        rw [List.length_drop]
        have:b.length=1 + min 64 (size - k * 64):=by
          by_cases hc:b.length=1 + min 64 (size - k * 64)
          · exact hc
          · exact absurd (.inl hc) h2
        omega
def bytesA (V:VW) (size lv:Nat) (top:List UInt8) (frm to:Nat):Nat→Nat→List UInt8→List UInt8 × Nat
  | 0,_,acc=>(acc,0)
  | f + 1,k,acc=>if k * 64 < to then (if (rowV V size lv top k).2≠0 then ([],(rowV V size lv top k).2) else bytesA V size lv top frm to f (k + 1) (acc++((rowV V size lv top k).1.take (min (to - k * 64) (rowV V size lv top k).1.length)).drop (frm - k * 64))) else (acc,0)
theorem bytesA_end {V:VW} {size lv frm to f k:Nat} {top acc:List UInt8} (h:¬ k * 64 < to):bytesA V size lv top frm to f k acc=(acc,0):=by
  cases f with
  | zero=>rfl
  | succ f=>rw [bytesA,if_neg h]
theorem bytesA_bad {V:VW} {size lv frm to f k:Nat} {top acc:List UInt8} (h:k * 64 < to) (he:(rowV V size lv top k).2≠0):bytesA V size lv top frm to (f + 1) k acc=([],(rowV V size lv top k).2):=by rw [bytesA,if_pos h,if_pos he]
theorem bytesA_next {V:VW} {size lv frm to f k:Nat} {top acc:List UInt8} (h:k * 64 < to) (he:(rowV V size lv top k).2=0):bytesA V size lv top frm to (f + 1) k acc=bytesA V size lv top frm to f (k + 1) (acc++((rowV V size lv top k).1.take (min (to - k * 64) (rowV V size lv top k).1.length)).drop (frm - k * 64)):=by rw [bytesA,if_pos h,if_neg (fun h=>h he)]
def bytesV (V:VW) (n:Nd) (frm to:Nat):List UInt8 × Nat:=if frm < to then bytesA V n.2.1.toNat n.2.2.1.toNat n.2.2.2 frm to (to + 1) (frm / 64) [] else ([],0)
def dirV (V:VW) (n:Nd):List Ent × Nat:=if n.1≠2 then ([],3) else if (bytesV V n 0 n.2.1.toNat).2≠0 then ([],(bytesV V n 0 n.2.1.toNat).2) else par (bytesV V n 0 n.2.1.toNat).1 []
def findV (V:VW):List (List UInt8)→Nd→Nd × Int
  | [],n=>(n,0)
  | m::l,n=>if (dirV V n).2≠0 then (nd0,((dirV V n).2:Int)) else match (dirV V n).1.find? (fun x=>decide (x.1=m)) with
    | none=>(nd0,2)
    | some x=>if (inodeV V x.2).2≠0 then (nd0,(inodeV V x.2).2) else findV V l (inodeV V x.2).1
def pathV (V:VW) (top path:List UInt8):Nd × Int:=if (splitN path).2≠0 then (nd0,((splitN path).2:Int)) else if (inodeV V top).2≠0 then (nd0,(inodeV V top).2) else findV V (splitN path).1 (inodeV V top).1
def listV (V:VW) (top path:List UInt8):List (List UInt8) × Int:=if (pathV V top path).2≠0 then ([],(pathV V top path).2) else if (dirV V (pathV V top path).1).2≠0 then ([],((dirV V (pathV V top path).1).2:Int)) else (nms (dirV V (pathV V top path).1).1,0)
def readV (V:VW) (top path:List UInt8) (off n:Int):List UInt8 × Int:=if (pathV V top path).2≠0 then ([],(pathV V top path).2) else if (pathV V top path).1.1≠1 then ([],3) else if off < 0∨n < 0 then ([],1) else if (pathV V top path).1.2.1≤off then ([],0)
  else ((bytesV V (pathV V top path).1 off.toNat (off.toNat + min n.toNat ((pathV V top path).1.2.1.toNat - off.toNat))).1,((bytesV V (pathV V top path).1 off.toNat (off.toNat + min n.toNat ((pathV V top path).1.2.1.toNat - off.toNat))).2:Int))
theorem findV_ok {V:VW}:∀ (l:List (List UInt8)) (n:Nd),NdOk n→(findV V l n).2=0→NdOk (findV V l n).1
  | [],n,hn,_=>hn
  | m::l,n,hn,h=>by
    rw [findV] at h ⊢
    split at h
    · rename_i h1; simp only at h; omega
    · rename_i h1
      rw [if_neg h1]
      split at h
      · cases h
      · rename_i x hx
        split at h
        · rename_i h2; exact absurd h h2
        · rename_i h2
          rw [if_neg h2]
          have h3:(inodeV V x.2).2=0:=by
            cases hh:decide ((inodeV V x.2).2=0) with
            | true=>exact of_decide_eq_true hh
            | false=>exact absurd (of_decide_eq_false hh) h2
          exact findV_ok l _ (inodeV_ok h3) h
theorem findV_top {V:VW}:∀ (l:List (List UInt8)) (n:Nd),n.2.2.2.length=32→(findV V l n).1.2.2.2.length=32
  | [],n,hn=>hn
  | m::l,n,hn=>by
    rw [findV]
    split
    · exact zeroId_length
    · split
      · exact zeroId_length
      · split
        · exact zeroId_length
        · exact findV_top l _ (inodeV_top _ _)
theorem pathV_top (V:VW) (top path:List UInt8):(pathV V top path).1.2.2.2.length=32:=by
  unfold pathV
  split
  · exact zeroId_length
  · split
    · exact zeroId_length
    · exact findV_top _ _ (inodeV_top _ _)
theorem pathV_ok {V:VW} {top path:List UInt8} (h:(pathV V top path).2=0):NdOk (pathV V top path).1:=by
  unfold pathV at h ⊢
  split at h
  · rename_i h1; simp only at h; omega
  · rename_i h1
    rw [if_neg h1]
    split at h
    · rename_i h2; exact absurd h h2
    · rename_i h2
      rw [if_neg h2]
      have h3:(inodeV V top).2=0:=by
        cases hh:decide ((inodeV V top).2=0) with
        | true=>exact of_decide_eq_true hh
        | false=>exact absurd (of_decide_eq_false hh) h2
      exact findV_ok _ _ (inodeV_ok h3) h
def viewT (l:List TB):VW:=fun k=>(l.find? fun b=>decide (b.1=k) && decide (sha b.2.1=k)).map (·.2.1)
open Go.RowKit
set_option maxRecDepth 8000

theorem numbered_spec (v:Value) (l:List UInt8) (F:HP) (hF:∀ h,F h→rdB v l h) (hl:l.length≤7):CallsS Tryz.prog 120 #[v] F [] (fun r Ps=>r = .int .i64 (val l l.length:Int)∧Ps=[]):=by
 refine callsS_enter Tryz.func120 rfl Tryz.ntmps120 (by simp) (fun E=>?_)
 refine Q9 (R9 (G9 rfl rfl (N9 (X9 (Q9 (R9 (G9 rfl rfl (N9 (X9 (Q9 (Q9 (R9 (M9 rfl rfl (L9 rfl (Pl9 (r:=0) rfl Tryz.runUnderlying36 rfl rfl hF) (M9 rfl rfl (N9 (X9 ?_)))))))))))))))))
 refine W_block ?_
 refine W_loop (α:=Nat) (fun k=>[(3,.int .i64 (val l k:Int)),(6,v),(7,.int .i64 (l.length:Int)),(8,.int .i64 (k:Int))]) (fun k=>[(0,F)]) (fun k=>k≤l.length) (fun k=>l.length - k) (0) (by omega) (a9 rfl) ⟨rfl,trivial⟩ (fun x hx=>?_)
 have hv:=val_small l (k:=x) (by omega)
 refine Q9 (R9 (L9 rfl (Pn9 rfl rfl rfl (run_lss _ _ _ _ _ _)) (N9 (X9 (Q9 ?_)))))
 refine C9 rfl (fun hc9=>?_) (fun hc9=>?_)
 ·
  have hv6:=val_lt6 l (k:=x) (by have:=of_decide_eq_true hc9; omega)
  refine K9 (X9 ?_)
  refine Q9 ?_
  refine W_block ?_
  refine Q9 (R9 (L9 rfl (Pu_idxS1 (r:=0) rfl Tryz.runUnderlying36 Tryz.sizeOf5 rfl rfl rfl hF (by have:=of_decide_eq_true hc9; omega)) (L9 rfl (Py9 (r:=0) rfl Tryz.isAgg5 rfl rfl hF (bs_at1 (k:=x) (by have:=of_decide_eq_true hc9; omega))) (G9 rfl rfl (N9 (X9 (R9 (M9 rfl rfl (L9 rfl (Pn9 rfl rfl rfl (run_shl _ 8 _ _ _ (by omega) (by omega))) (M9 rfl rfl (L9 rfl (Pu_conv rfl rfl (conv_u8 _ Tryz.runUnderlying5 Tryz.runUnderlying3)) (L9 rfl (Pn9 rfl rfl rfl (run_orJoin _ _ 8 _ _ _ (by omega) (by have:=(at0 l x).toNat_lt; omega) (by omega))) (G9 rfl rfl (N9 (X_block (X9 (R9 (L9 rfl (Pn9 rfl rfl rfl (run_add _ _ _ _ _ (by omega))) (M9 rfl rfl (N9 ?_))))))))))))))))))))
  exact Xr9 (x + 1) (by have:=of_decide_eq_true hc9; omega) (by have:=of_decide_eq_true hc9; omega) (a9 rfl) ⟨rfl,trivial⟩
 ·
  obtain rfl:x=l.length:=by have:=of_decide_eq_false hc9; omega
  refine W_exit (X_then_exit (X_then_exit (X_block_exit (X9 ?_))))
  refine Q9 (R9 (M9 rfl rfl (G9 rfl rfl (N9 (X9 ?_)))))
  refine W_ret ?_
  exact Xq9 [] (Ps:=[]) (res1 Tryz.results120 rfl) rfl (by decide) ⟨rfl,rfl⟩
theorem numbered_spec2 (v:Value) (l:List UInt8) (n:Nat) (F:HP) (hF:∀ h,F h→rdB v (l.take n) h) (hn:n≤l.length) (hl:n≤7):CallsS Tryz.prog 120 #[v] F [] (fun r Ps=>r = .int .i64 (val l n:Int)∧Ps=[]) :=
  (numbered_spec v (l.take n) F hF (by simp; omega)).imp fun r Ps ⟨h1,h2⟩=>⟨by rw [h1,List.length_take,Nat.min_eq_left hn,val_take l n n (Nat.le_refl _)],h2⟩
theorem parseInode_spec (v:Value) (l:List UInt8) (F:HP) (hF:∀ h,F h→rdB v l h):CallsS Tryz.prog 85 #[v] F [] (fun r Ps=>r = .tuple #[nodeV (parseI l).1.1 (parseI l).1.2.1 (parseI l).1.2.2.1 (parseI l).1.2.2.2,.int .i64 (parseI l).2]∧Ps=[]):=by
 refine callsS_enter Tryz.func85 rfl Tryz.ntmps85 (by simp) (fun E=>?_)
 refine Q9 ?_
 refine J9 [(0,_)] [(0,_)] ?_ ⟨rfl,trivial⟩ ⟨rfl,trivial⟩
 refine R9 (Lc9 rfl rfl (by decide) (OpT_alloc (r:=101) rfl (zero_run (by kernel_rfl:(Tryz.prog.info? 42).bind (·.zero)=some (.agg (nodeC 0 0 0 zeroId).toArray))) rfl (fun g101=>(G9 rfl rfl (N9 (X9 (Q9 (Q9 ?_))))))))
 refine J9 [(0,_),(2,_),(3,_)] [(0,_),(101,_)] ?_ ⟨rfl,rfl,rfl,trivial⟩ ⟨rfl,rfl,trivial⟩
 refine R9 (M9 rfl rfl (L9 rfl (Pl9 (r:=0) rfl Tryz.runUnderlying36 rfl rfl hF) (L9 rfl (Pn9 rfl rfl rfl (run_lss _ _ _ _ _ _)) (N9 (X9 ?_)))))
 refine C9 rfl (fun hc7=>?_) (fun hc7=>?_)
 ·
  have h39:=of_decide_eq_true hc7
  refine Q9 ?_
  refine J9 [(0,_),(2,_),(3,_),(7,_)] [(0,_),(101,_)] ?_ ⟨rfl,rfl,rfl,rfl,trivial⟩ ⟨rfl,rfl,trivial⟩
  refine R9 (L9 rfl (Pu_build (V:=_) [(0,1),(1,1),(2,1),(3,32)] (nodeC 0 0 0 zeroId) rfl rfl (by kernel_rfl) (by kernel_rfl) (.nil _) rfl) (Lc09 rfl rfl (OpT_storeAll (r:=101) rfl Tryz.sizeOf42 rfl rfl rfl (by simp [nodeC,bs_length,zeroId_length, *]) (by simp [nodeC,bs_length,zeroId_length, *]) (one_node _ _ _ _) ?_)))
  refine (G9 rfl rfl (N9 (X9 ?_)))
  refine W_ret (X_then_ret ?_)
  exact Xq9 [] (Ps:=[]) (resC2 (r:=101) Tryz.results85 rfl rfl Tryz.isAgg42 Tryz.sizeOf42 rfl (nodeC_length zeroId_length)) rfl (by decide) ⟨by rw [parseI_cut h39]; rfl,rfl⟩
 ·
  have h39:39≤l.length:=by have:=of_decide_eq_false hc7; omega
  have htop:=parsed_top h39
  refine K9 (X9 ?_)
  refine Q9 ?_
  refine J9 [(0,_),(2,_),(3,_),(7,_)] [(0,_),(101,_)] ?_ ⟨rfl,rfl,rfl,rfl,trivial⟩ ⟨rfl,rfl,trivial⟩
  refine W_draw (N:=14) (by kernel_rfl) rfl [(0,_),(101,_)] ⟨rfl,rfl,trivial⟩ ?_
  refine (T9 0 rfl rfl (Pm9 rfl rfl) (T9 1 rfl rfl (Pu_idxS1 (r:=0) rfl Tryz.runUnderlying36 Tryz.sizeOf5 rfl rfl rfl hF (by omega)) (T9 2 rfl rfl (Py9 (r:=0) rfl Tryz.isAgg5 rfl rfl hF (bs_at1 (k:=1) (by omega))) (T9 3 rfl rfl (Pu_conv rfl rfl (conv_u8 _ Tryz.runUnderlying5 Tryz.runUnderlying3)) (T9 4 rfl rfl (Pm9 rfl rfl) (T9 5 rfl rfl (Pu_slice (r:=0) (a:=2) (b:=6) rfl Tryz.runUnderlying36 Tryz.sizeOf5 rfl rfl hF (.inr ⟨_,_,_,rfl,rfl,rfl⟩) (.inr ⟨_,_,_,rfl,rfl,rfl⟩) (by omega) (by omega)) (T9 7 rfl rfl (Pm9 rfl rfl) (T9 8 rfl rfl (Pu_idxS1 (r:=0) rfl Tryz.runUnderlying36 Tryz.sizeOf5 rfl rfl rfl hF (by omega)) (T9 9 rfl rfl (Py9 (r:=0) rfl Tryz.isAgg5 rfl rfl hF (bs_at1 (k:=6) (by omega))) (T9 10 rfl rfl (Pu_conv rfl rfl (conv_u8 _ Tryz.runUnderlying5 Tryz.runUnderlying3)) (Y9 [6,12] ?_)))))))))))
  refine Z9 rfl rfl (Oc9 200 [0,101] [] rfl Tryz.call120 rfl rfl rfl (by decide) (by decide) (numbered_spec2 _ (l.drop 2) 4 _ (rs9 0 rfl (fun h hp=>rdB_sub (hF h hp) (by omega) (by omega))) (by simp; omega) (by omega)) (fun v15 Ps15 hR15=>?_)) ?_
  ·
   obtain ⟨rfl,rfl⟩:=hR15
   refine ⟨⟨rfl,rfl,trivial⟩,?_⟩
   refine (T9 11 rfl rfl (Pu_build (V:=nodeV (at0 l 1).toNat (val (l.drop 2) 4) (at0 l 6).toNat zeroId) [(0,1),(1,1),(2,1),(3,32)] (nodeC 0 0 0 zeroId) rfl rfl (by kernel_rfl) (by kernel_rfl) (.one rfl rfl (by simp [nodeC,bs_length,zeroId_length]) rfl (.one rfl rfl (by simp [nodeC,bs_length,zeroId_length]) rfl (.one rfl rfl (by simp [nodeC,bs_length,zeroId_length]) rfl (.nil _)))) rfl) (Y9 [12] ?_))
   refine Z9 rfl rfl (OpT_alloc (r:=201) rfl (zero_run (by kernel_rfl:(Tryz.prog.info? 42).bind (·.zero)=some (.agg (nodeC 0 0 0 zeroId).toArray))) rfl (fun g201=>⟨⟨rfl,rfl,trivial⟩,?_⟩)) ?_
   ·
    refine (Y9 [13] ?_)
    refine Ac09 rfl rfl rfl (OpT_storeAll (r:=201) rfl Tryz.sizeOf42 rfl rfl rfl (by simp [nodeC,bs_length,zeroId_length, *]) (by simp [nodeC,bs_length,zeroId_length, *]) (one_node _ _ _ _) ?_) ?_
    ·
     refine ⟨⟨rfl,rfl,trivial⟩,?_⟩
     refine (Ad9 (by kernel_rfl) (X9 ?_))
     refine Q9 ?_
     refine J9 [(0,_),(2,_),(3,_),(4,_),(7,_)] [(0,_),(101,_),(201,_)] ?_ ⟨rfl,rfl,rfl,rfl,rfl,trivial⟩ ⟨rfl,rfl,rfl,trivial⟩
     refine W_draw (N:=5) (by kernel_rfl) rfl [(0,_),(101,_)] ⟨rfl,rfl,trivial⟩ ?_
     refine (T9 0 rfl rfl (F9 3 rfl rfl) (T9 1 rfl rfl (Pu_sliceArr rfl Tryz.runUnderlying29 Tryz.sizeOf5 rfl) (T9 2 rfl rfl (Pm9 rfl rfl) (T9 3 rfl rfl (Pu_slice (r:=0) (a:=7) (b:=39) rfl Tryz.runUnderlying36 Tryz.sizeOf5 rfl rfl hF (.inr ⟨_,_,_,rfl,rfl,rfl⟩) (.inr ⟨_,_,_,rfl,rfl,rfl⟩) (by omega) (by omega)) (Y9 [4] ?_)))))
     refine Z9 rfl rfl (OpT_copyB (r:=201) (r2:=0) rfl Tryz.underlying36 TI.hsm5 rfl rfl rfl rfl (fun h hp=>rdB_sub (hF h hp) (by omega) (by omega)) (bs_one _) (by simp [nodeC,bs_length,zeroId_length]; omega) (node_copy zeroId_length htop) ?_) ?_
     ·
      refine ⟨⟨rfl,rfl,trivial⟩,?_⟩
      refine (Ad9 (by kernel_rfl) (X9 ?_))
      refine Q9 ?_
      refine W_block ?_
      refine Q9 ?_
      refine J9 [(0,_),(2,_),(3,_),(4,_),(7,_)] [(0,_),(101,_),(201,_)] ?_ ⟨rfl,rfl,rfl,rfl,rfl,trivial⟩ ⟨rfl,rfl,rfl,trivial⟩
      refine R9 (M9 rfl rfl (L9 rfl (Pu_idxS1 (r:=0) rfl Tryz.runUnderlying36 Tryz.sizeOf5 rfl rfl rfl hF (by omega)) (L9 rfl (Py9 (r:=0) rfl Tryz.isAgg5 rfl rfl hF (bs_at1 (k:=0) (by omega))) (L9 rfl (Pn9 rfl rfl rfl (run_neq _ _ _ _ _ _)) (M9 rfl rfl (Lg9 rfl rfl rfl rfl (by decide) (fun hb=>(Px9 (r:=201) rfl Tryz.isAgg42 Tryz.sizeOf42 rfl rfl (nodeC_length htop) (load_all (nodeC_length htop)))) (WL_guard (V:=.int .i64 (wrongN (parsed l).1 (parsed l).2.1 (parsed l).2.2.1 (parsed l).2.2.2)) rfl rfl rfl rfl (by decide) (fun hb=>(Oc9 300 [0,101,201] [] rfl Tryz.call121 (evL_cons (ev_gv rfl hb) evL_nil) rfl rfl (by decide) (by decide) (wrong_spec _ _ _ _ htop _) (fun v33 Ps33 hR33=>⟨hR33.1,fun w hw=>by rw [hR33.2] at hw; exact hw.sub (AllIn.look ⟨rfl,rfl,rfl,trivial⟩)⟩))) ?_)))))))
      refine (Lg9 rfl rfl rfl rfl (by decide) (fun hb=>(Pn9 rfl (ev_gv rfl hb) rfl (run_neq _ _ _ _ _ _))) (L9 rfl (Pu_or rfl rfl rfl) (G9 rfl rfl (N9 (X9 ?_)))))
      refine C9 rfl (fun hc26=>?_) (fun hc26=>?_)
      ·
       refine Q9 ?_
       refine J9 [(0,_),(2,_),(3,_),(4,_),(7,_),(26,_)] [(0,_),(101,_),(201,_)] ?_ ⟨rfl,rfl,rfl,rfl,rfl,rfl,trivial⟩ ⟨rfl,rfl,rfl,trivial⟩
       refine R9 (L9 rfl (Pu_build (V:=_) [(0,1),(1,1),(2,1),(3,32)] (nodeC 0 0 0 zeroId) rfl rfl (by kernel_rfl) (by kernel_rfl) (.nil _) rfl) (Lc09 rfl rfl (OpT_storeAll (r:=101) rfl Tryz.sizeOf42 rfl rfl rfl (by simp [nodeC,bs_length,zeroId_length, *]) (by simp [nodeC,bs_length,zeroId_length, *]) (one_node _ _ _ _) ?_)))
       refine (G9 rfl rfl (N9 (X9 ?_)))
       refine W_ret (X_block_ret (X_then_ret ?_))
       exact Xq9 [] (Ps:=[]) (resC2 (r:=101) Tryz.results85 rfl rfl Tryz.isAgg42 Tryz.sizeOf42 rfl (nodeC_length zeroId_length)) rfl (by decide) ⟨by rw [parseI_bad h39 hc26]; rfl,rfl⟩
      ·
       refine Q9 ?_
       refine J9 [(0,_),(2,_),(3,_),(4,_),(7,_),(26,_)] [(0,_),(101,_),(201,_)] ?_ ⟨rfl,rfl,rfl,rfl,rfl,rfl,trivial⟩ ⟨rfl,rfl,rfl,trivial⟩
       refine R9 (M9 rfl rfl (L9 rfl (Pl9 (r:=0) rfl Tryz.runUnderlying36 rfl rfl hF) (L9 rfl (Pn9 rfl rfl rfl (run_gtr _ _ _ _ _ _)) (G9 rfl rfl (N9 (X9 ?_))))))
       refine C9 rfl (fun hc37=>?_) (fun hc37=>?_)
       ·
        refine Q9 ?_
        refine J9 [(0,_),(2,_),(3,_),(4,_),(7,_),(26,_),(37,_)] [(0,_),(101,_),(201,_)] ?_ ⟨rfl,rfl,rfl,rfl,rfl,rfl,rfl,trivial⟩ ⟨rfl,rfl,rfl,trivial⟩
        refine R9 (L9 rfl (Pu_build (V:=_) [(0,1),(1,1),(2,1),(3,32)] (nodeC 0 0 0 zeroId) rfl rfl (by kernel_rfl) (by kernel_rfl) (.nil _) rfl) (Lc09 rfl rfl (OpT_storeAll (r:=101) rfl Tryz.sizeOf42 rfl rfl rfl (by simp [nodeC,bs_length,zeroId_length, *]) (by simp [nodeC,bs_length,zeroId_length, *]) (one_node _ _ _ _) ?_)))
        refine (G9 rfl rfl (N9 (X9 ?_)))
        refine W_ret (X_block_ret (X_then_ret ?_))
        exact Xq9 [] (Ps:=[]) (resC2 (r:=101) Tryz.results85 rfl rfl Tryz.isAgg42 Tryz.sizeOf42 rfl (nodeC_length zeroId_length)) rfl (by decide) ⟨by rw [parseI_more h39 hc26 hc37]; rfl,rfl⟩
       ·
        refine K9 (X_block (X9 ?_))
        refine Q9 ?_
        refine J9 [(0,_),(2,_),(3,_),(4,_),(7,_),(26,_),(37,_)] [(0,_),(101,_),(201,_)] ?_ ⟨rfl,rfl,rfl,rfl,rfl,rfl,rfl,trivial⟩ ⟨rfl,rfl,rfl,trivial⟩
        refine R9 (L9 rfl (Px9 (r:=201) rfl Tryz.isAgg42 Tryz.sizeOf42 rfl rfl (nodeC_length htop) (load_all (nodeC_length htop))) (Lc09 rfl rfl (OpT_storeAll (r:=101) rfl Tryz.sizeOf42 rfl rfl rfl rfl (nodeC_length htop) (one_node _ _ _ _) ?_)))
        refine (G9 rfl rfl (N9 (X9 ?_)))
        refine W_ret ?_
        exact Xq9 [] (Ps:=[]) (resC2 (r:=101) Tryz.results85 rfl rfl Tryz.isAgg42 Tryz.sizeOf42 rfl (nodeC_length htop)) rfl (by decide) ⟨by rw [parseI_ok h39 hc26 hc37]; rfl,rfl⟩
     exact An9
    exact An9
   exact An9
  refine Z9 rfl rfl (OpT_alloc (r:=102) rfl (zero_run (by kernel_rfl:(Tryz.prog.info? 42).bind (·.zero)=some (.agg (nodeC 0 0 0 zeroId).toArray))) rfl (fun g102=>⟨⟨rfl,rfl,trivial⟩,?_⟩)) ?_
  ·
   refine (Y9 [6] ?_)
   refine Z9 rfl rfl (Oc9 200 [0,101,102] [] rfl Tryz.call120 rfl rfl rfl (by decide) (by decide) (numbered_spec2 _ (l.drop 2) 4 _ (rs9 0 rfl (fun h hp=>rdB_sub (hF h hp) (by omega) (by omega))) (by simp; omega) (by omega)) (fun v15 Ps15 hR15=>?_)) ?_
   ·
    obtain ⟨rfl,rfl⟩:=hR15
    refine ⟨⟨rfl,rfl,trivial⟩,?_⟩
    refine (T9 11 rfl rfl (Pu_build (V:=nodeV (at0 l 1).toNat (val (l.drop 2) 4) (at0 l 6).toNat zeroId) [(0,1),(1,1),(2,1),(3,32)] (nodeC 0 0 0 zeroId) rfl rfl (by kernel_rfl) (by kernel_rfl) (.one rfl rfl (by simp [nodeC,bs_length,zeroId_length]) rfl (.one rfl rfl (by simp [nodeC,bs_length,zeroId_length]) rfl (.one rfl rfl (by simp [nodeC,bs_length,zeroId_length]) rfl (.nil _)))) rfl) (Y9 [13] ?_))
    refine Ac09 rfl rfl rfl (OpT_storeAll (r:=102) rfl Tryz.sizeOf42 rfl rfl rfl (by simp [nodeC,bs_length,zeroId_length, *]) (by simp [nodeC,bs_length,zeroId_length, *]) (one_node _ _ _ _) ?_) ?_
    ·
     refine ⟨⟨rfl,rfl,trivial⟩,?_⟩
     refine (Ad9 (by kernel_rfl) (X9 ?_))
     refine Q9 ?_
     refine J9 [(0,_),(2,_),(3,_),(4,_),(7,_)] [(0,_),(101,_),(102,_)] ?_ ⟨rfl,rfl,rfl,rfl,rfl,trivial⟩ ⟨rfl,rfl,rfl,trivial⟩
     refine W_draw (N:=5) (by kernel_rfl) rfl [(0,_),(101,_)] ⟨rfl,rfl,trivial⟩ ?_
     refine (T9 0 rfl rfl (F9 3 rfl rfl) (T9 1 rfl rfl (Pu_sliceArr rfl Tryz.runUnderlying29 Tryz.sizeOf5 rfl) (T9 2 rfl rfl (Pm9 rfl rfl) (T9 3 rfl rfl (Pu_slice (r:=0) (a:=7) (b:=39) rfl Tryz.runUnderlying36 Tryz.sizeOf5 rfl rfl hF (.inr ⟨_,_,_,rfl,rfl,rfl⟩) (.inr ⟨_,_,_,rfl,rfl,rfl⟩) (by omega) (by omega)) (Y9 [4] ?_)))))
     refine Z9 rfl rfl (OpT_copyB (r:=102) (r2:=0) rfl Tryz.underlying36 TI.hsm5 rfl rfl rfl rfl (fun h hp=>rdB_sub (hF h hp) (by omega) (by omega)) (bs_one _) (by simp [nodeC,bs_length,zeroId_length]; omega) (node_copy zeroId_length htop) ?_) ?_
     ·
      refine ⟨⟨rfl,rfl,trivial⟩,?_⟩
      refine (Ad9 (by kernel_rfl) (X9 ?_))
      refine Q9 ?_
      refine W_block ?_
      refine Q9 ?_
      refine J9 [(0,_),(2,_),(3,_),(4,_),(7,_)] [(0,_),(101,_),(102,_)] ?_ ⟨rfl,rfl,rfl,rfl,rfl,trivial⟩ ⟨rfl,rfl,rfl,trivial⟩
      refine R9 (M9 rfl rfl (L9 rfl (Pu_idxS1 (r:=0) rfl Tryz.runUnderlying36 Tryz.sizeOf5 rfl rfl rfl hF (by omega)) (L9 rfl (Py9 (r:=0) rfl Tryz.isAgg5 rfl rfl hF (bs_at1 (k:=0) (by omega))) (L9 rfl (Pn9 rfl rfl rfl (run_neq _ _ _ _ _ _)) (M9 rfl rfl (Lg9 rfl rfl rfl rfl (by decide) (fun hb=>(Px9 (r:=102) rfl Tryz.isAgg42 Tryz.sizeOf42 rfl rfl (nodeC_length htop) (load_all (nodeC_length htop)))) (WL_guard (V:=.int .i64 (wrongN (parsed l).1 (parsed l).2.1 (parsed l).2.2.1 (parsed l).2.2.2)) rfl rfl rfl rfl (by decide) (fun hb=>(Oc9 300 [0,101,102] [] rfl Tryz.call121 (evL_cons (ev_gv rfl hb) evL_nil) rfl rfl (by decide) (by decide) (wrong_spec _ _ _ _ htop _) (fun v33 Ps33 hR33=>⟨hR33.1,fun w hw=>by rw [hR33.2] at hw; exact hw.sub (AllIn.look ⟨rfl,rfl,rfl,trivial⟩)⟩))) ?_)))))))
      refine (Lg9 rfl rfl rfl rfl (by decide) (fun hb=>(Pn9 rfl (ev_gv rfl hb) rfl (run_neq _ _ _ _ _ _))) (L9 rfl (Pu_or rfl rfl rfl) (G9 rfl rfl (N9 (X9 ?_)))))
      refine C9 rfl (fun hc26=>?_) (fun hc26=>?_)
      ·
       refine Q9 ?_
       refine J9 [(0,_),(2,_),(3,_),(4,_),(7,_),(26,_)] [(0,_),(101,_),(102,_)] ?_ ⟨rfl,rfl,rfl,rfl,rfl,rfl,trivial⟩ ⟨rfl,rfl,rfl,trivial⟩
       refine R9 (L9 rfl (Pu_build (V:=_) [(0,1),(1,1),(2,1),(3,32)] (nodeC 0 0 0 zeroId) rfl rfl (by kernel_rfl) (by kernel_rfl) (.nil _) rfl) (Lc09 rfl rfl (OpT_storeAll (r:=101) rfl Tryz.sizeOf42 rfl rfl rfl (by simp [nodeC,bs_length,zeroId_length, *]) (by simp [nodeC,bs_length,zeroId_length, *]) (one_node _ _ _ _) ?_)))
       refine (G9 rfl rfl (N9 (X9 ?_)))
       refine W_ret (X_block_ret (X_then_ret ?_))
       exact Xq9 [] (Ps:=[]) (resC2 (r:=101) Tryz.results85 rfl rfl Tryz.isAgg42 Tryz.sizeOf42 rfl (nodeC_length zeroId_length)) rfl (by decide) ⟨by rw [parseI_bad h39 hc26]; rfl,rfl⟩
      ·
       refine Q9 ?_
       refine J9 [(0,_),(2,_),(3,_),(4,_),(7,_),(26,_)] [(0,_),(101,_),(102,_)] ?_ ⟨rfl,rfl,rfl,rfl,rfl,rfl,trivial⟩ ⟨rfl,rfl,rfl,trivial⟩
       refine R9 (M9 rfl rfl (L9 rfl (Pl9 (r:=0) rfl Tryz.runUnderlying36 rfl rfl hF) (L9 rfl (Pn9 rfl rfl rfl (run_gtr _ _ _ _ _ _)) (G9 rfl rfl (N9 (X9 ?_))))))
       refine C9 rfl (fun hc37=>?_) (fun hc37=>?_)
       ·
        refine Q9 ?_
        refine J9 [(0,_),(2,_),(3,_),(4,_),(7,_),(26,_),(37,_)] [(0,_),(101,_),(102,_)] ?_ ⟨rfl,rfl,rfl,rfl,rfl,rfl,rfl,trivial⟩ ⟨rfl,rfl,rfl,trivial⟩
        refine R9 (L9 rfl (Pu_build (V:=_) [(0,1),(1,1),(2,1),(3,32)] (nodeC 0 0 0 zeroId) rfl rfl (by kernel_rfl) (by kernel_rfl) (.nil _) rfl) (Lc09 rfl rfl (OpT_storeAll (r:=101) rfl Tryz.sizeOf42 rfl rfl rfl (by simp [nodeC,bs_length,zeroId_length, *]) (by simp [nodeC,bs_length,zeroId_length, *]) (one_node _ _ _ _) ?_)))
        refine (G9 rfl rfl (N9 (X9 ?_)))
        refine W_ret (X_block_ret (X_then_ret ?_))
        exact Xq9 [] (Ps:=[]) (resC2 (r:=101) Tryz.results85 rfl rfl Tryz.isAgg42 Tryz.sizeOf42 rfl (nodeC_length zeroId_length)) rfl (by decide) ⟨by rw [parseI_more h39 hc26 hc37]; rfl,rfl⟩
       ·
        refine K9 (X_block (X9 ?_))
        refine Q9 ?_
        refine J9 [(0,_),(2,_),(3,_),(4,_),(7,_),(26,_),(37,_)] [(0,_),(101,_),(102,_)] ?_ ⟨rfl,rfl,rfl,rfl,rfl,rfl,rfl,trivial⟩ ⟨rfl,rfl,rfl,trivial⟩
        refine R9 (L9 rfl (Px9 (r:=102) rfl Tryz.isAgg42 Tryz.sizeOf42 rfl rfl (nodeC_length htop) (load_all (nodeC_length htop))) (Lc09 rfl rfl (OpT_storeAll (r:=101) rfl Tryz.sizeOf42 rfl rfl rfl rfl (nodeC_length htop) (one_node _ _ _ _) ?_)))
        refine (G9 rfl rfl (N9 (X9 ?_)))
        refine W_ret ?_
        exact Xq9 [] (Ps:=[]) (resC2 (r:=101) Tryz.results85 rfl rfl Tryz.isAgg42 Tryz.sizeOf42 rfl (nodeC_length htop)) rfl (by decide) ⟨by rw [parseI_ok h39 hc26 hc37]; rfl,rfl⟩
     exact An9
    exact An9
   exact An9
  exact An9
open Go.RowKit
set_option maxRecDepth 8000
theorem lookA_mem {α:Type} {k:List UInt8} {x:α}:∀ {es:List (List UInt8 × α)},lookA k es=some x→(k,x) ∈ es
  | [],h=>by cases h
  | p::es,h=>by
    rw [lookA] at h
    by_cases hk:k=p.1
    · rw [if_pos hk] at h; injection h with h; subst h; rw [hk]; exact List.mem_cons_self
    · rw [if_neg hk] at h; exact List.mem_cons_of_mem _ (lookA_mem h)
theorem vw_some {ls:List LB} {k:List UInt8} {p:Value × List UInt8} (h:lookA k ls=some p):vw ls k=some p.2:=by unfold vw; rw [h]; rfl
theorem vw_none {ls:List LB} {k:List UInt8} (h:lookA k ls=none):vw ls k=none:=by unfold vw; rw [h]; rfl
theorem is_none_F {α:Type} {o:Option α} (h:o.isSome=false):o=none:=by cases o with | none=>rfl | some x=>cases h
theorem is_some_T {α:Type} {o:Option α} (h:o.isSome=true):∃ x,o=some x:=by cases o with | none=>cases h | some x=>exact ⟨x,rfl⟩
theorem fdiv_nat (a b:Nat):(a:Int).fdiv (2 ^ b)=((a / 2 ^ b:Nat):Int):=by
  rw [Int.fdiv_eq_ediv_of_nonneg _ (by exact_mod_cast Nat.zero_le _)]
  simp
theorem pow8 (l:Nat):2 ^ (3 * l)=8 ^ l:=by rw [Nat.pow_mul]
theorem rd_nil0 {size:Nat} {h:Hlt}:rdP size (.slice none 0 0) 0 [] h:=⟨by simp,none,0,rfl,Nat.le_refl _,fun _=>rfl,fun _ h=>by cases h⟩
theorem or_of51 {p:List UInt8} {m:Nat} (h:(!decide (parseNE p=0) || decide (((parseNL p).length:Int)≤(m:Int)))=true):parseNE p≠0∨(parseNL p).length≤m:=by
  simp at h
  rcases h with h | h
  · exact .inl h
  · exact .inr (by omega)
theorem nor_of51 {p:List UInt8} {m:Nat} (h:(!decide (parseNE p=0) || decide (((parseNL p).length:Int)≤(m:Int)))=false):¬ (parseNE p≠0∨(parseNL p).length≤m):=by
  simp at h
  intro hc
  rcases hc with hc | hc
  · exact hc h.1
  · omega
theorem or_of80 {p:List UInt8} {s:Int} {k:Nat} (hs:0≤s) (hk:(k:Int) * 64 < s) (h:(!decide ((p.length:Int)=1 + min 64 (s - (k:Int) * 64)) || !decide (((at0 p 0).toNat:Int)=100))=true):p.length≠1 + min 64 (s.toNat - k * 64)∨at0 p 0≠100:=by
  by_cases hc:at0 p 0=100
  · left
    simp only [Bool.or_eq_true,Bool.not_eq_true',decide_eq_false_iff_not] at h
    rcases h with h | h
    · omega
    · rw [hc] at h; exact absurd rfl h
  · exact .inr hc
theorem nor_of80 {p:List UInt8} {s:Int} {k:Nat} (hs:0≤s) (hk:(k:Int) * 64 < s) (h:(!decide ((p.length:Int)=1 + min 64 (s - (k:Int) * 64)) || !decide (((at0 p 0).toNat:Int)=100))=false):¬ (p.length≠1 + min 64 (s.toNat - k * 64)∨at0 p 0≠100):=by
  simp only [Bool.or_eq_false_iff,Bool.not_eq_false',decide_eq_true_eq] at h
  intro hc
  rcases hc with hc | hc
  · exact hc (by have:=h.1; omega)
  · exact hc (UInt8.toNat_inj.1 (by have:=h.2; simp; omega))
theorem len_of80 {p:List UInt8} {m:Nat} (h:¬ (p.length≠1 + m∨at0 p 0≠100)):1≤p.length:=by
  by_cases hc:p.length=1 + m
  · omega
  · exact absurd (.inl hc) h
theorem block_some (gm:Nat) (ls:List LB) (F:HP) (hM:∀ h,F h→mapQ idV ok32 gm (entsL ls) none h) (id:List UInt8) (hid:id.length=32) (p:Value × List UInt8) (hlk:lookA id ls=some p):CallsS Tryz.prog 84 #[.map (some gm),idV id] F [] (fun r Ps=>r = .tuple #[p.1,.int .i64 0]∧Ps=[]):=by
 refine callsS_enter Tryz.func84 rfl Tryz.ntmps84 (by simp) (fun E=>?_)
 refine Q9 (R9 (Lc9 rfl rfl (by decide) (OpT_box (r:=101) rfl rfl rfl (fun g101=>(G9 rfl rfl (G9 rfl rfl (N9 (X9 (Q9 (R9 (M9 rfl rfl (L9 rfl (Px9 (r:=101) rfl Tryz.isAgg29 Tryz.sizeOf29 rfl rfl ((bs_length _).trans hid) (load_all ((bs_length _).trans hid))) (L9 rfl (Pu_lookupOkF (r:=0) keyB rfl Tryz.underlying93 Tryz.zeroValue36 rfl rfl hid rfl hM) ?_)))))))))))))
 rw [entsL_fil,lookQ_fil,hlk]
 refine (M9 rfl rfl (L9 rfl (Pe9 rfl rfl rfl) (L9 rfl (Pe9 rfl rfl rfl) (G9 rfl rfl (G9 rfl rfl (N9 (X9 ?_)))))))
 refine Q9 (Q9 (R9 (M9 rfl rfl (L9 rfl (Pu_un rfl rfl (run_not _)) (N9 (X9 ?_))))))
 refine W_false rfl (rfl) ?_
 refine K9 (X9 ?_)
 refine Q9 (R9 (M9 rfl rfl (G9 rfl rfl (G9 rfl rfl (N9 (X9 ?_))))))
 refine W_ret ?_
 exact Xq9 [] (Ps:=[]) (res2 Tryz.results84 rfl rfl) rfl (by decide) ⟨rfl,rfl⟩
theorem block_none (gm:Nat) (ls:List LB) (F:HP) (hM:∀ h,F h→mapQ idV ok32 gm (entsL ls) none h) (id:List UInt8) (hid:id.length=32) (hlk:lookA id ls=none):CallsS Tryz.prog 84 #[.map (some gm),idV id] F [] (fun r Ps=>r = .tuple #[.slice none 0 0,.int .i64 18]∧Ps=[]):=by
 refine callsS_enter Tryz.func84 rfl Tryz.ntmps84 (by simp) (fun E=>?_)
 refine Q9 (R9 (Lc9 rfl rfl (by decide) (OpT_box (r:=101) rfl rfl rfl (fun g101=>(G9 rfl rfl (G9 rfl rfl (N9 (X9 (Q9 (R9 (M9 rfl rfl (L9 rfl (Px9 (r:=101) rfl Tryz.isAgg29 Tryz.sizeOf29 rfl rfl ((bs_length _).trans hid) (load_all ((bs_length _).trans hid))) (L9 rfl (Pu_lookupOkF (r:=0) keyB rfl Tryz.underlying93 Tryz.zeroValue36 rfl rfl hid rfl hM) ?_)))))))))))))
 rw [entsL_fil,lookQ_fil,hlk]
 refine (M9 rfl rfl (L9 rfl (Pe9 rfl rfl rfl) (L9 rfl (Pe9 rfl rfl rfl) (G9 rfl rfl (G9 rfl rfl (N9 (X9 ?_)))))))
 refine Q9 (Q9 (R9 (M9 rfl rfl (L9 rfl (Pu_un rfl rfl (run_not _)) (N9 (X9 ?_))))))
 refine W_true rfl (rfl) ?_
 refine Q9 (R9 (G9 rfl rfl (G9 rfl rfl (N9 (X9 ?_)))))
 refine W_ret (X_then_ret ?_)
 exact Xq9 [] (Ps:=[]) (res2 Tryz.results84 rfl rfl) rfl (by decide) ⟨rfl,rfl⟩
theorem inode_some (gm:Nat) (ls:List LB) (F:HP) (hM:∀ h,F h→mapQ idV ok32 gm (entsL ls) none h) (hL:∀ p ∈ ls,∀ h,F h→rdB p.2.1 p.2.2 h) (id:List UInt8) (hid:id.length=32) (p:Value × List UInt8) (hlk:lookA id ls=some p):CallsS Tryz.prog 58 #[.map (some gm),idV id] F [] (fun r Ps=>r = .tuple #[.agg (ndC (inodeV (vw ls) id).1).toArray,.int .i64 (inodeV (vw ls) id).2]∧Ps=[]):=by
 refine callsS_enter Tryz.func58 rfl Tryz.ntmps58 (by simp) (fun E=>?_)
 refine Q9 (R9 (Lc9 rfl rfl (by decide) (OpT_box (r:=101) rfl rfl rfl (fun g101=>(Lc9 rfl rfl (by decide) (OpT_alloc (r:=102) (cs:=(nodeC 0 0 0 zeroId)) rfl (zero_run (by kernel_rfl:(Tryz.prog.info? 42).bind (·.zero)=some (.agg (nodeC 0 0 0 zeroId).toArray))) rfl (fun g102=>(G9 rfl rfl (N9 (X9 (Q9 (R9 (M9 rfl rfl (L9 rfl (Px9 (r:=101) rfl Tryz.isAgg29 Tryz.sizeOf29 rfl rfl ((bs_length _).trans hid) (load_all ((bs_length _).trans hid))) (Lc9 rfl rfl (by decide) (Oc9 200 [0,101,102] [] rfl Tryz.call84 rfl rfl rfl (by decide) (by decide) (block_some gm ls _ (mapQ_star 0 rfl hM) id hid p hlk) (fun v11 Ps11 hR11=>?_)))))))))))))))))
 obtain ⟨rfl,rfl⟩:=hR11
 refine (M9 rfl rfl (L9 rfl (Pe9 rfl rfl rfl) (L9 rfl (Pe9 rfl rfl rfl) (G9 rfl rfl (G9 rfl rfl (N9 (X9 ?_)))))))
 refine Q9 (Q9 (R9 (M9 rfl rfl (L9 rfl (Pn9 rfl rfl rfl (run_neq _ _ _ _ _ _)) (N9 (X9 ?_))))))
 refine W_false rfl (rfl) ?_
 refine K9 (X9 ?_)
 refine Q9 (R9 (M9 rfl rfl (Lc9 rfl rfl (by decide) (Oc9 300 [0,101,102] [] rfl Tryz.call85 rfl rfl rfl (by decide) (by decide) (parseInode_spec p.1 p.2 _ (rs9 0 rfl (hL _ (lookA_mem hlk)))) (fun v19 Ps19 hR19=>?_)))))
 obtain ⟨rfl,rfl⟩:=hR19
 refine (L9 rfl (Pe9 rfl rfl rfl) (L9 rfl (Pe9 rfl rfl rfl) (Lc09 rfl rfl (OpT_storeAll (r:=102) rfl Tryz.sizeOf42 rfl rfl rfl (nodeC_length zeroId_length) (nodeC_length (parseI_top _)) (one_node _ _ _ _) ?_))))
 refine (G9 rfl rfl (N9 (X9 ?_)))
 refine W_ret ?_
 exact Xq9 [] (Ps:=[]) (resC2 (r:=102) Tryz.results58 rfl rfl Tryz.isAgg42 Tryz.sizeOf42 rfl (nodeC_length (parseI_top _))) rfl (by decide) ⟨by unfold inodeV; rw [vw_some hlk] <;> rfl,rfl⟩
theorem inode_none (gm:Nat) (ls:List LB) (F:HP) (hM:∀ h,F h→mapQ idV ok32 gm (entsL ls) none h) (hL:∀ p ∈ ls,∀ h,F h→rdB p.2.1 p.2.2 h) (id:List UInt8) (hid:id.length=32) (hlk:lookA id ls=none):CallsS Tryz.prog 58 #[.map (some gm),idV id] F [] (fun r Ps=>r = .tuple #[.agg (ndC (inodeV (vw ls) id).1).toArray,.int .i64 (inodeV (vw ls) id).2]∧Ps=[]):=by
 refine callsS_enter Tryz.func58 rfl Tryz.ntmps58 (by simp) (fun E=>?_)
 refine Q9 (R9 (Lc9 rfl rfl (by decide) (OpT_box (r:=101) rfl rfl rfl (fun g101=>(Lc9 rfl rfl (by decide) (OpT_alloc (r:=102) (cs:=(nodeC 0 0 0 zeroId)) rfl (zero_run (by kernel_rfl:(Tryz.prog.info? 42).bind (·.zero)=some (.agg (nodeC 0 0 0 zeroId).toArray))) rfl (fun g102=>(G9 rfl rfl (N9 (X9 (Q9 (R9 (M9 rfl rfl (L9 rfl (Px9 (r:=101) rfl Tryz.isAgg29 Tryz.sizeOf29 rfl rfl ((bs_length _).trans hid) (load_all ((bs_length _).trans hid))) (Lc9 rfl rfl (by decide) (Oc9 200 [0,101,102] [] rfl Tryz.call84 rfl rfl rfl (by decide) (by decide) (block_none gm ls _ (mapQ_star 0 rfl hM) id hid hlk) (fun v11 Ps11 hR11=>?_)))))))))))))))))
 obtain ⟨rfl,rfl⟩:=hR11
 refine (M9 rfl rfl (L9 rfl (Pe9 rfl rfl rfl) (L9 rfl (Pe9 rfl rfl rfl) (G9 rfl rfl (G9 rfl rfl (N9 (X9 ?_)))))))
 refine Q9 (Q9 (R9 (M9 rfl rfl (L9 rfl (Pn9 rfl rfl rfl (run_neq _ _ _ _ _ _)) (N9 (X9 ?_))))))
 refine W_true rfl (rfl) ?_
 refine Q9 (R9 (L9 rfl (Pu_build (V:=.agg (nodeC 0 0 0 zeroId).toArray) [(0,1),(1,1),(2,1),(3,32)] (nodeC 0 0 0 zeroId) rfl rfl (by kernel_rfl) (by kernel_rfl) (.nil _) rfl) (M9 rfl rfl (Lc09 rfl rfl (OpT_storeAll (r:=102) rfl Tryz.sizeOf42 rfl rfl rfl (nodeC_length zeroId_length) (nodeC_length zeroId_length) (one_node _ _ _ _) ?_)))))
 refine (G9 rfl rfl (N9 (X9 ?_)))
 refine W_ret (X_then_ret ?_)
 exact Xq9 [] (Ps:=[]) (resC2 (r:=102) Tryz.results58 rfl rfl Tryz.isAgg42 Tryz.sizeOf42 rfl (nodeC_length zeroId_length)) rfl (by decide) ⟨by unfold inodeV; rw [vw_none hlk] <;> rfl,rfl⟩
theorem view_inode (gm:Nat) (ls:List LB) (F:HP) (hM:∀ h,F h→mapQ idV ok32 gm (entsL ls) none h) (hL:∀ p ∈ ls,∀ h,F h→rdB p.2.1 p.2.2 h) (id:List UInt8) (hid:id.length=32):CallsS Tryz.prog 58 #[.map (some gm),idV id] F [] (fun r Ps=>r = .tuple #[.agg (ndC (inodeV (vw ls) id).1).toArray,.int .i64 (inodeV (vw ls) id).2]∧Ps=[]):=by
  cases hlk:lookA id ls with
  | none=>exact inode_none gm ls F hM hL id hid hlk
  | some p=>exact inode_some gm ls F hM hL id hid p hlk
theorem view_row (gm:Nat) (ls:List LB) (F:HP) (hM:∀ h,F h→mapQ idV ok32 gm (entsL ls) none h) (hL:∀ p ∈ ls,∀ h,F h→rdB p.2.1 p.2.2 h) (nd:Nd) (hnd:NdOk nd) (k:Nat) (hk:(k:Int) * 64 < nd.2.1):CallsS Tryz.prog 83 #[.map (some gm),.agg (ndC nd).toArray,.int .i64 (k:Int)] F [] (fun r Ps=>Ps=[]∧((rowV (vw ls) nd.2.1.toNat (lev nd.2.1) nd.2.2.2 k).2≠0→r = .tuple #[.slice none 0 0,.int .i64 ((rowV (vw ls) nd.2.1.toNat (lev nd.2.1) nd.2.2.2 k).2:Int)])∧((rowV (vw ls) nd.2.1.toNat (lev nd.2.1) nd.2.2.2 k).2=0→∃ p ∈ ls,r = .tuple #[subV 1 p.2.1 1 p.2.2.length,.int .i64 0]∧(rowV (vw ls) nd.2.1.toNat (lev nd.2.1) nd.2.2.2 k).1=p.2.2.drop 1∧1≤p.2.2.length)):=by
 obtain ⟨hk0,hs0,hs1,hlv,htl⟩:=id hnd
 have hll:=lev_le nd.2.1
 refine callsS_enter Tryz.func83 rfl Tryz.ntmps83 (by simp) (fun E=>?_)
 refine Q9 (R9 (Lc9 rfl rfl (by decide) (OpT_box (r:=101) rfl rfl rfl (fun g101=>(G9 rfl rfl (G9 rfl rfl (N9 (X9 (Q9 (R9 (L9 rfl (F9 3 rfl rfl) (L9 rfl (Px9 (r:=101) rfl Tryz.isAgg29 Tryz.sizeOf29 rfl rfl ((bs_length _).trans htl) (take_top htl)) (Lc9 rfl rfl (by decide) (OpT_alloc (r:=102) (cs:=(bs zeroId)) rfl (zero_run (by kernel_rfl:(Tryz.prog.info? 29).bind (·.zero)=some (.agg (bs zeroId).toArray))) rfl (fun g102=>(Lc09 rfl rfl (OpT_storeAll (r:=102) rfl Tryz.sizeOf29 rfl rfl rfl ((bs_length _).trans zeroId_length) ((bs_length _).trans hnd.2.2.2.2) (bs_one _) ?_)))))))))))))))))
 refine (N9 (X9 ?_))
 refine Q9 (Q9 (R9 (L9 rfl (F9 2 rfl rfl) (L9 rfl (Pb9 (r:=101) rfl Tryz.isAgg3 rfl rfl rfl) (L9 rfl (Pn9 rfl rfl rfl (run_sub _ _ _ _ _ (by have:=lev_le nd.2.1; rw [hnd.2.2.2.1]; omega))) ?_)))))
 rw [hnd.2.2.2.1]
 refine (G9 rfl rfl (N9 (X9 ?_)))
 refine W_block ?_
 refine W_loop (α:=Nat × List UInt8) (fun x=>[(0,.map (some gm)),(2,.int .i64 (k:Int)),(4,.pointer (some ⟨g101,0,none⟩)),(8,.pointer (some ⟨g102,0,none⟩)),(9,.int .i64 ((x.1:Int) - 1))]) (fun x=>[(0,F),(101,blk g101 42 (ndC nd)),(102,blk g102 29 (bs x.2))]) (fun x=>x.1≤7∧x.2.length=32∧rowA (vw ls) k x.1 x.2=rowA (vw ls) k (lev nd.2.1) nd.2.2.2) (fun x=>x.1) ((lev nd.2.1,nd.2.2.2)) ⟨lev_le _,hnd.2.2.2.2,rfl⟩ (a9 rfl) (a9 rfl) (fun x hx=>?_)
 obtain ⟨hx1,hx2,hx3⟩:=hx
 refine Q9 (Q9 (R9 (M9 rfl rfl (L9 rfl (Pn9 rfl rfl rfl (run_geq _ _ _ _ _ _)) (N9 (X9 ?_))))))
 refine C9 rfl (fun hc22=>?_) (fun hc22=>?_)
 ·
  obtain ⟨l,hl⟩:∃ l,x.1=l + 1:=⟨x.1 - 1,by have:=of_decide_eq_true hc22; omega⟩
  obtain ⟨q,hq1,hq2⟩:∃ q:Nat,q=k / 8 ^ l∧q≤k:=⟨_,rfl,Nat.div_le_self _ _⟩
  refine K9 (X9 ?_)
  refine Q9 ?_
  refine W_block ?_
  refine Q9 ?_
  rcases Bool.eq_false_or_eq_true ((lookA x.2 ls).isSome) with hsp5 | hsp5
  ·
   obtain ⟨p,hlk⟩:=is_some_T hsp5
   have hpm:=lookA_mem hlk
   have hpd:∀ h,F h→rdB p.1 p.2 h:=hL _ hpm
   refine R9 (M9 rfl rfl (L9 rfl (Px9 (r:=102) rfl Tryz.isAgg29 Tryz.sizeOf29 rfl rfl ((bs_length _).trans hx2) (load_all ((bs_length _).trans hx2))) (Lc9 rfl rfl (by decide) (Oc9 200 [0,101,102] [] rfl Tryz.call84 rfl rfl rfl (by decide) (by decide) (block_some gm ls _ (mapQ_star 0 rfl hM) x.2 hx2 p hlk) (fun v28 Ps28 hR28=>?_)))))
   obtain ⟨rfl,rfl⟩:=hR28
   refine (M9 rfl rfl (L9 rfl (Pe9 rfl rfl rfl) (L9 rfl (Pe9 rfl rfl rfl) (G9 rfl rfl (G9 rfl rfl (N9 (X9 ?_)))))))
   refine Q9 (Q9 (R9 (M9 rfl rfl (L9 rfl (Pn9 rfl rfl rfl (run_neq _ _ _ _ _ _)) (N9 (X9 ?_))))))
   refine W_false rfl (rfl) ?_
   refine K9 (X9 ?_)
   refine Q9 (R9 (M9 rfl rfl (Lc9 rfl rfl (by decide) (Oc9 300 [0,101,102] [] rfl Tryz.call119 rfl rfl rfl (by decide) (by decide) (parseInner_spec p.1 p.2 _ (rs9 0 rfl hpd)) (fun v36 Ps36 hR36=>?_)))))
   obtain ⟨w36,rfl,rfl⟩:=hR36
   skip
   refine (M9 rfl rfl (L9 rfl (Pe9 rfl rfl rfl) (L9 rfl (Pe9 rfl rfl rfl) (G9 rfl rfl (G9 rfl rfl (N9 (X9 ?_)))))))
   refine Q9 (R9 (M9 rfl rfl (M9 rfl rfl (L9 rfl (Pn9 rfl rfl rfl (run_mul _ _ _ _ _ (by omega))) ?_))))
   rw [show (3:Int) * ((x.1:Int) - 1)=((3 * l:Nat):Int) by omega]
   refine (L9 rfl (Pn9 rfl rfl rfl (run_shr (k:Int) (3 * l) _ _ _ (by omega))) ?_)
   rw [fdiv_nat,pow8,← hq1]
   refine (L9 rfl (Pn9 rfl rfl rfl (run_rem _ _ _ _ _ (by omega))) ?_)
   rw [show (q:Int) % 8=((q % 8:Nat):Int) from rfl]
   refine (G9 rfl rfl (N9 (X9 ?_)))
   refine Q9 (Q9 (R9 (M9 rfl rfl (L9 rfl (Pn9 rfl rfl rfl (run_neq _ _ _ _ _ _)) (M9 rfl rfl (Lg9 rfl rfl rfl rfl (by decide) (fun hb=>(Pm9 rfl rfl)) (Lg9 rfl rfl rfl rfl (by decide) (fun hb=>(Pm9 rfl rfl)) (Lg9 rfl rfl rfl rfl (by decide) (fun hb=>(Pl9 (r:=300) rfl Tryz.runUnderlying165 (ev_gv rfl hb) rfl (fun _ h=>rp9 h))) (Lg9 rfl rfl rfl rfl (by decide) (fun hb=>(Pn9 rfl (ev_gv rfl hb) (ev_gv rfl hb) (run_geq _ _ _ _ _ _))) (L9 rfl (Pu_or rfl rfl rfl) (N9 (X9 ?_))))))))))))
   refine C9 rfl (fun hc51=>?_) (fun hc51=>?_)
   ·
    have hbad:rowA (vw ls) k (lev nd.2.1) nd.2.2.2=([],11):=by rw [← hx3,hl,rowA,vw_some hlk]; dsimp only; rw [← hq1,if_pos (or_of51 hc51)]
    refine Q9 (R9 (G9 rfl rfl (G9 rfl rfl (N9 (X9 ?_)))))
    refine W_ret (X_then_ret (X_block_ret (X_then_ret (X_then_ret (X_block_ret (X_then_ret ?_))))))
    have hres:rowV (vw ls) nd.2.1.toNat (lev nd.2.1) nd.2.2.2 k=([],11):=by unfold rowV rowE2; rw [hbad]; rfl
    exact Xq9 [] (Ps:=[]) (res2 Tryz.results83 rfl rfl) rfl (by decide) (by rw [hres]; exact ⟨rfl,fun _=>rfl,fun h=>absurd h (by decide)⟩)
   ·
    have hok51:¬ (parseNE p.2≠0∨(parseNL p.2).length≤q % 8):=nor_of51 hc51
    have hlt51:q % 8 < (parseNL p.2).length:=by omega
    have hid2:=(parseNL_ids p.2).1.get hlt51
    refine K9 (X9 ?_)
    refine R9 (M9 rfl rfl (M9 rfl rfl (L9 rfl (Pi9 (r:=300) rfl Tryz.runUnderlying165 Tryz.sizeOf29 rfl rfl rfl (fun _ h=>rp9 h) (by omega)) (L9 rfl (Pz9 (r:=300) rfl Tryz.isAgg29 Tryz.sizeOf29 rfl rfl (fun _ h=>rp9 h) ((bs_length _).trans hid2) (by decide) (idsC_get (parseNL_ids p.2).1 hlt51)) (Lc09 rfl rfl (OpT_storeAll (r:=102) rfl Tryz.sizeOf29 rfl rfl rfl ((bs_length _).trans hx2) ((bs_length _).trans hid2) (bs_one _) ?_))))))
    refine (N9 (X_block (X9 ?_)))
    refine R9 (M9 rfl rfl (L9 rfl (Pn9 rfl rfl rfl (run_sub _ _ _ _ _ (by omega))) (G9 rfl rfl (N9 ?_))))
    exact Xr9 (l,(parseNL p.2).getD (q % 8) []) ⟨by dsimp only; omega,hid2,by rw [← hx3,hl,rowA,vw_some hlk]; dsimp only; rw [← hq1,if_neg hok51]⟩ (by dsimp only; omega) ⟨rfl,rfl,rfl,rfl,lookV_eq rfl (int_eq (by dsimp only; omega)),trivial⟩ ⟨rfl,rfl,rfl,trivial⟩
  ·
   have hlk:=is_none_F hsp5
   refine R9 (M9 rfl rfl (L9 rfl (Px9 (r:=102) rfl Tryz.isAgg29 Tryz.sizeOf29 rfl rfl ((bs_length _).trans hx2) (load_all ((bs_length _).trans hx2))) (Lc9 rfl rfl (by decide) (Oc9 200 [0,101,102] [] rfl Tryz.call84 rfl rfl rfl (by decide) (by decide) (block_none gm ls _ (mapQ_star 0 rfl hM) x.2 hx2 hlk) (fun v28 Ps28 hR28=>?_)))))
   obtain ⟨rfl,rfl⟩:=hR28
   refine (M9 rfl rfl (L9 rfl (Pe9 rfl rfl rfl) (L9 rfl (Pe9 rfl rfl rfl) (G9 rfl rfl (G9 rfl rfl (N9 (X9 ?_)))))))
   refine Q9 (Q9 (R9 (M9 rfl rfl (L9 rfl (Pn9 rfl rfl rfl (run_neq _ _ _ _ _ _)) (N9 (X9 ?_))))))
   refine W_true rfl (rfl) ?_
   refine Q9 (R9 (M9 rfl rfl (G9 rfl rfl (G9 rfl rfl (N9 (X9 ?_))))))
   refine W_ret (X_then_ret (X_block_ret (X_then_ret (X_then_ret (X_block_ret (X_then_ret ?_))))))
   have hres:rowV (vw ls) nd.2.1.toNat (lev nd.2.1) nd.2.2.2 k=([],18):=by unfold rowV rowE2; rw [← hx3,hl,rowA,vw_none hlk]; rfl
   exact Xq9 [] (Ps:=[]) (res2 Tryz.results83 rfl rfl) rfl (by decide) (by rw [hres]; exact ⟨rfl,fun _=>rfl,fun h=>absurd h (by decide)⟩)
 ·
  have hl0:x.1=0:=by have:=of_decide_eq_false hc22; omega
  have hra:rowA (vw ls) k (lev nd.2.1) nd.2.2.2=(x.2,0):=by rw [← hx3,hl0]; rfl
  refine W_exit (X_then_exit (X_then_exit (X_block_exit (X9 ?_))))
  refine Q9 ?_
  rcases Bool.eq_false_or_eq_true ((lookA x.2 ls).isSome) with hsp13 | hsp13
  ·
   obtain ⟨p,hlk⟩:=is_some_T hsp13
   have hpm:=lookA_mem hlk
   have hpd:∀ h,F h→rdB p.1 p.2 h:=hL _ hpm
   refine R9 (M9 rfl rfl (L9 rfl (Px9 (r:=102) rfl Tryz.isAgg29 Tryz.sizeOf29 rfl rfl ((bs_length _).trans hx2) (load_all ((bs_length _).trans hx2))) (Lc9 rfl rfl (by decide) (Oc9 200 [0,101,102] [] rfl Tryz.call84 rfl rfl rfl (by decide) (by decide) (block_some gm ls _ (mapQ_star 0 rfl hM) x.2 hx2 p hlk) (fun v59 Ps59 hR59=>?_)))))
   obtain ⟨rfl,rfl⟩:=hR59
   refine (M9 rfl rfl (L9 rfl (Pe9 rfl rfl rfl) (L9 rfl (Pe9 rfl rfl rfl) (G9 rfl rfl (G9 rfl rfl (N9 (X9 ?_)))))))
   refine Q9 (Q9 (R9 (M9 rfl rfl (L9 rfl (Pn9 rfl rfl rfl (run_neq _ _ _ _ _ _)) (N9 (X9 ?_))))))
   refine W_false rfl (rfl) ?_
   refine K9 (X9 ?_)
   refine Q9 (Q9 (R9 (M9 rfl rfl (L9 rfl (Pl9 (r:=0) rfl Tryz.runUnderlying36 rfl rfl hpd) (L9 rfl (F9 1 rfl rfl) (L9 rfl (Pb9 (r:=101) rfl Tryz.isAgg3 rfl rfl rfl) (M9 rfl rfl (L9 rfl (Pn9 rfl rfl rfl (run_mul _ _ _ _ _ (by omega))) (L9 rfl (Pn9 rfl rfl rfl (run_sub _ _ _ _ _ (by omega))) (L9 rfl (Pu_min rfl rfl rfl) (L9 rfl (Pn9 rfl rfl rfl (run_add _ _ _ _ _ (by omega))) (L9 rfl (Pn9 rfl rfl rfl (run_neq _ _ _ _ _ _)) (M9 rfl rfl (Lg9 rfl rfl rfl rfl (by decide) (fun hb=>(Pm9 rfl rfl)) (Lg9 rfl rfl rfl rfl (by decide) (fun hb=>(Pu_idxS1 (r:=0) rfl Tryz.runUnderlying36 Tryz.sizeOf5 (ev_gv rfl hb) rfl rfl hpd (by have h9:((p.2.length:Int)=1 + min 64 (nd.2.1 - (k:Int) * 64)):=(by simpa using hb); omega))) (Lg9 rfl rfl rfl rfl (by decide) (fun hb=>(Py9 (r:=0) rfl Tryz.isAgg5 (ev_gv rfl hb) rfl hpd (bs_at1 (by have h9:((p.2.length:Int)=1 + min 64 (nd.2.1 - (k:Int) * 64)):=(by simpa using hb); omega)))) (Lg9 rfl rfl rfl rfl (by decide) (fun hb=>(Pn9 rfl (ev_gv rfl hb) rfl (run_neq _ _ _ _ _ _))) (L9 rfl (Pu_or rfl rfl rfl) (N9 (X9 ?_))))))))))))))))))))
   refine C9 rfl (fun hc80=>?_) (fun hc80=>?_)
   ·
    have hres:rowV (vw ls) nd.2.1.toNat (lev nd.2.1) nd.2.2.2 k=([],11):=by unfold rowV rowE2; rw [hra]; dsimp only; rw [if_neg (fun h=>h rfl),vw_some hlk]; dsimp only; rw [if_pos (or_of80 hnd.2.1 hk hc80)]
    refine Q9 (R9 (G9 rfl rfl (G9 rfl rfl (N9 (X9 ?_)))))
    refine W_ret (X_then_ret ?_)
    exact Xq9 [] (Ps:=[]) (res2 Tryz.results83 rfl rfl) rfl (by decide) (by rw [hres]; exact ⟨rfl,fun _=>rfl,fun h=>absurd h (by decide)⟩)
   ·
    have hok80:=nor_of80 hnd.2.1 hk hc80
    have hres:rowV (vw ls) nd.2.1.toNat (lev nd.2.1) nd.2.2.2 k=(p.2.drop 1,0):=by unfold rowV rowE2; rw [hra]; dsimp only; rw [if_neg (fun h=>h rfl),vw_some hlk]; dsimp only; rw [if_neg hok80]
    have hp1:1≤p.2.length:=len_of80 hok80
    refine K9 (X9 ?_)
    refine Q9 (R9 (M9 rfl rfl (L9 rfl (Pu_slice (r:=0) (a:=1) rfl Tryz.runUnderlying36 Tryz.sizeOf5 rfl rfl hpd (.inr ⟨_,_,_,rfl,rfl,rfl⟩) (.inl ⟨rfl,rfl⟩) hp1 (by omega)) (G9 rfl rfl (G9 rfl rfl (N9 (X9 ?_)))))))
    refine W_ret ?_
    exact Xq9 [] (Ps:=[]) (res2 Tryz.results83 rfl rfl) rfl (by decide) (by rw [hres]; exact ⟨rfl,fun h=>absurd rfl h,fun _=>⟨_,hpm,rfl,rfl,hp1⟩⟩)
  ·
   have hlk:=is_none_F hsp13
   refine R9 (M9 rfl rfl (L9 rfl (Px9 (r:=102) rfl Tryz.isAgg29 Tryz.sizeOf29 rfl rfl ((bs_length _).trans hx2) (load_all ((bs_length _).trans hx2))) (Lc9 rfl rfl (by decide) (Oc9 200 [0,101,102] [] rfl Tryz.call84 rfl rfl rfl (by decide) (by decide) (block_none gm ls _ (mapQ_star 0 rfl hM) x.2 hx2 hlk) (fun v59 Ps59 hR59=>?_)))))
   obtain ⟨rfl,rfl⟩:=hR59
   refine (M9 rfl rfl (L9 rfl (Pe9 rfl rfl rfl) (L9 rfl (Pe9 rfl rfl rfl) (G9 rfl rfl (G9 rfl rfl (N9 (X9 ?_)))))))
   refine Q9 (Q9 (R9 (M9 rfl rfl (L9 rfl (Pn9 rfl rfl rfl (run_neq _ _ _ _ _ _)) (N9 (X9 ?_))))))
   refine W_true rfl (rfl) ?_
   refine Q9 (R9 (M9 rfl rfl (G9 rfl rfl (G9 rfl rfl (N9 (X9 ?_))))))
   refine W_ret (X_then_ret ?_)
   have hres:rowV (vw ls) nd.2.1.toNat (lev nd.2.1) nd.2.2.2 k=([],18):=by unfold rowV rowE2; rw [hra]; dsimp only; rw [if_neg (fun h=>h rfl),vw_none hlk]
   exact Xq9 [] (Ps:=[]) (res2 Tryz.results83 rfl rfl) rfl (by decide) (by rw [hres]; exact ⟨rfl,fun _=>rfl,fun h=>absurd h (by decide)⟩)
open Go.RowKit
set_option maxRecDepth 8000
theorem Pu_max {P:Program} {E:Env} {n:Nat} {K:Slots} {L:Res} {o:Oper} {x y:Operand} {ts:Array TypeId} {a b:Int} (ho:o.op = .call { callee:=.builtin .max,args:=#[x,y],argTypes:=ts }) (hx:evK K x=some (.int .i64 a)) (hy:evK K y=some (.int .i64 b)):Pure P E n o K L (.int .i64 (max a b)):=fun c w hA hS=>by
  have:(if b > a then b else a)=max a b:=by simp only [Int.max_def]; split <;> split <;> omega
  simp only [execOp,ho,resolve,invoke,builtin,Sem.run_bind,Sem.run_pure,Result.andThen_ok,List.map_toArray,List.map_cons,List.map_nil,hA.eval hx,hA.eval hy]
  simp [Builtin.max_,Builtin.max2,this,Result.andThen]
theorem and_of29 {a b c:Nat} (h:(decide ((a:Int) < (b:Int)) && decide ((c:Int) * 64 < (b:Int)))=true):a < b∧c * 64 < b:=by
  simp only [Bool.and_eq_true,decide_eq_true_eq] at h
  omega
theorem nand_of29 {a b c:Nat} (h:(decide ((a:Int) < (b:Int)) && decide ((c:Int) * 64 < (b:Int)))=false):¬ a < b∨¬ c * 64 < b:=by
  simp only [Bool.and_eq_false_iff,decide_eq_false_iff_not] at h
  omega
theorem bytesA_len (V:VW) (size lv frm to:Nat) (top:List UInt8):∀ (f k:Nat) (acc:List UInt8),acc.length≤k * 64→(bytesA V size lv top frm to f k acc).1.length≤max (k * 64) (to + 64)
  | 0,k,acc,h=>by rw [bytesA]; show acc.length≤_; omega
  | f + 1,k,acc,h=>by
    by_cases hk:k * 64 < to
    · by_cases he:(rowV V size lv top k).2=0
      · rw [bytesA_next hk he]
        have hl:=rowV_len he
        have:=bytesA_len V size lv frm to top f (k + 1) (acc++((rowV V size lv top k).1.take (min (to - k * 64) (rowV V size lv top k).1.length)).drop (frm - k * 64)) (by rw [List.length_append,List.length_drop,List.length_take]; omega)
        omega
      · rw [bytesA_bad hk he]; simp
    · rw [bytesA_end hk]; show acc.length≤_; omega
theorem bytesV_len (V:VW) (nd:Nd) (frm to:Nat):(bytesV V nd frm to).1.length≤frm + to + 64:=by
  unfold bytesV
  split
  · have:=bytesA_len V nd.2.1.toNat nd.2.2.1.toNat frm to nd.2.2.2 (to + 1) (frm / 64) [] (by simp)
    omega
  · simp
theorem view_bytes (gm:Nat) (ls:List LB) (F:HP) (hM:∀ h,F h→mapQ idV ok32 gm (entsL ls) none h) (hL:∀ p ∈ ls,∀ h,F h→rdB p.2.1 p.2.2 h) (nd:Nd) (hnd:NdOk nd) (frm to:Nat) (hto:(to:Int)≤nd.2.1) (hfr:frm≤1000000000000):CallsS Tryz.prog 57 #[.map (some gm),.agg (ndC nd).toArray,.int .i64 (frm:Int),.int .i64 (to:Int)] F [] (fun r Ps=>∃ v,r = .tuple #[v,.int .i64 ((bytesV (vw ls) nd frm to).2:Int)]∧Ps=[rowB 5 v (bytesV (vw ls) nd frm to).1]):=by
 obtain ⟨hk0,hs0,hs1,hlv,htl⟩:=id hnd
 have hLv:nd.2.2.1.toNat=lev nd.2.1:=by omega
 refine callsS_enter Tryz.func57 rfl Tryz.ntmps57 (by simp) (fun E=>?_)
 refine Q9 (R9 (Lc9 rfl rfl (by decide) (OpT_box (r:=101) rfl rfl rfl (fun g101=>(G9 rfl rfl (G9 rfl rfl (N9 (X9 (Q9 ?_)))))))))
 refine W_nilRow 2 5 1 ?_
 refine W_nilRow 3 5 1 ?_
 refine R9 (G9 rfl rfl (N9 (X9 (Q9 (R9 (M9 rfl rfl (L9 rfl (F9 1 rfl rfl) (L9 rfl (Pb9 (r:=101) rfl Tryz.isAgg3 rfl rfl rfl) (L9 rfl (Pu_min rfl rfl rfl) ?_)))))))))
 rw [Int.min_eq_left hto]
 refine (G9 rfl rfl (N9 (X9 ?_)))
 refine Q9 (Q9 (R9 (M9 rfl rfl (L9 rfl (Pn9 rfl rfl rfl (run_quo _ _ _ _ _ (by omega))) ?_))))
 rw [show (frm:Int) / 64=((frm / 64:Nat):Int) from rfl]
 refine (G9 rfl rfl (N9 (X9 ?_)))
 refine W_block ?_
 refine Wt9 (P':=rowB 5 (.slice none 0 0) []) 2 rfl (fun h hp=>hp) ?_
 refine W_loop (α:=Nat × Nat × Value × List UInt8) (fun x=>[(0,.map (some gm)),(2,.int .i64 (frm:Int)),(3,.int .i64 (to:Int)),(5,.pointer (some ⟨g101,0,none⟩)),(10,x.2.2.1),(11,.int .i64 (x.2.1:Int))]) (fun x=>[(0,F),(2,rowB 5 x.2.2.1 x.2.2.2),(3,rowP 5 1 (.slice none 0 0) 0 []),(101,blk g101 42 (ndC nd))]) (fun x=>bytesA (vw ls) nd.2.1.toNat (lev nd.2.1) nd.2.2.2 frm to x.1 x.2.1 x.2.2.2=bytesA (vw ls) nd.2.1.toNat (lev nd.2.1) nd.2.2.2 frm to (to + 1) (frm / 64) []∧to < x.1 + x.2.1∧frm / 64≤x.2.1∧x.2.2.2.length≤x.2.1 * 64∧(frm < to∨x.2.2.2=[])∧x.2.1≤frm + to + 1) (fun x=>x.1) ((to + 1,frm / 64,.slice none 0 0,[])) ⟨rfl,by dsimp only; omega,Nat.le_refl _,by simp,.inr rfl,by dsimp only; omega⟩ (a9 rfl) (a9 rfl) (fun x hx=>?_)
 obtain ⟨hx1,hx2,hx3,hx4,hx5,hx6⟩:=hx
 refine Q9 (Q9 (R9 (M9 rfl rfl (M9 rfl rfl (L9 rfl (Pn9 rfl rfl rfl (run_lss _ _ _ _ _ _)) (M9 rfl rfl (Lg9 rfl rfl rfl rfl (by decide) (fun hb=>(Pm9 rfl rfl)) (Lg9 rfl rfl rfl rfl (by decide) (fun hb=>(Pn9 rfl (ev_gv rfl hb) rfl (run_mul _ _ _ _ _ (by omega)))) (Lg9 rfl rfl rfl rfl (by decide) (fun hb=>(Pm9 rfl rfl)) (Lg9 rfl rfl rfl rfl (by decide) (fun hb=>(Pn9 rfl (ev_gv rfl hb) (ev_gv rfl hb) (run_lss _ _ _ _ _ _))) (L9 rfl (Pu_and rfl rfl rfl) (N9 (X9 ?_)))))))))))))
 refine C9 rfl (fun hc29=>?_) (fun hc29=>?_)
 ·
  have hft:=and_of29 hc29
  obtain ⟨f1,hf1⟩:∃ f1,x.1=f1 + 1:=⟨x.1 - 1,by omega⟩
  refine K9 (X9 ?_)
  refine Q9 ?_
  refine W_block ?_
  refine Q9 ?_
  rcases Bool.eq_false_or_eq_true (decide ((rowV (vw ls) nd.2.1.toNat (lev nd.2.1) nd.2.2.2 x.2.1).2=0)) with hsp6 | hsp6
  ·
   have h0:=of_decide_eq_true hsp6
   refine R9 (M9 rfl rfl (L9 rfl (Px9 (r:=101) rfl Tryz.isAgg42 Tryz.sizeOf42 rfl rfl (ndC_length hnd.2.2.2.2) (load_all (ndC_length hnd.2.2.2.2))) (M9 rfl rfl (Lc9 rfl rfl (by decide) (Oc9 200 [0,2,3,101] [] rfl Tryz.call83 rfl rfl rfl (by decide) (by decide) (view_row gm ls _ (mapQ_star 0 rfl hM) (fun p0 hp0=>rs9 0 rfl (hL p0 hp0)) nd hnd x.2.1 (by omega)) (fun v36 Ps36 hR36=>?_))))))
   obtain ⟨rfl,_,hgood⟩:=hR36; obtain ⟨p,hpm,rfl,hpb,hpl⟩:=hgood h0
   refine (M9 rfl rfl (L9 rfl (Pe9 rfl rfl rfl) (L9 rfl (Pe9 rfl rfl rfl) (G9 rfl rfl (G9 rfl rfl (N9 (X9 ?_)))))))
   refine Q9 (Q9 (R9 (M9 rfl rfl (L9 rfl (Pn9 rfl rfl rfl (run_neq _ _ _ _ _ _)) (N9 (X9 ?_))))))
   refine W_false rfl (rfl) ?_
   refine K9 (X9 ?_)
   refine Q9 (R9 (M9 rfl rfl (L9 rfl (Pn9 rfl rfl rfl (run_mul _ _ _ _ _ (by omega))) (G9 rfl rfl (N9 (X9 ?_))))))
   have hdl:(p.2.2.drop 1).length=min 64 (nd.2.1.toNat - x.2.1 * 64):=by rw [← hpb]; exact rowV_len h0
   obtain ⟨aa,haa⟩:∃ aa:Nat,aa=frm - x.2.1 * 64:=⟨_,rfl⟩
   obtain ⟨bb,hbb⟩:∃ bb:Nat,bb=min (to - x.2.1 * 64) (p.2.2.drop 1).length:=⟨_,rfl⟩
   have hab:aa≤bb:=by omega
   have hbm:bb≤(p.2.2.drop 1).length:=by omega
   obtain ⟨pc,hpc⟩:∃ pc:List UInt8,pc=((p.2.2.drop 1).take bb).drop aa:=⟨_,rfl⟩
   have hpcl:pc.length≤64:=by rw [hpc,List.length_drop,List.length_take]; omega
   have hpce:((p.2.2.drop 1).drop aa).take (bb - aa)=pc:=by rw [hpc,List.drop_take]
   refine R9 (M9 rfl rfl (M9 rfl rfl (M9 rfl rfl (M9 rfl rfl (L9 rfl (Pn9 rfl rfl rfl (run_sub _ _ _ _ _ (by omega))) (L9 rfl (Pu_max rfl rfl rfl) ?_))))))
   rw [show max ((frm:Int) - (x.2.1:Int) * 64) 0=(aa:Int) by omega]
   refine (M9 rfl rfl (M9 rfl rfl (L9 rfl (Pn9 rfl rfl rfl (run_sub _ _ _ _ _ (by omega))) (M9 rfl rfl (L9 rfl (Pl9 (r:=0) rfl Tryz.runUnderlying36 rfl rfl (fun h hp=>rdB_tail (hL p hpm h hp) hpl)) (L9 rfl (Pu_min rfl rfl rfl) ?_))))))
   rw [show min ((to:Int) - (x.2.1:Int) * 64) (((p.2.2.drop 1).length:Nat):Int)=(bb:Int) by omega]
   refine (L9 rfl (Pu_slice (r:=0) (a:=aa) (b:=bb) rfl Tryz.runUnderlying36 Tryz.sizeOf5 rfl rfl (fun h hp=>rdB_tail (hL p hpm h hp) hpl) (.inr ⟨_,_,_,rfl,rfl,rfl⟩) (.inr ⟨_,_,_,rfl,rfl,rfl⟩) hab hbm) (Lc9 rfl rfl (by decide) (Oa9 (r:=2) (r2:=0) rfl Tryz.underlying36 TI.hi5 TI.hz5 TI.hs5 TI.hby5 TI.hzs5 (by decide) rfl rfl rfl rfl (fun h hp=>rdB_subE (rdB_tail (hL p hpm h hp) hpl) hab hbm hpce) (bs_one _) (by unfold maxLen; omega) (by omega) (fun v57=>?_))))
   refine Lt9 (P':=rowB 5 v57 (x.2.2.2++pc)) (r:=2) rfl (fun h hp=>rowB_mk hp (by rw [List.length_append]) (by rw [bs_append])) ?_
   refine (G9 rfl rfl (N9 (X_block (X9 ?_))))
   refine R9 (M9 rfl rfl (L9 rfl (Pn9 rfl rfl rfl (run_add _ _ _ _ _ (by omega))) (G9 rfl rfl (N9 ?_))))
   exact Xr9 (f1,x.2.1 + 1,v57,x.2.2.2++pc) ⟨by rw [← hx1,hf1,bytesA_next hft.2 h0,hpb,hpc,haa,hbb],by dsimp only; omega,by dsimp only; omega,by dsimp only; rw [List.length_append]; omega,.inl hft.1,by dsimp only; omega⟩ (by dsimp only; omega) (a9 rfl) (a9 rfl)
  ·
   have h0:=of_decide_eq_false hsp6
   refine R9 (M9 rfl rfl (L9 rfl (Px9 (r:=101) rfl Tryz.isAgg42 Tryz.sizeOf42 rfl rfl (ndC_length hnd.2.2.2.2) (load_all (ndC_length hnd.2.2.2.2))) (M9 rfl rfl (Lc9 rfl rfl (by decide) (Oc9 200 [0,2,3,101] [] rfl Tryz.call83 rfl rfl rfl (by decide) (by decide) (view_row gm ls _ (mapQ_star 0 rfl hM) (fun p0 hp0=>rs9 0 rfl (hL p0 hp0)) nd hnd x.2.1 (by omega)) (fun v36 Ps36 hR36=>?_))))))
   obtain ⟨rfl,hbad,_⟩:=hR36; have hv36:=hbad h0; subst hv36
   refine (M9 rfl rfl (L9 rfl (Pe9 rfl rfl rfl) (L9 rfl (Pe9 rfl rfl rfl) (G9 rfl rfl (G9 rfl rfl (N9 (X9 ?_)))))))
   refine Q9 (Q9 (R9 (M9 rfl rfl (L9 rfl (Pn9 rfl rfl rfl (run_neq _ _ _ _ _ _)) (N9 (X9 ?_))))))
   refine W_true rfl ((by simpa using h0)) ?_
   refine Q9 (R9 (M9 rfl rfl (G9 rfl rfl (G9 rfl rfl (N9 (X9 ?_))))))
   refine W_ret (X_then_ret (X_block_ret (X_then_ret (X_then_ret (X_block_ret (X_then_ret ?_))))))
   have hres:bytesV (vw ls) nd frm to=([],(rowV (vw ls) nd.2.1.toNat (lev nd.2.1) nd.2.2.2 x.2.1).2):=by unfold bytesV; rw [if_pos hft.1,hLv,← hx1,hf1,bytesA_bad hft.2 h0]
   exact Xq9 [3] (Ps:=[_]) (res2 Tryz.results57 rfl rfl) rfl (by decide) ⟨.slice none 0 0,by rw [hres] <;> rfl,by rw [hres] <;> rfl⟩
 ·
  have hft:=nand_of29 hc29
  refine W_exit (X_then_exit (X_then_exit (X_block_exit (X9 ?_))))
  refine Q9 (R9 (M9 rfl rfl (G9 rfl rfl (G9 rfl rfl (N9 (X9 ?_))))))
  refine W_ret ?_
  have hres:bytesV (vw ls) nd frm to=(x.2.2.2,0):=by
   unfold bytesV
   by_cases hlt:frm < to
   ·rw [if_pos hlt,hLv,← hx1,bytesA_end (by omega)]
   ·rw [if_neg hlt]; rcases hx5 with h5 | h5
    ·exact absurd h5 hlt
    ·rw [h5]
  exact Xq9 [2] (Ps:=[_]) (res2 Tryz.results57 rfl rfl) rfl (by decide) ⟨x.2.2.1,by rw [hres] <;> rfl,by rw [hres] <;> rfl⟩
theorem view_folder (gm:Nat) (ls:List LB) (F:HP) (hM:∀ h,F h→mapQ idV ok32 gm (entsL ls) none h) (hL:∀ p ∈ ls,∀ h,F h→rdB p.2.1 p.2.2 h) (hT:∀ h,F h→tabsP h) (nd:Nd) (hnd:NdOk nd):CallsS Tryz.prog 56 #[.map (some gm),.agg (ndC nd).toArray] F [] (fun r Ps=>∃ v,r = .tuple #[v,.int .i64 ((dirV (vw ls) nd).2:Int)]∧Ps=[rowE 122 v (dirV (vw ls) nd).1]):=by
 refine callsS_enter Tryz.func56 rfl Tryz.ntmps56 (by simp) (fun E=>?_)
 refine Q9 (R9 (Lc9 rfl rfl (by decide) (OpT_box (r:=101) rfl rfl rfl (fun g101=>(G9 rfl rfl (G9 rfl rfl (N9 (X9 (Q9 (Q9 ?_))))))))))
 refine W_nilRow 2 122 33 ?_
 refine R9 (L9 rfl (F9 0 rfl rfl) (L9 rfl (Pb9 (r:=101) rfl Tryz.isAgg3 rfl rfl rfl) (L9 rfl (Pn9 rfl rfl rfl (run_neq _ _ _ _ _ _)) (N9 (X9 ?_)))))
 refine C9 rfl (fun hc10=>?_) (fun hc10=>?_)
 ·
  have hres:dirV (vw ls) nd=([],3):=by unfold dirV; rw [if_pos (by simpa using hc10)]
  refine Q9 (R9 (G9 rfl rfl (G9 rfl rfl (N9 (X9 ?_)))))
  refine W_ret (X_then_ret ?_)
  exact Xq9 [2] (Ps:=[_]) (res2 Tryz.results56 rfl rfl) rfl (by decide) ⟨.slice none 0 0,by rw [hres] <;> rfl,by rw [hres] <;> rfl⟩
 ·
  have hk2:nd.1=2:=by simpa using hc10
  refine K9 (X9 ?_)
  refine Q9 (R9 (M9 rfl rfl (L9 rfl (Px9 (r:=101) rfl Tryz.isAgg42 Tryz.sizeOf42 rfl rfl (ndC_length hnd.2.2.2.2) (load_all (ndC_length hnd.2.2.2.2))) (L9 rfl (F9 1 rfl rfl) (L9 rfl (Pb9 (r:=101) rfl Tryz.isAgg3 rfl rfl (show (ndC nd)[1]?=some (.int .i64 ((nd.2.1.toNat:Nat):Int)) by rw [Int.toNat_of_nonneg hnd.2.1]; rfl)) (Lc9 rfl rfl (by decide) (Oc9 200 [0,2,101] [] rfl Tryz.call57 rfl rfl rfl (by decide) (by decide) (view_bytes gm ls _ (mapQ_star 0 rfl hM) (fun p0 hp0=>rs9 0 rfl (hL p0 hp0)) nd hnd 0 nd.2.1.toNat (by have:=hnd.2.1; omega) (by decide)) (fun v16 Ps16 hR16=>?_))))))))
  obtain ⟨w16,rfl,rfl⟩:=hR16
  skip
  refine (M9 rfl rfl (L9 rfl (Pe9 rfl rfl rfl) (L9 rfl (Pe9 rfl rfl rfl) (G9 rfl rfl (G9 rfl rfl (N9 (X9 ?_)))))))
  refine Q9 (Q9 (R9 (M9 rfl rfl (L9 rfl (Pn9 rfl rfl rfl (run_neq _ _ _ _ _ _)) (N9 (X9 ?_))))))
  refine C9 rfl (fun hc20=>?_) (fun hc20=>?_)
  ·
   have hb0:(bytesV (vw ls) nd 0 nd.2.1.toNat).2≠0:=by simpa using hc20
   have hres:dirV (vw ls) nd=([],(bytesV (vw ls) nd 0 nd.2.1.toNat).2):=by unfold dirV; rw [if_neg (fun h=>h hk2),if_pos hb0]
   refine Q9 (R9 (M9 rfl rfl (G9 rfl rfl (G9 rfl rfl (N9 (X9 ?_))))))
   refine W_ret (X_then_ret ?_)
   exact Xq9 [2] (Ps:=[_]) (res2 Tryz.results56 rfl rfl) rfl (by decide) ⟨.slice none 0 0,by rw [hres] <;> rfl,by rw [hres] <;> rfl⟩
  ·
   have hb0:(bytesV (vw ls) nd 0 nd.2.1.toNat).2=0:=by simpa using hc20
   have hres:dirV (vw ls) nd=par (bytesV (vw ls) nd 0 nd.2.1.toNat).1 []:=by unfold dirV; rw [if_neg (fun h=>h hk2),if_neg (fun h=>h hb0)]
   have hbl:(bytesV (vw ls) nd 0 nd.2.1.toNat).1.length≤2000000:=by have h1:=bytesV_len (vw ls) nd 0 nd.2.1.toNat; have h2:=hnd.2.2.1; omega
   refine K9 (X9 ?_)
   refine Q9 (R9 (M9 rfl rfl (Lc9 rfl rfl (by decide) (Oc9 300 [0,2,101,200] [] rfl Tryz.call82 rfl rfl rfl (by decide) (by decide) (parseDir_spec w16 (bytesV (vw ls) nd 0 nd.2.1.toNat).1 hbl _ (rs9 3 rfl rowB_rd) (ts9 0 rfl hT)) (fun v23 Ps23 hR23=>?_)))))
   obtain ⟨w23,rfl,rfl⟩:=hR23
   skip
   refine (L9 rfl (Pe9 rfl rfl rfl) (L9 rfl (Pe9 rfl rfl rfl) (G9 rfl rfl (G9 rfl rfl (N9 (X9 ?_))))))
   refine W_ret ?_
   exact Xq9 [300] (Ps:=[_]) (res2 Tryz.results56 rfl rfl) rfl (by decide) ⟨w23,by rw [hres] <;> rfl,by rw [hres] <;> rfl⟩
open Go.RowKit
set_option maxRecDepth 8000
section
variable {P:Program} {E:Env} {n:Nat} {K:Slots} {L:Res} {o:Oper} {C:Value→Res→Prop}
theorem OpT_callV {f:FuncId} {x:Operand} {cap:List Value} {xs:List Operand} {vs:List Value} {ts:Array TypeId} {R:Value→List HP→Prop} (b:Nat) (J Cs:List Nat) {Js Ps:List HP}
    (ho:o.op = .call { callee:=.value x,args:=xs.toArray,argTypes:=ts }) (hf:evK K x=some (.func (.func f) #[] cap.toArray)) (hc:∀ args w,(callFunc f args).run P w = .ok (.enter f args) w) (hx:evL K xs=some vs)
    (hJ:lookL L J=some Js) (hC:lookL L Cs=some Ps) (hn:(J++Cs).Nodup) (hb:∀ j ∈ J,j < b)
    (spec:CallsS P f (vs++cap).toArray (starL Js) Ps R) (k:∀ v Ps',R v Ps'→C v (En b Ps'++zipR J Js)):OpT P E n o K L C:=fun a w Kc Q hA hS hK=>by
  have hargs:=evArgs hA (evL_map hx)
  have hrun:(execOp a.eval o).run P w = .ok (.enter f (vs++cap).toArray) w:=by
    have:(xs.toArray.map a.eval)=vs.toArray:=by simp [hargs]
    have h2:vs.toArray++cap.toArray=(vs++cap).toArray:=by simp
    simp only [execOp,ho,resolve,hA.eval hf,this,Deferred.ofValue,Sem.run_bind,Sem.run_pure,Result.andThen_ok,invoke,Array.empty_append,hc,h2]
  unfold Oper.wp
  rw [hrun]
  refine (spec E w (hS.pack (.of hJ) (.of hC) hn)).mono fun e w' ⟨v,Ps',he,hR,hS'⟩=>?_
  subst he
  exact hK _ _ _ (k v Ps' hR) (hS'.unpack b (List.nodup_append.1 hn).1 hb)
end
theorem cell_star {Js:List HP} {g:Nat} {t:TypeId} {cs:List Value} {v:Value} (k:Nat) (hk:Js[k]?=some (blk g t cs)) (hv:cs[0]?=some v):∀ h,starL Js h→cellH h ⟨g,0,none⟩=some v:=fun h ⟨hs,h1,_,h3⟩=>by
  have h4:=h1 k _ hk
  unfold Proofs.YthkdkmaacjpneaaGreatDoor.blk at h4
  have h5:=h3 k _ _ h4
  simp only [cellH,h5]
  simpa using hv
theorem cell_up {Js:List HP} {P:HP} {g:Nat} {v:Value} (k:Nat) (hk:Js[k]?=some P) (hP:∀ h,P h→cellH h ⟨g,0,none⟩=some v):∀ h,starL Js h→cellH h ⟨g,0,none⟩=some v:=fun h ⟨hs,h1,_,h3⟩=>by
  have h4:=hP _ (h1 k _ hk)
  simp only [cellH] at h4 ⊢
  cases hg:hs k g with
  | none=>rw [hg] at h4; simp at h4
  | some o=>rw [hg] at h4; rw [h3 k _ _ hg]; exact h4
theorem ent_node {es:List Ent} (hE:Ents es) {k:Nat} (hk:k < es.length):((recC entF es).drop (k * 33 + 1)).take 32=bs (es.getD k ent0).2:=by
  have h:=ent_all hE hk
  have e:((recC entF es).drop (k * 33 + 1)).take 32=(((recC entF es).drop (k * 33)).take 33).drop 1:=by
    rw [List.drop_take,List.drop_drop]
  rw [e,h]
  rfl
def idxE (m:List UInt8) (es:List Ent):Option Nat:=es.findIdx? fun x=>decide (x.1=m)
theorem idxE_find (m:List UInt8):∀ es:List Ent,match idxE m es with
    | none=>es.find? (fun x=>decide (x.1=m))=none
    | some i=>i < es.length∧es.find? (fun x=>decide (x.1=m))=some (es.getD i ent0)
  | []=>by simp [idxE]
  | x::es=>by
    have ih:=idxE_find m es
    unfold idxE at ih ⊢
    rw [List.findIdx?_cons]
    by_cases h:x.1=m
    · simp [h]
    · simp only [h,decide_false,Bool.false_eq_true,if_false]
      cases hh:es.findIdx? (fun x=>decide (x.1=m)) with
      | none=>rw [hh] at ih; simp [h,ih]
      | some i=>rw [hh] at ih; simp [h,ih]
theorem idxE_step {m:List UInt8} {es:List Ent} {k:Nat} (hk:k < es.length) (h:idxE m es=(idxE m (es.drop k)).map (· + k)) (hne:¬ (es.getD k ent0).1=m):idxE m es=(idxE m (es.drop (k + 1))).map (· + (k + 1)):=by
  rw [h,List.drop_eq_getElem_cons hk]
  have:¬ es[k].1=m:=by simpa [hk] using hne
  unfold idxE
  rw [List.findIdx?_cons]
  simp only [this,decide_false,Bool.false_eq_true,if_false,Option.map_map]
  congr 1
  funext a
  show a + 1 + k=_
  omega
theorem idxE_here {m:List UInt8} {es:List Ent} {k:Nat} (hk:k < es.length) (h:idxE m es=(idxE m (es.drop k)).map (· + k)) (he:(es.getD k ent0).1=m):idxE m es=some k:=by
  rw [h,List.drop_eq_getElem_cons hk]
  have:es[k].1=m:=by simpa [hk] using he
  unfold idxE
  rw [List.findIdx?_cons]
  simp [this]
theorem idxE_end {m:List UInt8} {es:List Ent} {k:Nat} (hk:es.length≤k) (h:idxE m es=(idxE m (es.drop k)).map (· + k)):idxE m es=none:=by
  rw [h,List.drop_of_length_le hk]
  rfl
def idxV (o:Option Nat):Int:=match o with
  | none=>-1
  | some i=>(i:Int)
theorem beq_dec (a b:List UInt8):(a == b)=decide (a=b):=by by_cases h:a=b <;> simp [h]
theorem entF_len {e:Ent} (h:e.2.length=32):(entF e).length=33:=entC_length h
theorem not_decE {a:Int} (h:(!decide (a=0))=false):a=0:=by simpa using h
theorem dirV_ents (V:VW) (n:Nd) (hn:NdOk n):Ents (dirV V n).1∧(dirV V n).1.length≤1000000000:=by
  unfold dirV
  split
  · exact ⟨Ents.nil,by simp⟩
  · split
    · exact ⟨Ents.nil,by simp⟩
    · have h1:=par_len _ (bytesV V n 0 n.2.1.toNat).1 [] (Nat.le_refl _)
      have h2:=bytesV_len V n 0 n.2.1.toNat
      have h3:=hn.2.2.1
      refine ⟨h1.2 Ents.nil,?_⟩
      have:=h1.1
      simp only [List.length_nil] at this
      omega
theorem clos_spec (e:Ent) (g:Nat) (m:List UInt8) (F:HP) (hC:∀ h,F h→cellH h ⟨g,0,none⟩=some (sV m)):CallsS Tryz.prog 74 #[.agg (entF e).toArray,.pointer (some ⟨g,0,none⟩)] F [] (fun r Ps=>r = .bool (decide (e.1=m))∧Ps=[]):=by
 refine callsS_enter Tryz.func74 rfl Tryz.ntmps74 (by simp) (fun E=>?_)
 refine Q9 (R9 (Lc9 rfl rfl (by decide) (OpT_box (r:=101) rfl rfl rfl (fun g101=>(G9 rfl rfl (N9 (X9 (Q9 (R9 (L9 rfl (F9 0 rfl rfl) (L9 rfl (Pb9 (r:=101) rfl Tryz.isAgg9 rfl rfl rfl) (L9 rfl (Pu_load1 (r:=0) rfl Tryz.isAgg9 rfl rfl hC) (L9 rfl (Pn9 rfl rfl rfl (run_strEq _ _ _ _ _)) (G9 rfl rfl (N9 (X9 ?_))))))))))))))))
 refine W_ret ?_
 exact Xq9 [] (Ps:=[]) (res1 Tryz.results74 rfl) rfl (by decide) ⟨by rw [beq_dec],rfl⟩
theorem index_spec (v:Value) (es:List Ent) (hE:Ents es) (hel:es.length≤1000000000) (g:Nat) (m:List UInt8) (F:HP) (hF:∀ h,F h→rdE v es h) (hC:∀ h,F h→cellH h ⟨g,0,none⟩=some (sV m)):CallsS Tryz.prog 73 #[v,.func (.func 74) #[] #[.pointer (some ⟨g,0,none⟩)]] F [] (fun r Ps=>r = .int .i64 (idxV (idxE m es))∧Ps=[]):=by
 refine callsS_enter Tryz.func73 rfl Tryz.ntmps73 (by simp) (fun E=>?_)
 refine Q9 (R9 (G9 rfl rfl (N9 (X9 (Q9 (Q9 (R9 (M9 rfl rfl (L9 rfl (Pl9 (r:=0) rfl Tryz.runUnderlying118 rfl rfl hF) (M9 rfl rfl (N9 (X9 ?_))))))))))))
 refine W_block ?_
 refine W_loop (α:=Nat) (fun x=>[(0,v),(1,.func (.func 74) #[] #[.pointer (some ⟨g,0,none⟩)]),(7,.int .i64 (es.length:Int)),(8,.int .i64 (x:Int))]) (fun x=>[(0,F)]) (fun x=>x≤es.length∧idxE m es=(idxE m (es.drop x)).map (· + x)) (fun x=>es.length - x) (0) ⟨Nat.zero_le _,by simp⟩ (a9 rfl) ⟨rfl,trivial⟩ (fun x hx=>?_)
 obtain ⟨hx,hxi⟩:=hx
 refine Q9 (R9 (L9 rfl (Pn9 rfl rfl rfl (run_lss _ _ _ _ _ _)) (N9 (X9 (Q9 ?_)))))
 refine C9 rfl (fun hc9=>?_) (fun hc9=>?_)
 ·
  have hlt:x < es.length:=by have:=of_decide_eq_true hc9; omega
  refine K9 (X9 ?_)
  refine Q9 ?_
  refine W_block ?_
  refine Q9 (R9 (M9 rfl rfl (G9 rfl rfl (N9 (X9 (Q9 (R9 (M9 rfl rfl (M9 rfl rfl (M9 rfl rfl (L9 rfl (Pi9 (r:=0) rfl Tryz.runUnderlying118 Tryz.sizeOf122 rfl rfl rfl hF (by omega)) (L9 rfl (Pz9 (r:=0) rfl Tryz.isAgg122 Tryz.sizeOf122 rfl rfl hF (entF_len (hE.get hlt)) (by decide) (ent_all hE hlt)) (Lc9 rfl rfl (by decide) (OpT_callV (cap:=[.pointer (some ⟨g,0,none⟩)]) 200 [0] [] rfl rfl Tryz.call74 rfl rfl rfl (by decide) (by decide) (clos_spec (es.getD x ent0) g m _ (cell_up 0 rfl hC)) (fun v16 Ps16 hR16=>?_)))))))))))))))
  obtain ⟨rfl,rfl⟩:=hR16
  refine (N9 (X9 ?_))
  refine C9 rfl (fun hc16=>?_) (fun hc16=>?_)
  ·
   have hres:=idxE_here hlt hxi (of_decide_eq_true hc16)
   refine Q9 (R9 (M9 rfl rfl (G9 rfl rfl (N9 (X9 ?_)))))
   refine W_ret (X_block_ret (X_then_ret (X_then_ret (X_block_ret (X_then_ret ?_)))))
   exact Xq9 [] (Ps:=[]) (res1 Tryz.results73 rfl) rfl (by decide) ⟨by rw [hres] <;> rfl,rfl⟩
  ·
   have hne:=of_decide_eq_false hc16
   refine K9 (X_block (X9 ?_))
   refine R9 (L9 rfl (Pn9 rfl rfl rfl (run_add _ _ _ _ _ (by omega))) (M9 rfl rfl (N9 ?_)))
   exact Xr9 (x + 1) ⟨by omega,idxE_step hlt hxi hne⟩ (by omega) (a9 rfl) ⟨rfl,trivial⟩
 ·
  have hge:es.length≤x:=by have:=of_decide_eq_false hc9; omega
  have hres:=idxE_end hge hxi
  refine W_exit (X_then_exit (X_then_exit (X_block_exit (X9 ?_))))
  refine Q9 (R9 (G9 rfl rfl (N9 (X9 ?_))))
  refine W_ret ?_
  exact Xq9 [] (Ps:=[]) (res1 Tryz.results73 rfl) rfl (by decide) ⟨by rw [hres] <;> rfl,rfl⟩
theorem view_find (gm:Nat) (ls:List LB) (F:HP) (hM:∀ h,F h→mapQ idV ok32 gm (entsL ls) none h) (hL:∀ p ∈ ls,∀ h,F h→rdB p.2.1 p.2.2 h) (hT:∀ h,F h→tabsP h) (top path:List UInt8) (hid:top.length=32) (hpl:path.length≤1000000000):CallsS Tryz.prog 44 #[.map (some gm),idV top,sV path] F [] (fun r Ps=>r = .tuple #[.agg (ndC (pathV (vw ls) top path).1).toArray,.int .i64 (pathV (vw ls) top path).2]∧Ps=[]):=by
 refine callsS_enter Tryz.func44 rfl Tryz.ntmps44 (by simp) (fun E=>?_)
 refine Q9 (R9 (Lc9 rfl rfl (by decide) (OpT_box (r:=101) rfl rfl rfl (fun g101=>(Lc9 rfl rfl (by decide) (OpT_alloc (r:=102) (cs:=(nodeC 0 0 0 zeroId)) rfl (zero_run (by kernel_rfl:(Tryz.prog.info? 42).bind (·.zero)=some (.agg (nodeC 0 0 0 zeroId).toArray))) rfl (fun g102=>(G9 rfl rfl (N9 (X9 (Q9 (R9 (M9 rfl rfl (Lc9 rfl rfl (by decide) (Oc9 200 [0,101,102] [] rfl Tryz.call36 rfl rfl rfl (by decide) (by decide) (split_nspec path (by omega) _ (ts9 0 rfl hT)) (fun v17 Ps17 hR17=>?_))))))))))))))))
 obtain ⟨vs17,rfl,rfl⟩:=hR17
 skip
 refine (M9 rfl rfl (L9 rfl (Pe9 rfl rfl rfl) (L9 rfl (Pe9 rfl rfl rfl) (G9 rfl rfl (G9 rfl rfl (N9 (X9 ?_)))))))
 refine Q9 (Q9 (R9 (M9 rfl rfl (L9 rfl (Pn9 rfl rfl rfl (run_neq _ _ _ _ _ _)) (N9 (X9 ?_))))))
 refine C9 rfl (fun hc21=>?_) (fun hc21=>?_)
 ·
  have hs0:(splitN path).2≠0:=by simpa using hc21
  have hres:pathV (vw ls) top path=(nd0,((splitN path).2:Int)):=by unfold pathV; rw [if_pos hs0]
  refine Q9 (R9 (L9 rfl (Pu_build (V:=.agg (nodeC 0 0 0 zeroId).toArray) [(0,1),(1,1),(2,1),(3,32)] (nodeC 0 0 0 zeroId) rfl rfl (by kernel_rfl) (by kernel_rfl) (.nil _) rfl) (M9 rfl rfl (Lc09 rfl rfl (OpT_storeAll (r:=102) rfl Tryz.sizeOf42 rfl rfl rfl (nodeC_length zeroId_length) (nodeC_length zeroId_length) (one_node _ _ _ _) ?_)))))
  refine (G9 rfl rfl (N9 (X9 ?_)))
  refine W_ret (X_then_ret ?_)
  exact Xq9 [] (Ps:=[]) (resC2 (r:=102) Tryz.results44 rfl rfl Tryz.isAgg42 Tryz.sizeOf42 rfl (nodeC_length zeroId_length)) rfl (by decide) ⟨by rw [hres] <;> rfl,rfl⟩
 ·
  have hs0:(splitN path).2=0:=by simpa using hc21
  have hsl:=splitN_len path
  refine K9 (X9 ?_)
  refine Q9 (R9 (M9 rfl rfl (L9 rfl (Px9 (r:=101) rfl Tryz.isAgg29 Tryz.sizeOf29 rfl rfl ((bs_length _).trans hid) (load_all ((bs_length _).trans hid))) (Lc9 rfl rfl (by decide) (Oc9 300 [0,101,102,200] [] rfl Tryz.call58 rfl rfl rfl (by decide) (by decide) (view_inode gm ls _ (mapQ_star 0 rfl hM) (fun p0 hp0=>rs9 0 rfl (hL p0 hp0)) top hid) (fun v27 Ps27 hR27=>?_))))))
  obtain ⟨rfl,rfl⟩:=hR27
  refine (M9 rfl rfl (L9 rfl (Pe9 rfl rfl rfl) (L9 rfl (Pe9 rfl rfl rfl) (Lc9 rfl rfl (by decide) (OpT_alloc (r:=301) (cs:=(nodeC 0 0 0 zeroId)) rfl (zero_run (by kernel_rfl:(Tryz.prog.info? 42).bind (·.zero)=some (.agg (nodeC 0 0 0 zeroId).toArray))) rfl (fun g301=>(Lc09 rfl rfl (OpT_storeAll (r:=301) rfl Tryz.sizeOf42 rfl rfl rfl (nodeC_length zeroId_length) (ndC_length (inodeV_top _ _)) (one_node _ _ _ _) ?_))))))))
  refine (G9 rfl rfl (N9 (X9 ?_)))
  refine Q9 (Q9 (R9 (M9 rfl rfl (L9 rfl (Pl9 (r:=200) rfl Tryz.runUnderlying63 rfl rfl rowS_rd) (M9 rfl rfl (N9 (X9 ?_)))))))
  refine W_block ?_
  refine W_loop (α:=Nat × Nd × Int) (fun x=>[(0,.map (some gm)),(6,.pointer (some ⟨g102,0,none⟩)),(9,.int .i64 x.2.2),(10,.pointer (some ⟨g301,0,none⟩)),(30,vs17),(31,.int .i64 ((splitN path).1.length:Int)),(32,.int .i64 (x.1:Int))]) (fun x=>[(0,F),(200,rowS 9 vs17 (splitN path).1),(102,blk g102 42 (nodeC 0 0 0 zeroId)),(301,blk g301 42 (ndC x.2.1))]) (fun x=>x.1≤(splitN path).1.length∧x.2.1.2.2.2.length=32∧(x.2.2=0→NdOk x.2.1)∧pathV (vw ls) top path=(if x.2.2≠0 then (nd0,x.2.2) else findV (vw ls) ((splitN path).1.drop x.1) x.2.1)) (fun x=>(splitN path).1.length - x.1) ((0,(inodeV (vw ls) top).1,(inodeV (vw ls) top).2)) ⟨Nat.zero_le _,inodeV_top _ _,inodeV_ok,by unfold pathV; rw [if_neg (fun h=>h hs0)]; rfl⟩ (a9 rfl) (a9 rfl) (fun x hx=>?_)
  obtain ⟨hx1,hx2,hx3,hx4⟩:=hx
  refine Q9 (R9 (L9 rfl (Pn9 rfl rfl rfl (run_lss _ _ _ _ _ _)) (N9 (X9 (Q9 ?_)))))
  refine C9 rfl (fun hc33=>?_) (fun hc33=>?_)
  ·
   have hlt:x.1 < (splitN path).1.length:=by have:=of_decide_eq_true hc33; omega
   obtain ⟨m,hm⟩:∃ m,m=(splitN path).1.getD x.1 []:=⟨_,rfl⟩
   have hgm:(splitN path).1[x.1]=m:=by rw [hm]; simp [hlt]
   refine K9 (X9 ?_)
   refine Q9 ?_
   refine W_block ?_
   refine Q9 (R9 (L9 rfl (Pu_idxS1 (r:=200) rfl Tryz.runUnderlying63 Tryz.sizeOf9 rfl rfl rfl rowS_rd (by omega)) (L9 rfl (Py9 (r:=200) rfl Tryz.isAgg9 rfl rfl rowS_rd (ss_at (k:=x.1) hlt)) ?_)))
   rw [← hm]
   refine (Lc9 rfl rfl (by decide) (OpT_alloc (r:=302) rfl Tryz.zeroValue9 rfl (fun g302=>(Lc09 rfl rfl (OpT_storeB1 (r:=302) rfl Tryz.sizeOf9 rfl rfl rfl rfl (by decide) (show _=[sV m] from rfl) ?_)))))
   refine (N9 (X9 ?_))
   refine Q9 (Q9 (R9 (M9 rfl rfl (L9 rfl (Pn9 rfl rfl rfl (run_neq _ _ _ _ _ _)) (N9 (X9 ?_))))))
   refine C9 rfl (fun hc37=>?_) (fun hc37=>?_)
   ·
    have he0:x.2.2≠0:=by simpa using hc37
    have hres:pathV (vw ls) top path=(nd0,x.2.2):=by rw [hx4,if_pos he0]
    refine W_exit (X_then_exit (X_block_out (by decide) (X_then_exit (X_then_exit (X_block_exit (X9 ?_))))))
    refine Q9 (Q9 (R9 (M9 rfl rfl (L9 rfl (Pn9 rfl rfl rfl (run_neq _ _ _ _ _ _)) (N9 (X9 ?_))))))
    refine W_true rfl (hc37) ?_
    refine Q9 (R9 (L9 rfl (Pu_build (V:=.agg (nodeC 0 0 0 zeroId).toArray) [(0,1),(1,1),(2,1),(3,32)] (nodeC 0 0 0 zeroId) rfl rfl (by kernel_rfl) (by kernel_rfl) (.nil _) rfl) (M9 rfl rfl (Lc09 rfl rfl (OpT_storeAll (r:=102) rfl Tryz.sizeOf42 rfl rfl rfl (nodeC_length zeroId_length) (nodeC_length zeroId_length) (one_node _ _ _ _) ?_)))))
    refine (G9 rfl rfl (N9 (X9 ?_)))
    refine W_ret (X_then_ret ?_)
    exact Xq9 [] (Ps:=[]) (resC2 (r:=102) Tryz.results44 rfl rfl Tryz.isAgg42 Tryz.sizeOf42 rfl (nodeC_length zeroId_length)) rfl (by decide) ⟨by rw [hres] <;> rfl,rfl⟩
   ·
    have he0:x.2.2=0:=not_decE hc37
    refine K9 (X9 ?_)
    refine Q9 (R9 (G9 rfl rfl (N9 (X9 (Q9 (Q9 (R9 (M9 rfl rfl (L9 rfl (Px9 (r:=301) rfl Tryz.isAgg42 Tryz.sizeOf42 rfl rfl (ndC_length hx2) (load_all (ndC_length hx2))) (Lc9 rfl rfl (by decide) (Oc9 400 [0,102,200,301,302] [] rfl Tryz.call56 rfl rfl rfl (by decide) (by decide) (view_folder gm ls _ (mapQ_star 0 rfl hM) (fun p0 hp0=>rs9 0 rfl (hL p0 hp0)) (ts9 0 rfl hT) x.2.1 (hx3 he0)) (fun v41 Ps41 hR41=>?_))))))))))))
    obtain ⟨w41,rfl,rfl⟩:=hR41
    skip
    refine (M9 rfl rfl (L9 rfl (Pe9 rfl rfl rfl) (L9 rfl (Pe9 rfl rfl rfl) (G9 rfl rfl (G9 rfl rfl (N9 (X9 ?_)))))))
    refine Q9 (R9 (M9 rfl rfl (L9 rfl (Pn9 rfl rfl rfl (run_neq _ _ _ _ _ _)) (N9 (X9 ?_)))))
    refine C9 rfl (fun hc45=>?_) (fun hc45=>?_)
    ·
     have hd0:(dirV (vw ls) x.2.1).2≠0:=by simpa using hc45
     have hres:pathV (vw ls) top path=(nd0,((dirV (vw ls) x.2.1).2:Int)):=by rw [hx4,if_neg (fun h=>h he0),List.drop_eq_getElem_cons hlt,findV,if_pos hd0]
     refine W_exit (X_then_exit (X_block_out (by decide) (X_then_exit (X_then_exit (X_block_exit (X9 ?_))))))
     refine Q9 (Q9 (R9 (M9 rfl rfl (L9 rfl (Pn9 rfl rfl rfl (run_neq _ _ _ _ _ _)) (N9 (X9 ?_))))))
     refine W_true rfl (hc45) ?_
     refine Q9 (R9 (L9 rfl (Pu_build (V:=.agg (nodeC 0 0 0 zeroId).toArray) [(0,1),(1,1),(2,1),(3,32)] (nodeC 0 0 0 zeroId) rfl rfl (by kernel_rfl) (by kernel_rfl) (.nil _) rfl) (M9 rfl rfl (Lc09 rfl rfl (OpT_storeAll (r:=102) rfl Tryz.sizeOf42 rfl rfl rfl (nodeC_length zeroId_length) (nodeC_length zeroId_length) (one_node _ _ _ _) ?_)))))
     refine (G9 rfl rfl (N9 (X9 ?_)))
     refine W_ret (X_then_ret ?_)
     exact Xq9 [] (Ps:=[]) (resC2 (r:=102) Tryz.results44 rfl rfl Tryz.isAgg42 Tryz.sizeOf42 rfl (nodeC_length zeroId_length)) rfl (by decide) ⟨by rw [hres] <;> rfl,rfl⟩
    ·
     have hd0:(dirV (vw ls) x.2.1).2=0:=by simpa using hc45
     obtain ⟨es,hdes⟩:∃ es,(dirV (vw ls) x.2.1).1=es:=⟨_,rfl⟩
     have hdd:=dirV_ents (vw ls) x.2.1 (hx3 he0)
     rw [hdes] at hdd
     obtain ⟨hE,hel⟩:=hdd
     rw [hdes]
     have hif:=idxE_find m es
     refine K9 (X9 ?_)
     refine Q9 (R9 (M9 rfl rfl (L9 rfl (Pu_makeFunc rfl rfl) (Lc9 rfl rfl (by decide) (Oc9 500 [0,102,200,301,302,400] [] rfl Tryz.call73 rfl rfl rfl (by decide) (by decide) (index_spec w41 es hE hel g302 m _ (rs9 5 rfl rowR_rd) (cell_star 4 rfl rfl)) (fun v48 Ps48 hR48=>?_))))))
     obtain ⟨rfl,rfl⟩:=hR48
     refine (G9 rfl rfl (N9 (X9 ?_)))
     refine Q9 (Q9 ?_)
     rcases Bool.eq_false_or_eq_true ((idxE m es).isSome) with hsp13 | hsp13
     ·
      obtain ⟨i,hi⟩:=is_some_T hsp13
      rw [hi] at hif
      rw [hi]
      simp only [idxV]
      refine R9 (M9 rfl rfl (L9 rfl (Pn9 rfl rfl rfl (run_lss _ _ _ _ _ _)) (N9 (X9 ?_))))
      refine W_false rfl ((decide_eq_false (by omega))) ?_
      refine K9 (X9 ?_)
      refine R9 (M9 rfl rfl (M9 rfl rfl (M9 rfl rfl (L9 rfl (Pi9 (r:=400) rfl Tryz.runUnderlying118 Tryz.sizeOf122 rfl rfl rfl rowR_rd (by have:=hif.1; omega)) (L9 rfl (Pu_fieldAddrE (off:=1) rfl rfl (by kernel_rfl)) (L9 rfl (Pz9 (r:=400) rfl Tryz.isAgg29 Tryz.sizeOf29 rfl rfl rowR_rd ((bs_length _).trans (hE.get hif.1)) (by decide) (ent_node hE hif.1)) (Lc9 rfl rfl (by decide) (Oc9 600 [0,102,200,301,302,400] [] rfl Tryz.call58 rfl rfl rfl (by decide) (by decide) (view_inode gm ls _ (mapQ_star 0 rfl hM) (fun p0 hp0=>rs9 0 rfl (hL p0 hp0)) (es.getD i ent0).2 (hE.get hif.1)) (fun v59 Ps59 hR59=>?_)))))))))
      obtain ⟨rfl,rfl⟩:=hR59
      refine (M9 rfl rfl (L9 rfl (Pe9 rfl rfl rfl) (L9 rfl (Pe9 rfl rfl rfl) (Lc09 rfl rfl (OpT_storeAll (r:=301) rfl Tryz.sizeOf42 rfl rfl rfl (ndC_length hx2) (ndC_length (inodeV_top _ _)) (one_node _ _ _ _) ?_)))))
      refine (G9 rfl rfl (N9 (X_block (X9 ?_))))
      refine R9 (L9 rfl (Pn9 rfl rfl rfl (run_add _ _ _ _ _ (by omega))) (M9 rfl rfl (N9 ?_)))
      exact Xr9 (x.1 + 1,(inodeV (vw ls) (es.getD i ent0).2).1,(inodeV (vw ls) (es.getD i ent0).2).2) ⟨by dsimp only; omega,inodeV_top _ _,inodeV_ok,by rw [hx4,if_neg (fun h=>h he0),List.drop_eq_getElem_cons hlt,findV,if_neg (fun h=>h hd0),hgm,hdes,hif.2]⟩ (by dsimp only; omega) (a9 rfl) (a9 rfl)
     ·
      have hi:=is_none_F hsp13
      rw [hi] at hif
      rw [hi]
      simp only [idxV]
      have hres:pathV (vw ls) top path=(nd0,2):=by rw [hx4,if_neg (fun h=>h he0),List.drop_eq_getElem_cons hlt,findV,if_neg (fun h=>h hd0),hgm,hdes,hif]
      refine R9 (M9 rfl rfl (L9 rfl (Pn9 rfl rfl rfl (run_lss _ _ _ _ _ _)) (N9 (X9 ?_))))
      refine W_true rfl (rfl) ?_
      refine Q9 (R9 (L9 rfl (Pu_build (V:=.agg (nodeC 0 0 0 zeroId).toArray) [(0,1),(1,1),(2,1),(3,32)] (nodeC 0 0 0 zeroId) rfl rfl (by kernel_rfl) (by kernel_rfl) (.nil _) rfl) (Lc09 rfl rfl (OpT_storeAll (r:=102) rfl Tryz.sizeOf42 rfl rfl rfl (nodeC_length zeroId_length) (nodeC_length zeroId_length) (one_node _ _ _ _) ?_))))
      refine (G9 rfl rfl (N9 (X9 ?_)))
      refine W_ret (X_then_ret (X_block_ret (X_then_ret (X_then_ret (X_block_ret (X_then_ret ?_))))))
      exact Xq9 [] (Ps:=[]) (resC2 (r:=102) Tryz.results44 rfl rfl Tryz.isAgg42 Tryz.sizeOf42 rfl (nodeC_length zeroId_length)) rfl (by decide) ⟨by rw [hres] <;> rfl,rfl⟩
  ·
   have hge:(splitN path).1.length≤x.1:=by have:=of_decide_eq_false hc33; omega
   refine W_exit (X_then_exit (X_then_exit (X_block_exit (X9 ?_))))
   refine Q9 (Q9 (R9 (M9 rfl rfl (L9 rfl (Pn9 rfl rfl rfl (run_neq _ _ _ _ _ _)) (N9 (X9 ?_))))))
   refine C9 rfl (fun hc64=>?_) (fun hc64=>?_)
   ·
    have he0:x.2.2≠0:=by simpa using hc64
    have hres:pathV (vw ls) top path=(nd0,x.2.2):=by rw [hx4,if_pos he0]
    refine Q9 (R9 (L9 rfl (Pu_build (V:=.agg (nodeC 0 0 0 zeroId).toArray) [(0,1),(1,1),(2,1),(3,32)] (nodeC 0 0 0 zeroId) rfl rfl (by kernel_rfl) (by kernel_rfl) (.nil _) rfl) (M9 rfl rfl (Lc09 rfl rfl (OpT_storeAll (r:=102) rfl Tryz.sizeOf42 rfl rfl rfl (nodeC_length zeroId_length) (nodeC_length zeroId_length) (one_node _ _ _ _) ?_)))))
    refine (G9 rfl rfl (N9 (X9 ?_)))
    refine W_ret (X_then_ret ?_)
    exact Xq9 [] (Ps:=[]) (resC2 (r:=102) Tryz.results44 rfl rfl Tryz.isAgg42 Tryz.sizeOf42 rfl (nodeC_length zeroId_length)) rfl (by decide) ⟨by rw [hres] <;> rfl,rfl⟩
   ·
    have he0:x.2.2=0:=not_decE hc64
    have hres:pathV (vw ls) top path=(x.2.1,0):=by rw [hx4,if_neg (fun h=>h he0),List.drop_of_length_le hge]; rfl
    refine K9 (X9 ?_)
    refine Q9 (R9 (L9 rfl (Px9 (r:=301) rfl Tryz.isAgg42 Tryz.sizeOf42 rfl rfl (ndC_length hx2) (load_all (ndC_length hx2))) (Lc09 rfl rfl (OpT_storeAll (r:=102) rfl Tryz.sizeOf42 rfl rfl rfl (nodeC_length zeroId_length) (ndC_length hx2) (one_node _ _ _ _) ?_))))
    refine (G9 rfl rfl (N9 (X9 ?_)))
    refine W_ret ?_
    exact Xq9 [] (Ps:=[]) (resC2 (r:=102) Tryz.results44 rfl rfl Tryz.isAgg42 Tryz.sizeOf42 rfl (ndC_length hx2)) rfl (by decide) ⟨by rw [hres] <;> rfl,rfl⟩
open Go.RowKit
set_option maxRecDepth 8000
theorem bvs_len (xs:List BV):∀ x ∈ xs,(bvC x).length=35:=fun x _=>bvC_length x
theorem eb_all {es:List EB} {k:Nat} {b:EB} (hb:es[k]?=some b):((recC bvC (es.map (·.1))).drop (k * 35)).take 35=bvC b.1:=by
  obtain ⟨hk,he⟩:=List.getElem?_eq_some_iff.1 hb
  have:=recC_get (d:=default) (bvs_len (es.map (·.1))) (show k < (es.map (·.1)).length by rw [List.length_map]; exact hk)
  rw [this]
  congr 1
  simp [hk,he]
theorem put_ents {k:List UInt8} {v:Value} {d:List UInt8} {ls:List LB} (h:lookA k ls=none):putQ k v (entsL ls)=entsL (ls++[(k,v,d)]):=by
  rw [put_new (by rw [entsL_fil,lookQ_fil,h]; rfl)]
  unfold entsL
  rw [List.map_append]
  rfl
theorem viewT_snoc (l:List TB) (b:TB) (k:List UInt8):viewT (l++[b]) k=(viewT l k).or (if b.1=k∧sha b.2.1=k then some b.2.1 else none):=by
  unfold viewT
  rw [List.find?_append]
  cases h:l.find? (fun b=>decide (b.1=k) && decide (sha b.2.1=k)) with
  | some x=>simp
  | none =>
    simp only [Option.none_or,Option.map_none]
    by_cases h1:b.1=k∧sha b.2.1=k
    · simp [List.find?,h1.1,h1.2]
    · rw [if_neg h1]
      have:(decide (b.1=k) && decide (sha b.2.1=k))=false:=by
        rw [Bool.and_eq_false_iff,decide_eq_false_iff_not,decide_eq_false_iff_not]
        by_cases h2:b.1=k
        · exact .inr fun h3=>h1 ⟨h2,h3⟩
        · exact .inl h2
      simp [List.find?,this]
theorem vw_snoc (ls:List LB) (k0:List UInt8) (v:Value) (d k:List UInt8):vw (ls++[(k0,v,d)]) k=(vw ls k).or (if k=k0 then some d else none):=by
  unfold vw
  rw [lookA_app,lookA,lookA]
  cases h:lookA k ls with
  | some p=>simp
  | none=>by_cases hk:k=k0 <;> simp [hk]
theorem take_snoc {es:List EB} {k:Nat} {b:EB} (hb:es[k]?=some b):(es.take (k + 1)).map toTB=(es.take k).map toTB++[toTB b]:=by
  rw [List.take_add_one,hb,List.map_append]
  rfl
theorem view_old {ls:List LB} {es:List EB} {k:Nat} {b:EB} {p:Value × List UInt8} (hb:es[k]?=some b) (hv:vw ls=viewT ((es.take k).map toTB)) (hlk:lookA b.1.key ls=some p):vw ls=viewT ((es.take (k + 1)).map toTB):=by
  rw [take_snoc hb]
  funext q
  rw [viewT_snoc,← hv]
  by_cases hq:b.1.key=q
  · subst hq; rw [vw_some hlk]; rfl
  · rw [if_neg (fun h=>hq h.1),Option.or_none]
theorem view_bad {ls:List LB} {es:List EB} {k:Nat} {b:EB} (hb:es[k]?=some b) (hv:vw ls=viewT ((es.take k).map toTB)) (hne:(sha b.2 == b.1.key)=false):vw ls=viewT ((es.take (k + 1)).map toTB):=by
  rw [take_snoc hb]
  funext q
  rw [viewT_snoc,← hv,if_neg (fun h=>?_),Option.or_none]
  have:sha b.2=b.1.key:=h.2.trans h.1.symm
  rw [this] at hne
  simp at hne
theorem view_new {ls:List LB} {es:List EB} {k:Nat} {b:EB} (hb:es[k]?=some b) (hv:vw ls=viewT ((es.take k).map toTB)) (hlk:lookA b.1.key ls=none) (hs:(sha b.2 == b.1.key)=true):vw (ls++[(b.1.key,b.1.sl,b.2)])=viewT ((es.take (k + 1)).map toTB):=by
  have hs:sha b.2=b.1.key:=by simpa using hs
  rw [take_snoc hb]
  funext q
  rw [viewT_snoc,vw_snoc,← hv]
  congr 1
  by_cases hq:q=b.1.key
  · subst hq; rw [if_pos rfl,if_pos ⟨rfl,hs⟩]; rfl
  · rw [if_neg hq,if_neg (fun h=>hq h.1.symm)]
theorem tree_id {v:Value} {id:List UInt8} (h:id.length=32):((treeC v id).drop 1).take 32=bs id:=by
  show (bs id).take 32=_
  exact List.take_of_length_le (by rw [bs_length]; omega)
theorem ds9 {Js:List HP} {P:HP} {es:List EB} (k:Nat) (hk:Js[k]?=some P) (hp:∀ h,P h→datE es h):∀ h,starL Js h→datE es h:=fun h hs p hpm=>rs9 k hk (fun h' hh=>hp h' hh p hpm) h hs
theorem look_rd {es:List EB} {ls:List LB} {F:HP} (hD:∀ h,F h→datE es h) (h0:∀ p ∈ ls,∃ b ∈ es,p.2=(b.1.sl,b.2)):∀ p ∈ ls,∀ h,F h→rdB p.2.1 p.2.2 h:=fun p hp h hh=>by
  obtain ⟨b,hb,he⟩:=h0 p hp
  rw [he]
  exact hD h hh b hb
theorem look_spec (es:List EB) (v:Value) (id:List UInt8) (hel:es.length≤1000000000000) (hdl:∀ b ∈ es,b.2.length≤1000000000) (F:HP) (hF:∀ h,F h→rdP 35 v (es.map (·.1)).length (recC bvC (es.map (·.1))) h) (hD:∀ h,F h→datE es h):CallsS Tryz.prog 43 #[.agg (treeC v id).toArray] F [] (fun r Ps=>∃ gm ls,r = .map (some gm)∧Ps=[mapQ idV ok32 gm (entsL ls) none]∧(∀ p ∈ ls,∃ b ∈ es,p.2=(b.1.sl,b.2))∧vw ls=viewT (es.map toTB)):=by
 have hml:(es.map (·.1)).length=es.length:=List.length_map _
 refine callsS_enter Tryz.func43 rfl Tryz.ntmps43 (by simp) (fun E=>?_)
 refine Q9 (R9 (Lc9 rfl rfl (by decide) (OpT_box (r:=101) rfl rfl rfl (fun g101=>(G9 rfl rfl (N9 (X9 (Q9 (R9 (Lc9 rfl rfl (by decide) (OpT_makeMapQ (r:=150) (enc:=idV) (ok:=ok32) rfl (fun gm=>?_))))))))))))
 skip
 refine (G9 rfl rfl (N9 (X9 ?_)))
 refine Q9 (Q9 (R9 (L9 rfl (F9 0 rfl rfl) (L9 rfl (Pb9 (r:=101) rfl Tryz.isAgg27 rfl rfl rfl) (L9 rfl (Pl9 (r:=0) rfl Tryz.runUnderlying27 rfl rfl hF) (M9 rfl rfl (N9 (X9 ?_))))))))
 refine W_block ?_
 rw [hml]
 refine W_loop (α:=Nat × List LB) (fun x=>[(3,.map (some gm)),(10,v),(11,.int .i64 (es.length:Int)),(12,.int .i64 (x.1:Int))]) (fun x=>[(0,F),(150,mapQ idV ok32 gm (entsL x.2) none),(101,blk g101 31 (treeC v id))]) (fun x=>x.1≤es.length∧(∀ p ∈ x.2,∃ b ∈ es,p.2=(b.1.sl,b.2))∧vw x.2=viewT ((es.take x.1).map toTB)) (fun x=>es.length - x.1) ((0,[])) ⟨Nat.zero_le _,fun p hp=>absurd hp (by simp),rfl⟩ (a9 rfl) (a9 rfl) (fun x hx=>?_)
 obtain ⟨hx1,hx2,hx3⟩:=hx
 refine Q9 (R9 (L9 rfl (Pn9 rfl rfl rfl (run_lss _ _ _ _ _ _)) (N9 (X9 (Q9 ?_)))))
 refine C9 rfl (fun hc13=>?_) (fun hc13=>?_)
 ·
  have hlt:x.1 < es.length:=by have:=of_decide_eq_true hc13; omega
  obtain ⟨b,hb⟩:∃ b,es[x.1]?=some b:=⟨_,List.getElem?_eq_getElem hlt⟩
  have hbm:=List.mem_of_getElem? hb
  refine K9 (X9 ?_)
  refine Q9 ?_
  refine W_block ?_
  refine Q9 (R9 (L9 rfl (Pi9 (r:=0) rfl Tryz.runUnderlying27 Tryz.sizeOf59 rfl rfl rfl hF (by rw [hml]; omega)) (L9 rfl (Pz9 (r:=0) rfl Tryz.isAgg59 Tryz.sizeOf59 rfl rfl hF (bvC_length b.1) (by decide) (eb_all hb)) (Lc9 rfl rfl (by decide) (OpT_alloc (r:=102) rfl (zero_run (by kernel_rfl:(Tryz.prog.info? 59).bind (·.zero)=some (.agg (bkC zeroId (.slice none 0 0) 0 0).toArray))) rfl (fun g102=>(Lc09 rfl rfl (OpT_storeAll (r:=102) rfl Tryz.sizeOf59 rfl rfl rfl (bkC_length zeroId_length) (bvC_length b.1) (bvC_one b.1) ?_))))))))
  refine (N9 (X9 ?_))
  refine Q9 (R9 (M9 rfl rfl (L9 rfl (F9 0 rfl rfl) (L9 rfl (Px9 (r:=102) rfl Tryz.isAgg29 Tryz.sizeOf29 rfl rfl ((bs_length _).trans b.1.len) (bk_key b.1.len)) (L9 rfl (Pu_lookupOkQ (r:=150) keyB rfl Tryz.underlying93 Tryz.zeroValue36 rfl rfl b.1.len rfl) ?_)))))
  rw [entsL_fil,lookQ_fil]
  refine (M9 rfl rfl (L9 rfl (Pe9 rfl rfl rfl) (L9 rfl (Pe9 rfl rfl rfl) (G9 rfl rfl (G9 rfl rfl (N9 (X9 ?_)))))))
  refine Q9 ?_
  rcases Bool.eq_false_or_eq_true ((lookA b.1.key x.2).isSome) with hsp6 | hsp6
  ·
   obtain ⟨p,hlk⟩:=is_some_T hsp6
   rw [hlk]
   refine W_draw (N:=10) (by kernel_rfl) rfl [(0,_),(101,_),(102,_)] ⟨rfl,rfl,rfl,trivial⟩ ?_
   refine (T9 0 rfl rfl (Pm9 rfl rfl) (T9 1 rfl rfl (Pu_un rfl rfl (run_not _)) (T9 2 rfl rfl (Pm9 rfl rfl) (AH_takeF 3 rfl (by kernel_rfl) (by kernel_rfl) (by kernel_rfl) rfl rfl rfl rfl rfl (by decide) (AH_takeF 4 rfl (by kernel_rfl) (by kernel_rfl) (by kernel_rfl) rfl rfl rfl rfl rfl (by decide) (AH_takeF 6 rfl (by kernel_rfl) (by kernel_rfl) (by kernel_rfl) rfl rfl rfl rfl rfl (by decide) (AH_takeF 7 rfl (by kernel_rfl) (by kernel_rfl) (by kernel_rfl) rfl rfl rfl rfl rfl (by decide) (Y9 [5] ?_))))))))
   refine AHs_gF rfl rfl rfl rfl rfl rfl (by decide) ?_ ?_
   ·
    refine (AH_takeF 8 rfl (by kernel_rfl) (by kernel_rfl) (by kernel_rfl) rfl rfl rfl rfl rfl (by decide) (T9 9 rfl rfl (Pu_pickF rfl rfl rfl rfl) (Ad9 (by kernel_rfl) (X9 ?_))))
    refine W_false rfl (rfl) ?_
    refine K9 (X_block (X9 ?_))
    refine R9 (L9 rfl (Pn9 rfl rfl rfl (run_add _ _ _ _ _ (by omega))) (M9 rfl rfl (N9 ?_)))
    exact Xr9 (x.1 + 1,x.2) ⟨by dsimp only; omega,hx2,view_old hb hx3 hlk⟩ (by dsimp only; omega) (a9 rfl) (a9 rfl)
   exact An9
  ·
   have hlk:=is_none_F hsp6
   rw [hlk]
   refine W_draw (N:=10) (by kernel_rfl) rfl [(0,_),(101,_),(102,_)] ⟨rfl,rfl,rfl,trivial⟩ ?_
   refine (T9 0 rfl rfl (Pm9 rfl rfl) (T9 1 rfl rfl (Pu_un rfl rfl (run_not _)) (T9 2 rfl rfl (Pm9 rfl rfl) (AH_takeT 3 rfl (by kernel_rfl) (by kernel_rfl) (by kernel_rfl) rfl rfl rfl rfl rfl (by decide) (F9 32 rfl rfl) (AH_takeT 4 rfl (by kernel_rfl) (by kernel_rfl) (by kernel_rfl) rfl rfl rfl rfl rfl (by decide) (Pb9 (r:=102) rfl Tryz.isAgg36 rfl rfl (bk_data b.1.len)) (AH_takeT 6 rfl (by kernel_rfl) (by kernel_rfl) (by kernel_rfl) rfl rfl rfl rfl rfl (by decide) (F9 0 rfl rfl) (AH_takeT 7 rfl (by kernel_rfl) (by kernel_rfl) (by kernel_rfl) rfl rfl rfl rfl rfl (by decide) (Px9 (r:=102) rfl Tryz.isAgg29 Tryz.sizeOf29 rfl rfl ((bs_length _).trans b.1.len) (bk_key b.1.len)) (Y9 [5] ?_))))))))
   refine AHs_gT rfl rfl rfl rfl rfl rfl (by decide) (Oc9 200 [0,101,102,150] [] rfl Tryz.call72 rfl rfl rfl (by decide) (by decide) (sum_spec b.1.sl b.2 (hdl b hbm) _ (rs9 0 rfl (fun h hp=>hD h hp b hbm))) (fun v28 Ps28 hR28=>?_)) ?_
   ·
    obtain ⟨rfl,rfl⟩:=hR28
    refine ⟨⟨rfl,rfl,rfl,trivial⟩,?_⟩
    refine (AH_takeT 8 rfl (by kernel_rfl) (by kernel_rfl) (by kernel_rfl) rfl rfl rfl rfl rfl (by decide) (Pn9 rfl rfl rfl (run_idEq _ _ (sha_length _) b.1.len _ _)) (T9 9 rfl rfl (Pu_pickT rfl rfl rfl rfl) (Ad9 (by kernel_rfl) (X9 ?_))))
    refine C9 rfl (fun hc32=>?_) (fun hc32=>?_)
    ·
     refine R9 (M9 rfl rfl (L9 rfl (F9 0 rfl rfl) (L9 rfl (Px9 (r:=102) rfl Tryz.isAgg29 Tryz.sizeOf29 rfl rfl ((bs_length _).trans b.1.len) (bk_key b.1.len)) (L9 rfl (F9 32 rfl rfl) (L9 rfl (Pb9 (r:=102) rfl Tryz.isAgg36 rfl rfl (bk_data b.1.len)) (Lc09 rfl rfl (OpT_mapPutQ (r:=150) (k:=b.1.key) (v:=b.1.sl) (es:=entsL x.2) (g:=gm) keyB rfl Tryz.underlying93 rfl rfl b.1.len rfl rfl ?_)))))))
     refine (N9 (X_block (X9 ?_)))
     refine R9 (L9 rfl (Pn9 rfl rfl rfl (run_add _ _ _ _ _ (by omega))) (M9 rfl rfl (N9 ?_)))
     refine X_turn (P':=mapQ idV ok32 gm (entsL (x.2++[(b.1.key,b.1.sl,b.2)])) none) 150 rfl (fun h hp=>by rw [← put_ents hlk]; exact hp) ?_
     exact Xr9 (x.1 + 1,x.2++[(b.1.key,b.1.sl,b.2)]) ⟨by dsimp only; omega,fun p hp=>(List.mem_append.1 hp).elim (hx2 p) (fun h=>⟨b,hbm,by rw [List.mem_singleton.1 h]⟩),view_new hb hx3 hlk hc32⟩ (by dsimp only; omega) (a9 rfl) (a9 rfl)
    ·
     refine K9 (X_block (X9 ?_))
     refine R9 (L9 rfl (Pn9 rfl rfl rfl (run_add _ _ _ _ _ (by omega))) (M9 rfl rfl (N9 ?_)))
     exact Xr9 (x.1 + 1,x.2) ⟨by dsimp only; omega,hx2,view_bad hb hx3 hc32⟩ (by dsimp only; omega) (a9 rfl) (a9 rfl)
   exact An9
 ·
  have hge:es.length≤x.1:=by have:=of_decide_eq_false hc13; omega
  refine W_exit (X_then_exit (X_then_exit (X_block_exit (X9 ?_))))
  refine Q9 (R9 (M9 rfl rfl (G9 rfl rfl (N9 (X9 ?_)))))
  refine W_ret ?_
  exact Xq9 [150] (Ps:=[_]) (res1 Tryz.results43 rfl) rfl (by decide) ⟨gm,x.2,rfl,rfl,hx2,by rw [hx3,List.take_of_length_le hge]⟩
theorem find_spec (es:List EB) (v:Value) (id:List UInt8) (hid:id.length=32) (hel:es.length≤1000000000000) (hdl:∀ b ∈ es,b.2.length≤1000000000) (F:HP) (hF:∀ h,F h→rdP 35 v (es.map (·.1)).length (recC bvC (es.map (·.1))) h) (hD:∀ h,F h→datE es h) (hT:∀ h,F h→tabsP h) (path:List UInt8) (hpl:path.length≤1000000000):CallsS Tryz.prog 19 #[.agg (treeC v id).toArray,sV path] F [] (fun r Ps=>r = .tuple #[.agg (ndC (pathV (viewT (es.map toTB)) id path).1).toArray,.int .i64 (pathV (viewT (es.map toTB)) id path).2]∧Ps=[]):=by
 refine callsS_enter Tryz.func19 rfl Tryz.ntmps19 (by simp) (fun E=>?_)
 refine Q9 (R9 (Lc9 rfl rfl (by decide) (OpT_box (r:=101) rfl rfl rfl (fun g101=>(Lc9 rfl rfl (by decide) (OpT_alloc (r:=102) (cs:=(nodeC 0 0 0 zeroId)) rfl (zero_run (by kernel_rfl:(Tryz.prog.info? 42).bind (·.zero)=some (.agg (nodeC 0 0 0 zeroId).toArray))) rfl (fun g102=>(G9 rfl rfl (N9 (X9 (Q9 ?_)))))))))))
 refine W_draw (N:=10) (by kernel_rfl) rfl [(0,_),(101,_)] ⟨rfl,rfl,trivial⟩ ?_
 refine (T9 0 rfl rfl (Px9 (r:=101) rfl Tryz.isAgg31 Tryz.sizeOf31 rfl rfl (treeC_length hid) (load_all (treeC_length hid))) (T9 2 rfl rfl (F9 1 rfl rfl) (T9 3 rfl rfl (Px9 (r:=101) rfl Tryz.isAgg29 Tryz.sizeOf29 rfl rfl ((bs_length _).trans hid) (tree_id hid)) (T9 4 rfl rfl (Pm9 rfl rfl) (Y9 [1] ?_)))))
 refine Z9 rfl rfl (Oc9 200 [0,101,102] [] rfl Tryz.call43 rfl rfl rfl (by decide) (by decide) (look_spec es v id hel hdl _ (rs9 0 rfl hF) (ds9 0 rfl hD)) (fun v7 Ps7 hR7=>?_)) ?_
 ·
  obtain ⟨gm,ls,rfl,rfl,hL0,hvw⟩:=hR7
  refine ⟨⟨rfl,rfl,trivial⟩,?_⟩
  skip
  refine (Y9 [5] ?_)
  refine Z9 rfl rfl (Oc9 300 [0,101,102,200] [] rfl Tryz.call44 rfl rfl rfl (by decide) (by decide) (view_find gm ls _ (mapQ_star 3 rfl (fun _ h=>h)) (fun p0 hp0=>rs9 0 rfl (look_rd hD hL0 p0 hp0)) (ts9 0 rfl hT) id path hid hpl) (fun v11 Ps11 hR11=>?_)) ?_
  ·
   obtain ⟨rfl,rfl⟩:=hR11
   refine ⟨⟨rfl,rfl,trivial⟩,?_⟩
   rw [hvw]
   refine (T9 6 rfl rfl (Pe9 rfl rfl rfl) (T9 7 rfl rfl (Pe9 rfl rfl rfl) (Y9 [8] ?_)))
   refine Ac09 rfl rfl rfl (OpT_storeAll (r:=102) rfl Tryz.sizeOf42 rfl rfl rfl (nodeC_length zeroId_length) (ndC_length (pathV_top _ _ _)) (one_node _ _ _ _) ?_) ?_
   ·
    refine ⟨⟨rfl,rfl,trivial⟩,?_⟩
    refine (T9 9 rfl rfl (Pg9 rfl rfl) (Ad9 (by kernel_rfl) (X9 ?_)))
    refine W_ret ?_
    exact Xq9 [] (Ps:=[]) (resC2 (r:=102) Tryz.results19 rfl rfl Tryz.isAgg42 Tryz.sizeOf42 rfl (ndC_length (pathV_top _ _ _))) rfl (by decide) ⟨rfl,rfl⟩
   exact An9
  exact An9
 exact An9
open Go.RowKit
set_option maxRecDepth 8000
theorem dir_none:dirR []=[]:=by decide
theorem rows_none:rowsD []=[]:=rfl
theorem above_none:aboveD []=([],0,[]):=by unfold aboveD; rw [rows_none]; exact above_small (by simp)
theorem node_none:nodeF 2 []=inodeB 2 0 0 zeroId:=by
  unfold nodeF topF
  rw [above_none]
  decide
theorem blocks_none:blocksF 2 []=[nodeF 2 []]:=by unfold blocksF; rw [above_none,rows_none]; rfl
theorem parse_none:parseI (nodeF 2 [])=((2,0,0,zeroId),0):=by rw [node_none]; exact parse_inode zeroId_length (by decide)
theorem filled_none {T:HT} (h:Filled [] T):idT T=sha (nodeF 2 [])∧blocksT T=[nodeF 2 []]:=by
  generalize hl:([]:List F3)=l at h
  cases h with
  | nil g gd gf =>
    refine ⟨?_,?_⟩
    · rw [idT,entsD]
      show idF 2 (dirR [])=_
      rw [dir_none]
      rfl
    · rw [blocksT,entsD,blocksDs]
      show []++[]++blocksF 2 (dirR [])=_
      rw [dir_none,blocks_none]
      rfl
  | snoc l x T T' h1 h2 h3=>simp at hl
theorem tree_one {d:List UInt8} {l:List TB} (h:TreeOf [d] l):l=[(sha d,d,0,0)]:=by
  have hall:∀ p ∈ l,p=(sha d,d,0,0):=fun p hp=>by
    obtain ⟨h1,h2,h3⟩:=h.from_ p hp
    have h2:p.2.1=d:=by simpa using h2
    obtain ⟨p1,p2,p3⟩:=p
    simp only at h1 h2 h3
    subst h2; subst h1; rw [h3]
  match l,h,hall with
  | [],h,_=>have:=h.all d (by simp); simp at this
  | [p],_,hall=>rw [hall p (by simp)]
  | p::q::r,h,hall =>
    have h1:=(List.pairwise_cons.1 h.sorted).1 q (by simp)
    rw [hall p (by simp),hall q (by simp),ltK_irrefl] at h1
    cases h1
theorem split_top:splitN [47]=([],0):=by unfold splitN; rw [if_pos rfl]
theorem path_none:pathV (viewT [(sha (nodeF 2 []),nodeF 2 [],0,0)]) (sha (nodeF 2 [])) [47]=((2,0,0,zeroId),0):=by
  have hv:viewT [(sha (nodeF 2 []),nodeF 2 [],0,0)] (sha (nodeF 2 []))=some (nodeF 2 []):=by
    unfold viewT
    simp [List.find?]
  have hi:inodeV (viewT [(sha (nodeF 2 []),nodeF 2 [],0,0)]) (sha (nodeF 2 []))=((2,0,0,zeroId),0):=by
    unfold inodeV
    rw [hv]
    exact parse_none
  unfold pathV
  rw [split_top,hi]
  rfl
theorem build_none:buildE []=0:=rfl
theorem node_len:(nodeF 2 []).length≤39:=by rw [node_none]; decide
open Go.RowKit
set_option maxRecDepth 8000
theorem W_openTree {P:Program} {E:Env} {n:Nat} {K:Slots} {L:Res} {Q:Exit→Act→World→Prop} {c:Code} (r b:Nat) {v:Value} {l:List TB} (hr:look L r=some (treeP v l))
    (k:∀ es:List EB,es.map toTB=l→W P E n c K (En b [rowP 59 35 v es.length (recC bvC (es.map (·.1))),datE es]++(r,emp)::L) Q):W P E n c K L Q :=
  W_open (φ:=fun es:List EB=>es.map toTB=l) (Ps:=fun es:List EB=>[rowP 59 35 v es.length (recC bvC (es.map (fun p:EB=>p.1))),datE es]) r b hr (fun h hp=>by exact hp) (fun q hq=>k q hq)
theorem treeP_one {v:Value} {l:List TB} {h:Hlt} (hp:treeP v l h):v.oneCell'=true:=by
  obtain ⟨es,_,hs⟩:=hp
  exact starL_pick hs 0 rfl fun h' h2=>rd_one (rp9 h2)
theorem known10_spec (F:HP) (hT:∀ h,F h→tabsP h):CallsS Tryz.prog 13 #[] F [] (fun r Ps=>r = .bool true∧Ps=[]):=by
 refine callsS_enter Tryz.func13 rfl Tryz.ntmps13 (by simp) (fun E=>?_)
 refine Q9 (R9 (G9 rfl rfl (N9 (X9 (Q9 (R9 (Lc9 rfl rfl (by decide) (Oc9 200 [0] [] rfl Tryz.call16 rfl rfl rfl (by decide) (by decide) (build_spec (.slice none 0 0) [] (by decide) (fun x hx=>absurd hx (by simp)) _ (fun h _=>rd_nil0) (fun h _ x hx=>absurd hx (by simp)) (ts9 0 rfl hT)) (fun v6 Ps6 hR6=>?_)))))))))
 obtain ⟨vb,id,l,rfl,rfl,hid,hbad,hgood⟩:=hR6
 skip
 refine WL_fact (r:=200) rfl (fun h hp=>treeP_one hp) (fun (hvo:vb.oneCell'=true)=>?_)
 refine (M9 rfl rfl (L9 rfl (Pe9 rfl rfl rfl) (L9 rfl (Pe9 rfl rfl rfl) (Lc9 rfl rfl (by decide) (OpT_alloc (r:=201) (cs:=(treeC (.slice none 0 0) zeroId)) rfl (zero_run (by kernel_rfl:(Tryz.prog.info? 31).bind (·.zero)=some (.agg (treeC (.slice none 0 0) zeroId).toArray))) rfl (fun g201=>(Lc09 rfl rfl (OpT_storeAll (r:=201) rfl Tryz.sizeOf31 rfl rfl rfl (treeC_length zeroId_length) (treeC_length hid) (treeC_one hvo) ?_))))))))
 refine (G9 rfl rfl (N9 (X9 ?_)))
 refine Q9 ?_
 obtain ⟨T,hfil,hidT,htree⟩:=hgood build_none
 obtain ⟨hi1,hi2⟩:=filled_none hfil
 rw [hi2] at htree
 have hl:=tree_one htree
 subst hl
 refine W_openTree 200 700 rfl (fun es hes=>?_)
 have hel:es.length=1:=by have:=congrArg List.length hes; simpa using this
 have hdl:∀ b ∈ es,b.2.length≤1000000000:=fun b hb=>by have h1:toTB b ∈ es.map toTB:=List.mem_map_of_mem hb; rw [hes,List.mem_singleton] at h1; have h2:b.2=nodeF 2 []:=congrArg (fun t:TB=>t.2.1) h1; rw [h2]; have:=node_len; omega
 refine R9 (L9 rfl (Px9 (r:=201) rfl Tryz.isAgg31 Tryz.sizeOf31 rfl rfl (treeC_length hid) (load_all (treeC_length hid))) (Lc9 rfl rfl (by decide) (Oc9 800 [0,201,700,701] [] rfl Tryz.call19 rfl rfl rfl (by decide) (by decide) (find_spec es vb id hid (by omega) hdl _ (rs9 2 rfl (fun h hp=>by have h2:=rp9 hp; rw [List.length_map]; exact h2)) (ds9 3 rfl (fun _ h=>h)) (ts9 0 rfl hT) [47] (by decide)) (fun v11 Ps11 hR11=>?_))))
 obtain ⟨rfl,rfl⟩:=hR11
 rw [hes,hidT,hi1,path_none]
 refine (M9 rfl rfl (L9 rfl (Pe9 rfl rfl rfl) (L9 rfl (Pe9 rfl rfl rfl) (Lc9 rfl rfl (by decide) (OpT_alloc (r:=801) (cs:=(nodeC 0 0 0 zeroId)) rfl (zero_run (by kernel_rfl:(Tryz.prog.info? 42).bind (·.zero)=some (.agg (nodeC 0 0 0 zeroId).toArray))) rfl (fun g801=>(Lc09 rfl rfl (OpT_storeAll (r:=801) rfl Tryz.sizeOf42 rfl rfl rfl (nodeC_length zeroId_length) (nodeC_length zeroId_length) (one_node _ _ _ _) ?_))))))))
 refine (G9 rfl rfl (N9 (X9 ?_)))
 refine Q9 ?_
 refine Wt9 (P':=rowP 59 35 vb 1 (recC bvC (es.map (·.1)))) 700 rfl (fun h hp=>by rw [← hel]; exact hp) ?_
 refine R9 (M9 rfl rfl (L9 rfl (Pn9 rfl rfl rfl (run_eql _ _ _ _ _ _)) (M9 rfl rfl (WL_gPT rfl rfl rfl rfl rfl (by decide) (F9 0 rfl rfl) (WL_gPT rfl rfl rfl rfl rfl (by decide) (Pb9 (r:=201) rfl Tryz.isAgg27 rfl rfl rfl) (WL_gPT rfl rfl rfl rfl rfl (by decide) (Pl9 (r:=700) rfl Tryz.runUnderlying27 rfl rfl (fun _ h=>rp9 h)) (WL_gPT rfl rfl rfl rfl rfl (by decide) (Pn9 rfl rfl rfl (run_eql _ _ _ _ _ _)) (L9 rfl (Pu_pickT rfl rfl rfl rfl) (M9 rfl rfl (WL_gPT rfl rfl rfl rfl rfl (by decide) (Pm9 rfl rfl) (WL_gPT rfl rfl rfl rfl rfl (by decide) (Pn9 rfl rfl rfl (run_eql _ _ _ _ _ _)) (L9 rfl (Pu_pickT rfl rfl rfl rfl) (M9 rfl rfl (WL_gPT rfl rfl rfl rfl rfl (by decide) (F9 0 rfl rfl) (WL_gPT rfl rfl rfl rfl rfl (by decide) (Pb9 (r:=801) rfl Tryz.isAgg3 rfl rfl rfl) (WL_gPT rfl rfl rfl rfl rfl (by decide) (Pn9 rfl rfl rfl (run_eql _ _ _ _ _ _)) (L9 rfl (Pu_pickT rfl rfl rfl rfl) (M9 rfl rfl (WL_gPT rfl rfl rfl rfl rfl (by decide) (F9 1 rfl rfl) (WL_gPT rfl rfl rfl rfl rfl (by decide) (Pb9 (r:=801) rfl Tryz.isAgg3 rfl rfl rfl) (WL_gPT rfl rfl rfl rfl rfl (by decide) (Pn9 rfl rfl rfl (run_eql _ _ _ _ _ _)) (L9 rfl (Pu_pickT rfl rfl rfl rfl) (G9 rfl rfl (N9 (X9 ?_)))))))))))))))))))))))))
 refine W_ret ?_
 exact Xq9 [] (Ps:=[]) (res1 Tryz.results13 rfl) rfl (by decide) ⟨rfl,rfl⟩
open Go.RowKit
section
variable {P:Program} {E:Env} {n:Nat} {K:Slots} {L:Res} {o:Oper} {C:Value→Res→Prop}
end
open Go.RowKit
set_option maxRecDepth 8000
open Go.RowKit
set_option maxRecDepth 8000
theorem within_spec (a n:Int) (hn:0 < n) (hn2:n < 9223372036854775808) (F:HP):CallsS Tryz.prog 15 #[.int .i64 a,.int .i64 n] F [] (fun v Ps=>v = .int .i64 (a % n)∧Ps=[]):=by
 have htb:=tmod_bounds a hn
 refine callsS_enter Tryz.func15 rfl Tryz.ntmps15 (by simp) (fun E=>?_)
 refine Q9 (R9 (G9 rfl rfl (N9 (X9 (Q9 (R9 (M9 rfl rfl (M9 rfl rfl (L9 rfl (Pn9 rfl rfl rfl (run_tmod _ _ _ _ _ (by omega))) (G9 rfl rfl (N9 (X9 (Q9 (Q9 (R9 (M9 rfl rfl (L9 rfl (Pn9 rfl rfl rfl (run_lss _ _ _ _ _ _)) (N9 (X9 ?_)))))))))))))))))))
 refine C9 rfl (fun hc10=>?_) (fun hc10=>?_)
 ·
  have hlt:=of_decide_eq_true hc10
  refine R9 (M9 rfl rfl (M9 rfl rfl (L9 rfl (Pn9 rfl rfl rfl (run_add _ _ _ _ _ (by omega))) (G9 rfl rfl (N9 (X9 (Q9 (R9 (M9 rfl rfl (G9 rfl rfl (N9 (X9 ?_))))))))))))
  refine W_ret ?_
  exact Xq9 [] (Ps:=[]) (res1 Tryz.results15 rfl) rfl (by decide) ⟨int_val (emod_neg hn (of_decide_eq_true hc10)),rfl⟩
 ·
  refine K9 (X9 ?_)
  refine Q9 (R9 (M9 rfl rfl (G9 rfl rfl (N9 (X9 ?_)))))
  refine W_ret ?_
  exact Xq9 [] (Ps:=[]) (res1 Tryz.results15 rfl) rfl (by decide) ⟨int_val (emod_pos hn (of_decide_eq_false hc10)),rfl⟩
open Go.RowKit
set_option maxRecDepth 8000
theorem at0_get {l:List UInt8} {k:Nat} (h:k < l.length):at0 l k=l[k]:=by unfold at0; simp [h]
theorem less_at {a b:List UInt8} {x:Nat} (ha:x < a.length) (hb:x < b.length) (h:a.take x=b.take x) (hne:¬ (((at0 a x).toNat:Int)=((at0 b x).toNat:Int))):ltK a b=decide (((at0 a x).toNat:Int) < ((at0 b x).toNat:Int)):=by
  have ea:a=a.take x++a[x]::a.drop (x + 1):=by rw [← List.drop_eq_getElem_cons,List.take_append_drop]
  have eb:b=a.take x++b[x]::b.drop (x + 1):=by rw [h,← List.drop_eq_getElem_cons,List.take_append_drop]
  rw [at0_get ha,at0_get hb] at *
  have hn:a[x]≠b[x]:=fun e=>hne (by rw [e])
  have hk:ltK a b=decide (a[x] < b[x]):=(congr (congrArg ltK ea) eb).trans (ltK_at _ _ _ _ _ hn)
  rw [hk]
  by_cases hlt:a[x] < b[x]
  · have:=UInt8.lt_iff_toNat_lt.1 hlt
    rw [decide_eq_true hlt,decide_eq_true (by omega)]
  · have:¬ a[x].toNat < b[x].toNat:=fun h2=>hlt (UInt8.lt_iff_toNat_lt.2 h2)
    rw [decide_eq_false hlt,decide_eq_false (by omega)]
theorem take_nextB {a b:List UInt8} {x:Nat} (ha:x < a.length) (hb:x < b.length) (h:a.take x=b.take x) (he:((at0 a x).toNat:Int)=((at0 b x).toNat:Int)):a.take (x + 1)=b.take (x + 1):=by
  rw [List.take_add_one,List.take_add_one,h]
  congr 1
  rw [at0_get ha,at0_get hb] at he
  rw [List.getElem?_eq_getElem ha,List.getElem?_eq_getElem hb]
  have:a[x]=b[x]:=UInt8.toNat_inj.1 (by omega)
  rw [this]
theorem take_nextS {a b:List (List UInt8)} {x:Nat} (ha:x < a.length) (hb:x < b.length) (h:a.take x=b.take x) (he:a.getD x []=b.getD x []):a.take (x + 1)=b.take (x + 1):=by
  rw [List.take_add_one,List.take_add_one,h]
  congr 1
  have:a[x]=b[x]:=by simpa [ha,hb] using he
  rw [List.getElem?_eq_getElem ha,List.getElem?_eq_getElem hb,this]
theorem not_front {a b:List (List UInt8)} {x:Nat} (ha:x < a.length) (hb:x < b.length) (hne:¬ a.getD x []=b.getD x []):a.isPrefixOf b=false:=by
  rw [Bool.eq_false_iff]
  intro h
  obtain ⟨c,rfl⟩:=List.isPrefixOf_iff_prefix.1 h
  exact hne (by simp [List.getElem?_append_left ha])
def refC (v:Value) (id:List UInt8) (met:Bool):List Value:=v::(bs id++[.bool met])
theorem refC_len {v:Value} {id:List UInt8} {met:Bool} (h:id.length=32):(refC v id met).length=34:=by simp [refC,bs_length,h]
theorem refC_one {v:Value} {id:List UInt8} {met:Bool} (h:v.oneCell'=true):∀ u ∈ refC v id met,u.oneCell'=true:=by
  intro u hu
  rcases List.mem_cons.1 hu with rfl | hu
  · exact h
  · rcases List.mem_append.1 hu with hu | hu
    · exact bs_one id u hu
    · simp at hu; subst hu; rfl
theorem refC_met {v:Value} {id:List UInt8} {met:Bool} (h:id.length=32):(refC v id met)[33]?=some (.bool met):=by
  unfold refC
  rw [List.getElem?_cons_succ,List.getElem?_append_right (by rw [bs_length]; omega),bs_length,h]
  rfl
theorem refC_setM {v:Value} {id:List UInt8} {met m':Bool} (h:id.length=32):(refC v id met).set 33 (.bool m')=refC v id m':=by
  unfold refC
  rw [List.set_cons_succ,List.set_append_right _ _ (by rw [bs_length]; omega),bs_length,h]
  rfl
abbrev refParts (g:Nat) (v:Value) (es:List EB) (id:List UInt8) (met:Bool):List HP:=[blk g 50 (refC v id met),rowP 59 35 v es.length (recC bvC (es.map (fun p:EB=>p.1))),datE es]
def refP (g:Nat) (l:List TB) (id:List UInt8) (met:Bool):HP:=fun h=>∃ q:Value × List EB,q.1.oneCell'=true∧q.2.map toTB=l∧starL (refParts g q.1 q.2 id met) h
def putT (d:List UInt8):List TB→List TB × Bool
  | []=>([(sha d,d,0,0)],false)
  | b::r=>if ltK b.1 (sha d)=true then (b::(putT d r).1,(putT d r).2) else if b.1=sha d then (b::r,!decide (b.2.1=d)) else ((sha d,d,0,0)::b::r,false)
theorem putT_app (d:List UInt8):∀ (a r:List TB),(∀ b ∈ a,ltK b.1 (sha d)=true)→putT d (a++r)=(a++(putT d r).1,(putT d r).2)
  | [],r,_=>rfl
  | b::a,r,h=>by
    rw [List.cons_append,putT,if_pos (h b (by simp)),putT_app d a r fun x hx=>h x (by simp [hx])]
    rfl
theorem less_spec (a b:List UInt8) (ha:a.length=32) (hb:b.length=32) (F:HP):CallsS Tryz.prog 146 #[idV a,idV b] F [] (fun r Ps=>r = .bool (ltK a b)∧Ps=[]):=by
 refine callsS_enter Tryz.func146 rfl Tryz.ntmps146 (by simp) (fun E=>?_)
 refine Q9 (R9 (Lc9 rfl rfl (by decide) (OpT_box (r:=101) rfl rfl rfl (fun g101=>(Lc9 rfl rfl (by decide) (OpT_box (r:=102) rfl rfl rfl (fun g102=>(G9 rfl rfl (N9 (X9 (Q9 (Q9 (R9 (G9 rfl rfl (N9 (X9 ?_))))))))))))))))
 refine W_block ?_
 refine W_loop (α:=Nat) (fun x=>[(2,.pointer (some ⟨g101,0,none⟩)),(3,.pointer (some ⟨g102,0,none⟩)),(5,.int .i64 (x:Int))]) (fun x=>[(0,F),(101,blk g101 29 (bs a)),(102,blk g102 29 (bs b))]) (fun x=>x≤32∧a.take x=b.take x) (fun x=>32 - x) (0) ⟨Nat.zero_le _,by simp⟩ (a9 rfl) (a9 rfl) (fun x hx=>?_)
 obtain ⟨hx,hxe⟩:=hx
 refine Q9 (Q9 (R9 (M9 rfl rfl (L9 rfl (Pn9 rfl rfl rfl (run_lss _ _ _ _ _ _)) (N9 (X9 ?_))))))
 refine C9 rfl (fun hc7=>?_) (fun hc7=>?_)
 ·
  have hlt:x < 32:=by have:=of_decide_eq_true hc7; omega
  refine K9 (X9 ?_)
  refine Q9 ?_
  refine W_block ?_
  refine Q9 ?_
  refine W_draw (N:=7) (by kernel_rfl) rfl [(0,_),(101,_),(102,_)] ⟨rfl,rfl,rfl,trivial⟩ ?_
  refine (T9 0 rfl rfl (Pm9 rfl rfl) (T9 1 rfl rfl (Pu_idxA rfl Tryz.runUnderlying29 Tryz.sizeOf5 rfl rfl (by omega)) (T9 2 rfl rfl (Pb9 (r:=101) rfl Tryz.isAgg5 rfl rfl (show (bs a)[0 + (x:Int).toNat]?=some (bv (at0 a x)) by rw [Nat.zero_add]; exact bs_at1 (k:=x) (by omega))) (T9 3 rfl rfl (Pm9 rfl rfl) (T9 4 rfl rfl (Pu_idxA rfl Tryz.runUnderlying29 Tryz.sizeOf5 rfl rfl (by omega)) (T9 5 rfl rfl (Pb9 (r:=102) rfl Tryz.isAgg5 rfl rfl (show (bs b)[0 + (x:Int).toNat]?=some (bv (at0 b x)) by rw [Nat.zero_add]; exact bs_at1 (k:=x) (by omega))) (T9 6 rfl rfl (Pn9 rfl rfl rfl (run_neq _ _ _ _ _ _)) (Ad9 (by kernel_rfl) (X9 ?_)))))))))
  refine C9 rfl (fun hc16=>?_) (fun hc16=>?_)
  ·
   have hres:=less_at (by omega) (by omega) hxe (by simpa using hc16)
   refine Q9 ?_
   refine W_draw (N:=8) (by kernel_rfl) rfl [(0,_),(101,_),(102,_)] ⟨rfl,rfl,rfl,trivial⟩ ?_
   refine (T9 0 rfl rfl (Pm9 rfl rfl) (T9 1 rfl rfl (Pu_idxA rfl Tryz.runUnderlying29 Tryz.sizeOf5 rfl rfl (by omega)) (T9 2 rfl rfl (Pb9 (r:=101) rfl Tryz.isAgg5 rfl rfl (show (bs a)[0 + (x:Int).toNat]?=some (bv (at0 a x)) by rw [Nat.zero_add]; exact bs_at1 (k:=x) (by omega))) (T9 3 rfl rfl (Pm9 rfl rfl) (T9 4 rfl rfl (Pu_idxA rfl Tryz.runUnderlying29 Tryz.sizeOf5 rfl rfl (by omega)) (T9 5 rfl rfl (Pb9 (r:=102) rfl Tryz.isAgg5 rfl rfl (show (bs b)[0 + (x:Int).toNat]?=some (bv (at0 b x)) by rw [Nat.zero_add]; exact bs_at1 (k:=x) (by omega))) (T9 6 rfl rfl (Pn9 rfl rfl rfl (run_lss _ _ _ _ _ _)) (T9 7 rfl rfl (Pg9 rfl rfl) (Ad9 (by kernel_rfl) (X9 ?_))))))))))
   refine W_ret (X_block_ret (X_then_ret (X_then_ret (X_block_ret (X_then_ret ?_)))))
   exact Xq9 [] (Ps:=[]) (res1 Tryz.results146 rfl) rfl (by decide) ⟨by rw [hres] <;> rfl,rfl⟩
  ·
   have he:((at0 a x).toNat:Int)=((at0 b x).toNat:Int):=by simpa using hc16
   refine K9 (X_block (X9 ?_))
   refine R9 (M9 rfl rfl (L9 rfl (Pn9 rfl rfl rfl (run_add _ _ _ _ _ (by omega))) (G9 rfl rfl (N9 ?_))))
   exact Xr9 (x + 1) ⟨by omega,take_nextB (by omega) (by omega) hxe he⟩ (by omega) (a9 rfl) (a9 rfl)
 ·
  have hge:x=32:=by have:=of_decide_eq_false hc7; omega
  have hres:ltK a b=false:=by rw [show a=b by rw [hge,List.take_of_length_le (by omega),List.take_of_length_le (by omega)] at hxe; exact hxe,ltK_irrefl]
  refine W_exit (X_then_exit (X_then_exit (X_block_exit (X9 ?_))))
  refine Q9 (R9 (G9 rfl rfl (N9 (X9 ?_))))
  refine W_ret ?_
  exact Xq9 [] (Ps:=[]) (res1 Tryz.results146 rfl) rfl (by decide) ⟨by rw [hres] <;> rfl,rfl⟩
theorem front_spec (va vb:Value) (a b:List (List UInt8)) (hal:a.length≤1000000000) (hbl:b.length≤1000000000) (F:HP) (hA:∀ h,F h→rdS va a h) (hB:∀ h,F h→rdS vb b h):CallsS Tryz.prog 45 #[va,vb] F [] (fun r Ps=>r = .bool (a.isPrefixOf b)∧Ps=[]):=by
 refine callsS_enter Tryz.func45 rfl Tryz.ntmps45 (by simp) (fun E=>?_)
 refine Q9 (R9 (G9 rfl rfl (N9 (X9 (Q9 (Q9 (R9 (M9 rfl rfl (L9 rfl (Pl9 (r:=0) rfl Tryz.runUnderlying63 rfl rfl hA) (M9 rfl rfl (L9 rfl (Pl9 (r:=0) rfl Tryz.runUnderlying63 rfl rfl hB) (L9 rfl (Pn9 rfl rfl rfl (run_gtr _ _ _ _ _ _)) (N9 (X9 ?_))))))))))))))
 refine C9 rfl (fun hc10=>?_) (fun hc10=>?_)
 ·
  have hres:a.isPrefixOf b=false:=by rw [Bool.eq_false_iff]; intro h; have:=(List.isPrefixOf_iff_prefix.1 h).length_le; have:=of_decide_eq_true hc10; omega
  refine Q9 (R9 (G9 rfl rfl (N9 (X9 ?_))))
  refine W_ret (X_then_ret ?_)
  exact Xq9 [] (Ps:=[]) (res1 Tryz.results45 rfl) rfl (by decide) ⟨by rw [hres] <;> rfl,rfl⟩
 ·
  have hlen:a.length≤b.length:=by have:=of_decide_eq_false hc10; omega
  refine K9 (X9 ?_)
  refine Q9 (Q9 (R9 (G9 rfl rfl (N9 (X9 ?_)))))
  refine W_block ?_
  refine W_loop (α:=Nat) (fun x=>[(0,va),(1,vb),(5,.int .i64 (x:Int))]) (fun x=>[(0,F)]) (fun x=>x≤a.length∧a.take x=b.take x) (fun x=>a.length - x) (0) ⟨Nat.zero_le _,by simp⟩ (a9 rfl) ⟨rfl,trivial⟩ (fun x hx=>?_)
  obtain ⟨hx,hxe⟩:=hx
  refine Q9 (Q9 (R9 (M9 rfl rfl (M9 rfl rfl (L9 rfl (Pl9 (r:=0) rfl Tryz.runUnderlying63 rfl rfl hA) (L9 rfl (Pn9 rfl rfl rfl (run_lss _ _ _ _ _ _)) (N9 (X9 ?_))))))))
  refine C9 rfl (fun hc14=>?_) (fun hc14=>?_)
  ·
   have hlt:x < a.length:=by have:=of_decide_eq_true hc14; omega
   refine K9 (X9 ?_)
   refine Q9 ?_
   refine W_block ?_
   refine Q9 ?_
   refine W_draw (N:=9) (by kernel_rfl) rfl [(0,_)] ⟨rfl,trivial⟩ ?_
   refine (T9 0 rfl rfl (Pm9 rfl rfl) (T9 1 rfl rfl (Pm9 rfl rfl) (T9 2 rfl rfl (Pu_idxS1 (r:=0) rfl Tryz.runUnderlying63 Tryz.sizeOf9 rfl rfl rfl hA (by omega)) (T9 3 rfl rfl (Py9 (r:=0) rfl Tryz.isAgg9 rfl rfl hA (ss_at (k:=x) hlt)) (T9 4 rfl rfl (Pm9 rfl rfl) (T9 5 rfl rfl (Pm9 rfl rfl) (T9 6 rfl rfl (Pu_idxS1 (r:=0) rfl Tryz.runUnderlying63 Tryz.sizeOf9 rfl rfl rfl hB (by omega)) (T9 7 rfl rfl (Py9 (r:=0) rfl Tryz.isAgg9 rfl rfl hB (ss_at (k:=x) (by omega))) (T9 8 rfl rfl (Pn9 rfl rfl rfl (run_strNe _ _ _ _ _)) (Ad9 (by kernel_rfl) (X9 ?_)))))))))))
   refine C9 rfl (fun hc25=>?_) (fun hc25=>?_)
   ·
    have hne:¬ a.getD x []=b.getD x []:=by simpa using hc25
    have hres:a.isPrefixOf b=false:=not_front (by omega) (by omega) hne
    refine Q9 (R9 (G9 rfl rfl (N9 (X9 ?_))))
    refine W_ret (X_block_ret (X_then_ret (X_then_ret (X_block_ret (X_then_ret ?_)))))
    exact Xq9 [] (Ps:=[]) (res1 Tryz.results45 rfl) rfl (by decide) ⟨by rw [hres] <;> rfl,rfl⟩
   ·
    have he:a.getD x []=b.getD x []:=by simpa using hc25
    refine K9 (X_block (X9 ?_))
    refine R9 (M9 rfl rfl (L9 rfl (Pn9 rfl rfl rfl (run_add _ _ _ _ _ (by omega))) (G9 rfl rfl (N9 ?_))))
    exact Xr9 (x + 1) ⟨by omega,take_nextS (by omega) (by omega) hxe he⟩ (by omega) (a9 rfl) ⟨rfl,trivial⟩
  ·
   have hge:x=a.length:=by have:=of_decide_eq_false hc14; omega
   have hres:a.isPrefixOf b=true:=by rw [List.isPrefixOf_iff_prefix,List.prefix_iff_eq_take]; rw [hge,List.take_length] at hxe; exact hxe
   refine W_exit (X_then_exit (X_then_exit (X_block_exit (X9 ?_))))
   refine Q9 (R9 (G9 rfl rfl (N9 (X9 ?_))))
   refine W_ret ?_
   exact Xq9 [] (Ps:=[]) (res1 Tryz.results45 rfl) rfl (by decide) ⟨by rw [hres] <;> rfl,rfl⟩
open Go.RowKit
set_option maxRecDepth 8000
theorem W_openRef {P:Program} {E:Env} {n:Nat} {K:Slots} {L:Res} {Q:Exit→Act→World→Prop} {c:Code} (r b:Nat) {g:Nat} {l:List TB} {id:List UInt8} {met:Bool} (hr:look L r=some (refP g l id met))
    (k:∀ (v':Value) (es:List EB),v'.oneCell'=true→es.map toTB=l→W P E n c K (En b (refParts g v' es id met)++(r,emp)::L) Q):W P E n c K L Q :=
  W_open (φ:=fun q:Value × List EB=>q.1.oneCell'=true∧q.2.map toTB=l) (Ps:=fun q:Value × List EB=>refParts g q.1 q.2 id met) r b hr (fun h hp=>by obtain ⟨q,h1,h2,h3⟩:=hp; exact ⟨q,⟨h1,h2⟩,h3⟩) (fun q hq=>k q.1 q.2 hq.1 hq.2)
theorem closeRef {g:Nat} {v:Value} {es:List EB} {l:List TB} {id:List UInt8} {met:Bool} (hv:v.oneCell'=true) (hl:es.map toTB=l) {h:Hlt} (hs:starL (refParts g v es id met) h):refP g l id met h:=⟨(v,es),hv,hl,hs⟩
theorem eb_key {es:List EB} {k:Nat} {b:EB} (hb:es[k]?=some b):((recC bvC (es.map (fun p:EB=>p.1))).drop (k * 35 + 0)).take 32=bs b.1.key:=by
  have h:=eb_all hb
  have h2:((recC bvC (es.map (fun p:EB=>p.1))).drop (k * 35)).take 32=(((recC bvC (es.map (fun p:EB=>p.1))).drop (k * 35)).take 35).take 32:=by rw [List.take_take]; rfl
  rw [Nat.add_zero,h2]
  have h3:(((recC bvC (es.map (fun p:EB=>p.1))).drop (k * 35)).take 35)=bvC b.1:=h
  rw [h3]
  exact bk_key b.1.len
theorem eb_get {es:List EB} {k j:Nat} {b:EB} (hb:es[k]?=some b) (hj:j < 35):(recC bvC (es.map (fun p:EB=>p.1)))[k * 35 + j]?=(bvC b.1)[j]?:=by
  obtain ⟨hk,he⟩:=List.getElem?_eq_some_iff.1 hb
  have:=recC_at (d:=default) (bvs_len (es.map (fun p:EB=>p.1))) (show k < (es.map (fun p:EB=>p.1)).length by rw [List.length_map]; exact hk) hj
  rw [this]
  congr 2
  simp [hk,he]
theorem eb_data {es:List EB} {k:Nat} {b:EB} (hb:es[k]?=some b):(recC bvC (es.map (fun p:EB=>p.1)))[k * 35 + 32]?=some b.1.sl:=(eb_get hb (by decide)).trans (bk_data b.1.len)
theorem ebC_len (es:List EB):(recC bvC (es.map (fun p:EB=>p.1))).length=es.length * 35:=by
  rw [recC_length (bvs_len _),List.length_map]
theorem eb_front {v:Value} {es:List EB} {k:Nat} (hk:k≤es.length) {h:Hlt} (hr:rdP 35 v es.length (recC bvC (es.map (fun p:EB=>p.1))) h):rdP 35 (subV 35 v 0 k) k (recC bvC ((es.take k).map (fun p:EB=>p.1))) h:=by
  have h1:=rdP_sub hr (a:=0) (b:=k) (Nat.zero_le _) hk
  refine rdP_cast h1 ?_ (by omega)
  rw [Nat.zero_mul,List.drop_zero,Nat.sub_zero]
  have e:es=es.take k++es.drop k:=(List.take_append_drop k es).symm
  have e2:recC bvC (es.map (fun p:EB=>p.1))=recC bvC ((es.take k).map (fun p:EB=>p.1))++recC bvC ((es.drop k).map (fun p:EB=>p.1)):=by rw [← recC_append,← List.map_append,List.take_append_drop]
  rw [e2,List.take_append_of_le_length (by rw [ebC_len,List.length_take]; rw [Nat.min_eq_left hk]; exact Nat.le_refl _),List.take_of_length_le (by rw [ebC_len,List.length_take,Nat.min_eq_left hk]; exact Nat.le_refl _)]
theorem eb_rest {v:Value} {es:List EB} {k:Nat} (hk:k≤es.length) {h:Hlt} (hr:rdP 35 v es.length (recC bvC (es.map (fun p:EB=>p.1))) h):rdP 35 (subV 35 v k es.length) (es.drop k).length (recC bvC ((es.drop k).map (fun p:EB=>p.1))) h:=by
  have h1:=rdP_sub hr (a:=k) (b:=es.length) hk (Nat.le_refl _)
  refine rdP_cast h1 ?_ (by rw [List.length_drop])
  have e2:recC bvC (es.map (fun p:EB=>p.1))=recC bvC ((es.take k).map (fun p:EB=>p.1))++recC bvC ((es.drop k).map (fun p:EB=>p.1)):=by rw [← recC_append,← List.map_append,List.take_append_drop]
  have hl:(recC bvC ((es.take k).map (fun p:EB=>p.1))).length=k * 35:=by rw [ebC_len,List.length_take,Nat.min_eq_left hk]
  rw [e2,List.drop_append_of_le_length (by rw [hl]; exact Nat.le_refl _),List.drop_of_length_le (by rw [hl]; exact Nat.le_refl _),List.nil_append]
  exact List.take_of_length_le (by rw [ebC_len,List.length_drop]; exact Nat.le_refl _)
theorem take_snoc2 {es:List EB} {k:Nat} {b:EB} (hb:es[k]?=some b):es.take (k + 1)=es.take k++[b]:=by rw [List.take_add_one,hb]; rfl
theorem datE_put {es:List EB} {k:Nat} {b:EB} {t:TypeId} {h:Hlt} (hs:starL [datE es,rowB t b.1.sl b.2] h):datE (es.take k++[b]++es.drop k) h:=fun p hp=>by
  have hp:p=b∨p ∈ es:=by
    rcases List.mem_append.1 hp with hp | hp
    · rcases List.mem_append.1 hp with hp | hp
      · exact .inr (List.mem_of_mem_take hp)
      · exact .inl (List.mem_singleton.1 hp)
    · exact .inr (List.mem_of_mem_drop hp)
  rcases hp with rfl | hp
  · exact starL_le hs (φ:=rdB p.1.sl p.2) 1 rfl fun h' h1 h2=>rdP_le h2 (rp9 h1)
  · exact starL_le hs (φ:=rdB p.1.sl p.2) 0 rfl fun h' h1 h2=>rdP_le h2 (h1 p hp)
theorem put_at {es:List EB} {k:Nat} {d:List UInt8} (hlt:∀ b ∈ es.take k,ltK b.1.key (sha d)=true):putT d (es.map toTB)=((es.take k).map toTB++(putT d ((es.drop k).map toTB)).1,(putT d ((es.drop k).map toTB)).2):=by
  have e:es.map toTB=(es.take k).map toTB++(es.drop k).map toTB:=by rw [← List.map_append,List.take_append_drop]
  rw [e,putT_app]
  intro b hb
  obtain ⟨x,hx,rfl⟩:=List.mem_map.1 hb
  exact hlt x hx
theorem drop_consE {es:List EB} {k:Nat} {b:EB} (hb:es[k]?=some b):es.drop k=b::es.drop (k + 1):=by
  obtain ⟨hk,he⟩:=List.getElem?_eq_some_iff.1 hb
  rw [List.drop_eq_getElem_cons hk,he]
theorem put_same {es:List EB} {k:Nat} {b:EB} {d:List UInt8} (hlt:∀ b ∈ es.take k,ltK b.1.key (sha d)=true) (hb:es[k]?=some b) (hn:ltK b.1.key (sha d)=false) (he:(b.1.key == sha d)=true):putT d (es.map toTB)=(es.map toTB,!(b.2 == d)):=by
  have he:b.1.key=sha d:=by simpa using he
  rw [put_at hlt,drop_consE hb,List.map_cons,putT,if_neg (by rw [show (toTB b).1=b.1.key from rfl,hn]; simp),if_pos (show (toTB b).1=sha d from he)]
  have e:es.map toTB=(es.take k).map toTB++(toTB b::(es.drop (k + 1)).map toTB):=by rw [← List.map_cons,← drop_consE hb,← List.map_append,List.take_append_drop]
  rw [← e]
  show (_,!decide (b.2=d))=_
  rw [beq_dec]
theorem put_new2 {es:List EB} {k:Nat} {v:Value} {d:List UInt8} (hlt:∀ b ∈ es.take k,ltK b.1.key (sha d)=true) (hn:∀ b,es[k]?=some b→ltK b.1.key (sha d)=false∧(b.1.key == sha d)=false) (hv:v.oneCell'=true):putT d (es.map toTB)=((es.take k++[lbV (sha d,v,d)]++es.drop k).map toTB,false):=by
  have hok:LOk (sha d,v,d):=⟨sha_length d,hv⟩
  rw [put_at hlt,List.map_append,List.map_append,List.map_cons,List.map_nil,lbV_tb hok,List.append_assoc]
  cases hb:es[k]? with
  | none =>
    have:es.drop k=[]:=List.drop_of_length_le (by simpa using hb)
    rw [this]
    rfl
  | some b =>
    obtain ⟨h1,h2⟩:=hn b hb
    rw [drop_consE hb,List.map_cons,putT,if_neg (by rw [show (toTB b).1=b.1.key from rfl,h1]; simp),if_neg (by intro h3; rw [show b.1.key=sha d from h3] at h2; simp at h2)]
    rfl
theorem row_nm {e:TypeId} {S:Nat} {v:Value} {n m:Nat} {xs ys:List Value} {h:Hlt} (hp:rowP e S v n xs h) (hn:n=m) (hx:xs=ys):rowP e S v m ys h:=by subst hn; subst hx; exact hp
theorem row_eb {v:Value} {xs:List EB} {b:EB} {n:Nat} {ys:List Value} {h:Hlt} (hp:rowP 59 35 v (n + 1) (ys++[bvC b.1].flatten) h) (hn:n=xs.length) (hy:ys=recC bvC (xs.map (fun p:EB=>p.1))):rowP 59 35 v (xs++[b]).length (recC bvC ((xs++[b]).map (fun p:EB=>p.1))) h:=by
  subst hn; subst hy
  rw [List.length_append,List.map_append,recC_append,List.map_cons,List.map_nil,recC_one]
  simpa using hp
theorem refPut_spec (g:Nat) (l:List TB) (id:List UInt8) (hid:id.length=32) (met:Bool) (v:Value) (d:List UInt8) (hd:d.length≤1000000) (hl:l.length≤1500000000000) (F:HP):CallsS Tryz.prog 111 #[.pointer (some ⟨g,0,none⟩),v] F [refP g l id met,rowB 5 v d] (fun r Ps=>r=idV (sha d)∧Ps=[refP g (putT d l).1 id (met || (putT d l).2)]):=by
 refine callsS_enter Tryz.func111 rfl Tryz.ntmps111 (by simp) (fun E=>?_)
 refine Q9 (R9 (Lc9 rfl rfl (by decide) (OpT_alloc (r:=101) (cs:=(bs zeroId)) rfl (zero_run (by kernel_rfl:(Tryz.prog.info? 29).bind (·.zero)=some (.agg (bs zeroId).toArray))) rfl (fun g101=>(N9 (X9 (Q9 (R9 (M9 rfl rfl (Lc9 rfl rfl (by decide) (Oc9 200 [0,1,2,101] [] rfl Tryz.call26 rfl rfl rfl (by decide) (by decide) (refSum_spec v d (by omega) _ (rs9 2 rfl rowB_rd)) (fun v9 Ps9 hR9=>?_))))))))))))
 obtain ⟨rfl,rfl⟩:=hR9
 refine (Lc9 rfl rfl (by decide) (OpT_alloc (r:=201) (cs:=(bs zeroId)) rfl (zero_run (by kernel_rfl:(Tryz.prog.info? 29).bind (·.zero)=some (.agg (bs zeroId).toArray))) rfl (fun g201=>(Lc09 rfl rfl (OpT_storeAll (r:=201) rfl Tryz.sizeOf29 rfl rfl rfl rfl ((bs_length _).trans (sha_length d)) (bs_one _) ?_)))))
 refine (N9 (X9 ?_))
 refine Q9 ?_
 refine W_openRef 1 600 rfl (fun v0 es hv0 hes=>?_)
 subst hes
 rw [List.length_map] at hl
 refine W_fact (r:=2) rfl (fun h hp=>rd_one (rowB_rd h hp)) (fun (hvo:v.oneCell'=true)=>?_)
 refine R9 (G9 rfl rfl (N9 (X9 (Q9 ?_))))
 refine W_block ?_
 refine W_loop (α:=Nat) (fun x=>[(0,.pointer (some ⟨g,0,none⟩)),(1,v),(4,.pointer (some ⟨g101,0,none⟩)),(5,.pointer (some ⟨g201,0,none⟩)),(6,.int .i64 (x:Int))]) (fun x=>[(0,F),(2,rowB 5 v d),(101,blk g101 29 (bs zeroId)),(201,blk g201 29 (bs (sha d))),(600,blk g 50 (refC v0 id met)),(601,rowP 59 35 v0 es.length (recC bvC (es.map (fun p:EB=>p.1)))),(602,datE es)]) (fun x=>x≤es.length∧∀ b ∈ es.take x,ltK b.1.key (sha d)=true) (fun x=>es.length - x) (0) ⟨Nat.zero_le _,fun b hb=>by simp at hb⟩ (a9 rfl) (a9 rfl) (fun x hx=>?_)
 obtain ⟨hx,hxl⟩:=hx
 refine Q9 (Q9 ?_)
 rcases Bool.eq_false_or_eq_true (decide ((x:Int) < (es.length:Int))) with hsp3 | hsp3
 ·
  have hlt:x < es.length:=by have:=of_decide_eq_true hsp3; omega
  obtain ⟨b,hb⟩:∃ b,es[x]?=some b:=⟨_,List.getElem?_eq_getElem hlt⟩
  have hbm:=List.mem_of_getElem? hb
  refine W_draw (N:=19) (by kernel_rfl) rfl [(0,_),(101,_),(201,_),(600,_),(601,_)] ⟨rfl,rfl,rfl,rfl,rfl,trivial⟩ ?_
  refine (T9 0 rfl rfl (Pm9 rfl rfl) (T9 1 rfl rfl (Pm9 rfl rfl) (T9 2 rfl rfl (Pu_nilCheck rfl rfl) (T9 3 rfl rfl (F9 0 rfl rfl) (T9 4 rfl rfl (Pb9 (r:=600) rfl Tryz.isAgg27 rfl rfl rfl) (T9 5 rfl rfl (Pl9 (r:=601) rfl Tryz.runUnderlying27 rfl rfl (fun _ h=>rp9 h)) (T9 6 rfl rfl (Pn9 rfl rfl rfl (run_lss _ _ _ _ _ _)) (T9 7 rfl rfl (Pm9 rfl rfl) (AH_takeT 8 rfl (by kernel_rfl) (by kernel_rfl) (by kernel_rfl) rfl rfl rfl (by rw [hsp3]; rfl) rfl (by decide) (Pm9 rfl rfl) (AH_takeT 9 rfl (by kernel_rfl) (by kernel_rfl) (by kernel_rfl) rfl rfl rfl (by rw [hsp3]; rfl) rfl (by decide) (Pu_nilCheck rfl rfl) (AH_takeT 10 rfl (by kernel_rfl) (by kernel_rfl) (by kernel_rfl) rfl rfl rfl (by rw [hsp3]; rfl) rfl (by decide) (F9 0 rfl rfl) (AH_takeT 11 rfl (by kernel_rfl) (by kernel_rfl) (by kernel_rfl) rfl rfl rfl (by rw [hsp3]; rfl) rfl (by decide) (Pb9 (r:=600) rfl Tryz.isAgg27 rfl rfl rfl) (AH_takeT 12 rfl (by kernel_rfl) (by kernel_rfl) (by kernel_rfl) rfl rfl rfl (by rw [hsp3]; rfl) rfl (by decide) (Pm9 rfl rfl) (AH_takeT 13 rfl (by kernel_rfl) (by kernel_rfl) (by kernel_rfl) rfl rfl rfl (by rw [hsp3]; rfl) rfl (by decide) (Pi9 (r:=601) rfl Tryz.runUnderlying27 Tryz.sizeOf59 rfl rfl rfl (fun _ h=>rp9 h) (by omega)) (AH_takeT 14 rfl (by kernel_rfl) (by kernel_rfl) (by kernel_rfl) rfl rfl rfl (by rw [hsp3]; rfl) rfl (by decide) (Pu_fieldAddrE (off:=0) rfl rfl (by kernel_rfl)) (AH_takeT 15 rfl (by kernel_rfl) (by kernel_rfl) (by kernel_rfl) rfl rfl rfl (by rw [hsp3]; rfl) rfl (by decide) (Pz9 (r:=601) rfl Tryz.isAgg29 Tryz.sizeOf29 rfl rfl (fun _ h=>rp9 h) ((bs_length _).trans b.1.len) (by decide) (eb_key hb)) (AH_takeT 16 rfl (by kernel_rfl) (by kernel_rfl) (by kernel_rfl) rfl rfl rfl (by rw [hsp3]; rfl) rfl (by decide) (Px9 (r:=201) rfl Tryz.isAgg29 Tryz.sizeOf29 rfl rfl ((bs_length _).trans (sha_length d)) (load_all ((bs_length _).trans (sha_length d)))) (Y9 [17] ?_))))))))))))))))))
  refine AHs_gT rfl rfl rfl rfl (by rw [hsp3]; rfl) rfl (by decide) (Oc9 700 [0,2,101,201,600,601,602] [] rfl Tryz.call146 rfl rfl rfl (by decide) (by decide) (less_spec b.1.key (sha d) b.1.len (sha_length d) _) (fun v27 Ps27 hR27=>?_)) ?_
  ·
   obtain ⟨rfl,rfl⟩:=hR27
   refine ⟨⟨rfl,rfl,rfl,rfl,rfl,trivial⟩,?_⟩
   refine (T9 18 rfl rfl (Pu_pickT rfl rfl hsp3 rfl) (Ad9 (by kernel_rfl) (X9 ?_)))
   refine C9 rfl (fun hc28=>?_) (fun hc28=>?_)
   ·
    refine K9 (X9 ?_)
    refine W_block ?_
    refine R9 (M9 rfl rfl (L9 rfl (Pn9 rfl rfl rfl (run_add _ _ _ _ _ (by omega))) (G9 rfl rfl (N9 (X_block ?_)))))
    exact Xr9 (x + 1) ⟨by omega,fun q hq=>by rw [take_snoc2 hb] at hq; exact (List.mem_append.1 hq).elim (hxl q) (fun h=>by rw [List.mem_singleton.1 h]; exact hc28)⟩ (by omega) (a9 rfl) (a9 rfl)
   ·
    refine W_exit (X_then_exit (X_then_exit (X_block_exit (X9 ?_))))
    refine Q9 (Q9 ?_)
    refine W_draw (N:=19) (by kernel_rfl) rfl [(0,_),(101,_),(201,_),(600,_),(601,_)] ⟨rfl,rfl,rfl,rfl,rfl,trivial⟩ ?_
    refine (T9 0 rfl rfl (Pm9 rfl rfl) (T9 1 rfl rfl (Pm9 rfl rfl) (T9 2 rfl rfl (Pu_nilCheck rfl rfl) (T9 3 rfl rfl (F9 0 rfl rfl) (T9 4 rfl rfl (Pb9 (r:=600) rfl Tryz.isAgg27 rfl rfl rfl) (T9 5 rfl rfl (Pl9 (r:=601) rfl Tryz.runUnderlying27 rfl rfl (fun _ h=>rp9 h)) (T9 6 rfl rfl (Pn9 rfl rfl rfl (run_lss _ _ _ _ _ _)) (T9 7 rfl rfl (Pm9 rfl rfl) (AH_takeT 8 rfl (by kernel_rfl) (by kernel_rfl) (by kernel_rfl) rfl rfl rfl (by rw [hsp3]; rfl) rfl (by decide) (Pm9 rfl rfl) (AH_takeT 9 rfl (by kernel_rfl) (by kernel_rfl) (by kernel_rfl) rfl rfl rfl (by rw [hsp3]; rfl) rfl (by decide) (Pu_nilCheck rfl rfl) (AH_takeT 10 rfl (by kernel_rfl) (by kernel_rfl) (by kernel_rfl) rfl rfl rfl (by rw [hsp3]; rfl) rfl (by decide) (F9 0 rfl rfl) (AH_takeT 11 rfl (by kernel_rfl) (by kernel_rfl) (by kernel_rfl) rfl rfl rfl (by rw [hsp3]; rfl) rfl (by decide) (Pb9 (r:=600) rfl Tryz.isAgg27 rfl rfl rfl) (AH_takeT 12 rfl (by kernel_rfl) (by kernel_rfl) (by kernel_rfl) rfl rfl rfl (by rw [hsp3]; rfl) rfl (by decide) (Pm9 rfl rfl) (AH_takeT 13 rfl (by kernel_rfl) (by kernel_rfl) (by kernel_rfl) rfl rfl rfl (by rw [hsp3]; rfl) rfl (by decide) (Pi9 (r:=601) rfl Tryz.runUnderlying27 Tryz.sizeOf59 rfl rfl rfl (fun _ h=>rp9 h) (by omega)) (AH_takeT 14 rfl (by kernel_rfl) (by kernel_rfl) (by kernel_rfl) rfl rfl rfl (by rw [hsp3]; rfl) rfl (by decide) (Pu_fieldAddrE (off:=0) rfl rfl (by kernel_rfl)) (AH_takeT 15 rfl (by kernel_rfl) (by kernel_rfl) (by kernel_rfl) rfl rfl rfl (by rw [hsp3]; rfl) rfl (by decide) (Pz9 (r:=601) rfl Tryz.isAgg29 Tryz.sizeOf29 rfl rfl (fun _ h=>rp9 h) ((bs_length _).trans b.1.len) (by decide) (eb_key hb)) (AH_takeT 16 rfl (by kernel_rfl) (by kernel_rfl) (by kernel_rfl) rfl rfl rfl (by rw [hsp3]; rfl) rfl (by decide) (Px9 (r:=201) rfl Tryz.isAgg29 Tryz.sizeOf29 rfl rfl ((bs_length _).trans (sha_length d)) (load_all ((bs_length _).trans (sha_length d)))) (AH_takeT 17 rfl (by kernel_rfl) (by kernel_rfl) (by kernel_rfl) rfl rfl rfl (by rw [hsp3]; rfl) rfl (by decide) (Pn9 rfl rfl rfl (run_idEq b.1.key (sha d) b.1.len (sha_length d) _ _)) (T9 18 rfl rfl (Pu_pickT rfl rfl hsp3 rfl) (Ad9 (by kernel_rfl) (X9 ?_)))))))))))))))))))))
    refine C9 rfl (fun hc49=>?_) (fun hc49=>?_)
    ·
     refine Q9 ?_
     rcases Bool.eq_false_or_eq_true (met) with hsp6 | hsp6
     ·
      refine W_draw (N:=22) (by kernel_rfl) rfl [(0,_),(101,_),(201,_),(601,_),(602,_),(2,_)] ⟨rfl,rfl,rfl,rfl,rfl,rfl,trivial⟩ ?_
      refine (T9 0 rfl rfl (Pm9 rfl rfl) (T9 1 rfl rfl (Pm9 rfl rfl) (T9 2 rfl rfl (Pu_nilCheck rfl rfl) (T9 3 rfl rfl (F9 33 rfl rfl) (Y9 [4] ?_)))))
      refine Z9 rfl rfl (Or9 (Pb9 (r:=600) rfl Tryz.isAgg4 rfl rfl (refC_met hid)) ⟨⟨rfl,rfl,rfl,rfl,rfl,rfl,trivial⟩,?_⟩) ?_
      ·
       refine (T9 5 rfl rfl (Pm9 rfl rfl) (AH_takeF 6 rfl (by kernel_rfl) (by kernel_rfl) (by kernel_rfl) rfl rfl rfl (by rw [hsp6]; rfl) rfl (by decide) (AH_takeF 7 rfl (by kernel_rfl) (by kernel_rfl) (by kernel_rfl) rfl rfl rfl (by rw [hsp6]; rfl) rfl (by decide) (AH_takeF 8 rfl (by kernel_rfl) (by kernel_rfl) (by kernel_rfl) rfl rfl rfl (by rw [hsp6]; rfl) rfl (by decide) (AH_takeF 10 rfl (by kernel_rfl) (by kernel_rfl) (by kernel_rfl) rfl rfl rfl (by rw [hsp6]; rfl) rfl (by decide) (AH_takeF 15 rfl (by kernel_rfl) (by kernel_rfl) (by kernel_rfl) rfl rfl rfl (by rw [hsp6]; rfl) rfl (by decide) (AH_takeF 16 rfl (by kernel_rfl) (by kernel_rfl) (by kernel_rfl) rfl rfl rfl (by rw [hsp6]; rfl) rfl (by decide) (Y9 [9] ?_))))))))
       refine AHs_gF rfl rfl rfl rfl (by rw [hsp6]; rfl) rfl (by decide) ?_ ?_
       ·
        refine (AH_takeF 11 rfl (by kernel_rfl) (by kernel_rfl) (by kernel_rfl) rfl rfl rfl (by rw [hsp6]; rfl) rfl (by decide) (AH_takeF 12 rfl (by kernel_rfl) (by kernel_rfl) (by kernel_rfl) rfl rfl rfl (by rw [hsp6]; rfl) rfl (by decide) (AH_takeF 13 rfl (by kernel_rfl) (by kernel_rfl) (by kernel_rfl) rfl rfl rfl (by rw [hsp6]; rfl) rfl (by decide) (AH_takeF 14 rfl (by kernel_rfl) (by kernel_rfl) (by kernel_rfl) rfl rfl rfl (by rw [hsp6]; rfl) rfl (by decide) (AH_takeF 17 rfl (by kernel_rfl) (by kernel_rfl) (by kernel_rfl) rfl rfl rfl (by rw [hsp6]; rfl) rfl (by decide) (T9 18 rfl rfl (Pu_pickT rfl rfl hsp6 rfl) (T9 19 rfl rfl (Pu_nilCheck rfl rfl) (T9 20 rfl rfl (F9 33 rfl rfl) (Y9 [21] ?_)))))))))
        refine Ac09 rfl rfl rfl (OpT_storeB1 (r:=600) rfl Tryz.sizeOf4 rfl rfl rfl rfl (by rw [refC_len hid]; decide) (refC_setM hid) ?_) ?_
        ·
         refine ⟨⟨rfl,rfl,rfl,rfl,rfl,rfl,trivial⟩,?_⟩
         refine (Ad9 (by kernel_rfl) (X9 ?_))
         refine Q9 (R9 (L9 rfl (Px9 (r:=201) rfl Tryz.isAgg29 Tryz.sizeOf29 rfl rfl ((bs_length _).trans (sha_length d)) (load_all ((bs_length _).trans (sha_length d)))) (Lc09 rfl rfl (OpT_storeAll (r:=101) rfl Tryz.sizeOf29 rfl rfl rfl ((bs_length _).trans zeroId_length) ((bs_length _).trans (sha_length d)) (bs_one _) ?_))))
         refine (N9 (X9 ?_))
         refine W_ret (X_then_ret ?_)
         have hsm:=put_same hxl hb hc28 hc49
         refine X_join [600,601,602] 1 (refP g (putT d (es.map toTB)).1 id (met || (putT d (es.map toTB)).2)) rfl (by decide) (fun h hs=>by rw [hsm,hsp6]; exact closeRef hv0 rfl hs) ?_
         exact Xq9 [1] (Ps:=[_]) (resC1 (r:=101) Tryz.results111 rfl Tryz.isAgg29 Tryz.sizeOf29 rfl ((bs_length _).trans (sha_length d))) rfl (by decide) ⟨rfl,rfl⟩
        exact An9
       exact An9
      exact An9
     ·
      refine W_draw (N:=22) (by kernel_rfl) rfl [(0,_),(101,_),(201,_),(601,_),(602,_),(2,_)] ⟨rfl,rfl,rfl,rfl,rfl,rfl,trivial⟩ ?_
      refine (T9 0 rfl rfl (Pm9 rfl rfl) (T9 1 rfl rfl (Pm9 rfl rfl) (T9 2 rfl rfl (Pu_nilCheck rfl rfl) (T9 3 rfl rfl (F9 33 rfl rfl) (Y9 [4] ?_)))))
      refine Z9 rfl rfl (Or9 (Pb9 (r:=600) rfl Tryz.isAgg4 rfl rfl (refC_met hid)) ⟨⟨rfl,rfl,rfl,rfl,rfl,rfl,trivial⟩,?_⟩) ?_
      ·
       refine (T9 5 rfl rfl (Pm9 rfl rfl) (AH_takeT 6 rfl (by kernel_rfl) (by kernel_rfl) (by kernel_rfl) rfl rfl rfl (by rw [hsp6]; rfl) rfl (by decide) (Pm9 rfl rfl) (AH_takeT 7 rfl (by kernel_rfl) (by kernel_rfl) (by kernel_rfl) rfl rfl rfl (by rw [hsp6]; rfl) rfl (by decide) (Pu_nilCheck rfl rfl) (AH_takeT 8 rfl (by kernel_rfl) (by kernel_rfl) (by kernel_rfl) rfl rfl rfl (by rw [hsp6]; rfl) rfl (by decide) (F9 0 rfl rfl) (AH_takeT 10 rfl (by kernel_rfl) (by kernel_rfl) (by kernel_rfl) rfl rfl rfl (by rw [hsp6]; rfl) rfl (by decide) (Pm9 rfl rfl) (AH_takeT 15 rfl (by kernel_rfl) (by kernel_rfl) (by kernel_rfl) rfl rfl rfl (by rw [hsp6]; rfl) rfl (by decide) (Pm9 rfl rfl) (AH_takeT 16 rfl (by kernel_rfl) (by kernel_rfl) (by kernel_rfl) rfl rfl rfl (by rw [hsp6]; rfl) rfl (by decide) (Pu_convBS (r:=2) rfl Tryz.underlying36 Tryz.underlying5 Tryz.underlying9 rfl rfl rowB_rd) (Y9 [9] ?_))))))))
       refine AHs_gT rfl rfl rfl rfl (by rw [hsp6]; rfl) rfl (by decide) (Or9 (Pb9 (r:=600) rfl Tryz.isAgg27 rfl rfl rfl) ⟨⟨rfl,rfl,rfl,rfl,rfl,rfl,trivial⟩,?_⟩) ?_
       ·
        refine (AH_takeT 11 rfl (by kernel_rfl) (by kernel_rfl) (by kernel_rfl) rfl rfl rfl (by rw [hsp6]; rfl) rfl (by decide) (Pi9 (r:=601) rfl Tryz.runUnderlying27 Tryz.sizeOf59 rfl rfl rfl (fun _ h=>rp9 h) (by omega)) (AH_takeT 12 rfl (by kernel_rfl) (by kernel_rfl) (by kernel_rfl) rfl rfl rfl (by rw [hsp6]; rfl) rfl (by decide) (Pu_fieldAddrE (off:=32) rfl rfl (by kernel_rfl)) (AH_takeT 13 rfl (by kernel_rfl) (by kernel_rfl) (by kernel_rfl) rfl rfl rfl (by rw [hsp6]; rfl) rfl (by decide) (Py9 (r:=601) rfl Tryz.isAgg36 rfl rfl (fun _ h=>rp9 h) (eb_data hb)) (AH_takeT 14 rfl (by kernel_rfl) (by kernel_rfl) (by kernel_rfl) rfl rfl rfl (by rw [hsp6]; rfl) rfl (by decide) (Pu_convBS (r:=602) rfl Tryz.underlying36 Tryz.underlying5 Tryz.underlying9 rfl rfl (fun h hp=>hp b hbm)) (AH_takeT 17 rfl (by kernel_rfl) (by kernel_rfl) (by kernel_rfl) rfl rfl rfl (by rw [hsp6]; rfl) rfl (by decide) (Pn9 rfl rfl rfl (run_strNe _ _ _ _ _)) (T9 18 rfl rfl (Pu_pickF rfl rfl hsp6 rfl) (T9 19 rfl rfl (Pu_nilCheck rfl rfl) (T9 20 rfl rfl (F9 33 rfl rfl) (Y9 [21] ?_)))))))))
        refine Ac09 rfl rfl rfl (OpT_storeB1 (r:=600) rfl Tryz.sizeOf4 rfl rfl rfl rfl (by rw [refC_len hid]; decide) (refC_setM hid) ?_) ?_
        ·
         refine ⟨⟨rfl,rfl,rfl,rfl,rfl,rfl,trivial⟩,?_⟩
         refine (Ad9 (by kernel_rfl) (X9 ?_))
         refine Q9 (R9 (L9 rfl (Px9 (r:=201) rfl Tryz.isAgg29 Tryz.sizeOf29 rfl rfl ((bs_length _).trans (sha_length d)) (load_all ((bs_length _).trans (sha_length d)))) (Lc09 rfl rfl (OpT_storeAll (r:=101) rfl Tryz.sizeOf29 rfl rfl rfl ((bs_length _).trans zeroId_length) ((bs_length _).trans (sha_length d)) (bs_one _) ?_))))
         refine (N9 (X9 ?_))
         refine W_ret (X_then_ret ?_)
         have hsm:=put_same hxl hb hc28 hc49
         refine X_join [600,601,602] 1 (refP g (putT d (es.map toTB)).1 id (met || (putT d (es.map toTB)).2)) rfl (by decide) (fun h hs=>by rw [hsm,hsp6]; exact closeRef hv0 rfl hs) ?_
         exact Xq9 [1] (Ps:=[_]) (resC1 (r:=101) Tryz.results111 rfl Tryz.isAgg29 Tryz.sizeOf29 rfl ((bs_length _).trans (sha_length d))) rfl (by decide) ⟨rfl,rfl⟩
        exact An9
       exact An9
      exact An9
    ·
     have hnn:∀ q,es[x]?=some q→ltK q.1.key (sha d)=false∧(q.1.key == sha d)=false:=fun q hq=>by rw [hb] at hq; injection hq with hq; subst hq; exact ⟨hc28,hc49⟩
     refine K9 (X9 ?_)
     refine Q9 ?_
     have hnew:=put_new2 hxl hnn hvo
     have hok:LOk (sha d,v,d):=⟨sha_length d,hvo⟩
     refine W_nilRow 3 59 35 ?_
     refine R9 (G9 rfl rfl (N9 (X9 (Q9 (R9 (M9 rfl rfl (M9 rfl rfl (L9 rfl (Pu_nilCheck rfl rfl) (L9 rfl (F9 0 rfl rfl) (L9 rfl (Pb9 (r:=600) rfl Tryz.isAgg27 rfl rfl rfl) (M9 rfl rfl (L9 rfl (Pu_slice (r:=601) (b:=x) rfl Tryz.runUnderlying27 Tryz.sizeOf59 rfl rfl (fun _ h=>rp9 h) (.inl ⟨rfl,rfl⟩) (.inr ⟨_,_,_,rfl,rfl,rfl⟩) (Nat.zero_le _) hx) (Lc9 rfl rfl (by decide) (Oa9 (r:=3) (r2:=601) rfl Tryz.underlying27 TI.hi59 TI.hz59 TI.hs59 TI.hby59 TI.hzs59 (by decide) rfl rfl rfl rfl (fun _ h=>eb_front hx (rp9 h)) (recC_ones bvC_one) (by unfold maxLen; omega) (by omega) (fun v79=>?_)))))))))))))))
     refine Lt9 (P':=rowP 59 35 v79 (es.take x).length (recC bvC ((es.take x).map (fun p:EB=>p.1)))) (r:=3) rfl (fun h hp=>row_nm hp (by rw [List.length_take]; omega) (List.nil_append _)) ?_
     refine (G9 rfl rfl (N9 (X9 ?_)))
     refine Q9 (R9 (M9 rfl rfl (L9 rfl (Px9 (r:=201) rfl Tryz.isAgg29 Tryz.sizeOf29 rfl rfl ((bs_length _).trans (sha_length d)) (load_all ((bs_length _).trans (sha_length d)))) (M9 rfl rfl (L9 rfl (Pu_build (V:=.agg (bvC (lbV (sha d,v,d)).1).toArray) [(0,32),(32,1),(33,1),(34,1)] (bkC zeroId (.slice none 0 0) 0 0) rfl rfl (by kernel_rfl) (by kernel_rfl) (.many rfl ((bs_length _).trans (sha_length d)) (by rw [bkC_length zeroId_length]; decide) rfl (.one rfl hvo (by rw [over_length,bkC_length zeroId_length] <;> first | decide | (rw [bs_length,sha_length,bkC_length zeroId_length]; decide)) rfl (.nil _))) (congrArg (fun q:List Value=>Value.agg q.toArray) ((bk_build (sha_length d)).trans (lbV_c hok).symm))) (Lc9 rfl rfl (by decide) (OpT_buildRows (r:=701) [bvC (lbV (sha d,v,d)).1] rfl rfl Tryz.runUnderlying27 Tryz.sizeOf59 Tryz.zeroValue59 rfl (by decide) rfl (by decide) (by intro r hr; simp at hr; rw [hr]; exact bvC_length _) rfl (fun v84=>(Lc9 rfl rfl (by decide) (Oa9 (r:=3) (r2:=701) rfl Tryz.underlying27 TI.hi59 TI.hz59 TI.hs59 TI.hby59 TI.hzs59 (by decide) rfl rfl rfl rfl (fun _ h=>rp9 h) (by intro u hu; simp at hu; exact bvC_one _ u hu) (by unfold maxLen; rw [List.length_take]; omega) (by rw [List.length_take]; omega) (fun v85=>?_)))))))))))
     refine Lt9 (P':=rowP 59 35 v85 (es.take x++[lbV (sha d,v,d)]).length (recC bvC ((es.take x++[lbV (sha d,v,d)]).map (fun p:EB=>p.1)))) (r:=3) rfl (fun h hp=>row_eb hp rfl rfl) ?_
     refine (G9 rfl rfl (N9 (X9 ?_)))
     refine Q9 (R9 (M9 rfl rfl (M9 rfl rfl (M9 rfl rfl (L9 rfl (Pu_nilCheck rfl rfl) (L9 rfl (F9 0 rfl rfl) (L9 rfl (Pb9 (r:=600) rfl Tryz.isAgg27 rfl rfl rfl) (M9 rfl rfl (L9 rfl (Pu_slice (r:=601) (a:=x) rfl Tryz.runUnderlying27 Tryz.sizeOf59 rfl rfl (fun _ h=>rp9 h) (.inr ⟨_,_,_,rfl,rfl,rfl⟩) (.inl ⟨rfl,rfl⟩) hx (by omega)) (Lc9 rfl rfl (by decide) (Oa9 (r:=3) (r2:=601) rfl Tryz.underlying27 TI.hi59 TI.hz59 TI.hs59 TI.hby59 TI.hzs59 (by decide) rfl rfl rfl rfl (fun _ h=>eb_rest hx (rp9 h)) (recC_ones bvC_one) (by unfold maxLen; rw [List.length_append,List.length_take,List.length_drop,List.length_singleton]; omega) (by rw [List.length_append,List.length_take,List.length_drop,List.length_singleton]; omega) (fun v94=>?_))))))))))))
     refine Lt9 (P':=rowP 59 35 v94 (es.take x++[lbV (sha d,v,d)]++es.drop x).length (recC bvC ((es.take x++[lbV (sha d,v,d)]++es.drop x).map (fun p:EB=>p.1)))) (r:=3) rfl (fun h hp=>row_nm hp List.length_append.symm (by rw [← recC_append,← List.map_append])) ?_
     refine WL_fact (r:=3) rfl (fun h hp=>rd_one (rp9 hp)) (fun ho94=>?_)
     refine (L9 rfl (Pu_nilCheck rfl rfl) (L9 rfl (F9 0 rfl rfl) (Lc09 rfl rfl (OpT_storeB1 (r:=600) rfl Tryz.sizeOf27 rfl rfl rfl ho94 (by rw [refC_len hid]; decide) (show _=refC v94 id met from rfl) ?_))))
     refine (N9 (X9 ?_))
     refine Q9 (R9 (L9 rfl (Px9 (r:=201) rfl Tryz.isAgg29 Tryz.sizeOf29 rfl rfl ((bs_length _).trans (sha_length d)) (load_all ((bs_length _).trans (sha_length d)))) (Lc09 rfl rfl (OpT_storeAll (r:=101) rfl Tryz.sizeOf29 rfl rfl rfl ((bs_length _).trans zeroId_length) ((bs_length _).trans (sha_length d)) (bs_one _) ?_))))
     refine (N9 (X9 ?_))
     refine W_ret ?_
     have hnsl:=lbV_sl hok
     refine X_join [602,2] 602 (datE (es.take x++[lbV (sha d,v,d)]++es.drop x)) rfl (by decide) (fun h hs=>datE_put (b:=lbV (sha d,v,d)) (t:=5) (by rw [hnsl.1,hnsl.2]; exact hs)) ?_
     refine X_join [600,3,602] 1 (refP g (putT d (es.map toTB)).1 id (met || (putT d (es.map toTB)).2)) rfl (by decide) (fun h hs=>by rw [hnew,Bool.or_false]; exact closeRef ho94 rfl hs) ?_
     exact Xq9 [1] (Ps:=[_]) (resC1 (r:=101) Tryz.results111 rfl Tryz.isAgg29 Tryz.sizeOf29 rfl ((bs_length _).trans (sha_length d))) rfl (by decide) ⟨rfl,rfl⟩
  exact An9
 ·
  have hge:es.length≤x:=by have:=of_decide_eq_false hsp3; omega
  have hnone:es[x]?=none:=by simp; omega
  refine W_draw (N:=19) (by kernel_rfl) rfl [(0,_),(101,_),(201,_),(600,_),(601,_)] ⟨rfl,rfl,rfl,rfl,rfl,trivial⟩ ?_
  refine (T9 0 rfl rfl (Pm9 rfl rfl) (T9 1 rfl rfl (Pm9 rfl rfl) (T9 2 rfl rfl (Pu_nilCheck rfl rfl) (T9 3 rfl rfl (F9 0 rfl rfl) (T9 4 rfl rfl (Pb9 (r:=600) rfl Tryz.isAgg27 rfl rfl rfl) (T9 5 rfl rfl (Pl9 (r:=601) rfl Tryz.runUnderlying27 rfl rfl (fun _ h=>rp9 h)) (T9 6 rfl rfl (Pn9 rfl rfl rfl (run_lss _ _ _ _ _ _)) (T9 7 rfl rfl (Pm9 rfl rfl) (AH_takeF 8 rfl (by kernel_rfl) (by kernel_rfl) (by kernel_rfl) rfl rfl rfl (by rw [hsp3]; rfl) rfl (by decide) (AH_takeF 9 rfl (by kernel_rfl) (by kernel_rfl) (by kernel_rfl) rfl rfl rfl (by rw [hsp3]; rfl) rfl (by decide) (AH_takeF 10 rfl (by kernel_rfl) (by kernel_rfl) (by kernel_rfl) rfl rfl rfl (by rw [hsp3]; rfl) rfl (by decide) (AH_takeF 11 rfl (by kernel_rfl) (by kernel_rfl) (by kernel_rfl) rfl rfl rfl (by rw [hsp3]; rfl) rfl (by decide) (AH_takeF 12 rfl (by kernel_rfl) (by kernel_rfl) (by kernel_rfl) rfl rfl rfl (by rw [hsp3]; rfl) rfl (by decide) (AH_takeF 13 rfl (by kernel_rfl) (by kernel_rfl) (by kernel_rfl) rfl rfl rfl (by rw [hsp3]; rfl) rfl (by decide) (AH_takeF 14 rfl (by kernel_rfl) (by kernel_rfl) (by kernel_rfl) rfl rfl rfl (by rw [hsp3]; rfl) rfl (by decide) (AH_takeF 15 rfl (by kernel_rfl) (by kernel_rfl) (by kernel_rfl) rfl rfl rfl (by rw [hsp3]; rfl) rfl (by decide) (AH_takeF 16 rfl (by kernel_rfl) (by kernel_rfl) (by kernel_rfl) rfl rfl rfl (by rw [hsp3]; rfl) rfl (by decide) (Y9 [17] ?_))))))))))))))))))
  refine AHs_gF rfl rfl rfl rfl (by rw [hsp3]; rfl) rfl (by decide) ?_ ?_
  ·
   refine (T9 18 rfl rfl (Pu_pickF rfl rfl hsp3 rfl) (Ad9 (by kernel_rfl) (X9 ?_)))
   refine W_false rfl (rfl) ?_
   refine W_exit (X_then_exit (X_then_exit (X_block_exit (X9 ?_))))
   refine Q9 (Q9 ?_)
   refine W_draw (N:=19) (by kernel_rfl) rfl [(0,_),(101,_),(201,_),(600,_),(601,_)] ⟨rfl,rfl,rfl,rfl,rfl,trivial⟩ ?_
   refine (T9 0 rfl rfl (Pm9 rfl rfl) (T9 1 rfl rfl (Pm9 rfl rfl) (T9 2 rfl rfl (Pu_nilCheck rfl rfl) (T9 3 rfl rfl (F9 0 rfl rfl) (T9 4 rfl rfl (Pb9 (r:=600) rfl Tryz.isAgg27 rfl rfl rfl) (T9 5 rfl rfl (Pl9 (r:=601) rfl Tryz.runUnderlying27 rfl rfl (fun _ h=>rp9 h)) (T9 6 rfl rfl (Pn9 rfl rfl rfl (run_lss _ _ _ _ _ _)) (T9 7 rfl rfl (Pm9 rfl rfl) (AH_takeF 8 rfl (by kernel_rfl) (by kernel_rfl) (by kernel_rfl) rfl rfl rfl (by rw [hsp3]; rfl) rfl (by decide) (AH_takeF 9 rfl (by kernel_rfl) (by kernel_rfl) (by kernel_rfl) rfl rfl rfl (by rw [hsp3]; rfl) rfl (by decide) (AH_takeF 10 rfl (by kernel_rfl) (by kernel_rfl) (by kernel_rfl) rfl rfl rfl (by rw [hsp3]; rfl) rfl (by decide) (AH_takeF 11 rfl (by kernel_rfl) (by kernel_rfl) (by kernel_rfl) rfl rfl rfl (by rw [hsp3]; rfl) rfl (by decide) (AH_takeF 12 rfl (by kernel_rfl) (by kernel_rfl) (by kernel_rfl) rfl rfl rfl (by rw [hsp3]; rfl) rfl (by decide) (AH_takeF 13 rfl (by kernel_rfl) (by kernel_rfl) (by kernel_rfl) rfl rfl rfl (by rw [hsp3]; rfl) rfl (by decide) (AH_takeF 14 rfl (by kernel_rfl) (by kernel_rfl) (by kernel_rfl) rfl rfl rfl (by rw [hsp3]; rfl) rfl (by decide) (AH_takeF 15 rfl (by kernel_rfl) (by kernel_rfl) (by kernel_rfl) rfl rfl rfl (by rw [hsp3]; rfl) rfl (by decide) (AH_takeF 16 rfl (by kernel_rfl) (by kernel_rfl) (by kernel_rfl) rfl rfl rfl (by rw [hsp3]; rfl) rfl (by decide) (AH_takeF 17 rfl (by kernel_rfl) (by kernel_rfl) (by kernel_rfl) rfl rfl rfl (by rw [hsp3]; rfl) rfl (by decide) (T9 18 rfl rfl (Pu_pickF rfl rfl hsp3 rfl) (Ad9 (by kernel_rfl) (X9 ?_)))))))))))))))))))))
   refine W_false rfl (rfl) ?_
   refine K9 (X9 ?_)
   refine Q9 ?_
   have hnn:∀ q,es[x]?=some q→ltK q.1.key (sha d)=false∧(q.1.key == sha d)=false:=fun q hq=>by rw [hnone] at hq; cases hq
   have hnew:=put_new2 hxl hnn hvo
   have hok:LOk (sha d,v,d):=⟨sha_length d,hvo⟩
   refine W_nilRow 3 59 35 ?_
   refine R9 (G9 rfl rfl (N9 (X9 (Q9 (R9 (M9 rfl rfl (M9 rfl rfl (L9 rfl (Pu_nilCheck rfl rfl) (L9 rfl (F9 0 rfl rfl) (L9 rfl (Pb9 (r:=600) rfl Tryz.isAgg27 rfl rfl rfl) (M9 rfl rfl (L9 rfl (Pu_slice (r:=601) (b:=x) rfl Tryz.runUnderlying27 Tryz.sizeOf59 rfl rfl (fun _ h=>rp9 h) (.inl ⟨rfl,rfl⟩) (.inr ⟨_,_,_,rfl,rfl,rfl⟩) (Nat.zero_le _) hx) (Lc9 rfl rfl (by decide) (Oa9 (r:=3) (r2:=601) rfl Tryz.underlying27 TI.hi59 TI.hz59 TI.hs59 TI.hby59 TI.hzs59 (by decide) rfl rfl rfl rfl (fun _ h=>eb_front hx (rp9 h)) (recC_ones bvC_one) (by unfold maxLen; omega) (by omega) (fun v79=>?_)))))))))))))))
   refine Lt9 (P':=rowP 59 35 v79 (es.take x).length (recC bvC ((es.take x).map (fun p:EB=>p.1)))) (r:=3) rfl (fun h hp=>row_nm hp (by rw [List.length_take]; omega) (List.nil_append _)) ?_
   refine (G9 rfl rfl (N9 (X9 ?_)))
   refine Q9 (R9 (M9 rfl rfl (L9 rfl (Px9 (r:=201) rfl Tryz.isAgg29 Tryz.sizeOf29 rfl rfl ((bs_length _).trans (sha_length d)) (load_all ((bs_length _).trans (sha_length d)))) (M9 rfl rfl (L9 rfl (Pu_build (V:=.agg (bvC (lbV (sha d,v,d)).1).toArray) [(0,32),(32,1),(33,1),(34,1)] (bkC zeroId (.slice none 0 0) 0 0) rfl rfl (by kernel_rfl) (by kernel_rfl) (.many rfl ((bs_length _).trans (sha_length d)) (by rw [bkC_length zeroId_length]; decide) rfl (.one rfl hvo (by rw [over_length,bkC_length zeroId_length] <;> first | decide | (rw [bs_length,sha_length,bkC_length zeroId_length]; decide)) rfl (.nil _))) (congrArg (fun q:List Value=>Value.agg q.toArray) ((bk_build (sha_length d)).trans (lbV_c hok).symm))) (Lc9 rfl rfl (by decide) (OpT_buildRows (r:=651) [bvC (lbV (sha d,v,d)).1] rfl rfl Tryz.runUnderlying27 Tryz.sizeOf59 Tryz.zeroValue59 rfl (by decide) rfl (by decide) (by intro r hr; simp at hr; rw [hr]; exact bvC_length _) rfl (fun v84=>(Lc9 rfl rfl (by decide) (Oa9 (r:=3) (r2:=651) rfl Tryz.underlying27 TI.hi59 TI.hz59 TI.hs59 TI.hby59 TI.hzs59 (by decide) rfl rfl rfl rfl (fun _ h=>rp9 h) (by intro u hu; simp at hu; exact bvC_one _ u hu) (by unfold maxLen; rw [List.length_take]; omega) (by rw [List.length_take]; omega) (fun v85=>?_)))))))))))
   refine Lt9 (P':=rowP 59 35 v85 (es.take x++[lbV (sha d,v,d)]).length (recC bvC ((es.take x++[lbV (sha d,v,d)]).map (fun p:EB=>p.1)))) (r:=3) rfl (fun h hp=>row_eb hp rfl rfl) ?_
   refine (G9 rfl rfl (N9 (X9 ?_)))
   refine Q9 (R9 (M9 rfl rfl (M9 rfl rfl (M9 rfl rfl (L9 rfl (Pu_nilCheck rfl rfl) (L9 rfl (F9 0 rfl rfl) (L9 rfl (Pb9 (r:=600) rfl Tryz.isAgg27 rfl rfl rfl) (M9 rfl rfl (L9 rfl (Pu_slice (r:=601) (a:=x) rfl Tryz.runUnderlying27 Tryz.sizeOf59 rfl rfl (fun _ h=>rp9 h) (.inr ⟨_,_,_,rfl,rfl,rfl⟩) (.inl ⟨rfl,rfl⟩) hx (by omega)) (Lc9 rfl rfl (by decide) (Oa9 (r:=3) (r2:=601) rfl Tryz.underlying27 TI.hi59 TI.hz59 TI.hs59 TI.hby59 TI.hzs59 (by decide) rfl rfl rfl rfl (fun _ h=>eb_rest hx (rp9 h)) (recC_ones bvC_one) (by unfold maxLen; rw [List.length_append,List.length_take,List.length_drop,List.length_singleton]; omega) (by rw [List.length_append,List.length_take,List.length_drop,List.length_singleton]; omega) (fun v94=>?_))))))))))))
   refine Lt9 (P':=rowP 59 35 v94 (es.take x++[lbV (sha d,v,d)]++es.drop x).length (recC bvC ((es.take x++[lbV (sha d,v,d)]++es.drop x).map (fun p:EB=>p.1)))) (r:=3) rfl (fun h hp=>row_nm hp List.length_append.symm (by rw [← recC_append,← List.map_append])) ?_
   refine WL_fact (r:=3) rfl (fun h hp=>rd_one (rp9 hp)) (fun ho94=>?_)
   refine (L9 rfl (Pu_nilCheck rfl rfl) (L9 rfl (F9 0 rfl rfl) (Lc09 rfl rfl (OpT_storeB1 (r:=600) rfl Tryz.sizeOf27 rfl rfl rfl ho94 (by rw [refC_len hid]; decide) (show _=refC v94 id met from rfl) ?_))))
   refine (N9 (X9 ?_))
   refine Q9 (R9 (L9 rfl (Px9 (r:=201) rfl Tryz.isAgg29 Tryz.sizeOf29 rfl rfl ((bs_length _).trans (sha_length d)) (load_all ((bs_length _).trans (sha_length d)))) (Lc09 rfl rfl (OpT_storeAll (r:=101) rfl Tryz.sizeOf29 rfl rfl rfl ((bs_length _).trans zeroId_length) ((bs_length _).trans (sha_length d)) (bs_one _) ?_))))
   refine (N9 (X9 ?_))
   refine W_ret ?_
   have hnsl:=lbV_sl hok
   refine X_join [602,2] 602 (datE (es.take x++[lbV (sha d,v,d)]++es.drop x)) rfl (by decide) (fun h hs=>datE_put (b:=lbV (sha d,v,d)) (t:=5) (by rw [hnsl.1,hnsl.2]; exact hs)) ?_
   refine X_join [600,3,602] 1 (refP g (putT d (es.map toTB)).1 id (met || (putT d (es.map toTB)).2)) rfl (by decide) (fun h hs=>by rw [hnew,Bool.or_false]; exact closeRef ho94 rfl hs) ?_
   exact Xq9 [1] (Ps:=[_]) (resC1 (r:=101) Tryz.results111 rfl Tryz.isAgg29 Tryz.sizeOf29 rfl ((bs_length _).trans (sha_length d))) rfl (by decide) ⟨rfl,rfl⟩
  exact An9
open Go.RowKit
set_option maxRecDepth 8000
open Go.RowKit
set_option maxRecDepth 8000
open Go.RowKit
set_option maxRecDepth 8000
theorem nms_take {es:List Ent} {k:Nat} (hk:k < es.length):nms (es.take (k + 1))=nms (es.take k)++[(es.getD k ent0).1]:=by
  unfold nms
  rw [List.take_succ_eq_append_getElem hk,List.map_append,List.getD_eq_getElem?_getD,List.getElem?_eq_getElem hk]
  rfl
theorem row_nms {e:TypeId} {v:Value} {xs:List (List UInt8)} {x:List UInt8} {h:Hlt} (hp:rowP e 1 v (xs.length + 1) (ss xs++[sV x]) h):rowS e v (xs++[x]) h:=by
  unfold rowS
  rw [List.length_append,ss_append]
  exact hp
open Go.RowKit
set_option maxRecDepth 8000
theorem list_spec (es:List EB) (v:Value) (id:List UInt8) (hid:id.length=32) (hel:es.length≤1000000000000) (hdl:∀ b ∈ es,b.2.length≤1000000000) (F:HP) (hF:∀ h,F h→rdP 35 v (es.map (·.1)).length (recC bvC (es.map (·.1))) h) (hD:∀ h,F h→datE es h) (hT:∀ h,F h→tabsP h) (path:List UInt8) (hpl:path.length≤1000000000):CallsS Tryz.prog 30 #[.agg (treeC v id).toArray,sV path] F [] (fun r Ps=>∃ w,r = .tuple #[w,.int .i64 (listV (viewT (es.map toTB)) id path).2]∧Ps=[rowS 9 w (listV (viewT (es.map toTB)) id path).1]):=by
 refine callsS_enter Tryz.func30 rfl Tryz.ntmps30 (by simp) (fun E=>?_)
 refine Q9 (R9 (Lc9 rfl rfl (by decide) (OpT_box (r:=101) rfl rfl rfl (fun g101=>(G9 rfl rfl (G9 rfl rfl (N9 (X9 (Q9 (R9 (L9 rfl (Px9 (r:=101) rfl Tryz.isAgg31 Tryz.sizeOf31 rfl rfl (treeC_length hid) (load_all (treeC_length hid))) (Lc9 rfl rfl (by decide) (Oc9 200 [0,101] [] rfl Tryz.call43 rfl rfl rfl (by decide) (by decide) (look_spec es v id hel hdl _ (rs9 0 rfl hF) (ds9 0 rfl hD)) (fun v14 Ps14 hR14=>?_))))))))))))))
 obtain ⟨gm,ls,rfl,rfl,hL0,hvw⟩:=hR14
 skip
 refine (G9 rfl rfl (N9 (X9 ?_)))
 refine Q9 (R9 (M9 rfl rfl (L9 rfl (F9 1 rfl rfl) (L9 rfl (Px9 (r:=101) rfl Tryz.isAgg29 Tryz.sizeOf29 rfl rfl ((bs_length _).trans hid) (tree_id hid)) (M9 rfl rfl (Lc9 rfl rfl (by decide) (Oc9 300 [0,101,200] [] rfl Tryz.call44 rfl rfl rfl (by decide) (by decide) (view_find gm ls _ (mapQ_star 2 rfl (fun _ h=>h)) (fun p0 hp0=>rs9 0 rfl (look_rd hD hL0 p0 hp0)) (ts9 0 rfl hT) id path hid hpl) (fun v20 Ps20 hR20=>?_))))))))
 obtain ⟨rfl,rfl⟩:=hR20
 rw [hvw]
 refine (M9 rfl rfl (L9 rfl (Pe9 rfl rfl rfl) (L9 rfl (Pe9 rfl rfl rfl) (Lc9 rfl rfl (by decide) (OpT_alloc (r:=301) (cs:=(nodeC 0 0 0 zeroId)) rfl (zero_run (by kernel_rfl:(Tryz.prog.info? 42).bind (·.zero)=some (.agg (nodeC 0 0 0 zeroId).toArray))) rfl (fun g301=>(Lc09 rfl rfl (OpT_storeAll (r:=301) rfl Tryz.sizeOf42 rfl rfl rfl (nodeC_length zeroId_length) (ndC_length (pathV_top _ _ _)) (one_node _ _ _ _) ?_))))))))
 refine (G9 rfl rfl (N9 (X9 ?_)))
 refine Q9 (Q9 ?_)
 refine W_nilRow 3 9 1 ?_
 refine R9 (M9 rfl rfl (L9 rfl (Pn9 rfl rfl rfl (run_neq _ _ _ _ _ _)) (N9 (X9 ?_))))
 refine C9 rfl (fun hc24=>?_) (fun hc24=>?_)
 ·
  have hp0:(pathV (viewT (es.map toTB)) id path).2≠0:=by simpa using hc24
  have hres:listV (viewT (es.map toTB)) id path=([],(pathV (viewT (es.map toTB)) id path).2):=by unfold listV; rw [if_pos hp0]
  refine Q9 (R9 (M9 rfl rfl (G9 rfl rfl (G9 rfl rfl (N9 (X9 ?_))))))
  refine W_ret (X_then_ret ?_)
  refine X_turn (P':=rowS 9 (.slice none 0 0) []) 3 rfl (fun h hp=>hp) ?_
  exact Xq9 [3] (Ps:=[_]) (res2 Tryz.results30 rfl rfl) rfl (by decide) ⟨.slice none 0 0,by rw [hres] <;> rfl,by rw [hres] <;> rfl⟩
 ·
  have hp0:(pathV (viewT (es.map toTB)) id path).2=0:=by simpa using hc24
  have hok:=pathV_ok hp0
  refine K9 (X9 ?_)
  refine Q9 (R9 (M9 rfl rfl (L9 rfl (Px9 (r:=301) rfl Tryz.isAgg42 Tryz.sizeOf42 rfl rfl (ndC_length (pathV_top _ _ _)) (load_all (ndC_length (pathV_top _ _ _)))) (Lc9 rfl rfl (by decide) (Oc9 400 [0,3,101,200,301] [] rfl Tryz.call56 rfl rfl rfl (by decide) (by decide) (view_folder gm ls _ (mapQ_star 3 rfl (fun _ h=>h)) (fun p0 hp0=>rs9 0 rfl (look_rd hD hL0 p0 hp0)) (ts9 0 rfl hT) (pathV (viewT (es.map toTB)) id path).1 hok) (fun v29 Ps29 hR29=>?_))))))
  obtain ⟨w29,rfl,rfl⟩:=hR29
  rw [hvw]
  refine (M9 rfl rfl (L9 rfl (Pe9 rfl rfl rfl) (L9 rfl (Pe9 rfl rfl rfl) (G9 rfl rfl (G9 rfl rfl (N9 (X9 ?_)))))))
  refine Q9 (Q9 (R9 (M9 rfl rfl (L9 rfl (Pn9 rfl rfl rfl (run_neq _ _ _ _ _ _)) (N9 (X9 ?_))))))
  refine C9 rfl (fun hc33=>?_) (fun hc33=>?_)
  ·
   have hd0:(dirV (viewT (es.map toTB)) (pathV (viewT (es.map toTB)) id path).1).2≠0:=by simpa using hc33
   have hres:listV (viewT (es.map toTB)) id path=([],((dirV (viewT (es.map toTB)) (pathV (viewT (es.map toTB)) id path).1).2:Int)):=by unfold listV; rw [if_neg (fun h=>h hp0),if_pos hd0]
   refine Q9 (R9 (M9 rfl rfl (G9 rfl rfl (G9 rfl rfl (N9 (X9 ?_))))))
   refine W_ret (X_then_ret ?_)
   refine X_turn (P':=rowS 9 (.slice none 0 0) []) 3 rfl (fun h hp=>hp) ?_
   exact Xq9 [3] (Ps:=[_]) (res2 Tryz.results30 rfl rfl) rfl (by decide) ⟨.slice none 0 0,by rw [hres] <;> rfl,by rw [hres] <;> rfl⟩
  ·
   have hd0:(dirV (viewT (es.map toTB)) (pathV (viewT (es.map toTB)) id path).1).2=0:=by simpa using hc33
   obtain ⟨ens,hdes⟩:∃ ens,(dirV (viewT (es.map toTB)) (pathV (viewT (es.map toTB)) id path).1).1=ens:=⟨_,rfl⟩
   have hdd:=dirV_ents (viewT (es.map toTB)) (pathV (viewT (es.map toTB)) id path).1 hok
   rw [hdes] at hdd
   obtain ⟨hE,hnl⟩:=hdd
   rw [hdes]
   have hres:listV (viewT (es.map toTB)) id path=(nms ens,0):=by unfold listV; rw [if_neg (fun h=>h hp0),if_neg (fun h=>h hd0),hdes]
   refine K9 (X9 ?_)
   refine Q9 (R9 (G9 rfl rfl (N9 (X9 (Q9 (Q9 (R9 (M9 rfl rfl (L9 rfl (Pl9 (r:=400) rfl Tryz.runUnderlying118 rfl rfl rowR_rd) (M9 rfl rfl (N9 (X9 ?_))))))))))))
   refine W_block ?_
   refine Wt9 (P':=rowS 9 (.slice none 0 0) (nms (ens.take 0))) 3 rfl (fun h hp=>hp) ?_
   refine W_loop (α:=Nat × Value) (fun x=>[(10,x.2),(35,w29),(36,.int .i64 (ens.length:Int)),(37,.int .i64 (x.1:Int))]) (fun x=>[(0,F),(3,rowS 9 x.2 (nms (ens.take x.1))),(400,rowE 122 w29 ens)]) (fun x=>x.1≤ens.length) (fun x=>ens.length - x.1) ((0,.slice none 0 0)) (Nat.zero_le _) (a9 rfl) (a9 rfl) (fun x hx=>?_)
   have hnk:(nms (ens.take x.1)).length=x.1:=by rw [nms_length,List.length_take]; omega
   refine Q9 (R9 (L9 rfl (Pn9 rfl rfl rfl (run_lss _ _ _ _ _ _)) (N9 (X9 (Q9 ?_)))))
   refine C9 rfl (fun hc38=>?_) (fun hc38=>?_)
   ·
    have hlt:x.1 < ens.length:=by have:=of_decide_eq_true hc38; omega
    refine K9 (X9 ?_)
    refine Q9 ?_
    refine W_block ?_
    refine Q9 (R9 (L9 rfl (Pi9 (r:=400) rfl Tryz.runUnderlying118 Tryz.sizeOf122 rfl rfl rfl rowR_rd (by omega)) (L9 rfl (Pz9 (r:=400) rfl Tryz.isAgg122 Tryz.sizeOf122 rfl rfl rowR_rd (entF_len (hE.get hlt)) (by decide) (ent_all hE hlt)) (Lc9 rfl rfl (by decide) (OpT_alloc (r:=401) (cs:=(entC [] zeroId)) rfl (zero_run (by kernel_rfl:(Tryz.prog.info? 122).bind (·.zero)=some (.agg (entC [] zeroId).toArray))) rfl (fun g401=>(Lc09 rfl rfl (OpT_storeAll (r:=401) rfl Tryz.sizeOf122 rfl rfl rfl (entC_length zeroId_length) (entC_length (hE.get hlt)) (entC_one _ _) ?_))))))))
    refine (N9 (X9 ?_))
    refine R9 (M9 rfl rfl (L9 rfl (F9 0 rfl rfl) (L9 rfl (Pb9 (r:=401) rfl Tryz.isAgg9 rfl rfl rfl) (Lc9 rfl rfl (by decide) (OpT_buildOnes (r:=402) [sV (ens.getD x.1 ent0).1] rfl rfl Tryz.runUnderlying63 Tryz.sizeOf9 Tryz.zeroValue9 rfl rfl (by decide) rfl (by simp [Value.cells]) (fun v44=>(Lc9 rfl rfl (by decide) (Oa9 (r:=3) (r2:=402) rfl Tryz.underlying63 TI.hi9 TI.hz9 TI.hs9 TI.hby9 TI.hzs9 (by decide) rfl rfl rfl rfl (fun _ h=>rp9 h) (by intro u hu; simp at hu; rw [hu]; rfl) (by unfold maxLen; omega) (by omega) (fun v45=>?_)))))))))
    refine Lt9 (P':=rowS 9 v45 (nms (ens.take x.1)++[(ens.getD x.1 ent0).1])) (r:=3) rfl (fun h hp=>row_nms hp) ?_
    refine (G9 rfl rfl (N9 (X_block (X9 ?_))))
    refine R9 (L9 rfl (Pn9 rfl rfl rfl (run_add _ _ _ _ _ (by omega))) (M9 rfl rfl (N9 ?_)))
    exact Xr9 (x.1 + 1,v45) (by dsimp only; omega) (by dsimp only; omega) ⟨rfl,rfl,rfl,rfl,trivial⟩ ⟨rfl,look_eq rfl (by rw [nms_take hlt]),rfl,trivial⟩
   ·
    have hge:ens.length≤x.1:=by have:=of_decide_eq_false hc38; omega
    refine W_exit (X_then_exit (X_then_exit (X_block_exit (X9 ?_))))
    refine Q9 (R9 (M9 rfl rfl (G9 rfl rfl (G9 rfl rfl (N9 (X9 ?_))))))
    refine W_ret ?_
    refine X_turn (P':=rowS 9 x.2 (nms ens)) 3 rfl (fun h hp=>by rw [List.take_of_length_le hge] at hp; exact hp) ?_
    exact Xq9 [3] (Ps:=[_]) (res2 Tryz.results30 rfl rfl) rfl (by decide) ⟨x.2,by rw [hres] <;> rfl,by rw [hres] <;> rfl⟩
theorem read_spec (es:List EB) (v:Value) (id:List UInt8) (hid:id.length=32) (hel:es.length≤1000000000000) (hdl:∀ b ∈ es,b.2.length≤1000000000) (F:HP) (hF:∀ h,F h→rdP 35 v (es.map (·.1)).length (recC bvC (es.map (·.1))) h) (hD:∀ h,F h→datE es h) (hT:∀ h,F h→tabsP h) (path:List UInt8) (hpl:path.length≤1000000000) (off n:Int):CallsS Tryz.prog 31 #[.agg (treeC v id).toArray,sV path,.int .i64 off,.int .i64 n] F [] (fun r Ps=>∃ w,r = .tuple #[w,.int .i64 (readV (viewT (es.map toTB)) id path off n).2]∧Ps=[rowB 5 w (readV (viewT (es.map toTB)) id path off n).1]):=by
 refine callsS_enter Tryz.func31 rfl Tryz.ntmps31 (by simp) (fun E=>?_)
 refine Q9 (R9 (Lc9 rfl rfl (by decide) (OpT_box (r:=101) rfl rfl rfl (fun g101=>(G9 rfl rfl (G9 rfl rfl (N9 (X9 (Q9 (R9 (L9 rfl (Px9 (r:=101) rfl Tryz.isAgg31 Tryz.sizeOf31 rfl rfl (treeC_length hid) (load_all (treeC_length hid))) (Lc9 rfl rfl (by decide) (Oc9 200 [0,101] [] rfl Tryz.call43 rfl rfl rfl (by decide) (by decide) (look_spec es v id hel hdl _ (rs9 0 rfl hF) (ds9 0 rfl hD)) (fun v14 Ps14 hR14=>?_))))))))))))))
 obtain ⟨gm,ls,rfl,rfl,hL0,hvw⟩:=hR14
 skip
 refine (G9 rfl rfl (N9 (X9 ?_)))
 refine Q9 (R9 (M9 rfl rfl (L9 rfl (F9 1 rfl rfl) (L9 rfl (Px9 (r:=101) rfl Tryz.isAgg29 Tryz.sizeOf29 rfl rfl ((bs_length _).trans hid) (tree_id hid)) (M9 rfl rfl (Lc9 rfl rfl (by decide) (Oc9 300 [0,101,200] [] rfl Tryz.call44 rfl rfl rfl (by decide) (by decide) (view_find gm ls _ (mapQ_star 2 rfl (fun _ h=>h)) (fun p0 hp0=>rs9 0 rfl (look_rd hD hL0 p0 hp0)) (ts9 0 rfl hT) id path hid hpl) (fun v20 Ps20 hR20=>?_))))))))
 obtain ⟨rfl,rfl⟩:=hR20
 rw [hvw]
 refine (M9 rfl rfl (L9 rfl (Pe9 rfl rfl rfl) (L9 rfl (Pe9 rfl rfl rfl) (Lc9 rfl rfl (by decide) (OpT_alloc (r:=301) (cs:=(nodeC 0 0 0 zeroId)) rfl (zero_run (by kernel_rfl:(Tryz.prog.info? 42).bind (·.zero)=some (.agg (nodeC 0 0 0 zeroId).toArray))) rfl (fun g301=>(Lc09 rfl rfl (OpT_storeAll (r:=301) rfl Tryz.sizeOf42 rfl rfl rfl (nodeC_length zeroId_length) (ndC_length (pathV_top _ _ _)) (one_node _ _ _ _) ?_))))))))
 refine (G9 rfl rfl (N9 (X9 ?_)))
 refine Q9 ?_
 refine W_block ?_
 refine Q9 ?_
 refine W_nilRow 3 5 1 ?_
 refine R9 (M9 rfl rfl (L9 rfl (Pn9 rfl rfl rfl (run_neq _ _ _ _ _ _)) (G9 rfl rfl (N9 (X9 ?_)))))
 refine C9 rfl (fun hc23=>?_) (fun hc23=>?_)
 ·
  have hp0:(pathV (viewT (es.map toTB)) id path).2≠0:=by simpa using hc23
  have hres:readV (viewT (es.map toTB)) id path off n=([],(pathV (viewT (es.map toTB)) id path).2):=by unfold readV; rw [if_pos hp0]
  refine Q9 (R9 (M9 rfl rfl (G9 rfl rfl (G9 rfl rfl (N9 (X9 ?_))))))
  refine W_ret (X_block_ret (X_then_ret ?_))
  refine X_turn (P':=rowB 5 (.slice none 0 0) []) 3 rfl (fun h hp=>hp) ?_
  exact Xq9 [3] (Ps:=[_]) (res2 Tryz.results31 rfl rfl) rfl (by decide) ⟨.slice none 0 0,by rw [hres] <;> rfl,by rw [hres] <;> rfl⟩
 ·
  have hp0:(pathV (viewT (es.map toTB)) id path).2=0:=by simpa using hc23
  have hok:=pathV_ok hp0
  refine Q9 (R9 (L9 rfl (F9 0 rfl rfl) (L9 rfl (Pb9 (r:=301) rfl Tryz.isAgg3 rfl rfl rfl) (L9 rfl (Pn9 rfl rfl rfl (run_neq _ _ _ _ _ _)) (G9 rfl rfl (N9 (X9 ?_)))))))
  refine C9 rfl (fun hc27=>?_) (fun hc27=>?_)
  ·
   have hk1:(pathV (viewT (es.map toTB)) id path).1.1≠1:=by simpa using hc27
   have hres:readV (viewT (es.map toTB)) id path off n=([],3):=by unfold readV; rw [if_neg (fun h=>h hp0),if_pos hk1]
   refine Q9 (R9 (G9 rfl rfl (G9 rfl rfl (N9 (X9 ?_)))))
   refine W_ret (X_block_ret (X_then_ret ?_))
   refine X_turn (P':=rowB 5 (.slice none 0 0) []) 3 rfl (fun h hp=>hp) ?_
   exact Xq9 [3] (Ps:=[_]) (res2 Tryz.results31 rfl rfl) rfl (by decide) ⟨.slice none 0 0,by rw [hres] <;> rfl,by rw [hres] <;> rfl⟩
  ·
   have hk1:(pathV (viewT (es.map toTB)) id path).1.1=1:=by simpa using hc27
   refine Q9 (R9 (M9 rfl rfl (L9 rfl (Pn9 rfl rfl rfl (run_lss _ _ _ _ _ _)) (M9 rfl rfl (Lg9 rfl rfl rfl rfl (by decide) (fun hb=>(Pm9 rfl rfl)) (Lg9 rfl rfl rfl rfl (by decide) (fun hb=>(Pn9 rfl (ev_gv rfl hb) rfl (run_lss _ _ _ _ _ _))) (L9 rfl (Pu_or rfl rfl rfl) (G9 rfl rfl (N9 (X9 ?_))))))))))
   refine C9 rfl (fun hc31=>?_) (fun hc31=>?_)
   ·
    have hng:off < 0∨n < 0:=by simpa using hc31
    have hres:readV (viewT (es.map toTB)) id path off n=([],1):=by unfold readV; rw [if_neg (fun h=>h hp0),if_neg (fun h=>h hk1),if_pos hng]
    refine Q9 (R9 (G9 rfl rfl (G9 rfl rfl (N9 (X9 ?_)))))
    refine W_ret (X_block_ret (X_then_ret ?_))
    refine X_turn (P':=rowB 5 (.slice none 0 0) []) 3 rfl (fun h hp=>hp) ?_
    exact Xq9 [3] (Ps:=[_]) (res2 Tryz.results31 rfl rfl) rfl (by decide) ⟨.slice none 0 0,by rw [hres] <;> rfl,by rw [hres] <;> rfl⟩
   ·
    have hng:¬ (off < 0∨n < 0):=by intro hq; have h2:0≤off∧0≤n:=(by simpa using hc31); omega
    refine Q9 (R9 (M9 rfl rfl (L9 rfl (F9 1 rfl rfl) (L9 rfl (Pb9 (r:=301) rfl Tryz.isAgg3 rfl rfl rfl) (L9 rfl (Pn9 rfl rfl rfl (run_geq _ _ _ _ _ _)) (G9 rfl rfl (N9 (X9 ?_))))))))
    refine C9 rfl (fun hc38=>?_) (fun hc38=>?_)
    ·
     have hbg:(pathV (viewT (es.map toTB)) id path).1.2.1≤off:=by simpa using hc38
     have hres:readV (viewT (es.map toTB)) id path off n=([],0):=by unfold readV; rw [if_neg (fun h=>h hp0),if_neg (fun h=>h hk1),if_neg hng,if_pos hbg]
     refine Q9 (R9 (G9 rfl rfl (G9 rfl rfl (N9 (X9 ?_)))))
     refine W_ret (X_block_ret (X_then_ret ?_))
     refine X_turn (P':=rowB 5 (.slice none 0 0) []) 3 rfl (fun h hp=>hp) ?_
     exact Xq9 [3] (Ps:=[_]) (res2 Tryz.results31 rfl rfl) rfl (by decide) ⟨.slice none 0 0,by rw [hres] <;> rfl,by rw [hres] <;> rfl⟩
    ·
     have hbg:¬ (pathV (viewT (es.map toTB)) id path).1.2.1≤off:=by have:=of_decide_eq_false hc38; omega
     have hres:readV (viewT (es.map toTB)) id path off n=((bytesV (viewT (es.map toTB)) (pathV (viewT (es.map toTB)) id path).1 off.toNat (off.toNat + min n.toNat ((pathV (viewT (es.map toTB)) id path).1.2.1.toNat - off.toNat))).1,((bytesV (viewT (es.map toTB)) (pathV (viewT (es.map toTB)) id path).1 off.toNat (off.toNat + min n.toNat ((pathV (viewT (es.map toTB)) id path).1.2.1.toNat - off.toNat))).2:Int)):=by unfold readV; rw [if_neg (fun h=>h hp0),if_neg (fun h=>h hk1),if_neg hng,if_neg hbg]
     obtain ⟨nd,hnd⟩:∃ nd,nd=(pathV (viewT (es.map toTB)) id path).1:=⟨_,rfl⟩
     rw [← hnd] at hres hok hbg hk1
     rw [← hnd]
     have hs1:=hok.2.2.1
     have hs0:=hok.2.1
     obtain ⟨o,ho⟩:∃ o:Nat,o=off.toNat:=⟨_,rfl⟩
     obtain ⟨m,hm⟩:∃ m:Nat,m=n.toNat:=⟨_,rfl⟩
     have ho2:off=(o:Int):=by omega
     have hm2:n=(m:Int):=by omega
     rw [← ho,← hm] at hres
     obtain ⟨z,hz⟩:∃ z:Nat,z=o + min m (nd.2.1.toNat - o):=⟨_,rfl⟩
     rw [← hz] at hres
     refine K9 (X_block (X9 ?_))
     refine Q9 (R9 (M9 rfl rfl (L9 rfl (Px9 (r:=301) rfl Tryz.isAgg42 Tryz.sizeOf42 rfl rfl (ndC_length hok.2.2.2.2) (load_all (ndC_length hok.2.2.2.2))) (M9 rfl rfl (M9 rfl rfl (M9 rfl rfl (L9 rfl (F9 1 rfl rfl) (L9 rfl (Pb9 (r:=301) rfl Tryz.isAgg3 rfl rfl rfl) (M9 rfl rfl (L9 rfl (Pn9 rfl rfl rfl (run_sub _ _ _ _ _ (by omega))) (L9 rfl (Pu_min rfl rfl rfl) (L9 rfl (Pn9 rfl rfl rfl (run_add _ _ _ _ _ (by omega))) ?_))))))))))))
     rw [show off + min n (nd.2.1 - off)=(z:Int) by omega,ho2]
     refine (Lc9 rfl rfl (by decide) (Oc9 400 [0,3,101,200,301] [] rfl Tryz.call57 rfl rfl rfl (by decide) (by decide) (view_bytes gm ls _ (mapQ_star 3 rfl (fun _ h=>h)) (fun p0 hp0=>rs9 0 rfl (look_rd hD hL0 p0 hp0)) nd hok o z (by omega) (by omega)) (fun v54 Ps54 hR54=>?_)))
     obtain ⟨w54,rfl,rfl⟩:=hR54
     rw [hvw]
     refine (L9 rfl (Pe9 rfl rfl rfl) (L9 rfl (Pe9 rfl rfl rfl) (G9 rfl rfl (G9 rfl rfl (N9 (X9 ?_))))))
     refine W_ret ?_
     exact Xq9 [400] (Ps:=[_]) (res2 Tryz.results31 rfl rfl) rfl (by decide) ⟨w54,by rw [← ho2,hres] <;> rfl,by rw [← ho2,hres] <;> rfl⟩
open Go.RowKit
set_option maxRecDepth 8000
theorem of_eq (v:Value) {id:List UInt8} (hid:id.length=32):over ((refC (.slice none 0 0) zeroId false).set 0 v) 1 (bs id)=refC v id false:=by
  have:=over_mid [v] (bs zeroId) (bs id) [.bool false] (by rw [bs_length,bs_length,hid,zeroId_length])
  simpa [refC] using this
open Go.RowKit
set_option maxRecDepth 8000
end Go.Proofs.YthkdkmaacjpneaaGreatDoor
