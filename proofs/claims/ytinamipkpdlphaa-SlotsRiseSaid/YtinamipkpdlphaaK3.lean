/- Texts of this proof, one behind the other: ShaS, ShaD, LmsR, LmsA, LmsB, LmsC, LmsT, LmsD, LmsE. -/
import Derived.Test.YtinamipkpdlphaaK2
import Derived.Stop.BytesEq
set_option linter.unusedVariables false
set_option linter.unusedSimpArgs false
set_option linter.unusedSectionVars false
namespace Go.Proofs.Ytinamipkpdlphaa
open Go.RowKit
def schW (w:List UInt32) (b:List UInt8) (p t:Nat):List UInt32:=sch b p t++w.drop t
section
variable {w:List UInt32} {b:List UInt8} {p t:Nat}
theorem schW_length (hw:w.length=64) (h:t≤64):(schW w b p t).length=64:=by unfold schW; rw [List.length_append,sch_length,List.length_drop]; omega
theorem schW_full (hw:w.length=64):schW w b p 64=sch b p 64:=by unfold schW; rw [List.drop_of_length_le (by omega),List.append_nil]
theorem schW_get {k:Nat} (h:k < t):(schW w b p t).getD k 0=(sch b p t).getD k 0:=by
  unfold schW
  rw [List.getD_eq_getElem?_getD,List.getD_eq_getElem?_getD,List.getElem?_append_left (by rw [sch_length]; exact h)]
theorem schW_set {z:Int} {x:UInt32} (hw:w.length=64) (hz:z.toNat=t) (ht:t < 64) (hx:x=if t < 16 then word b (p + 4 * t) else nextW (sch b p t) t):(schW w b p t).set (0 + z.toNat) x=schW w b p (t + 1):=by
  rw [hz,Nat.zero_add]
  have hs:sch b p (t + 1)=sch b p t++[x]:=by rw [hx]; rfl
  unfold schW
  rw [hs,List.set_append_right _ _ (by rw [sch_length]; omega),sch_length,Nat.sub_self,List.drop_eq_getElem_cons (by omega),List.set_cons_zero,List.append_assoc]
  rfl
theorem schW_next (h1:16≤t):sm1 ((schW w b p t).getD (t - 2) 0) + (schW w b p t).getD (t - 7) 0 + sm0 ((schW w b p t).getD (t - 15) 0) + (schW w b p t).getD (t - 16) 0=if t < 16 then word b (p + 4 * t) else nextW (sch b p t) t:=by
  rw [if_neg (by omega),schW_get (by omega),schW_get (by omega),schW_get (by omega),schW_get (by omega)]
  rfl
end
def addK (s a:List UInt32) (i:Nat):List UInt32:=(List.zipWith (· + ·) s a).take i++s.drop i
theorem addK_length {s a:List UInt32} {i:Nat} (hs:s.length=8) (ha:a.length=8) (hi:i≤8):(addK s a i).length=8:=by
  unfold addK
  rw [List.length_append,List.length_take,List.length_zipWith,List.length_drop]
  omega
theorem addK_get {s a:List UInt32} {i:Nat} (hs:s.length=8) (ha:a.length=8) (hi:i < 8):(addK s a i).getD i 0=s.getD i 0:=by
  unfold addK
  have hl:((List.zipWith (· + ·) s a).take i).length=i:=by rw [List.length_take,List.length_zipWith]; omega
  rw [List.getD_eq_getElem?_getD,List.getD_eq_getElem?_getD,List.getElem?_append_right (by omega),hl,Nat.sub_self,List.getElem?_drop]
  rfl
theorem addK_set {s a:List UInt32} {i:Nat} {z:Int} (hs:s.length=8) (ha:a.length=8) (hz:z.toNat=i) (hi:i < 8):(addK s a i).set (0 + z.toNat) ((addK s a i).getD i 0 + a.getD i 0)=addK s a (i + 1):=by
  rw [addK_get hs ha hi,hz,Nat.zero_add]
  have hl:((List.zipWith (· + ·) s a).take i).length=i:=by rw [List.length_take,List.length_zipWith]; omega
  have hz2:i < (List.zipWith (· + ·) s a).length:=by rw [List.length_zipWith]; omega
  unfold addK
  rw [List.set_append_right _ _ (by omega),hl,Nat.sub_self,List.drop_eq_getElem_cons (by omega),List.set_cons_zero,List.take_succ_eq_append_getElem hz2,List.append_assoc]
  congr 1
  rw [List.getElem_zipWith,List.getD_eq_getElem?_getD,List.getD_eq_getElem?_getD,List.getElem?_eq_getElem (by omega),List.getElem?_eq_getElem (by omega)]
  rfl
theorem addK_full (s a:S8):addK s.list a.list 8=(addS s a).list:=rfl
theorem padZ_stop (n:Nat):(n + 1 + padZ n) % 64=56:=by unfold padZ; omega
theorem padZ_goes {n x:Nat} (h:x < padZ n):(n + 1 + x) % 64≠56:=by unfold padZ at h; omega
theorem padZ_last {n x:Nat} (h:x≤padZ n) (he:(n + 1 + x) % 64=56):x=padZ n:=by
  rcases Nat.lt_or_ge x (padZ n) with h1 | h1
  · exact absurd he (padZ_goes h1)
  · omega
theorem lenB_next {n j:Nat} (hj:j < 8):(lenB n).take (j + 1)=(lenB n).take j++[lenAt n j]:=by
  have hl:j < (lenB n).length:=by rw [lenB_length]; exact hj
  rw [List.take_succ_eq_append_getElem hl]
  have:=lenB_at (n:=n) hj
  rw [List.getElem?_eq_getElem hl] at this
  injection this with this
  rw [this]
theorem outZ_set3 {s:S8} {i off:Nat} (hi:i < 8) (ho:off=4 * i + 3):(bs (outZ s (4 * i + 3))).set off (bv (s.list.getD i 0).toUInt8)=bs (outZ s (4 * i + 3 + 1)):=by
  have h:=outZ_set (s:=s) (i:=i) (k:=3) (off:=off) hi (by decide) ho
  have h0:(s.list.getD i 0) >>> UInt32.ofNat (24 - 8 * 3)=s.list.getD i 0:=by simp
  rw [h0] at h
  exact h
open Go.RowKit
set_option maxRecDepth 8000
theorem rowB_zero {t:TypeId} (v:Value) (d:List UInt8):rowP t 1 v (0 + d.length) (bs []++bs d)=rowB t v d:=by
  unfold rowB
  rw [Nat.zero_add]
  rfl
theorem rowB_app1 {t:TypeId} {v:Value} {d:List UInt8} {h:Hlt} (hp:rowP t 1 v (d.length + 1) (bs d++bs [128]) h):rowB t v (d++[128]++zs8 0) h:=by
  unfold rowB
  rw [show d++[128]++zs8 0=d++[128] from List.append_nil _,List.length_append]
  simpa [bs] using hp
theorem rowB_app0 {t:TypeId} {v:Value} {d:List UInt8} {k:Nat} {h:Hlt} (hp:rowP t 1 v ((d++zs8 k).length + 1) (bs (d++zs8 k)++bs [0]) h):rowB t v (d++zs8 (k + 1)) h:=by
  have e:d++zs8 (k + 1)=(d++zs8 k)++[0]:=by unfold zs8; rw [List.replicate_succ',List.append_assoc]
  unfold rowB
  rw [e,show ((d++zs8 k)++[(0:UInt8)]).length=(d++zs8 k).length + 1 from List.length_append,bs_app]
  exact hp
theorem rowB_appL {t:TypeId} {v:Value} {d m:List UInt8} {x:UInt8} {h:Hlt} (hp:rowP t 1 v ((d++m).length + 1) (bs (d++m)++bs [x]) h):rowB t v (d++(m++[x])) h:=by
  unfold rowB
  rw [← List.append_assoc,show ((d++m)++[x]).length=(d++m).length + 1 from List.length_append,bs_app]
  exact hp
theorem rot_spec (x:UInt32) (r:Nat) (hr:0 < r∧r < 32) (F:HP):CallsS Try.prog 34 #[wv x,.int .u64 (r:Int)] F [] (fun v Ps=>v=wv (rotr x r)∧Ps=[]):=by
 refine callsS_enter Try.func34 rfl Try.ntmps34 (by simp) (fun E=>?_)
 refine Q9 (R9 (G9 rfl rfl (N9 (X9 (Q9 (R9 (M9 rfl rfl (M9 rfl rfl (L9 rfl (Pn9 rfl rfl rfl (run_shrW _ (r) hr.2 _ _ _)) (M9 rfl rfl (M9 rfl rfl (L9 rfl (Pn9 rfl rfl rfl (run_subU 32 r _ _ _ (by omega))) (L9 rfl (Pn9 rfl rfl rfl (run_shlW _ (32 - r) (by omega) _ _ _)) (L9 rfl (Pn9 rfl rfl rfl (run_orW _ _ _ _ _)) (G9 rfl rfl (N9 (X9 ?_)))))))))))))))))
 refine W_ret ?_
 exact Xq9 [] (Ps:=[]) (res1 Try.results34 rfl) rfl (by decide) ⟨rfl,rfl⟩
set_option maxHeartbeats 4000000 in
theorem refSum_spec (vd:Value) (d:List UInt8) (hld:d.length≤1000000000) (F:HP) (hF:∀ h,F h→rdB vd d h):CallsS Try.prog 14 #[vd] F [] (fun r Ps=>r=idV (sha d)∧Ps=[]):=by
 refine callsS_enter Try.func14 rfl Try.ntmps14 (by simp) (fun E=>?_)
 refine Q9 (R9 (Lc9 rfl rfl (by decide) (OpT_alloc (r:=101) (cs:=(bs zeroId)) rfl (zero_run (by kernel_rfl:(Try.prog.info? 29).bind (·.zero)=some (.agg (bs zeroId).toArray))) rfl (fun g101=>(N9 (X9 (Q9 (R9 (Lc9 rfl rfl (by decide) (Oc9 200 [0,101] [] rfl Try.call33 rfl rfl rfl (by decide) (by decide) (words_spec _) (fun v23 Ps23 hR23=>?_)))))))))))
 obtain ⟨rfl,rfl⟩:=hR23
 refine (Lc9 rfl rfl (by decide) (OpT_alloc (r:=201) (cs:=(ws (List.replicate 64 0))) rfl (zero_run (by kernel_rfl:(Try.prog.info? 74).bind (·.zero)=some (.agg (ws (List.replicate 64 0)).toArray))) rfl (fun g201=>(Lc09 rfl rfl (OpT_storeAll (r:=201) rfl Try.sizeOf74 rfl rfl rfl rfl rfl (ws_one _) ?_)))))
 refine (N9 (X9 ?_))
 refine Q9 (R9 (L9 rfl (Pu_built (cells:=ws HS) rfl rfl (by kernel_rfl)) (Lc9 rfl rfl (by decide) (OpT_alloc (r:=202) (cs:=(ws [0,0,0,0,0,0,0,0])) rfl (zero_run (by kernel_rfl:(Try.prog.info? 76).bind (·.zero)=some (.agg (ws [0,0,0,0,0,0,0,0]).toArray))) rfl (fun g202=>(Lc09 rfl rfl (OpT_storeAll (r:=202) rfl Try.sizeOf76 rfl rfl rfl rfl rfl (ws_one _) ?_)))))))
 refine (N9 (X9 ?_))
 refine Q9 (R9 (Lc9 rfl rfl (by decide) (OpT_buildOnes (r:=203) (bs []) rfl rfl Try.runUnderlying30 Try.sizeOf5 Try.zeroValue5 rfl rfl (by decide) rfl (bs_cells _) (fun v25=>(M9 rfl rfl (Lc9 rfl rfl (by decide) (Oa9 (r:=203) (r2:=0) rfl Try.underlying30 TI.hi5 TI.hz5 TI.hs5 TI.hby5 TI.hzs5 (by decide) rfl rfl rfl rfl hF (bs_one _) (by unfold maxLen; omega) (by omega) (fun v27=>?_))))))))
 skip
 refine (G9 rfl rfl (N9 (X9 ?_)))
 refine Q9 ?_
 refine Wt9 (P':=rowB 5 v27 d) 203 rfl (fun h hp=>(congrFun (rowB_zero _ _) h).mp hp) ?_
 refine R9 (M9 rfl rfl (Lc9 rfl rfl (by decide) (OpT_buildOnes (r:=204) (bs [128]) rfl rfl Try.runUnderlying30 Try.sizeOf5 Try.zeroValue5 rfl rfl (by decide) rfl (bs_cells _) (fun v29=>(Lc9 rfl rfl (by decide) (Oa9 (r:=203) (r2:=204) rfl Try.underlying30 TI.hi5 TI.hz5 TI.hs5 TI.hby5 TI.hzs5 (by decide) rfl rfl rfl rfl (fun _ h=>rp9 h) (bs_one _) (by unfold maxLen; omega) (by omega) (fun v30=>?_)))))))
 refine (G9 rfl rfl (N9 (X9 ?_)))
 refine Q9 ?_
 refine W_block ?_
 refine Wt9 (P':=rowB 5 v30 (d++[128]++zs8 0)) 203 rfl (fun h hp=>rowB_app1 hp) ?_
 refine W_loop (α:=Value × Nat) (fun x=>[(0,vd),(2,.pointer (some ⟨g101,0,none⟩)),(3,.pointer (some ⟨g201,0,none⟩)),(4,.pointer (some ⟨g202,0,none⟩)),(5,x.1)]) (fun x=>[(0,F),(101,blk g101 29 (bs zeroId)),(201,blk g201 74 (ws KS)),(202,blk g202 76 (ws HS)),(203,rowB 5 x.1 (d++[128]++zs8 x.2))]) (fun x=>x.2≤padZ d.length) (fun x=>padZ d.length - x.2) ((v30,0)) (Nat.zero_le _) (a9 rfl) (a9 rfl) (fun x hx=>?_)
 have hzl:(d++[128]++zs8 x.2).length=d.length + 1 + x.2:=by simp [zs8_length]; omega
 have hpz:padZ d.length < 64:=by unfold padZ; omega
 refine Q9 (Q9 (R9 (M9 rfl rfl (L9 rfl (Pl9 (r:=203) rfl Try.runUnderlying30 rfl rfl (fun _ h=>rp9 h)) (L9 rfl (Pn9 rfl rfl rfl (run_rem _ _ _ _ _ (by omega))) (L9 rfl (Pn9 rfl rfl rfl (run_neq _ _ _ _ _ _)) (N9 (X9 ?_))))))))
 refine C9 rfl (fun hc34=>?_) (fun hc34=>?_)
 ·
  have hlt:x.2 < padZ d.length:=by
   have h1:¬ (d.length + 1 + x.2) % 64=56:=by rw [hzl] at hc34; intro e; simp at hc34; omega
   have:=padZ_stop d.length
   rcases Nat.lt_or_ge x.2 (padZ d.length) with h | h
   ·exact h
   ·exfalso; apply h1; rw [show x.2=padZ d.length by omega]; exact this
  refine K9 (X9 ?_)
  refine W_block ?_
  refine R9 (M9 rfl rfl (Lc9 rfl rfl (by decide) (OpT_buildOnes (r:=205) (bs [0]) rfl rfl Try.runUnderlying30 Try.sizeOf5 Try.zeroValue5 rfl rfl (by decide) rfl (bs_cells _) (fun v36=>(Lc9 rfl rfl (by decide) (Oa9 (r:=203) (r2:=205) rfl Try.underlying30 TI.hi5 TI.hz5 TI.hs5 TI.hby5 TI.hzs5 (by decide) rfl rfl rfl rfl (fun _ h=>rp9 h) (bs_one _) (by unfold maxLen; omega) (by omega) (fun v37=>?_)))))))
  refine (G9 rfl rfl (N9 (X_block ?_)))
  refine X_turn (P':=rowB 5 v37 (d++[128]++zs8 (x.2 + 1))) 203 rfl (fun h hp=>rowB_app0 hp) ?_
  exact Xr9 (v37,x.2 + 1) (by dsimp only; omega) (by show padZ d.length - (x.2 + 1) < padZ d.length - x.2; omega) (a9 rfl) (a9 rfl)
 ·
  have hxe:x.2=padZ d.length:=padZ_last hx (by rw [hzl] at hc34; simp at hc34; omega)
  rw [hxe] at hzl ⊢
  refine W_exit (X_then_exit (X_then_exit (X_block_exit (X9 ?_))))
  refine Q9 (R9 (M9 rfl rfl (L9 rfl (Pl9 (r:=0) rfl Try.runUnderlying30 rfl rfl hF) (L9 rfl (Pu_conv rfl rfl (conv_u64 d.length Try.runUnderlying3 Try.runUnderlying77 (by omega))) (L9 rfl (Pn9 rfl rfl rfl (run_mulU d.length 8 _ _ _ (by omega))) (G9 rfl rfl (N9 (X9 (Q9 (Q9 (R9 (G9 rfl rfl (N9 (X9 ?_))))))))))))))
  refine W_block ?_
  refine W_loop (α:=Value × Nat) (fun y=>[(0,vd),(2,.pointer (some ⟨g101,0,none⟩)),(3,.pointer (some ⟨g201,0,none⟩)),(4,.pointer (some ⟨g202,0,none⟩)),(5,y.1),(6,.int .u64 ((d.length * 8:Nat):Int)),(7,.int .i64 (7 - (y.2:Int)))]) (fun y=>[(0,F),(101,blk g101 29 (bs zeroId)),(201,blk g201 74 (ws KS)),(202,blk g202 76 (ws HS)),(203,rowB 5 y.1 (d++[128]++zs8 (padZ d.length)++(lenB d.length).take y.2))]) (fun y=>y.2≤8) (fun y=>8 - y.2) ((x.1,0)) (by dsimp only; omega) ⟨rfl,rfl,rfl,rfl,rfl,rfl,rfl,trivial⟩ ⟨rfl,rfl,rfl,rfl,look_eq rfl (by rw [List.take_zero,List.append_nil]),trivial⟩ (fun y hy=>?_)
  have hyl:(d++[128]++zs8 (padZ d.length)++(lenB d.length).take y.2).length=d.length + 1 + padZ d.length + y.2:=by rw [List.length_append,hzl,List.length_take,lenB_length]; omega
  refine Q9 (Q9 (R9 (M9 rfl rfl (L9 rfl (Pn9 rfl rfl rfl (run_geq _ _ _ _ _ _)) (N9 (X9 ?_))))))
  refine C9 rfl (fun hc43=>?_) (fun hc43=>?_)
  ·
   have hly:y.2 < 8:=by have:=of_decide_eq_true hc43; omega
   refine K9 (X9 ?_)
   refine Q9 ?_
   refine W_block ?_
   refine R9 (M9 rfl rfl (M9 rfl rfl (M9 rfl rfl ?_)))
   rw [show 7 - (y.2:Int)=((7 - y.2:Nat):Int) by omega]
   refine (L9 rfl (Pu_conv rfl rfl (conv_u64 (7 - y.2) Try.runUnderlying3 Try.runUnderlying71 (by omega))) (L9 rfl (Pn9 rfl rfl rfl (run_mulU 8 (7 - y.2) _ _ _ (by omega))) (L9 rfl (Pn9 rfl rfl rfl (run_shrU (d.length * 8) (8 * (7 - y.2)) _ _ _ (by omega))) (L9 rfl (Pu_conv rfl rfl (conv_byte _ _ Try.runUnderlying77 Try.runUnderlying5)) (Lc9 rfl rfl (by decide) (OpT_buildOnes (r:=205) (bs [lenAt d.length y.2]) rfl rfl Try.runUnderlying30 Try.sizeOf5 Try.zeroValue5 rfl rfl (by decide) rfl (bs_cells _) (fun v53=>(Lc9 rfl rfl (by decide) (Oa9 (r:=203) (r2:=205) rfl Try.underlying30 TI.hi5 TI.hz5 TI.hs5 TI.hby5 TI.hzs5 (by decide) rfl rfl rfl rfl (fun _ h=>rp9 h) (bs_one _) (by unfold maxLen; omega) (by omega) (fun v54=>?_))))))))))
   refine (G9 rfl rfl (N9 (X_block (X9 ?_))))
   refine R9 (M9 rfl rfl (L9 rfl (Pn9 rfl rfl rfl (run_sub _ _ _ _ _ (by omega))) (G9 rfl rfl (N9 ?_))))
   refine X_turn (P':=rowB 5 v54 (d++[128]++zs8 (padZ d.length)++(lenB d.length).take (y.2 + 1))) 203 rfl (fun h hp=>by rw [lenB_next hly]; exact rowB_appL hp) ?_
   exact Xr9 (v54,y.2 + 1) (by dsimp only; omega) (by show 8 - (y.2 + 1) < 8 - y.2; omega) ⟨rfl,rfl,rfl,rfl,rfl,rfl,lookV_eq rfl (int_eq (by dsimp only; omega)),trivial⟩ ⟨rfl,rfl,rfl,rfl,rfl,trivial⟩
  ·
   have hye:y.2=8:=by have:=of_decide_eq_false hc43; omega
   have hpe:d++[128]++zs8 (padZ d.length)++(lenB d.length).take 8=padB d:=by rw [List.take_of_length_le (by rw [lenB_length]; exact Nat.le_refl _)]; rfl
   have hpl:=padB_length d
   rw [hye,hpe]
   refine W_exit (X_then_exit (X_then_exit (X_block_exit (X9 ?_))))
   refine Q9 (R9 (Lc9 rfl rfl (by decide) (OpT_alloc (r:=205) (cs:=(ws (List.replicate 64 0))) rfl (zero_run (by kernel_rfl:(Try.prog.info? 74).bind (·.zero)=some (.agg (ws (List.replicate 64 0)).toArray))) rfl (fun g205=>(N9 (X9 (Q9 (Q9 (R9 (G9 rfl rfl (N9 (X9 ?_))))))))))))
   refine W_block ?_
   refine W_loop (α:=Nat × List UInt32) (fun p=>[(2,.pointer (some ⟨g101,0,none⟩)),(3,.pointer (some ⟨g201,0,none⟩)),(4,.pointer (some ⟨g202,0,none⟩)),(5,y.1),(8,.pointer (some ⟨g205,0,none⟩)),(9,.int .i64 ((64 * p.1:Nat):Int))]) (fun p=>[(0,F),(101,blk g101 29 (bs zeroId)),(201,blk g201 74 (ws KS)),(202,blk g202 76 (ws (mixes (padB d) (S8.of HS) p.1).list)),(203,rowB 5 y.1 (padB d)),(205,blk g205 74 (ws p.2))]) (fun p=>64 * p.1≤(padB d).length∧p.2.length=64) (fun p=>(padB d).length - 64 * p.1) ((0,List.replicate 64 0)) ⟨by dsimp only; omega,rfl⟩ (a9 rfl) (a9 rfl) (fun p hp=>?_)
   obtain ⟨hp1,hp2⟩:=hp
   refine Q9 (Q9 (R9 (M9 rfl rfl (M9 rfl rfl (L9 rfl (Pl9 (r:=203) rfl Try.runUnderlying30 rfl rfl (fun _ h=>rp9 h)) (L9 rfl (Pn9 rfl rfl rfl (run_lss _ _ _ _ _ _)) (N9 (X9 ?_))))))))
   refine C9 rfl (fun hc58=>?_) (fun hc58=>?_)
   ·
    have hlp:64 * p.1 + 64≤(padB d).length:=by have:=of_decide_eq_true hc58; omega
    obtain ⟨s,hs⟩:∃ s,(mixes (padB d) (S8.of HS) p.1)=s:=⟨_,rfl⟩
    rw [hs]
    refine K9 (X9 ?_)
    refine Q9 ?_
    refine W_block ?_
    refine Q9 (Q9 (R9 (G9 rfl rfl (N9 (X9 ?_)))))
    refine W_block ?_
    refine W_loop (α:=Nat) (fun x=>[(2,.pointer (some ⟨g101,0,none⟩)),(3,.pointer (some ⟨g201,0,none⟩)),(4,.pointer (some ⟨g202,0,none⟩)),(5,y.1),(8,.pointer (some ⟨g205,0,none⟩)),(9,.int .i64 ((64 * p.1:Nat):Int)),(10,.int .i64 (x:Int))]) (fun x=>[(0,F),(101,blk g101 29 (bs zeroId)),(201,blk g201 74 (ws KS)),(202,blk g202 76 (ws s.list)),(203,rowB 5 y.1 (padB d)),(205,blk g205 74 (ws (schW p.2 (padB d) (64 * p.1) x)))]) (fun x=>x≤16) (fun x=>16 - x) (0) (by omega) (a9 rfl) (a9 rfl) (fun x hx=>?_)
    have hzl:=schW_length (b:=padB d) (p:=64 * p.1) (t:=x) hp2 (by omega)
    refine Q9 (Q9 (R9 (M9 rfl rfl (L9 rfl (Pn9 rfl rfl rfl (run_lss _ _ _ _ _ _)) (N9 (X9 ?_))))))
    refine C9 rfl (fun hc62=>?_) (fun hc62=>?_)
    ·
     have hlt:x < 16:=by have:=of_decide_eq_true hc62; omega
     refine K9 (X9 ?_)
     refine Q9 ?_
     refine W_block ?_
     refine Q9 (R9 (M9 rfl rfl (M9 rfl rfl (L9 rfl (Pn9 rfl rfl rfl (run_mul _ _ _ _ _ (by omega))) (L9 rfl (Pn9 rfl rfl rfl (run_add _ _ _ _ _ (by omega))) (G9 rfl rfl (N9 (X9 ?_))))))))
     refine W_draw (N:=32) (by kernel_rfl) rfl [(0,_),(101,_),(201,_),(202,_),(203,_)] ⟨rfl,rfl,rfl,rfl,rfl,trivial⟩ ?_
     refine (T9 0 rfl rfl (Pm9 rfl rfl) (T9 1 rfl rfl (Pm9 rfl rfl) (T9 2 rfl rfl (Pm9 rfl rfl) (T9 3 rfl rfl (Pu_idxS1 (r:=203) rfl Try.runUnderlying30 Try.sizeOf5 rfl rfl rfl (fun _ h=>rp9 h) (by omega)) (T9 4 rfl rfl (Py9 (r:=203) rfl Try.isAgg5 rfl rfl (fun _ h=>rp9 h) (bs_atZ0 (k:=64 * p.1 + 4 * x) (by omega) (by omega))) (T9 5 rfl rfl (Pu_conv rfl rfl (conv_u8W _ Try.runUnderlying5 Try.runUnderlying73)) (T9 6 rfl rfl (Pn9 rfl rfl rfl (run_shlW _ (24) (by decide) _ _ _)) (T9 7 rfl rfl (Pm9 rfl rfl) (T9 8 rfl rfl (Pm9 rfl rfl) (T9 9 rfl rfl (Pn9 rfl rfl rfl (run_add _ _ _ _ _ (by omega))) (T9 10 rfl rfl (Pu_idxS1 (r:=203) rfl Try.runUnderlying30 Try.sizeOf5 rfl rfl rfl (fun _ h=>rp9 h) (by omega)) (T9 11 rfl rfl (Py9 (r:=203) rfl Try.isAgg5 rfl rfl (fun _ h=>rp9 h) (bs_atZ0 (k:=64 * p.1 + 4 * x + 1) (by omega) (by omega))) (T9 12 rfl rfl (Pu_conv rfl rfl (conv_u8W _ Try.runUnderlying5 Try.runUnderlying73)) (T9 13 rfl rfl (Pn9 rfl rfl rfl (run_shlW _ (16) (by decide) _ _ _)) (T9 14 rfl rfl (Pn9 rfl rfl rfl (run_orW _ _ _ _ _)) (T9 15 rfl rfl (Pm9 rfl rfl) (T9 16 rfl rfl (Pm9 rfl rfl) (T9 17 rfl rfl (Pn9 rfl rfl rfl (run_add _ _ _ _ _ (by omega))) (T9 18 rfl rfl (Pu_idxS1 (r:=203) rfl Try.runUnderlying30 Try.sizeOf5 rfl rfl rfl (fun _ h=>rp9 h) (by omega)) (T9 19 rfl rfl (Py9 (r:=203) rfl Try.isAgg5 rfl rfl (fun _ h=>rp9 h) (bs_atZ0 (k:=64 * p.1 + 4 * x + 2) (by omega) (by omega))) (T9 20 rfl rfl (Pu_conv rfl rfl (conv_u8W _ Try.runUnderlying5 Try.runUnderlying73)) (T9 21 rfl rfl (Pn9 rfl rfl rfl (run_shlW _ (8) (by decide) _ _ _)) (T9 22 rfl rfl (Pn9 rfl rfl rfl (run_orW _ _ _ _ _)) (T9 23 rfl rfl (Pm9 rfl rfl) (T9 24 rfl rfl (Pm9 rfl rfl) (T9 25 rfl rfl (Pn9 rfl rfl rfl (run_add _ _ _ _ _ (by omega))) (T9 26 rfl rfl (Pu_idxS1 (r:=203) rfl Try.runUnderlying30 Try.sizeOf5 rfl rfl rfl (fun _ h=>rp9 h) (by omega)) (T9 27 rfl rfl (Py9 (r:=203) rfl Try.isAgg5 rfl rfl (fun _ h=>rp9 h) (bs_atZ0 (k:=64 * p.1 + 4 * x + 3) (by omega) (by omega))) (T9 28 rfl rfl (Pu_conv rfl rfl (conv_u8W _ Try.runUnderlying5 Try.runUnderlying73)) (T9 29 rfl rfl (Pn9 rfl rfl rfl (run_orW _ _ _ _ _)) (T9 30 rfl rfl (Pu_idxA rfl Try.runUnderlying74 Try.sizeOf73 rfl rfl (by omega)) (Y9 [31] ?_))))))))))))))))))))))))))))))))
     refine Ac09 rfl rfl rfl (OpT_storeB1 (r:=205) rfl Try.sizeOf73 rfl rfl rfl rfl (by rw [ws_length,hzl]; omega) (ws_set _ _ _) ?_) ?_
     ·
      refine ⟨⟨rfl,rfl,rfl,rfl,rfl,trivial⟩,?_⟩
      refine (Ad9 (by kernel_rfl) (X_block (X9 ?_)))
      refine R9 (M9 rfl rfl (L9 rfl (Pn9 rfl rfl rfl (run_add _ _ _ _ _ (by omega))) (G9 rfl rfl (N9 ?_))))
      refine X_turn (P':=blk g205 74 (ws (schW p.2 (padB d) (64 * p.1) (x + 1)))) 205 rfl (fun h hp=>by rw [← schW_set (t:=x) (z:=(x:Int)) (w:=p.2) (x:=word (padB d) (64 * p.1 + 4 * x)) hp2 (by omega) (by omega) (by rw [if_pos hlt])]; exact hp) ?_
      exact Xr9 (x + 1) (by omega) (by omega) (a9 rfl) (a9 rfl)
     exact An9
    ·
     obtain rfl:x=16:=by have:=of_decide_eq_false hc62; omega
     refine W_exit (X_then_exit (X_then_exit (X_block_exit (X9 ?_))))
     refine Q9 (Q9 (R9 (G9 rfl rfl (N9 (X9 ?_)))))
     refine W_block ?_
     refine W_loop (α:=Nat) (fun x=>[(2,.pointer (some ⟨g101,0,none⟩)),(3,.pointer (some ⟨g201,0,none⟩)),(4,.pointer (some ⟨g202,0,none⟩)),(5,y.1),(8,.pointer (some ⟨g205,0,none⟩)),(9,.int .i64 ((64 * p.1:Nat):Int)),(12,.int .i64 (x:Int))]) (fun x=>[(0,F),(101,blk g101 29 (bs zeroId)),(201,blk g201 74 (ws KS)),(202,blk g202 76 (ws s.list)),(203,rowB 5 y.1 (padB d)),(205,blk g205 74 (ws (schW p.2 (padB d) (64 * p.1) x)))]) (fun x=>16≤x∧x≤64) (fun x=>64 - x) (16) (by omega) (a9 rfl) (a9 rfl) (fun x hx=>?_)
     obtain ⟨h16,h64⟩:=hx
     have hzl:=schW_length (b:=padB d) (p:=64 * p.1) (t:=x) hp2 h64
     refine Q9 (Q9 (R9 (M9 rfl rfl (L9 rfl (Pn9 rfl rfl rfl (run_lss _ _ _ _ _ _)) (N9 (X9 ?_))))))
     refine C9 rfl (fun hc101=>?_) (fun hc101=>?_)
     ·
      have hlt:x < 64:=by have:=of_decide_eq_true hc101; omega
      refine K9 (X9 ?_)
      refine Q9 ?_
      refine W_block ?_
      refine Q9 ?_
      refine W_draw (N:=10) (by kernel_rfl) rfl [(0,_),(101,_),(201,_),(202,_),(205,_)] ⟨rfl,rfl,rfl,rfl,rfl,trivial⟩ ?_
      refine (T9 0 rfl rfl (Pm9 rfl rfl) (T9 1 rfl rfl (Pn9 rfl rfl rfl (run_sub _ _ _ _ _ (by omega))) (T9 2 rfl rfl (Pu_idxA rfl Try.runUnderlying74 Try.sizeOf73 rfl rfl (by omega)) (T9 3 rfl rfl (Pb9 (r:=205) rfl Try.isAgg73 rfl rfl (ws_at0 (l:=(schW p.2 (padB d) (64 * p.1) x)) (k:=x - 15) (by omega) (by omega))) (T9 4 rfl rfl (Pm9 rfl rfl) (T9 5 rfl rfl (Pn9 rfl rfl rfl (run_sub _ _ _ _ _ (by omega))) (T9 6 rfl rfl (Pu_idxA rfl Try.runUnderlying74 Try.sizeOf73 rfl rfl (by omega)) (T9 7 rfl rfl (Pb9 (r:=205) rfl Try.isAgg73 rfl rfl (ws_at0 (l:=(schW p.2 (padB d) (64 * p.1) x)) (k:=x - 2) (by omega) (by omega))) (T9 8 rfl rfl (Pg9 rfl rfl) (T9 9 rfl rfl (Pg9 rfl rfl) (Ad9 (by kernel_rfl) (X9 ?_))))))))))))
      refine W_drawI (N:=30) (by kernel_rfl) rfl [(0,_),(101,_),(201,_),(202,_),(205,frontW g205 74 (schW p.2 (padB d) (64 * p.1) x) x)] ⟨⟨_,rfl,fun h hp=>hp⟩,⟨⟨_,rfl,fun h hp=>hp⟩,⟨⟨_,rfl,fun h hp=>hp⟩,⟨⟨_,rfl,fun h hp=>hp⟩,⟨⟨_,rfl,by first | exact front_a (by omega) | exact front_b (by omega) (by omega)⟩,trivial⟩⟩⟩⟩⟩ ?_
      refine (T9 0 rfl rfl (Pm9 rfl rfl) (T9 1 rfl rfl (Pm9 rfl rfl) (T9 3 rfl rfl (Pm9 rfl rfl) (T9 6 rfl rfl (Pm9 rfl rfl) (T9 7 rfl rfl (Pn9 rfl rfl rfl (run_shrW _ (10) (by decide) _ _ _)) (T9 9 rfl rfl (Pm9 rfl rfl) (T9 10 rfl rfl (Pn9 rfl rfl rfl (run_sub _ _ _ _ _ (by omega))) (T9 11 rfl rfl (Pu_idxA rfl Try.runUnderlying74 Try.sizeOf73 rfl rfl (by omega)) (T9 12 rfl rfl (Pu_load1 (r:=205) rfl Try.isAgg73 rfl rfl (fun h hp=>front_get hp (k:=x - 7) (by omega) (by omega))) (T9 14 rfl rfl (Pm9 rfl rfl) (T9 16 rfl rfl (Pm9 rfl rfl) (T9 19 rfl rfl (Pm9 rfl rfl) (T9 20 rfl rfl (Pn9 rfl rfl rfl (run_shrW _ (3) (by decide) _ _ _)) (T9 23 rfl rfl (Pm9 rfl rfl) (T9 24 rfl rfl (Pn9 rfl rfl rfl (run_sub _ _ _ _ _ (by omega))) (T9 25 rfl rfl (Pu_idxA rfl Try.runUnderlying74 Try.sizeOf73 rfl rfl (by omega)) (T9 26 rfl rfl (Pu_load1 (r:=205) rfl Try.isAgg73 rfl rfl (fun h hp=>front_get hp (k:=x - 16) (by omega) (by omega))) (Y9 [2] ?_))))))))))))))))))
      refine AHs_consI rfl rfl rfl (by decide) (Oc9 300 [0,101,201,202,203,205] [] rfl Try.call34 rfl rfl rfl (by decide) (by decide) (rot_spec _ 17 (by decide) _) (fun v114 Ps114 hR114=>?_)) ?_
      ·
       obtain ⟨rfl,rfl⟩:=hR114
       refine ⟨⟨⟨_,rfl,fun h hp=>hp⟩,⟨⟨_,rfl,fun h hp=>hp⟩,⟨⟨_,rfl,fun h hp=>hp⟩,⟨⟨_,rfl,fun h hp=>hp⟩,⟨⟨_,rfl,by first | exact front_a (by omega) | exact front_b (by omega) (by omega)⟩,trivial⟩⟩⟩⟩⟩,?_⟩
       refine (Y9 [4] ?_)
       refine AHs_consI rfl rfl rfl (by decide) (Oc9 400 [0,101,201,202,203,205] [] rfl Try.call34 rfl rfl rfl (by decide) (by decide) (rot_spec _ 19 (by decide) _) (fun v116 Ps116 hR116=>?_)) ?_
       ·
        obtain ⟨rfl,rfl⟩:=hR116
        refine ⟨⟨⟨_,rfl,fun h hp=>hp⟩,⟨⟨_,rfl,fun h hp=>hp⟩,⟨⟨_,rfl,fun h hp=>hp⟩,⟨⟨_,rfl,fun h hp=>hp⟩,⟨⟨_,rfl,by first | exact front_a (by omega) | exact front_b (by omega) (by omega)⟩,trivial⟩⟩⟩⟩⟩,?_⟩
        refine (T9 5 rfl rfl (Pn9 rfl rfl rfl (run_xorW _ _ _ _ _)) (T9 8 rfl rfl (Pn9 rfl rfl rfl (run_xorW _ _ _ _ _)) (T9 13 rfl rfl (Pn9 rfl rfl rfl (run_addW _ _ _ _ _)) (Y9 [15] ?_))))
        refine AHs_consI rfl rfl rfl (by decide) (Oc9 500 [0,101,201,202,203,205] [] rfl Try.call34 rfl rfl rfl (by decide) (by decide) (rot_spec _ 7 (by decide) _) (fun v127 Ps127 hR127=>?_)) ?_
        ·
         obtain ⟨rfl,rfl⟩:=hR127
         refine ⟨⟨⟨_,rfl,fun h hp=>hp⟩,⟨⟨_,rfl,fun h hp=>hp⟩,⟨⟨_,rfl,fun h hp=>hp⟩,⟨⟨_,rfl,fun h hp=>hp⟩,⟨⟨_,rfl,by first | exact front_a (by omega) | exact front_b (by omega) (by omega)⟩,trivial⟩⟩⟩⟩⟩,?_⟩
         refine (Y9 [17] ?_)
         refine AHs_consI rfl rfl rfl (by decide) (Oc9 600 [0,101,201,202,203,205] [] rfl Try.call34 rfl rfl rfl (by decide) (by decide) (rot_spec _ 18 (by decide) _) (fun v129 Ps129 hR129=>?_)) ?_
         ·
          obtain ⟨rfl,rfl⟩:=hR129
          refine ⟨⟨⟨_,rfl,fun h hp=>hp⟩,⟨⟨_,rfl,fun h hp=>hp⟩,⟨⟨_,rfl,fun h hp=>hp⟩,⟨⟨_,rfl,fun h hp=>hp⟩,⟨⟨_,rfl,by first | exact front_a (by omega) | exact front_b (by omega) (by omega)⟩,trivial⟩⟩⟩⟩⟩,?_⟩
          refine (T9 18 rfl rfl (Pn9 rfl rfl rfl (run_xorW _ _ _ _ _)) (T9 21 rfl rfl (Pn9 rfl rfl rfl (run_xorW _ _ _ _ _)) (T9 22 rfl rfl (Pn9 rfl rfl rfl (run_addW _ _ _ _ _)) (T9 27 rfl rfl (Pn9 rfl rfl rfl (run_addW _ _ _ _ _)) (T9 28 rfl rfl (Pu_idxA rfl Try.runUnderlying74 Try.sizeOf73 rfl rfl (by omega)) (Y9 [29] ?_))))))
          refine AHs_cons0I rfl rfl rfl (OpT_storeB1 (r:=205) rfl Try.sizeOf73 rfl rfl rfl rfl (by rw [ws_length,hzl]; omega) (ws_set _ _ _) ?_) ?_
          ·
           refine ⟨⟨⟨_,rfl,fun h hp=>hp⟩,⟨⟨_,rfl,fun h hp=>hp⟩,⟨⟨_,rfl,fun h hp=>hp⟩,⟨⟨_,rfl,fun h hp=>hp⟩,⟨⟨_,rfl,by first | exact front_a (by omega) | exact front_b (by omega) (by omega)⟩,trivial⟩⟩⟩⟩⟩,?_⟩
           refine (Ad9 (by kernel_rfl) (X_block (X9 ?_)))
           refine R9 (M9 rfl rfl (L9 rfl (Pn9 rfl rfl rfl (run_add _ _ _ _ _ (by omega))) (G9 rfl rfl (N9 ?_))))
           refine X_turn (P':=blk g205 74 (ws (schW p.2 (padB d) (64 * p.1) (x + 1)))) 205 rfl (fun h hp=>by rw [← schW_set (t:=x) (z:=(x:Int)) hp2 (by omega) (by omega) (schW_next h16)]; exact hp) ?_
           exact Xr9 (x + 1) (by omega) (by omega) (a9 rfl) (a9 rfl)
          exact An9
         exact An9
        exact An9
       exact An9
      exact An9
     ·
      obtain rfl:x=64:=by have:=of_decide_eq_false hc101; omega
      rw [schW_full hp2]
      obtain ⟨ww,hW⟩:∃ ww,sch (padB d) (64 * p.1) 64=ww:=⟨_,rfl⟩
      have hWl:ww.length=64:=by rw [← hW]; exact sch_length _ _ _
      rw [hW]
      refine W_exit (X_then_exit (X_then_exit (X_block_exit (X9 ?_))))
      refine Q9 (R9 (L9 rfl (Px9 (r:=202) rfl Try.isAgg76 Try.sizeOf76 rfl rfl rfl (load_all rfl)) (Lc9 rfl rfl (by decide) (OpT_alloc (r:=206) (cs:=(ws [0,0,0,0,0,0,0,0])) rfl (zero_run (by kernel_rfl:(Try.prog.info? 76).bind (·.zero)=some (.agg (ws [0,0,0,0,0,0,0,0]).toArray))) rfl (fun g206=>(Lc09 rfl rfl (OpT_storeAll (r:=206) rfl Try.sizeOf76 rfl rfl rfl rfl rfl (ws_one _) ?_)))))))
      refine (N9 (X9 ?_))
      refine Q9 (Q9 (R9 (G9 rfl rfl (N9 (X9 ?_)))))
      refine W_block ?_
      refine W_loop (α:=Nat) (fun x=>[(2,.pointer (some ⟨g101,0,none⟩)),(3,.pointer (some ⟨g201,0,none⟩)),(4,.pointer (some ⟨g202,0,none⟩)),(5,y.1),(8,.pointer (some ⟨g205,0,none⟩)),(9,.int .i64 ((64 * p.1:Nat):Int)),(15,.pointer (some ⟨g206,0,none⟩)),(16,.int .i64 (x:Int))]) (fun x=>[(0,F),(101,blk g101 29 (bs zeroId)),(201,blk g201 74 (ws KS)),(202,blk g202 76 (ws s.list)),(203,rowB 5 y.1 (padB d)),(205,blk g205 74 (ws ww)),(206,blk g206 76 (ws (rnds ww s x).list))]) (fun x=>x≤64) (fun x=>64 - x) (0) (by omega) (a9 rfl) (a9 rfl) (fun x hx=>?_)
      refine Q9 (Q9 (R9 (M9 rfl rfl (L9 rfl (Pn9 rfl rfl rfl (run_lss _ _ _ _ _ _)) (N9 (X9 ?_))))))
      refine C9 rfl (fun hc143=>?_) (fun hc143=>?_)
      ·
       have hlt:x < 64:=by have:=of_decide_eq_true hc143; omega
       obtain ⟨A,hA⟩:∃ A,rnds ww s x=A:=⟨_,rfl⟩
       have hA1:rnds ww s (x + 1)=rnd (KS.getD x 0) (ww.getD x 0) A:=by rw [← hA]; rfl
       rw [hA]
       refine K9 (X9 ?_)
       refine Q9 ?_
       refine W_block ?_
       refine Q9 (R9 (L9 rfl (Pu_idxA rfl Try.runUnderlying76 Try.sizeOf73 rfl rfl (by omega)) (L9 rfl (Pb9 (r:=206) rfl Try.isAgg73 rfl rfl rfl) (G9 rfl rfl (N9 (X9 (Q9 ?_)))))))
       refine W_draw (N:=31) (by kernel_rfl) rfl [(0,_),(101,_),(201,_),(202,_),(205,_),(206,_)] ⟨rfl,rfl,rfl,rfl,rfl,rfl,trivial⟩ ?_
       refine (T9 0 rfl rfl (Pu_idxA rfl Try.runUnderlying76 Try.sizeOf73 rfl rfl (by omega)) (T9 1 rfl rfl (Pb9 (r:=206) rfl Try.isAgg73 rfl rfl rfl) (T9 2 rfl rfl (Pm9 rfl rfl) (T9 4 rfl rfl (Pm9 rfl rfl) (T9 7 rfl rfl (Pm9 rfl rfl) (T9 11 rfl rfl (Pm9 rfl rfl) (T9 12 rfl rfl (Pu_idxA rfl Try.runUnderlying76 Try.sizeOf73 rfl rfl (by omega)) (T9 13 rfl rfl (Pb9 (r:=206) rfl Try.isAgg73 rfl rfl rfl) (T9 14 rfl rfl (Pn9 rfl rfl rfl (run_andW _ _ _ _ _)) (T9 15 rfl rfl (Pm9 rfl rfl) (T9 16 rfl rfl (Pu_un rfl rfl (run_notW _)) (T9 17 rfl rfl (Pu_idxA rfl Try.runUnderlying76 Try.sizeOf73 rfl rfl (by omega)) (T9 18 rfl rfl (Pb9 (r:=206) rfl Try.isAgg73 rfl rfl rfl) (T9 19 rfl rfl (Pn9 rfl rfl rfl (run_andW _ _ _ _ _)) (T9 20 rfl rfl (Pn9 rfl rfl rfl (run_xorW _ _ _ _ _)) (T9 22 rfl rfl (Pm9 rfl rfl) (T9 23 rfl rfl (Pu_idxA rfl Try.runUnderlying74 Try.sizeOf73 rfl rfl (by omega)) (T9 24 rfl rfl (Pb9 (r:=201) rfl Try.isAgg73 rfl rfl (ws_at0 (k:=x) (by omega) (by rw [KS_length]; omega))) (T9 26 rfl rfl (Pm9 rfl rfl) (T9 27 rfl rfl (Pu_idxA rfl Try.runUnderlying74 Try.sizeOf73 rfl rfl (by omega)) (T9 28 rfl rfl (Pb9 (r:=205) rfl Try.isAgg73 rfl rfl (ws_at0 (l:=ww) (k:=x) (by omega) (by omega))) (Y9 [3] ?_))))))))))))))))))))))
       refine Z9 rfl rfl (Oc9 300 [0,101,201,202,203,205,206] [] rfl Try.call34 rfl rfl rfl (by decide) (by decide) (rot_spec _ 6 (by decide) _) (fun v151 Ps151 hR151=>?_)) ?_
       ·
        obtain ⟨rfl,rfl⟩:=hR151
        refine ⟨⟨rfl,rfl,rfl,rfl,rfl,rfl,trivial⟩,?_⟩
        refine (Y9 [5] ?_)
        refine Z9 rfl rfl (Oc9 400 [0,101,201,202,203,205,206] [] rfl Try.call34 rfl rfl rfl (by decide) (by decide) (rot_spec _ 11 (by decide) _) (fun v153 Ps153 hR153=>?_)) ?_
        ·
         obtain ⟨rfl,rfl⟩:=hR153
         refine ⟨⟨rfl,rfl,rfl,rfl,rfl,rfl,trivial⟩,?_⟩
         refine (T9 6 rfl rfl (Pn9 rfl rfl rfl (run_xorW _ _ _ _ _)) (Y9 [8] ?_))
         refine Z9 rfl rfl (Oc9 500 [0,101,201,202,203,205,206] [] rfl Try.call34 rfl rfl rfl (by decide) (by decide) (rot_spec _ 25 (by decide) _) (fun v156 Ps156 hR156=>?_)) ?_
         ·
          obtain ⟨rfl,rfl⟩:=hR156
          refine ⟨⟨rfl,rfl,rfl,rfl,rfl,rfl,trivial⟩,?_⟩
          refine (T9 9 rfl rfl (Pn9 rfl rfl rfl (run_xorW _ _ _ _ _)) (T9 10 rfl rfl (Pn9 rfl rfl rfl (run_addW _ _ _ _ _)) (T9 21 rfl rfl (Pn9 rfl rfl rfl (run_addW _ _ _ _ _)) (T9 25 rfl rfl (Pn9 rfl rfl rfl (run_addW _ _ _ _ _)) (T9 29 rfl rfl (Pn9 rfl rfl rfl (run_addW _ _ _ _ _)) (T9 30 rfl rfl (Pg9 rfl rfl) (Ad9 (by kernel_rfl) (X9 ?_))))))))
          refine Q9 ?_
          refine W_draw (N:=30) (by kernel_rfl) rfl [(0,_),(101,_),(201,_),(202,_),(205,_),(206,_)] ⟨rfl,rfl,rfl,rfl,rfl,rfl,trivial⟩ ?_
          refine (T9 0 rfl rfl (Pu_idxA rfl Try.runUnderlying76 Try.sizeOf73 rfl rfl (by omega)) (T9 1 rfl rfl (Pb9 (r:=206) rfl Try.isAgg73 rfl rfl rfl) (T9 3 rfl rfl (Pu_idxA rfl Try.runUnderlying76 Try.sizeOf73 rfl rfl (by omega)) (T9 4 rfl rfl (Pb9 (r:=206) rfl Try.isAgg73 rfl rfl rfl) (T9 7 rfl rfl (Pu_idxA rfl Try.runUnderlying76 Try.sizeOf73 rfl rfl (by omega)) (T9 8 rfl rfl (Pb9 (r:=206) rfl Try.isAgg73 rfl rfl rfl) (T9 11 rfl rfl (Pu_idxA rfl Try.runUnderlying76 Try.sizeOf73 rfl rfl (by omega)) (T9 12 rfl rfl (Pb9 (r:=206) rfl Try.isAgg73 rfl rfl rfl) (T9 13 rfl rfl (Pu_idxA rfl Try.runUnderlying76 Try.sizeOf73 rfl rfl (by omega)) (T9 14 rfl rfl (Pb9 (r:=206) rfl Try.isAgg73 rfl rfl rfl) (T9 15 rfl rfl (Pn9 rfl rfl rfl (run_andW _ _ _ _ _)) (T9 16 rfl rfl (Pu_idxA rfl Try.runUnderlying76 Try.sizeOf73 rfl rfl (by omega)) (T9 17 rfl rfl (Pb9 (r:=206) rfl Try.isAgg73 rfl rfl rfl) (T9 18 rfl rfl (Pu_idxA rfl Try.runUnderlying76 Try.sizeOf73 rfl rfl (by omega)) (T9 19 rfl rfl (Pb9 (r:=206) rfl Try.isAgg73 rfl rfl rfl) (T9 20 rfl rfl (Pn9 rfl rfl rfl (run_andW _ _ _ _ _)) (T9 21 rfl rfl (Pn9 rfl rfl rfl (run_xorW _ _ _ _ _)) (T9 22 rfl rfl (Pu_idxA rfl Try.runUnderlying76 Try.sizeOf73 rfl rfl (by omega)) (T9 23 rfl rfl (Pb9 (r:=206) rfl Try.isAgg73 rfl rfl rfl) (T9 24 rfl rfl (Pu_idxA rfl Try.runUnderlying76 Try.sizeOf73 rfl rfl (by omega)) (T9 25 rfl rfl (Pb9 (r:=206) rfl Try.isAgg73 rfl rfl rfl) (T9 26 rfl rfl (Pn9 rfl rfl rfl (run_andW _ _ _ _ _)) (T9 27 rfl rfl (Pn9 rfl rfl rfl (run_xorW _ _ _ _ _)) (Y9 [2] ?_))))))))))))))))))))))))
          refine Z9 rfl rfl (Oc9 600 [0,101,201,202,203,205,206] [] rfl Try.call34 rfl rfl rfl (by decide) (by decide) (rot_spec _ 2 (by decide) _) (fun v180 Ps180 hR180=>?_)) ?_
          ·
           obtain ⟨rfl,rfl⟩:=hR180
           refine ⟨⟨rfl,rfl,rfl,rfl,rfl,rfl,trivial⟩,?_⟩
           refine (Y9 [5] ?_)
           refine Z9 rfl rfl (Oc9 700 [0,101,201,202,203,205,206] [] rfl Try.call34 rfl rfl rfl (by decide) (by decide) (rot_spec _ 13 (by decide) _) (fun v183 Ps183 hR183=>?_)) ?_
           ·
            obtain ⟨rfl,rfl⟩:=hR183
            refine ⟨⟨rfl,rfl,rfl,rfl,rfl,rfl,trivial⟩,?_⟩
            refine (T9 6 rfl rfl (Pn9 rfl rfl rfl (run_xorW _ _ _ _ _)) (Y9 [9] ?_))
            refine Z9 rfl rfl (Oc9 800 [0,101,201,202,203,205,206] [] rfl Try.call34 rfl rfl rfl (by decide) (by decide) (rot_spec _ 22 (by decide) _) (fun v187 Ps187 hR187=>?_)) ?_
            ·
             obtain ⟨rfl,rfl⟩:=hR187
             refine ⟨⟨rfl,rfl,rfl,rfl,rfl,rfl,trivial⟩,?_⟩
             refine (T9 10 rfl rfl (Pn9 rfl rfl rfl (run_xorW _ _ _ _ _)) (T9 28 rfl rfl (Pn9 rfl rfl rfl (run_addW _ _ _ _ _)) (T9 29 rfl rfl (Pg9 rfl rfl) (Ad9 (by kernel_rfl) (X9 ?_)))))
             refine R9 (M9 rfl rfl (M9 rfl rfl (L9 rfl (Pn9 rfl rfl rfl (run_addW _ _ _ _ _)) (L9 rfl (Pu_idxA rfl Try.runUnderlying76 Try.sizeOf73 rfl rfl (by omega)) (L9 rfl (Pb9 (r:=206) rfl Try.isAgg73 rfl rfl rfl) (L9 rfl (Pu_idxA rfl Try.runUnderlying76 Try.sizeOf73 rfl rfl (by omega)) (L9 rfl (Pb9 (r:=206) rfl Try.isAgg73 rfl rfl rfl) (L9 rfl (Pu_idxA rfl Try.runUnderlying76 Try.sizeOf73 rfl rfl (by omega)) (L9 rfl (Pb9 (r:=206) rfl Try.isAgg73 rfl rfl rfl) (L9 rfl (Pu_idxA rfl Try.runUnderlying76 Try.sizeOf73 rfl rfl (by omega)) (L9 rfl (Pb9 (r:=206) rfl Try.isAgg73 rfl rfl rfl) (M9 rfl rfl (L9 rfl (Pn9 rfl rfl rfl (run_addW _ _ _ _ _)) (L9 rfl (Pu_idxA rfl Try.runUnderlying76 Try.sizeOf73 rfl rfl (by omega)) (L9 rfl (Pb9 (r:=206) rfl Try.isAgg73 rfl rfl rfl) (L9 rfl (Pu_idxA rfl Try.runUnderlying76 Try.sizeOf73 rfl rfl (by omega)) (L9 rfl (Pb9 (r:=206) rfl Try.isAgg73 rfl rfl rfl) (L9 rfl (Pu_idxA rfl Try.runUnderlying76 Try.sizeOf73 rfl rfl (by omega)) (L9 rfl (Pb9 (r:=206) rfl Try.isAgg73 rfl rfl rfl) (L9 rfl (Pu_built (cells:=ws (rnd (KS.getD x 0) (ww.getD x 0) A).list) rfl rfl (built8 Try.underlying76 (by kernel_rfl) (by kernel_rfl) _ _ _ _ _ _ _ _)) (Lc09 rfl rfl (OpT_storeAll (r:=206) rfl Try.sizeOf76 rfl rfl rfl rfl rfl (ws_one _) ?_))))))))))))))))))))))
             rw [← hA1]
             refine (N9 (X_block (X9 ?_)))
             refine R9 (M9 rfl rfl (L9 rfl (Pn9 rfl rfl rfl (run_add _ _ _ _ _ (by omega))) (G9 rfl rfl (N9 ?_))))
             exact Xr9 (x + 1) (by omega) (by omega) (a9 rfl) (a9 rfl)
            exact An9
           exact An9
          exact An9
         exact An9
        exact An9
       exact An9
      ·
       obtain rfl:x=64:=by have:=of_decide_eq_false hc143; omega
       obtain ⟨A,hA⟩:∃ A,rnds ww s 64=A:=⟨_,rfl⟩
       rw [hA]
       have hmix:(mixes (padB d) (S8.of HS) (p.1 + 1))=addS s A:=by show mixS (padB d) (64 * p.1) (mixes (padB d) (S8.of HS) p.1)=_; rw [hs]; unfold mixS; rw [hW,hA]
       refine W_exit (X_then_exit (X_then_exit (X_block_exit (X9 ?_))))
       refine Q9 (R9 (G9 rfl rfl (N9 (X9 ?_))))
       refine W_block ?_
       refine W_loop (α:=Nat) (fun x=>[(2,.pointer (some ⟨g101,0,none⟩)),(3,.pointer (some ⟨g201,0,none⟩)),(4,.pointer (some ⟨g202,0,none⟩)),(5,y.1),(8,.pointer (some ⟨g205,0,none⟩)),(9,.int .i64 ((64 * p.1:Nat):Int)),(15,.pointer (some ⟨g206,0,none⟩)),(20,.int .i64 (x:Int))]) (fun x=>[(0,F),(101,blk g101 29 (bs zeroId)),(201,blk g201 74 (ws KS)),(202,blk g202 76 (ws (addK s.list A.list x))),(203,rowB 5 y.1 (padB d)),(205,blk g205 74 (ws ww)),(206,blk g206 76 (ws A.list))]) (fun x=>x≤8) (fun x=>8 - x) (0) (by omega) (a9 rfl) (a9 rfl) (fun x hx=>?_)
       have hal:=addK_length (s:=s.list) (a:=A.list) rfl rfl hx
       refine Q9 (Q9 (R9 (M9 rfl rfl (L9 rfl (Pn9 rfl rfl rfl (run_lss _ _ _ _ _ _)) (N9 (X9 ?_))))))
       refine C9 rfl (fun hc228=>?_) (fun hc228=>?_)
       ·
        have hlt:x < 8:=by have:=of_decide_eq_true hc228; omega
        refine K9 (X9 ?_)
        refine Q9 ?_
        refine W_block ?_
        refine W_draw (N:=9) (by kernel_rfl) rfl [(0,_),(101,_),(201,_),(205,_),(206,_)] ⟨rfl,rfl,rfl,rfl,rfl,trivial⟩ ?_
        refine (T9 0 rfl rfl (Pm9 rfl rfl) (T9 1 rfl rfl (Pu_idxA rfl Try.runUnderlying76 Try.sizeOf73 rfl rfl (by omega)) (T9 3 rfl rfl (Pm9 rfl rfl) (T9 4 rfl rfl (Pu_idxA rfl Try.runUnderlying76 Try.sizeOf73 rfl rfl (by omega)) (T9 5 rfl rfl (Pb9 (r:=206) rfl Try.isAgg73 rfl rfl (ws_at0 (l:=A.list) (k:=x) (by omega) (by rw [S8.list_length]; omega))) (Y9 [2] ?_))))))
        refine Z9 rfl rfl (Or9 (Pb9 (r:=202) rfl Try.isAgg73 rfl rfl (ws_at0 (l:=addK s.list A.list x) (k:=x) (by omega) (by omega))) ⟨⟨rfl,rfl,rfl,rfl,rfl,trivial⟩,?_⟩) ?_
        ·
         refine (T9 6 rfl rfl (Pn9 rfl rfl rfl (run_addW _ _ _ _ _)) (T9 7 rfl rfl (Pu_idxA rfl Try.runUnderlying76 Try.sizeOf73 rfl rfl (by omega)) (Y9 [8] ?_)))
         refine Ac09 rfl rfl rfl (OpT_storeB1 (r:=202) rfl Try.sizeOf73 rfl rfl rfl rfl (by rw [ws_length,hal]; omega) (ws_set _ _ _) ?_) ?_
         ·
          refine ⟨⟨rfl,rfl,rfl,rfl,rfl,trivial⟩,?_⟩
          refine (Ad9 (by kernel_rfl) (X_block (X9 ?_)))
          refine R9 (M9 rfl rfl (L9 rfl (Pn9 rfl rfl rfl (run_add _ _ _ _ _ (by omega))) (G9 rfl rfl (N9 ?_))))
          refine X_turn (P':=blk g202 76 (ws (addK s.list A.list (x + 1)))) 202 rfl (fun h hp=>by rw [← addK_set (z:=(x:Int)) rfl rfl (by omega) hlt]; exact hp) ?_
          exact Xr9 (x + 1) (by omega) (by omega) (a9 rfl) (a9 rfl)
         exact An9
        exact An9
       ·
        obtain rfl:x=8:=by have:=of_decide_eq_false hc228; omega
        rw [addK_full,← hmix,← hW]
        refine W_exit (X_then_exit (X_then_exit (X_block_exit (X_block (X9 ?_)))))
        refine R9 (M9 rfl rfl (L9 rfl (Pn9 rfl rfl rfl (run_add _ _ _ _ _ (by omega))) (G9 rfl rfl (N9 ?_))))
        exact Xr9 (p.1 + 1,sch (padB d) (64 * p.1) 64) ⟨by dsimp only; omega,sch_length _ _ _⟩ (by show (padB d).length - 64 * (p.1 + 1) < (padB d).length - 64 * p.1; omega) ⟨rfl,rfl,rfl,rfl,rfl,lookV_eq rfl (int_eq (by dsimp only; omega)),trivial⟩ ⟨rfl,rfl,rfl,rfl,rfl,rfl,trivial⟩
   ·
    have hpe2:p.1=(padB d).length / 64:=by have:=of_decide_eq_false hc58; omega
    obtain ⟨S,hS⟩:∃ S,(mixes (padB d) (S8.of HS) p.1)=S:=⟨_,rfl⟩
    rw [hS]
    have hsha:sha d=outB S:=by unfold sha; rw [← hpe2,hS]
    refine W_exit (X_then_exit (X_then_exit (X_block_exit (X9 ?_))))
    refine Q9 (R9 (Lc9 rfl rfl (by decide) (OpT_alloc (r:=206) (cs:=(bs zeroId)) rfl (zero_run (by kernel_rfl:(Try.prog.info? 29).bind (·.zero)=some (.agg (bs zeroId).toArray))) rfl (fun g206=>(N9 (X9 (Q9 (Q9 (R9 (G9 rfl rfl (N9 (X9 ?_))))))))))))
    refine W_block ?_
    refine W_loop (α:=Nat) (fun x=>[(2,.pointer (some ⟨g101,0,none⟩)),(4,.pointer (some ⟨g202,0,none⟩)),(21,.pointer (some ⟨g206,0,none⟩)),(22,.int .i64 (x:Int))]) (fun x=>[(0,F),(101,blk g101 29 (bs zeroId)),(202,blk g202 76 (ws S.list)),(206,blk g206 29 (bs (outZ S (4 * x))))]) (fun x=>x≤8) (fun x=>8 - x) (0) (by omega) (a9 rfl) (a9 rfl) (fun x hx=>?_)
    refine Q9 (Q9 (R9 (M9 rfl rfl (L9 rfl (Pn9 rfl rfl rfl (run_lss _ _ _ _ _ _)) (N9 (X9 ?_))))))
    refine C9 rfl (fun hc240=>?_) (fun hc240=>?_)
    ·
     have hlt:x < 8:=by have:=of_decide_eq_true hc240; omega
     have hz0:=outZ_length (s:=S) (q:=4 * x) (by omega)
     have hz1:=outZ_length (s:=S) (q:=4 * x + 1) (by omega)
     have hz2:=outZ_length (s:=S) (q:=4 * x + 2) (by omega)
     have hz3:=outZ_length (s:=S) (q:=4 * x + 3) (by omega)
     refine K9 (X9 ?_)
     refine Q9 ?_
     refine W_block ?_
     refine W_draw (N:=38) (by kernel_rfl) rfl [(0,_),(101,_),(202,_)] ⟨rfl,rfl,rfl,trivial⟩ ?_
     refine (T9 0 rfl rfl (Pm9 rfl rfl) (T9 1 rfl rfl (Pn9 rfl rfl rfl (run_mul _ _ _ _ _ (by omega))) (T9 2 rfl rfl (Pm9 rfl rfl) (T9 3 rfl rfl (Pn9 rfl rfl rfl (run_mul _ _ _ _ _ (by omega))) (T9 4 rfl rfl (Pn9 rfl rfl rfl (run_add _ _ _ _ _ (by omega))) (T9 5 rfl rfl (Pm9 rfl rfl) (T9 6 rfl rfl (Pn9 rfl rfl rfl (run_mul _ _ _ _ _ (by omega))) (T9 7 rfl rfl (Pn9 rfl rfl rfl (run_add _ _ _ _ _ (by omega))) (T9 8 rfl rfl (Pm9 rfl rfl) (T9 9 rfl rfl (Pn9 rfl rfl rfl (run_mul _ _ _ _ _ (by omega))) (T9 10 rfl rfl (Pn9 rfl rfl rfl (run_add _ _ _ _ _ (by omega))) (T9 11 rfl rfl (Pm9 rfl rfl) (T9 12 rfl rfl (Pu_idxA rfl Try.runUnderlying76 Try.sizeOf73 rfl rfl (by omega)) (T9 13 rfl rfl (Pb9 (r:=202) rfl Try.isAgg73 rfl rfl (ws_at0 (l:=S.list) (k:=x) (by omega) (by rw [S8.list_length]; omega))) (T9 14 rfl rfl (Pn9 rfl rfl rfl (run_shrW _ (24) (by decide) _ _ _)) (T9 15 rfl rfl (Pu_conv rfl rfl (conv_byteW _ Try.runUnderlying73 Try.runUnderlying5)) (T9 16 rfl rfl (Pm9 rfl rfl) (T9 17 rfl rfl (Pu_idxA rfl Try.runUnderlying76 Try.sizeOf73 rfl rfl (by omega)) (T9 18 rfl rfl (Pb9 (r:=202) rfl Try.isAgg73 rfl rfl (ws_at0 (l:=S.list) (k:=x) (by omega) (by rw [S8.list_length]; omega))) (T9 19 rfl rfl (Pn9 rfl rfl rfl (run_shrW _ (16) (by decide) _ _ _)) (T9 20 rfl rfl (Pu_conv rfl rfl (conv_byteW _ Try.runUnderlying73 Try.runUnderlying5)) (T9 21 rfl rfl (Pm9 rfl rfl) (T9 22 rfl rfl (Pu_idxA rfl Try.runUnderlying76 Try.sizeOf73 rfl rfl (by omega)) (T9 23 rfl rfl (Pb9 (r:=202) rfl Try.isAgg73 rfl rfl (ws_at0 (l:=S.list) (k:=x) (by omega) (by rw [S8.list_length]; omega))) (T9 24 rfl rfl (Pn9 rfl rfl rfl (run_shrW _ (8) (by decide) _ _ _)) (T9 25 rfl rfl (Pu_conv rfl rfl (conv_byteW _ Try.runUnderlying73 Try.runUnderlying5)) (T9 26 rfl rfl (Pm9 rfl rfl) (T9 27 rfl rfl (Pu_idxA rfl Try.runUnderlying76 Try.sizeOf73 rfl rfl (by omega)) (T9 28 rfl rfl (Pb9 (r:=202) rfl Try.isAgg73 rfl rfl (ws_at0 (l:=S.list) (k:=x) (by omega) (by rw [S8.list_length]; omega))) (T9 29 rfl rfl (Pu_conv rfl rfl (conv_byteW _ Try.runUnderlying73 Try.runUnderlying5)) (T9 30 rfl rfl (Pu_idxA rfl Try.runUnderlying29 Try.sizeOf5 rfl rfl (by omega)) (Y9 [31] ?_))))))))))))))))))))))))))))))))
     refine Ac09 rfl rfl rfl (OpT_storeB1 (r:=206) rfl Try.sizeOf5 rfl rfl rfl rfl (by rw [bs_length,hz0]; omega) (outZ_set (k:=0) hlt (by decide) (by omega)) ?_) ?_
     ·
      refine ⟨⟨rfl,rfl,rfl,trivial⟩,?_⟩
      refine (T9 32 rfl rfl (Pu_idxA rfl Try.runUnderlying29 Try.sizeOf5 rfl rfl (by omega)) (Y9 [33] ?_))
      refine Ac09 rfl rfl rfl (OpT_storeB1 (r:=206) rfl Try.sizeOf5 rfl rfl rfl rfl (by rw [bs_length,hz1]; omega) (outZ_set (k:=1) hlt (by decide) (by omega)) ?_) ?_
      ·
       refine ⟨⟨rfl,rfl,rfl,trivial⟩,?_⟩
       refine (T9 34 rfl rfl (Pu_idxA rfl Try.runUnderlying29 Try.sizeOf5 rfl rfl (by omega)) (Y9 [35] ?_))
       refine Ac09 rfl rfl rfl (OpT_storeB1 (r:=206) rfl Try.sizeOf5 rfl rfl rfl rfl (by rw [bs_length,hz2]; omega) (outZ_set (k:=2) hlt (by decide) (by omega)) ?_) ?_
       ·
        refine ⟨⟨rfl,rfl,rfl,trivial⟩,?_⟩
        refine (T9 36 rfl rfl (Pu_idxA rfl Try.runUnderlying29 Try.sizeOf5 rfl rfl (by omega)) (Y9 [37] ?_))
        refine Ac09 rfl rfl rfl (OpT_storeB1 (r:=206) rfl Try.sizeOf5 rfl rfl rfl rfl (by rw [bs_length,hz3]; omega) (outZ_set3 hlt (by omega)) ?_) ?_
        ·
         refine ⟨⟨rfl,rfl,rfl,trivial⟩,?_⟩
         refine (Ad9 (by kernel_rfl) (X_block (X9 ?_)))
         refine R9 (M9 rfl rfl (L9 rfl (Pn9 rfl rfl rfl (run_add _ _ _ _ _ (by omega))) (G9 rfl rfl (N9 ?_))))
         exact Xr9 (x + 1) (by omega) (by omega) ⟨rfl,rfl,rfl,rfl,trivial⟩ ⟨rfl,rfl,rfl,look_eq rfl (by rw [show 4 * (x + 1)=4 * x + 3 + 1 by omega]),trivial⟩
        exact An9
       exact An9
      exact An9
     exact An9
    ·
     obtain rfl:x=8:=by have:=of_decide_eq_false hc240; omega
     rw [show 4 * 8=32 from rfl,outZ_full]
     refine W_exit (X_then_exit (X_then_exit (X_block_exit (X9 ?_))))
     refine Q9 (R9 (L9 rfl (Px9 (r:=206) rfl Try.isAgg29 Try.sizeOf29 rfl rfl rfl (load_all rfl)) (Lc09 rfl rfl (OpT_storeAll (r:=101) rfl Try.sizeOf29 rfl rfl rfl rfl rfl (bs_one _) ?_))))
     refine (N9 (X9 ?_))
     refine W_ret ?_
     exact Xq9 [] (Ps:=[]) (resC1 (r:=101) Try.results14 rfl Try.isAgg29 Try.sizeOf29 rfl rfl) rfl (by decide) ⟨by rw [hsha]; rfl,rfl⟩
open Go.RowKit
theorem numB_two (n:Int):numB n 2=[byte (n.fdiv (2 ^ 8)),byte n]:=by
  unfold numB
  show [byte (n.fdiv (2 ^ 8)),byte (n.fdiv (2 ^ 0))]=_
  rw [show ((2:Int) ^ 0)=1 from rfl,Int.fdiv_one]
theorem blk_all {g t m:Nat} {l:List UInt8} {h:Hlt} (hb:blk g t (bs l) h) (hm:l.length=m):rdP 1 (.slice (some ⟨g,0,none⟩) m m) m (bs l) h :=
  blk_rd (size:=1) hb (by rw [List.drop_zero,List.take_of_length_le (by rw [bs_length]; omega)]) (by rw [bs_length]; omega) (Nat.le_refl _)
section
variable {P:Program} {E:Env} {n:Nat} {K:Slots} {L:Res} {Q:Exit→Act→World→Prop} {ops:Array Oper} {C:Exit→Act→World→Prop}
theorem AH_turn {P':HP} {S:Res} {fuel:Nat} {listed:Array Bool} (r:Nat) {Pr:HP} (hr:look L r=some Pr) (hp:∀ h,Pr h→P' h) (k:AH P E n ops S fuel listed K ((r,P')::L) Q):AH P E n ops S fuel listed K L Q:=fun a w hA hS hh=>k a w hA (hS.cons hr hp) hh
theorem Lt9 {P':HP} {l:List Oper} (r:Nat) {Pr:HP} (hr:look L r=some Pr) (hp:∀ h,Pr h→P' h) (k:WL P E n ops l K ((r,P')::L) Q):WL P E n ops l K L Q:=fun a w hA hS=>k a w hA (hS.cons hr hp)
end
theorem rowB_mk {e m:Nat} {v:Value} {xs:List Value} {l:List UInt8} {h:Hlt} (hp:rowP e 1 v m xs h) (hm:m=l.length) (hx:xs=bs l):rowB e v l h:=by subst hm; subst hx; exact hp
theorem hdL_length {nm:List UInt8} {q:Int} (hn:nm.length=16):(hdL nm q).length=20:=by unfold hdL; rw [List.length_append,hn,numB_length]
theorem rows_step (A:List UInt8) (Y:Nat→List UInt8) (n:Nat):bs (A++rowsC Y n)++bs (Y n)=bs (A++rowsC Y (n + 1)):=by rw [rowsC,bs_append,bs_append,bs_append,List.append_assoc]
theorem rows_len {A:List UInt8} {Y:Nat→List UInt8} {n m:Nat} (h:(Y n).length=m):(A++rowsC Y n).length + m=(A++rowsC Y (n + 1)).length:=by rw [rowsC,List.length_append,List.length_append,List.length_append,h]; omega
theorem at0_off (l:List UInt8) (a j:Nat):at0 (l.drop a) j=at0 l (a + j):=by simp [at0,List.getElem?_drop]
def nsC (l:List Nat):List Value:=l.map fun a:Nat=>Value.int .i64 (a:Int)
def nsV (l:List Nat):Value:=.agg (nsC l).toArray
theorem nsC_length (l:List Nat):(nsC l).length=l.length:=by simp [nsC]
theorem nsC_get {l:List Nat} {k:Nat} (h:k < l.length):(nsC l)[k]?=some (.int .i64 ((l.getD k 0:Nat):Int)):=by
  simp [nsC,List.getElem?_eq_getElem h]
theorem nsC_one (l:List Nat):∀ x ∈ nsC l,x.oneCell'=true:=by
  intro x hx
  obtain ⟨a,_,rfl⟩:=List.mem_map.1 hx
  rfl
def digZ (b:List UInt8) (k:Nat):List Nat:=(List.range k).map (dig b)++List.replicate (133 - k) 0
def digL (b:List UInt8):List Nat:=(List.range 133).map (dig b)
theorem digZ_length (b:List UInt8) {k:Nat} (h:k≤133):(digZ b k).length=133:=by simp [digZ]; omega
theorem digZ_full (b:List UInt8):digZ b 133=digL b:=by simp [digZ,digL]
theorem digL_length (b:List UInt8):(digL b).length=133:=by simp [digL]
theorem digL_get (b:List UInt8) {k:Nat} (h:k < 133):(digL b).getD k 0=dig b k:=by simp [digL,List.getElem?_range h]
theorem digA_get (nm:List UInt8) (q:Int) (c msg:List UInt8) {k:Nat} (h:k < 133):(nsC (digL (digB2 nm q c msg)))[0 + (k:Int).toNat]?=some (.int .i64 ((digA nm q c msg k:Nat):Int)):=by
  rw [Nat.zero_add,Int.toNat_natCast,nsC_get (by rw [digL_length]; exact h),digL_get _ h]
  rfl
theorem digZ_set (b:List UInt8) {k:Nat} (h:k < 133):(nsC (digZ b k)).set k (.int .i64 ((dig b k:Nat):Int))=nsC (digZ b (k + 1)):=by
  unfold nsC
  have e:List.replicate (133 - k) 0=0::List.replicate (133 - (k + 1)) 0:=by rw [show 133 - k=(133 - (k + 1)) + 1 by omega]; rfl
  unfold digZ
  rw [e,List.range_succ,List.map_append,List.map_append,List.map_append,List.map_append,List.append_assoc]
  have hl:((List.map (fun a:Nat=>Value.int .i64 (a:Int)) (List.map (dig b) (List.range k)))).length=k:=by simp
  rw [List.set_append_right _ _ (by omega),hl,Nat.sub_self]
  rfl
theorem digZ_get0 (b:List UInt8):nsC (digZ b 0)=List.replicate 133 (.int .i64 0):=by
  unfold nsC digZ
  rw [show List.range 0=[] from rfl,List.map_nil,List.nil_append,List.map_replicate]
  rfl
section
variable {P:Program} {E:Env} {n:Nat} {K:Slots} {L:Res} {o:Oper}
set_option maxRecDepth 100000 in
theorem u8_and3:∀ x:Fin 256,bits .and .u8 ((x.val:Nat):Int) 3=((x.val % 4:Nat):Int):=by decide
theorem run_and3 (a:Nat) (ha:a < 256) (t:TypeId) (y z:Operand) (w:World):((do eqGuard .and t y z (.int .u8 (a:Int)) (.int .u8 3); binOp .and t (.int .u8 (a:Int)) (.int .u8 3):Sem Value)).run P w = .ok (.int .u8 ((a % 4:Nat):Int)) w :=
  run_and _ _ (u8_and3 ⟨a,ha⟩) t y z w
theorem run_andI3 (a:Nat) (h1:a < 4611686018427387904) (t:TypeId) (x y:Operand) (w:World):((do eqGuard .and t x y (.int .i64 (a:Int)) (.int .i64 3); binOp .and t (.int .i64 (a:Int)) (.int .i64 3):Sem Value)).run P w = .ok (.int .i64 ((a % 4:Nat):Int)) w:=by
  have p62:(2:Int) ^ 62=4611686018427387904:=by decide
  have q1:∀ n:Int,0≤n→n < 2 ^ 62→IntKind.i64.wrap n=n:=fun n h0 h1=>IntWalk.i64_in _ (by rw [p62] at h1; omega)
  refine run_and _ _ ((bits_mask .i64 62 (by decide) q1 2 (by decide) (a:Int) (by omega) (by rw [p62]; omega)).trans ?_) t x y w
  omega
theorem run_shrB (x:UInt8) (m:Nat) (hm:m≤8) (t:TypeId) (y z:Operand) {kd:IntKind} (w:World):((do eqGuard .shr t y z (bv x) (.int kd (m:Int)); binOp .shr t (bv x) (.int kd (m:Int)):Sem Value)).run P w = .ok (.int .u8 ((x.toNat / 2 ^ m:Nat):Int)) w:=by
  refine run_shrR (P:=P) (k:=.u8) _ m hm ?_ t y z w
  rw [Int.fdiv_eq_ediv_of_nonneg _ (by exact_mod_cast Nat.zero_le _)]
  simp
theorem conv_nat8 (a:Nat) (ha:a < 256) {s d:TypeId} (hs:∀ w,(underlying s).run P w = .ok (.int .u8) w) (hd:∀ w,(underlying d).run P w = .ok (.int .i64) w) (w:World):(convert s d (.int .u8 (a:Int))).run P w = .ok (.int .i64 (a:Int)) w:=by
  have:=conv_u8 (P:=P) (UInt8.ofNat a) hs hd (by simp) w
  have h2:(UInt8.ofNat a).toNat=a:=by rw [UInt8.toNat_ofNat']; omega
  unfold bv at this
  rw [h2] at this
  exact this
theorem shr_lt {x:UInt8} {m:Nat}:x.toNat / 2 ^ m < 256:=Nat.lt_of_le_of_lt (Nat.div_le_self _ _) x.toNat_lt
end
open Go.RowKit
set_option maxRecDepth 8000

theorem four5_spec (e:TypeId) (he:e=5) (v:Value) (l:List UInt8) (n:Int) (hl:l.length≤100000000) (F:HP):CallsS Try.prog 58 #[v,.int .i64 n] F [rowB e v l] (fun r Ps=>Ps=[rowB e r (l++numB n 4)]):=by
 subst he
 unfold rowB
 refine callsS_enter Try.func58 rfl Try.ntmps58 (by simp) (fun E=>?_)
 refine Q9 (R9 (G9 rfl rfl (N9 (X9 (Q9 (R9 (M9 rfl rfl (M9 rfl rfl (L9 rfl (Pn9 rfl rfl rfl (run_shr _ 24 _ _ _ (by omega))) (L9 rfl (Pu_conv rfl rfl (conv_byte _ _ Try.runUnderlying3 Try.runUnderlying5)) (M9 rfl rfl (L9 rfl (Pn9 rfl rfl rfl (run_shr _ 16 _ _ _ (by omega))) (L9 rfl (Pu_conv rfl rfl (conv_byte _ _ Try.runUnderlying3 Try.runUnderlying5)) (M9 rfl rfl (L9 rfl (Pn9 rfl rfl rfl (run_shr _ 8 _ _ _ (by omega))) (L9 rfl (Pu_conv rfl rfl (conv_byte _ _ Try.runUnderlying3 Try.runUnderlying5)) (M9 rfl rfl (L9 rfl (Pu_conv rfl rfl (conv_byte _ _ Try.runUnderlying3 Try.runUnderlying5)) (Lc9 rfl rfl (by decide) (OpT_buildOnes (r:=101) (bs (numB n 4)) rfl rfl Try.runUnderlying30 Try.sizeOf5 Try.zeroValue5 rfl rfl (by decide) (by rw [numB_four]; rfl) (bs_cells _) (fun v17=>(Lc9 rfl rfl (by decide) (Oa9 (r:=1) (r2:=101) rfl Try.underlying30 TI.hi5 TI.hz5 TI.hs5 TI.hby5 TI.hzs5 (by decide) rfl rfl rfl rfl (fun _ h=>rp9 h) (bs_one _) (by unfold maxLen; omega) (by omega) (fun v18=>?_))))))))))))))))))))))))
 refine (G9 rfl rfl (N9 (X9 ?_)))
 refine W_ret ?_
 exact Xq9 [1] (Ps:=[_]) (res1 Try.results58 rfl) rfl (by decide) (congrArg (·::[]) (rowB_of _ (by simp [numB_length]) (by rw [bs_append])))
theorem two5_spec (e:TypeId) (he:e=5) (v:Value) (l:List UInt8) (n:Int) (hl:l.length≤100000000) (F:HP):CallsS Try.prog 55 #[v,.int .i64 n] F [rowB e v l] (fun r Ps=>Ps=[rowB e r (l++numB n 2)]):=by
 subst he
 unfold rowB
 refine callsS_enter Try.func55 rfl Try.ntmps55 (by simp) (fun E=>?_)
 refine Q9 (R9 (G9 rfl rfl (N9 (X9 (Q9 (R9 (M9 rfl rfl (M9 rfl rfl (L9 rfl (Pn9 rfl rfl rfl (run_shr _ 8 _ _ _ (by omega))) (L9 rfl (Pu_conv rfl rfl (conv_byte _ _ Try.runUnderlying3 Try.runUnderlying5)) (M9 rfl rfl (L9 rfl (Pu_conv rfl rfl (conv_byte _ _ Try.runUnderlying3 Try.runUnderlying5)) (Lc9 rfl rfl (by decide) (OpT_buildOnes (r:=101) (bs (numB n 2)) rfl rfl Try.runUnderlying30 Try.sizeOf5 Try.zeroValue5 rfl rfl (by decide) (by rw [numB_two]; rfl) (bs_cells _) (fun v11=>(Lc9 rfl rfl (by decide) (Oa9 (r:=1) (r2:=101) rfl Try.underlying30 TI.hi5 TI.hz5 TI.hs5 TI.hby5 TI.hzs5 (by decide) rfl rfl rfl rfl (fun _ h=>rp9 h) (bs_one _) (by unfold maxLen; omega) (by omega) (fun v12=>?_))))))))))))))))))
 refine (G9 rfl rfl (N9 (X9 ?_)))
 refine W_ret ?_
 exact Xq9 [1] (Ps:=[_]) (res1 Try.results55 rfl) rfl (by decide) (congrArg (·::[]) (rowB_of _ (by simp [numB_length]) (by rw [bs_append])))
theorem head5_spec (nm:List UInt8) (hn:nm.length=16) (q:Int) (F:HP):CallsS Try.prog 56 #[idV nm,.int .i64 q] F [] (fun r Ps=>Ps=[rowB 5 r (hdL nm q)]):=by
 refine callsS_enter Try.func56 rfl Try.ntmps56 (by simp) (fun E=>?_)
 refine Q9 (R9 (Lc9 rfl rfl (by decide) (OpT_box (r:=101) rfl rfl rfl (fun g101=>(G9 rfl rfl (N9 (X9 (Q9 (R9 (Lc9 rfl rfl (by decide) (OpT_buildOnes (r:=102) (bs []) rfl rfl Try.runUnderlying30 Try.sizeOf5 Try.zeroValue5 rfl rfl (by decide) rfl (bs_cells _) (fun v5=>(L9 rfl (Pu_sliceArr rfl Try.runUnderlying52 Try.sizeOf5 rfl) (Lc9 rfl rfl (by decide) (Oa9 (r:=102) (r2:=101) rfl Try.underlying30 TI.hi5 TI.hz5 TI.hs5 TI.hby5 TI.hzs5 (by decide) rfl rfl rfl rfl (fun _ h=>blk_all h hn) (bs_one _) (by unfold maxLen; omega) (by omega) (fun v7=>?_))))))))))))))))
 refine Lt9 (P':=rowB 5 v7 (nm)) 102 rfl (fun h hp=>rowB_mk hp (by simp [hn]) (by simp [bs])) ?_
 refine (M9 rfl rfl (Lc9 rfl rfl (by decide) (Oc9 200 [0,101] [102] rfl Try.call58 rfl rfl rfl (by decide) (by decide) (four5_spec _ rfl _ nm q (by omega) _) (fun v9 Ps9 hR9=>?_))))
 subst hR9
 refine (G9 rfl rfl (N9 (X9 ?_)))
 refine W_ret ?_
 exact Xq9 [200] (Ps:=[_]) (res1 Try.results56 rfl) rfl (by decide) rfl
open Go.RowKit
set_option maxRecDepth 8000

theorem secret5_spec (nm:List UInt8) (hn:nm.length=16) (q i:Int) (seed:List UInt8) (hs:seed.length=32) (F:HP):CallsS Try.prog 60 #[idV nm,.int .i64 q,.int .i64 i,idV seed] F [] (fun r Ps=>r=idV (hashC nm q i 255 seed)∧Ps=[]):=by
 refine callsS_enter Try.func60 rfl Try.ntmps60 (by simp) (fun E=>?_)
 refine Q9 (R9 (Lc9 rfl rfl (by decide) (OpT_box (r:=101) rfl rfl rfl (fun g101=>(Lc9 rfl rfl (by decide) (OpT_box (r:=102) rfl rfl rfl (fun g102=>(Lc9 rfl rfl (by decide) (OpT_alloc (r:=103) (cs:=(bs zeroId)) rfl (zero_run (by kernel_rfl:(Try.prog.info? 29).bind (·.zero)=some (.agg (bs zeroId).toArray))) rfl (fun g103=>(N9 (X9 (Q9 ?_)))))))))))))
 refine W_draw (N:=11) (by kernel_rfl) rfl [(0,_),(101,_),(102,_)] ⟨rfl,rfl,rfl,trivial⟩ ?_
 refine (T9 0 rfl rfl (Px9 (r:=101) rfl Try.isAgg52 Try.sizeOf52 rfl rfl ((bs_length _).trans hn) (load_all ((bs_length _).trans hn))) (T9 1 rfl rfl (Pm9 rfl rfl) (T9 3 rfl rfl (Pm9 rfl rfl) (T9 7 rfl rfl (Pu_sliceArr rfl Try.runUnderlying29 Try.sizeOf5 rfl) (Y9 [2,5] ?_)))))
 refine Z9 rfl rfl (Oc9 200 [0,101,102,103] [] rfl Try.call56 rfl rfl rfl (by decide) (by decide) (head5_spec nm hn q _) (fun v11 Ps11 hR11=>?_)) ?_
 ·
  subst hR11
  refine ⟨⟨rfl,rfl,rfl,trivial⟩,?_⟩
  refine (Y9 [4,5] ?_)
  refine Z9 rfl rfl (Oc9 300 [0,101,102,103] [200] rfl Try.call55 rfl rfl rfl (by decide) (by decide) (two5_spec _ rfl _ (hdL nm q) i (by rw [hdL_length hn]; omega) _) (fun v13 Ps13 hR13=>?_)) ?_
  ·
   subst hR13
   refine ⟨⟨rfl,rfl,rfl,trivial⟩,?_⟩
   refine (Y9 [5] ?_)
   refine Z9 rfl rfl (OpT_buildOnes (r:=301) (bs [255]) rfl rfl Try.runUnderlying30 Try.sizeOf5 Try.zeroValue5 rfl rfl (by decide) rfl (bs_cells _) (fun v14=>⟨⟨rfl,rfl,rfl,trivial⟩,?_⟩)) ?_
   ·
    refine (Y9 [6] ?_)
    refine Z9 rfl rfl (Oa9 (r:=300) (r2:=301) rfl Try.underlying30 TI.hi5 TI.hz5 TI.hs5 TI.hby5 TI.hzs5 (by decide) rfl rfl rfl rfl (fun _ h=>rp9 h) (bs_one _) (by unfold maxLen; simp [hdL_length hn,numB_length, *] <;> omega) (by simp [hdL_length hn,numB_length, *] <;> omega) (fun v15=>?_)) ?_
    ·
     refine ⟨⟨rfl,rfl,rfl,trivial⟩,?_⟩
     refine AH_turn (P':=rowB 5 v15 (hdL nm q++numB i 2++[255])) 300 rfl (fun h hp=>rowB_mk hp (by simp [hdL_length hn,numB_length, *] <;> omega) (by simp only [bs_append])) ?_
     refine (Y9 [8] ?_)
     refine Z9 rfl rfl (Oa9 (r:=300) (r2:=102) rfl Try.underlying30 TI.hi5 TI.hz5 TI.hs5 TI.hby5 TI.hzs5 (by decide) rfl rfl rfl rfl (fun _ h=>blk_all h hs) (bs_one _) (by unfold maxLen; simp [hdL_length hn,numB_length, *] <;> omega) (by simp [hdL_length hn,numB_length, *] <;> omega) (fun v17=>?_)) ?_
     ·
      refine ⟨⟨rfl,rfl,rfl,trivial⟩,?_⟩
      refine AH_turn (P':=rowB 5 v17 (hdL nm q++numB i 2++[255]++seed)) 300 rfl (fun h hp=>rowB_mk hp (by simp [hdL_length hn,numB_length, *] <;> omega) (by simp only [bs_append])) ?_
      refine (Y9 [9] ?_)
      refine Z9 rfl rfl (Oc9 400 [0,101,102,103,300,301] [] rfl Try.call14 rfl rfl rfl (by decide) (by decide) (refSum_spec v17 (hdL nm q++numB i 2++[255]++seed) (by simp [hdL_length hn,numB_length, *]) _ (rs9 4 rfl rowB_rd)) (fun v18 Ps18 hR18=>?_)) ?_
      ·
       obtain ⟨rfl,rfl⟩:=hR18
       refine ⟨⟨rfl,rfl,rfl,trivial⟩,?_⟩
       refine (Y9 [10] ?_)
       refine Ac09 rfl rfl rfl (OpT_storeAll (r:=103) rfl Try.sizeOf29 rfl rfl rfl rfl ((bs_length _).trans (sha_length _)) (bs_one _) ?_) ?_
       ·
        refine ⟨⟨rfl,rfl,rfl,trivial⟩,?_⟩
        refine (Ad9 (by kernel_rfl) (X9 ?_))
        refine W_ret ?_
        exact Xq9 [] (Ps:=[]) (resC1 (r:=103) Try.results60 rfl Try.isAgg29 Try.sizeOf29 rfl ((bs_length _).trans (sha_length _))) rfl (by decide) ⟨rfl,rfl⟩
       exact An9
      exact An9
     exact An9
    exact An9
   exact An9
  refine Z9 rfl rfl (OpT_buildOnes (r:=201) (bs [255]) rfl rfl Try.runUnderlying30 Try.sizeOf5 Try.zeroValue5 rfl rfl (by decide) rfl (bs_cells _) (fun v14=>⟨⟨rfl,rfl,rfl,trivial⟩,?_⟩)) ?_
  ·
   refine (Y9 [4] ?_)
   refine Z9 rfl rfl (Oc9 300 [0,101,102,103,201] [200] rfl Try.call55 rfl rfl rfl (by decide) (by decide) (two5_spec _ rfl _ (hdL nm q) i (by rw [hdL_length hn]; omega) _) (fun v13 Ps13 hR13=>?_)) ?_
   ·
    subst hR13
    refine ⟨⟨rfl,rfl,rfl,trivial⟩,?_⟩
    refine (Y9 [6] ?_)
    refine Z9 rfl rfl (Oa9 (r:=300) (r2:=201) rfl Try.underlying30 TI.hi5 TI.hz5 TI.hs5 TI.hby5 TI.hzs5 (by decide) rfl rfl rfl rfl (fun _ h=>rp9 h) (bs_one _) (by unfold maxLen; simp [hdL_length hn,numB_length, *] <;> omega) (by simp [hdL_length hn,numB_length, *] <;> omega) (fun v15=>?_)) ?_
    ·
     refine ⟨⟨rfl,rfl,rfl,trivial⟩,?_⟩
     refine AH_turn (P':=rowB 5 v15 (hdL nm q++numB i 2++[255])) 300 rfl (fun h hp=>rowB_mk hp (by simp [hdL_length hn,numB_length, *] <;> omega) (by simp only [bs_append])) ?_
     refine (Y9 [8] ?_)
     refine Z9 rfl rfl (Oa9 (r:=300) (r2:=102) rfl Try.underlying30 TI.hi5 TI.hz5 TI.hs5 TI.hby5 TI.hzs5 (by decide) rfl rfl rfl rfl (fun _ h=>blk_all h hs) (bs_one _) (by unfold maxLen; simp [hdL_length hn,numB_length, *] <;> omega) (by simp [hdL_length hn,numB_length, *] <;> omega) (fun v17=>?_)) ?_
     ·
      refine ⟨⟨rfl,rfl,rfl,trivial⟩,?_⟩
      refine AH_turn (P':=rowB 5 v17 (hdL nm q++numB i 2++[255]++seed)) 300 rfl (fun h hp=>rowB_mk hp (by simp [hdL_length hn,numB_length, *] <;> omega) (by simp only [bs_append])) ?_
      refine (Y9 [9] ?_)
      refine Z9 rfl rfl (Oc9 400 [0,101,102,103,201,300] [] rfl Try.call14 rfl rfl rfl (by decide) (by decide) (refSum_spec v17 (hdL nm q++numB i 2++[255]++seed) (by simp [hdL_length hn,numB_length, *]) _ (rs9 5 rfl rowB_rd)) (fun v18 Ps18 hR18=>?_)) ?_
      ·
       obtain ⟨rfl,rfl⟩:=hR18
       refine ⟨⟨rfl,rfl,rfl,trivial⟩,?_⟩
       refine (Y9 [10] ?_)
       refine Ac09 rfl rfl rfl (OpT_storeAll (r:=103) rfl Try.sizeOf29 rfl rfl rfl rfl ((bs_length _).trans (sha_length _)) (bs_one _) ?_) ?_
       ·
        refine ⟨⟨rfl,rfl,rfl,trivial⟩,?_⟩
        refine (Ad9 (by kernel_rfl) (X9 ?_))
        refine W_ret ?_
        exact Xq9 [] (Ps:=[]) (resC1 (r:=103) Try.results60 rfl Try.isAgg29 Try.sizeOf29 rfl ((bs_length _).trans (sha_length _))) rfl (by decide) ⟨rfl,rfl⟩
       exact An9
      exact An9
     exact An9
    exact An9
   exact An9
  exact An9
 refine Z9 rfl rfl (OpT_buildOnes (r:=104) (bs [255]) rfl rfl Try.runUnderlying30 Try.sizeOf5 Try.zeroValue5 rfl rfl (by decide) rfl (bs_cells _) (fun v14=>⟨⟨rfl,rfl,rfl,trivial⟩,?_⟩)) ?_
 ·
  refine (Y9 [2] ?_)
  refine Z9 rfl rfl (Oc9 200 [0,101,102,103,104] [] rfl Try.call56 rfl rfl rfl (by decide) (by decide) (head5_spec nm hn q _) (fun v11 Ps11 hR11=>?_)) ?_
  ·
   subst hR11
   refine ⟨⟨rfl,rfl,rfl,trivial⟩,?_⟩
   refine (Y9 [4] ?_)
   refine Z9 rfl rfl (Oc9 300 [0,101,102,103,104] [200] rfl Try.call55 rfl rfl rfl (by decide) (by decide) (two5_spec _ rfl _ (hdL nm q) i (by rw [hdL_length hn]; omega) _) (fun v13 Ps13 hR13=>?_)) ?_
   ·
    subst hR13
    refine ⟨⟨rfl,rfl,rfl,trivial⟩,?_⟩
    refine (Y9 [6] ?_)
    refine Z9 rfl rfl (Oa9 (r:=300) (r2:=104) rfl Try.underlying30 TI.hi5 TI.hz5 TI.hs5 TI.hby5 TI.hzs5 (by decide) rfl rfl rfl rfl (fun _ h=>rp9 h) (bs_one _) (by unfold maxLen; simp [hdL_length hn,numB_length, *] <;> omega) (by simp [hdL_length hn,numB_length, *] <;> omega) (fun v15=>?_)) ?_
    ·
     refine ⟨⟨rfl,rfl,rfl,trivial⟩,?_⟩
     refine AH_turn (P':=rowB 5 v15 (hdL nm q++numB i 2++[255])) 300 rfl (fun h hp=>rowB_mk hp (by simp [hdL_length hn,numB_length, *] <;> omega) (by simp only [bs_append])) ?_
     refine (Y9 [8] ?_)
     refine Z9 rfl rfl (Oa9 (r:=300) (r2:=102) rfl Try.underlying30 TI.hi5 TI.hz5 TI.hs5 TI.hby5 TI.hzs5 (by decide) rfl rfl rfl rfl (fun _ h=>blk_all h hs) (bs_one _) (by unfold maxLen; simp [hdL_length hn,numB_length, *] <;> omega) (by simp [hdL_length hn,numB_length, *] <;> omega) (fun v17=>?_)) ?_
     ·
      refine ⟨⟨rfl,rfl,rfl,trivial⟩,?_⟩
      refine AH_turn (P':=rowB 5 v17 (hdL nm q++numB i 2++[255]++seed)) 300 rfl (fun h hp=>rowB_mk hp (by simp [hdL_length hn,numB_length, *] <;> omega) (by simp only [bs_append])) ?_
      refine (Y9 [9] ?_)
      refine Z9 rfl rfl (Oc9 400 [0,101,102,103,104,300] [] rfl Try.call14 rfl rfl rfl (by decide) (by decide) (refSum_spec v17 (hdL nm q++numB i 2++[255]++seed) (by simp [hdL_length hn,numB_length, *]) _ (rs9 5 rfl rowB_rd)) (fun v18 Ps18 hR18=>?_)) ?_
      ·
       obtain ⟨rfl,rfl⟩:=hR18
       refine ⟨⟨rfl,rfl,rfl,trivial⟩,?_⟩
       refine (Y9 [10] ?_)
       refine Ac09 rfl rfl rfl (OpT_storeAll (r:=103) rfl Try.sizeOf29 rfl rfl rfl rfl ((bs_length _).trans (sha_length _)) (bs_one _) ?_) ?_
       ·
        refine ⟨⟨rfl,rfl,rfl,trivial⟩,?_⟩
        refine (Ad9 (by kernel_rfl) (X9 ?_))
        refine W_ret ?_
        exact Xq9 [] (Ps:=[]) (resC1 (r:=103) Try.results60 rfl Try.isAgg29 Try.sizeOf29 rfl ((bs_length _).trans (sha_length _))) rfl (by decide) ⟨rfl,rfl⟩
       exact An9
      exact An9
     exact An9
    exact An9
   exact An9
  exact An9
 exact An9
theorem walk5_spec (nm:List UInt8) (hn:nm.length=16) (q:Int) (i a b:Nat) (hab:a≤b) (hb:b≤3) (t:List UInt8) (ht:t.length=32) (F:HP):CallsS Try.prog 59 #[idV nm,.int .i64 q,.int .i64 (i:Int),.int .i64 (a:Int),.int .i64 (b:Int),idV t] F [] (fun r Ps=>r=idV (walkC nm q i a (b - a) t)∧Ps=[]):=by
 refine callsS_enter Try.func59 rfl Try.ntmps59 (by simp) (fun E=>?_)
 refine Q9 (R9 (Lc9 rfl rfl (by decide) (OpT_box (r:=101) rfl rfl rfl (fun g101=>(Lc9 rfl rfl (by decide) (OpT_box (r:=102) rfl rfl rfl (fun g102=>(Lc9 rfl rfl (by decide) (OpT_alloc (r:=103) (cs:=(bs zeroId)) rfl (zero_run (by kernel_rfl:(Try.prog.info? 29).bind (·.zero)=some (.agg (bs zeroId).toArray))) rfl (fun g103=>(N9 (X9 (Q9 (Q9 (R9 (M9 rfl rfl (G9 rfl rfl (N9 (X9 ?_)))))))))))))))))))
 refine W_block ?_
 refine W_loop (α:=Nat) (fun x=>[(1,.int .i64 q),(2,.int .i64 (i:Int)),(4,.int .i64 (b:Int)),(6,.pointer (some ⟨g101,0,none⟩)),(11,.pointer (some ⟨g102,0,none⟩)),(12,.pointer (some ⟨g103,0,none⟩)),(13,.int .i64 ((a + x:Nat):Int))]) (fun x=>[(0,F),(101,blk g101 52 (bs nm)),(102,blk g102 29 (bs (walkC nm q i a x t))),(103,blk g103 29 (bs zeroId))]) (fun x=>a + x≤b) (fun x=>b - (a + x)) (0) (by omega) (a9 rfl) (a9 rfl) (fun x hx=>?_)
 have hw:=walkC_length (nm:=nm) (q:=q) (i:=i) (a:=a) ht x
 refine Q9 (Q9 (R9 (M9 rfl rfl (M9 rfl rfl (L9 rfl (Pn9 rfl rfl rfl (run_lss _ _ _ _ _ _)) (N9 (X9 ?_)))))))
 refine C9 rfl (fun hc17=>?_) (fun hc17=>?_)
 ·
  have hlt:a + x < b:=by have:=of_decide_eq_true hc17; omega
  refine K9 (X9 ?_)
  refine Q9 ?_
  refine W_block ?_
  refine W_draw (N:=13) (by kernel_rfl) rfl [(0,_),(101,_),(103,_)] ⟨rfl,rfl,rfl,trivial⟩ ?_
  refine (T9 0 rfl rfl (Px9 (r:=101) rfl Try.isAgg52 Try.sizeOf52 rfl rfl ((bs_length _).trans hn) (load_all ((bs_length _).trans hn))) (T9 1 rfl rfl (Pm9 rfl rfl) (T9 3 rfl rfl (Pm9 rfl rfl) (T9 5 rfl rfl (Pm9 rfl rfl) (T9 6 rfl rfl (Pu_conv rfl rfl (conv_byte _ _ Try.runUnderlying3 Try.runUnderlying5)) (T9 9 rfl rfl (Pu_sliceArr rfl Try.runUnderlying29 Try.sizeOf5 rfl) (Y9 [2,7] ?_)))))))
  refine Z9 rfl rfl (Oc9 200 [0,101,102,103] [] rfl Try.call56 rfl rfl rfl (by decide) (by decide) (head5_spec nm hn q _) (fun v22 Ps22 hR22=>?_)) ?_
  ·
   subst hR22
   refine ⟨⟨rfl,rfl,rfl,trivial⟩,?_⟩
   refine (Y9 [4,7] ?_)
   refine Z9 rfl rfl (Oc9 300 [0,101,102,103] [200] rfl Try.call55 rfl rfl rfl (by decide) (by decide) (two5_spec _ rfl _ (hdL nm q) i (by rw [hdL_length hn]; omega) _) (fun v24 Ps24 hR24=>?_)) ?_
   ·
    subst hR24
    refine ⟨⟨rfl,rfl,rfl,trivial⟩,?_⟩
    refine (Y9 [7] ?_)
    refine Z9 rfl rfl (OpT_buildOnes (r:=301) (bs [byte ((a + x:Nat):Int)]) rfl rfl Try.runUnderlying30 Try.sizeOf5 Try.zeroValue5 rfl rfl (by decide) rfl (bs_cells _) (fun v27=>⟨⟨rfl,rfl,rfl,trivial⟩,?_⟩)) ?_
    ·
     refine (Y9 [8] ?_)
     refine Z9 rfl rfl (Oa9 (r:=300) (r2:=301) rfl Try.underlying30 TI.hi5 TI.hz5 TI.hs5 TI.hby5 TI.hzs5 (by decide) rfl rfl rfl rfl (fun _ h=>rp9 h) (bs_one _) (by unfold maxLen; simp [hdL_length hn,numB_length, *] <;> omega) (by simp [hdL_length hn,numB_length, *] <;> omega) (fun v28=>?_)) ?_
     ·
      refine ⟨⟨rfl,rfl,rfl,trivial⟩,?_⟩
      refine AH_turn (P':=rowB 5 v28 (hdL nm q++numB i 2++[byte ((a + x:Nat):Int)])) 300 rfl (fun h hp=>rowB_mk hp (by simp [hdL_length hn,numB_length, *] <;> omega) (by simp only [bs_append])) ?_
      refine (Y9 [10] ?_)
      refine Z9 rfl rfl (Oa9 (r:=300) (r2:=102) rfl Try.underlying30 TI.hi5 TI.hz5 TI.hs5 TI.hby5 TI.hzs5 (by decide) rfl rfl rfl rfl (fun _ h=>blk_all h hw) (bs_one _) (by unfold maxLen; simp [hdL_length hn,numB_length, *] <;> omega) (by simp [hdL_length hn,numB_length, *] <;> omega) (fun v30=>?_)) ?_
      ·
       refine ⟨⟨rfl,rfl,rfl,trivial⟩,?_⟩
       refine AH_turn (P':=rowB 5 v30 (hdL nm q++numB i 2++[byte ((a + x:Nat):Int)]++walkC nm q i a x t)) 300 rfl (fun h hp=>rowB_mk hp (by simp [hdL_length hn,numB_length, *] <;> omega) (by simp only [bs_append])) ?_
       refine (Y9 [11] ?_)
       refine Z9 rfl rfl (Oc9 400 [0,101,102,103,300,301] [] rfl Try.call14 rfl rfl rfl (by decide) (by decide) (refSum_spec v30 (hdL nm q++numB i 2++[byte ((a + x:Nat):Int)]++walkC nm q i a x t) (by simp [hdL_length hn,numB_length, *]) _ (rs9 4 rfl rowB_rd)) (fun v31 Ps31 hR31=>?_)) ?_
       ·
        obtain ⟨rfl,rfl⟩:=hR31
        refine ⟨⟨rfl,rfl,rfl,trivial⟩,?_⟩
        refine (Y9 [12] ?_)
        refine Ac09 rfl rfl rfl (OpT_storeAll (r:=102) rfl Try.sizeOf29 rfl rfl rfl ((bs_length _).trans hw) ((bs_length _).trans (sha_length _)) (bs_one _) ?_) ?_
        ·
         refine ⟨⟨rfl,rfl,rfl,trivial⟩,?_⟩
         refine (Ad9 (by kernel_rfl) (X_block (X9 ?_)))
         refine R9 (M9 rfl rfl (L9 rfl (Pn9 rfl rfl rfl (run_add _ _ _ _ _ (by omega))) (G9 rfl rfl (N9 ?_))))
         exact Xr9 (x + 1) (by omega) (by omega) ⟨rfl,rfl,rfl,rfl,rfl,rfl,lookV_eq rfl (int_eq (by omega)),trivial⟩ ⟨rfl,rfl,rfl,rfl,trivial⟩
        exact An9
       exact An9
      exact An9
     exact An9
    exact An9
   refine Z9 rfl rfl (OpT_buildOnes (r:=201) (bs [byte ((a + x:Nat):Int)]) rfl rfl Try.runUnderlying30 Try.sizeOf5 Try.zeroValue5 rfl rfl (by decide) rfl (bs_cells _) (fun v27=>⟨⟨rfl,rfl,rfl,trivial⟩,?_⟩)) ?_
   ·
    refine (Y9 [4] ?_)
    refine Z9 rfl rfl (Oc9 300 [0,101,102,103,201] [200] rfl Try.call55 rfl rfl rfl (by decide) (by decide) (two5_spec _ rfl _ (hdL nm q) i (by rw [hdL_length hn]; omega) _) (fun v24 Ps24 hR24=>?_)) ?_
    ·
     subst hR24
     refine ⟨⟨rfl,rfl,rfl,trivial⟩,?_⟩
     refine (Y9 [8] ?_)
     refine Z9 rfl rfl (Oa9 (r:=300) (r2:=201) rfl Try.underlying30 TI.hi5 TI.hz5 TI.hs5 TI.hby5 TI.hzs5 (by decide) rfl rfl rfl rfl (fun _ h=>rp9 h) (bs_one _) (by unfold maxLen; simp [hdL_length hn,numB_length, *] <;> omega) (by simp [hdL_length hn,numB_length, *] <;> omega) (fun v28=>?_)) ?_
     ·
      refine ⟨⟨rfl,rfl,rfl,trivial⟩,?_⟩
      refine AH_turn (P':=rowB 5 v28 (hdL nm q++numB i 2++[byte ((a + x:Nat):Int)])) 300 rfl (fun h hp=>rowB_mk hp (by simp [hdL_length hn,numB_length, *] <;> omega) (by simp only [bs_append])) ?_
      refine (Y9 [10] ?_)
      refine Z9 rfl rfl (Oa9 (r:=300) (r2:=102) rfl Try.underlying30 TI.hi5 TI.hz5 TI.hs5 TI.hby5 TI.hzs5 (by decide) rfl rfl rfl rfl (fun _ h=>blk_all h hw) (bs_one _) (by unfold maxLen; simp [hdL_length hn,numB_length, *] <;> omega) (by simp [hdL_length hn,numB_length, *] <;> omega) (fun v30=>?_)) ?_
      ·
       refine ⟨⟨rfl,rfl,rfl,trivial⟩,?_⟩
       refine AH_turn (P':=rowB 5 v30 (hdL nm q++numB i 2++[byte ((a + x:Nat):Int)]++walkC nm q i a x t)) 300 rfl (fun h hp=>rowB_mk hp (by simp [hdL_length hn,numB_length, *] <;> omega) (by simp only [bs_append])) ?_
       refine (Y9 [11] ?_)
       refine Z9 rfl rfl (Oc9 400 [0,101,102,103,201,300] [] rfl Try.call14 rfl rfl rfl (by decide) (by decide) (refSum_spec v30 (hdL nm q++numB i 2++[byte ((a + x:Nat):Int)]++walkC nm q i a x t) (by simp [hdL_length hn,numB_length, *]) _ (rs9 5 rfl rowB_rd)) (fun v31 Ps31 hR31=>?_)) ?_
       ·
        obtain ⟨rfl,rfl⟩:=hR31
        refine ⟨⟨rfl,rfl,rfl,trivial⟩,?_⟩
        refine (Y9 [12] ?_)
        refine Ac09 rfl rfl rfl (OpT_storeAll (r:=102) rfl Try.sizeOf29 rfl rfl rfl ((bs_length _).trans hw) ((bs_length _).trans (sha_length _)) (bs_one _) ?_) ?_
        ·
         refine ⟨⟨rfl,rfl,rfl,trivial⟩,?_⟩
         refine (Ad9 (by kernel_rfl) (X_block (X9 ?_)))
         refine R9 (M9 rfl rfl (L9 rfl (Pn9 rfl rfl rfl (run_add _ _ _ _ _ (by omega))) (G9 rfl rfl (N9 ?_))))
         exact Xr9 (x + 1) (by omega) (by omega) ⟨rfl,rfl,rfl,rfl,rfl,rfl,lookV_eq rfl (int_eq (by omega)),trivial⟩ ⟨rfl,rfl,rfl,rfl,trivial⟩
        exact An9
       exact An9
      exact An9
     exact An9
    exact An9
   exact An9
  refine Z9 rfl rfl (OpT_buildOnes (r:=104) (bs [byte ((a + x:Nat):Int)]) rfl rfl Try.runUnderlying30 Try.sizeOf5 Try.zeroValue5 rfl rfl (by decide) rfl (bs_cells _) (fun v27=>⟨⟨rfl,rfl,rfl,trivial⟩,?_⟩)) ?_
  ·
   refine (Y9 [2] ?_)
   refine Z9 rfl rfl (Oc9 200 [0,101,102,103,104] [] rfl Try.call56 rfl rfl rfl (by decide) (by decide) (head5_spec nm hn q _) (fun v22 Ps22 hR22=>?_)) ?_
   ·
    subst hR22
    refine ⟨⟨rfl,rfl,rfl,trivial⟩,?_⟩
    refine (Y9 [4] ?_)
    refine Z9 rfl rfl (Oc9 300 [0,101,102,103,104] [200] rfl Try.call55 rfl rfl rfl (by decide) (by decide) (two5_spec _ rfl _ (hdL nm q) i (by rw [hdL_length hn]; omega) _) (fun v24 Ps24 hR24=>?_)) ?_
    ·
     subst hR24
     refine ⟨⟨rfl,rfl,rfl,trivial⟩,?_⟩
     refine (Y9 [8] ?_)
     refine Z9 rfl rfl (Oa9 (r:=300) (r2:=104) rfl Try.underlying30 TI.hi5 TI.hz5 TI.hs5 TI.hby5 TI.hzs5 (by decide) rfl rfl rfl rfl (fun _ h=>rp9 h) (bs_one _) (by unfold maxLen; simp [hdL_length hn,numB_length, *] <;> omega) (by simp [hdL_length hn,numB_length, *] <;> omega) (fun v28=>?_)) ?_
     ·
      refine ⟨⟨rfl,rfl,rfl,trivial⟩,?_⟩
      refine AH_turn (P':=rowB 5 v28 (hdL nm q++numB i 2++[byte ((a + x:Nat):Int)])) 300 rfl (fun h hp=>rowB_mk hp (by simp [hdL_length hn,numB_length, *] <;> omega) (by simp only [bs_append])) ?_
      refine (Y9 [10] ?_)
      refine Z9 rfl rfl (Oa9 (r:=300) (r2:=102) rfl Try.underlying30 TI.hi5 TI.hz5 TI.hs5 TI.hby5 TI.hzs5 (by decide) rfl rfl rfl rfl (fun _ h=>blk_all h hw) (bs_one _) (by unfold maxLen; simp [hdL_length hn,numB_length, *] <;> omega) (by simp [hdL_length hn,numB_length, *] <;> omega) (fun v30=>?_)) ?_
      ·
       refine ⟨⟨rfl,rfl,rfl,trivial⟩,?_⟩
       refine AH_turn (P':=rowB 5 v30 (hdL nm q++numB i 2++[byte ((a + x:Nat):Int)]++walkC nm q i a x t)) 300 rfl (fun h hp=>rowB_mk hp (by simp [hdL_length hn,numB_length, *] <;> omega) (by simp only [bs_append])) ?_
       refine (Y9 [11] ?_)
       refine Z9 rfl rfl (Oc9 400 [0,101,102,103,104,300] [] rfl Try.call14 rfl rfl rfl (by decide) (by decide) (refSum_spec v30 (hdL nm q++numB i 2++[byte ((a + x:Nat):Int)]++walkC nm q i a x t) (by simp [hdL_length hn,numB_length, *]) _ (rs9 5 rfl rowB_rd)) (fun v31 Ps31 hR31=>?_)) ?_
       ·
        obtain ⟨rfl,rfl⟩:=hR31
        refine ⟨⟨rfl,rfl,rfl,trivial⟩,?_⟩
        refine (Y9 [12] ?_)
        refine Ac09 rfl rfl rfl (OpT_storeAll (r:=102) rfl Try.sizeOf29 rfl rfl rfl ((bs_length _).trans hw) ((bs_length _).trans (sha_length _)) (bs_one _) ?_) ?_
        ·
         refine ⟨⟨rfl,rfl,rfl,trivial⟩,?_⟩
         refine (Ad9 (by kernel_rfl) (X_block (X9 ?_)))
         refine R9 (M9 rfl rfl (L9 rfl (Pn9 rfl rfl rfl (run_add _ _ _ _ _ (by omega))) (G9 rfl rfl (N9 ?_))))
         exact Xr9 (x + 1) (by omega) (by omega) ⟨rfl,rfl,rfl,rfl,rfl,rfl,lookV_eq rfl (int_eq (by omega)),trivial⟩ ⟨rfl,rfl,rfl,rfl,trivial⟩
        exact An9
       exact An9
      exact An9
     exact An9
    exact An9
   exact An9
  exact An9
 ·
  obtain rfl:b=a + x:=by have:=of_decide_eq_false hc17; omega
  have hbx:a + x - a=x:=by omega
  rw [hbx]
  refine W_exit (X_then_exit (X_then_exit (X_block_exit (X9 ?_))))
  refine Q9 (R9 (L9 rfl (Px9 (r:=102) rfl Try.isAgg29 Try.sizeOf29 rfl rfl ((bs_length _).trans hw) (load_all ((bs_length _).trans hw))) (Lc09 rfl rfl (OpT_storeAll (r:=103) rfl Try.sizeOf29 rfl rfl rfl rfl ((bs_length _).trans hw) (bs_one _) ?_))))
  refine (N9 (X9 ?_))
  refine W_ret ?_
  exact Xq9 [] (Ps:=[]) (resC1 (r:=103) Try.results59 rfl Try.isAgg29 Try.sizeOf29 rfl ((bs_length _).trans hw)) rfl (by decide) ⟨rfl,rfl⟩
theorem digit5_spec (v:Value) (l:List UInt8) (i:Nat) (hi:i < 4 * l.length) (hl:l.length≤100000000) (F:HP) (hF:∀ h,F h→rdB v l h):CallsS Try.prog 71 #[v,.int .i64 (i:Int)] F [] (fun r Ps=>r = .int .i64 (dig l i:Int)∧Ps=[]):=by
 refine callsS_enter Try.func71 rfl Try.ntmps71 (by simp) (fun E=>?_)
 refine Q9 (R9 (G9 rfl rfl (N9 (X9 (Q9 (R9 (M9 rfl rfl (M9 rfl rfl (L9 rfl (Pn9 rfl rfl rfl (run_quo _ _ _ _ _ (by omega))) ?_)))))))))
 rw [show (i:Int) / 4=((i / 4:Nat):Int) by omega]
 refine (L9 rfl (Pu_idxS1 (r:=0) rfl Try.runUnderlying30 Try.sizeOf5 rfl rfl rfl hF (by omega)) (L9 rfl (Py9 (r:=0) rfl Try.isAgg5 rfl rfl hF (bs_at1 (k:=i / 4) (by omega))) (M9 rfl rfl (L9 rfl (Pn9 rfl rfl rfl (run_rem _ _ _ _ _ (by omega))) ?_))))
 rw [show (i:Int) % 4=((i % 4:Nat):Int) by omega]
 refine (L9 rfl (Pu_conv rfl rfl (conv_u64 (i % 4) Try.runUnderlying3 Try.runUnderlying71 (by omega))) (L9 rfl (Pn9 rfl rfl rfl (run_mulU 2 (i % 4) _ _ _ (by omega))) (L9 rfl (Pn9 rfl rfl rfl (run_subU 6 (2 * (i % 4)) _ _ _ (by omega))) (L9 rfl (Pn9 rfl rfl rfl (run_shrB _ (6 - 2 * (i % 4)) (by omega) _ _ _)) (L9 rfl (Pu_conv rfl rfl (conv_nat8 _ shr_lt Try.runUnderlying5 Try.runUnderlying3)) (L9 rfl (Pn9 rfl rfl rfl (run_andI3 _ (Nat.lt_trans shr_lt (by decide)) _ _ _)) (G9 rfl rfl (N9 (X9 ?_)))))))))
 refine W_ret ?_
 exact Xq9 [] (Ps:=[]) (res1 Try.results71 rfl) rfl (by decide) ⟨rfl,rfl⟩
open Go.RowKit
set_option maxRecDepth 8000

theorem public5_spec (nm:List UInt8) (hn:nm.length=16) (q:Int) (seed:List UInt8) (hs:seed.length=32) (F:HP):CallsS Try.prog 54 #[idV nm,.int .i64 q,idV seed] F [] (fun r Ps=>r=idV (pubO nm q seed)∧Ps=[]):=by
 refine callsS_enter Try.func54 rfl Try.ntmps54 (by simp) (fun E=>?_)
 refine Q9 (R9 (Lc9 rfl rfl (by decide) (OpT_box (r:=101) rfl rfl rfl (fun g101=>(Lc9 rfl rfl (by decide) (OpT_box (r:=102) rfl rfl rfl (fun g102=>(Lc9 rfl rfl (by decide) (OpT_alloc (r:=103) (cs:=(bs zeroId)) rfl (zero_run (by kernel_rfl:(Try.prog.info? 29).bind (·.zero)=some (.agg (bs zeroId).toArray))) rfl (fun g103=>(N9 (X9 (Q9 (R9 (L9 rfl (Px9 (r:=101) rfl Try.isAgg52 Try.sizeOf52 rfl rfl ((bs_length _).trans hn) (load_all ((bs_length _).trans hn))) (M9 rfl rfl (Lc9 rfl rfl (by decide) (Oc9 200 [0,101,102,103] [] rfl Try.call56 rfl rfl rfl (by decide) (by decide) (head5_spec nm hn q _) (fun v12 Ps12 hR12=>?_)))))))))))))))))))
 subst hR12
 refine (Lc9 rfl rfl (by decide) (OpT_buildOnes (r:=201) (bs [128,128]) rfl rfl Try.runUnderlying30 Try.sizeOf5 Try.zeroValue5 rfl rfl (by decide) rfl (bs_cells _) (fun v13=>(Lc9 rfl rfl (by decide) (Oa9 (r:=200) (r2:=201) rfl Try.underlying30 TI.hi5 TI.hz5 TI.hs5 TI.hby5 TI.hzs5 (by decide) rfl rfl rfl rfl (fun _ h=>rp9 h) (bs_one _) (by unfold maxLen; simp [hdL_length hn,numB_length, *] <;> omega) (by simp [hdL_length hn,numB_length, *] <;> omega) (fun v14=>?_))))))
 refine Lt9 (P':=rowB 5 v14 (hdL nm q++[128,128])) 200 rfl (fun h hp=>rowB_mk hp (by simp [hdL_length hn,numB_length, *] <;> omega) (by simp only [bs_append])) ?_
 refine (G9 rfl rfl (N9 (X9 ?_)))
 refine Q9 (Q9 (R9 (G9 rfl rfl (N9 (X9 ?_)))))
 refine W_block ?_
 refine W_loop (α:=Value × Nat) (fun y=>[(1,.int .i64 q),(3,.pointer (some ⟨g101,0,none⟩)),(5,.pointer (some ⟨g102,0,none⟩)),(6,.pointer (some ⟨g103,0,none⟩)),(7,y.1),(8,.int .i64 (y.2:Int))]) (fun y=>[(0,F),(101,blk g101 52 (bs nm)),(102,blk g102 29 (bs seed)),(103,blk g103 29 (bs zeroId)),(200,rowB 5 y.1 (hdL nm q++[128,128]++rowsC (pubY nm q seed) y.2))]) (fun y=>y.2≤133) (fun y=>133 - y.2) ((v14,0)) (by dsimp only; omega) ⟨rfl,rfl,rfl,rfl,rfl,rfl,trivial⟩ ⟨rfl,rfl,rfl,rfl,look_eq rfl (by rw [rowsC,List.append_nil]),trivial⟩ (fun y hy=>?_)
 have hyl:(rowsC (pubY nm q seed) y.2).length=32 * y.2:=rowsC_length fun i _=>pubY_length _ _ _ i
 refine Q9 (Q9 (R9 (M9 rfl rfl (L9 rfl (Pn9 rfl rfl rfl (run_lss _ _ _ _ _ _)) (N9 (X9 ?_))))))
 refine C9 rfl (fun hc16=>?_) (fun hc16=>?_)
 ·
  have hlt:y.2 < 133:=by have:=of_decide_eq_true hc16; omega
  refine K9 (X9 ?_)
  refine Q9 ?_
  refine W_block ?_
  refine Q9 ?_
  refine W_draw (N:=11) (by kernel_rfl) rfl [(0,_),(101,_),(102,_),(103,_)] ⟨rfl,rfl,rfl,rfl,trivial⟩ ?_
  refine (T9 0 rfl rfl (Px9 (r:=101) rfl Try.isAgg52 Try.sizeOf52 rfl rfl ((bs_length _).trans hn) (load_all ((bs_length _).trans hn))) (T9 1 rfl rfl (Pm9 rfl rfl) (T9 2 rfl rfl (Pm9 rfl rfl) (T9 3 rfl rfl (Px9 (r:=101) rfl Try.isAgg52 Try.sizeOf52 rfl rfl ((bs_length _).trans hn) (load_all ((bs_length _).trans hn))) (T9 4 rfl rfl (Pm9 rfl rfl) (T9 5 rfl rfl (Pm9 rfl rfl) (T9 6 rfl rfl (Px9 (r:=102) rfl Try.isAgg29 Try.sizeOf29 rfl rfl ((bs_length _).trans hs) (load_all ((bs_length _).trans hs))) (Y9 [7,9] ?_))))))))
  refine Z9 rfl rfl (Oc9 300 [0,101,102,103,200] [] rfl Try.call60 rfl rfl rfl (by decide) (by decide) (secret5_spec nm hn q (y.2:Int) seed hs _) (fun v26 Ps26 hR26=>?_)) ?_
  ·
   obtain ⟨rfl,rfl⟩:=hR26
   refine ⟨⟨rfl,rfl,rfl,rfl,trivial⟩,?_⟩
   refine (Y9 [8,9] ?_)
   refine Z9 rfl rfl (Oc9 400 [0,101,102,103,200] [] rfl Try.call59 rfl rfl rfl (by decide) (by decide) (walk5_spec nm hn q y.2 0 3 (by omega) (by omega) (hashC nm q (y.2:Int) 255 seed) (hashC_length _ _ _ _ _) _) (fun v27 Ps27 hR27=>?_)) ?_
   ·
    obtain ⟨rfl,rfl⟩:=hR27
    refine ⟨⟨rfl,rfl,rfl,rfl,trivial⟩,?_⟩
    refine (Y9 [9] ?_)
    refine Z9 rfl rfl (OpT_alloc (r:=401) (cs:=(bs zeroId)) rfl (zero_run (by kernel_rfl:(Try.prog.info? 29).bind (·.zero)=some (.agg (bs zeroId).toArray))) rfl (fun g401=>⟨⟨rfl,rfl,rfl,rfl,trivial⟩,?_⟩)) ?_
    ·
     refine (Y9 [10] ?_)
     refine Ac09 rfl rfl rfl (OpT_storeAll (r:=401) rfl Try.sizeOf29 rfl rfl rfl rfl ((bs_length _).trans (pubY_length nm q seed y.2)) (bs_one _) ?_) ?_
     ·
      refine ⟨⟨rfl,rfl,rfl,rfl,trivial⟩,?_⟩
      refine (Ad9 (by kernel_rfl) (X9 ?_))
      refine R9 (M9 rfl rfl (L9 rfl (Pu_sliceArr rfl Try.runUnderlying29 Try.sizeOf5 rfl) (Lc9 rfl rfl (by decide) (Oa9 (r:=200) (r2:=401) rfl Try.underlying30 TI.hi5 TI.hz5 TI.hs5 TI.hby5 TI.hzs5 (by decide) rfl rfl rfl rfl (fun _ h=>blk_all h (pubY_length nm q seed y.2)) (bs_one _) (by unfold maxLen; simp [hdL_length hn,hyl] <;> omega) (by simp [hdL_length hn,hyl] <;> omega) (fun v30=>?_)))))
      refine Lt9 (P':=rowB 5 v30 (hdL nm q++[128,128]++rowsC (pubY nm q seed) (y.2 + 1))) 200 rfl (fun h hp=>rowB_mk hp (rows_len (pubY_length _ _ _ _)) (rows_step _ (pubY nm q seed) y.2)) ?_
      refine (G9 rfl rfl (N9 (X_block (X9 ?_))))
      refine R9 (M9 rfl rfl (L9 rfl (Pn9 rfl rfl rfl (run_add _ _ _ _ _ (by omega))) (G9 rfl rfl (N9 ?_))))
      exact Xr9 (v30,y.2 + 1) (by dsimp only; omega) (by show 133 - (y.2 + 1) < 133 - y.2; omega) (a9 rfl) (a9 rfl)
     exact An9
    exact An9
   refine Z9 rfl rfl (OpT_alloc (r:=301) (cs:=(bs zeroId)) rfl (zero_run (by kernel_rfl:(Try.prog.info? 29).bind (·.zero)=some (.agg (bs zeroId).toArray))) rfl (fun g301=>⟨⟨rfl,rfl,rfl,rfl,trivial⟩,?_⟩)) ?_
   ·
    refine (Y9 [8] ?_)
    refine Z9 rfl rfl (Oc9 400 [0,101,102,103,200,301] [] rfl Try.call59 rfl rfl rfl (by decide) (by decide) (walk5_spec nm hn q y.2 0 3 (by omega) (by omega) (hashC nm q (y.2:Int) 255 seed) (hashC_length _ _ _ _ _) _) (fun v27 Ps27 hR27=>?_)) ?_
    ·
     obtain ⟨rfl,rfl⟩:=hR27
     refine ⟨⟨rfl,rfl,rfl,rfl,trivial⟩,?_⟩
     refine (Y9 [10] ?_)
     refine Ac09 rfl rfl rfl (OpT_storeAll (r:=301) rfl Try.sizeOf29 rfl rfl rfl rfl ((bs_length _).trans (pubY_length nm q seed y.2)) (bs_one _) ?_) ?_
     ·
      refine ⟨⟨rfl,rfl,rfl,rfl,trivial⟩,?_⟩
      refine (Ad9 (by kernel_rfl) (X9 ?_))
      refine R9 (M9 rfl rfl (L9 rfl (Pu_sliceArr rfl Try.runUnderlying29 Try.sizeOf5 rfl) (Lc9 rfl rfl (by decide) (Oa9 (r:=200) (r2:=301) rfl Try.underlying30 TI.hi5 TI.hz5 TI.hs5 TI.hby5 TI.hzs5 (by decide) rfl rfl rfl rfl (fun _ h=>blk_all h (pubY_length nm q seed y.2)) (bs_one _) (by unfold maxLen; simp [hdL_length hn,hyl] <;> omega) (by simp [hdL_length hn,hyl] <;> omega) (fun v30=>?_)))))
      refine Lt9 (P':=rowB 5 v30 (hdL nm q++[128,128]++rowsC (pubY nm q seed) (y.2 + 1))) 200 rfl (fun h hp=>rowB_mk hp (rows_len (pubY_length _ _ _ _)) (rows_step _ (pubY nm q seed) y.2)) ?_
      refine (G9 rfl rfl (N9 (X_block (X9 ?_))))
      refine R9 (M9 rfl rfl (L9 rfl (Pn9 rfl rfl rfl (run_add _ _ _ _ _ (by omega))) (G9 rfl rfl (N9 ?_))))
      exact Xr9 (v30,y.2 + 1) (by dsimp only; omega) (by show 133 - (y.2 + 1) < 133 - y.2; omega) (a9 rfl) (a9 rfl)
     exact An9
    exact An9
   exact An9
  refine Z9 rfl rfl (OpT_alloc (r:=202) (cs:=(bs zeroId)) rfl (zero_run (by kernel_rfl:(Try.prog.info? 29).bind (·.zero)=some (.agg (bs zeroId).toArray))) rfl (fun g202=>⟨⟨rfl,rfl,rfl,rfl,trivial⟩,?_⟩)) ?_
  ·
   refine (Y9 [7] ?_)
   refine Z9 rfl rfl (Oc9 300 [0,101,102,103,200,202] [] rfl Try.call60 rfl rfl rfl (by decide) (by decide) (secret5_spec nm hn q (y.2:Int) seed hs _) (fun v26 Ps26 hR26=>?_)) ?_
   ·
    obtain ⟨rfl,rfl⟩:=hR26
    refine ⟨⟨rfl,rfl,rfl,rfl,trivial⟩,?_⟩
    refine (Y9 [8] ?_)
    refine Z9 rfl rfl (Oc9 400 [0,101,102,103,200,202] [] rfl Try.call59 rfl rfl rfl (by decide) (by decide) (walk5_spec nm hn q y.2 0 3 (by omega) (by omega) (hashC nm q (y.2:Int) 255 seed) (hashC_length _ _ _ _ _) _) (fun v27 Ps27 hR27=>?_)) ?_
    ·
     obtain ⟨rfl,rfl⟩:=hR27
     refine ⟨⟨rfl,rfl,rfl,rfl,trivial⟩,?_⟩
     refine (Y9 [10] ?_)
     refine Ac09 rfl rfl rfl (OpT_storeAll (r:=202) rfl Try.sizeOf29 rfl rfl rfl rfl ((bs_length _).trans (pubY_length nm q seed y.2)) (bs_one _) ?_) ?_
     ·
      refine ⟨⟨rfl,rfl,rfl,rfl,trivial⟩,?_⟩
      refine (Ad9 (by kernel_rfl) (X9 ?_))
      refine R9 (M9 rfl rfl (L9 rfl (Pu_sliceArr rfl Try.runUnderlying29 Try.sizeOf5 rfl) (Lc9 rfl rfl (by decide) (Oa9 (r:=200) (r2:=202) rfl Try.underlying30 TI.hi5 TI.hz5 TI.hs5 TI.hby5 TI.hzs5 (by decide) rfl rfl rfl rfl (fun _ h=>blk_all h (pubY_length nm q seed y.2)) (bs_one _) (by unfold maxLen; simp [hdL_length hn,hyl] <;> omega) (by simp [hdL_length hn,hyl] <;> omega) (fun v30=>?_)))))
      refine Lt9 (P':=rowB 5 v30 (hdL nm q++[128,128]++rowsC (pubY nm q seed) (y.2 + 1))) 200 rfl (fun h hp=>rowB_mk hp (rows_len (pubY_length _ _ _ _)) (rows_step _ (pubY nm q seed) y.2)) ?_
      refine (G9 rfl rfl (N9 (X_block (X9 ?_))))
      refine R9 (M9 rfl rfl (L9 rfl (Pn9 rfl rfl rfl (run_add _ _ _ _ _ (by omega))) (G9 rfl rfl (N9 ?_))))
      exact Xr9 (v30,y.2 + 1) (by dsimp only; omega) (by show 133 - (y.2 + 1) < 133 - y.2; omega) (a9 rfl) (a9 rfl)
     exact An9
    exact An9
   exact An9
  exact An9
 ·
  have hye:y.2=133:=by have:=of_decide_eq_false hc16; omega
  rw [hye] at hyl ⊢
  refine W_exit (X_then_exit (X_then_exit (X_block_exit (X9 ?_))))
  refine Q9 (R9 (M9 rfl rfl (Lc9 rfl rfl (by decide) (Oc9 300 [0,101,102,103,200] [] rfl Try.call14 rfl rfl rfl (by decide) (by decide) (refSum_spec y.1 (hdL nm q++[128,128]++rowsC (pubY nm q seed) 133) (by simp [hdL_length hn,hyl]) _ (rs9 4 rfl rowB_rd)) (fun v32 Ps32 hR32=>?_)))))
  obtain ⟨rfl,rfl⟩:=hR32
  refine (Lc09 rfl rfl (OpT_storeAll (r:=103) rfl Try.sizeOf29 rfl rfl rfl rfl ((bs_length _).trans (sha_length _)) (bs_one _) ?_))
  refine (N9 (X9 ?_))
  refine W_ret ?_
  exact Xq9 [] (Ps:=[]) (resC1 (r:=103) Try.results54 rfl Try.isAgg29 Try.sizeOf29 rfl ((bs_length _).trans (sha_length _))) rfl (by decide) ⟨rfl,rfl⟩
theorem digits5_spec (nm:List UInt8) (hn:nm.length=16) (q:Int) (cv mv:Value) (c msg:List UInt8) (hcl:c.length≤1000000) (hml:msg.length≤1000000) (F:HP) (hc:∀ h,F h→rdB cv c h) (hm:∀ h,F h→rdB mv msg h):CallsS Try.prog 57 #[idV nm,.int .i64 q,cv,mv] F [] (fun r Ps=>r=nsV (digL (digB2 nm q c msg))∧Ps=[]):=by
 refine callsS_enter Try.func57 rfl Try.ntmps57 (by simp) (fun E=>?_)
 refine Q9 (R9 (Lc9 rfl rfl (by decide) (OpT_box (r:=101) rfl rfl rfl (fun g101=>(Lc9 rfl rfl (by decide) (OpT_alloc (r:=102) (cs:=(nsC (List.replicate 133 0))) rfl (zero_run (by kernel_rfl:(Try.prog.info? 99).bind (·.zero)=some (nsV (List.replicate 133 0)))) rfl (fun g102=>(N9 (X9 (Q9 (R9 (L9 rfl (Px9 (r:=101) rfl Try.isAgg52 Try.sizeOf52 rfl rfl ((bs_length _).trans hn) (load_all ((bs_length _).trans hn))) (M9 rfl rfl (Lc9 rfl rfl (by decide) (Oc9 200 [0,101,102] [] rfl Try.call56 rfl rfl rfl (by decide) (by decide) (head5_spec nm hn q _) (fun v17 Ps17 hR17=>?_))))))))))))))))
 subst hR17
 refine (Lc9 rfl rfl (by decide) (OpT_buildOnes (r:=201) (bs [129,129]) rfl rfl Try.runUnderlying30 Try.sizeOf5 Try.zeroValue5 rfl rfl (by decide) rfl (bs_cells _) (fun v18=>(Lc9 rfl rfl (by decide) (Oa9 (r:=200) (r2:=201) rfl Try.underlying30 TI.hi5 TI.hz5 TI.hs5 TI.hby5 TI.hzs5 (by decide) rfl rfl rfl rfl (fun _ h=>rp9 h) (bs_one _) (by unfold maxLen; simp [hdL_length hn,numB_length, *] <;> omega) (by simp [hdL_length hn,numB_length, *] <;> omega) (fun v19=>?_))))))
 refine Lt9 (P':=rowB 5 v19 (hdL nm q++[129,129])) 200 rfl (fun h hp=>rowB_mk hp (by simp [hdL_length hn,numB_length, *] <;> omega) (by simp only [bs_append])) ?_
 refine (M9 rfl rfl (Lc9 rfl rfl (by decide) (Oa9 (r:=200) (r2:=0) rfl Try.underlying30 TI.hi5 TI.hz5 TI.hs5 TI.hby5 TI.hzs5 (by decide) rfl rfl rfl rfl hc (bs_one _) (by unfold maxLen; simp [hdL_length hn,numB_length, *] <;> omega) (by simp [hdL_length hn,numB_length, *] <;> omega) (fun v21=>?_))))
 refine Lt9 (P':=rowB 5 v21 (hdL nm q++[129,129]++c)) 200 rfl (fun h hp=>rowB_mk hp (by simp [hdL_length hn,numB_length, *] <;> omega) (by simp only [bs_append])) ?_
 refine (M9 rfl rfl (Lc9 rfl rfl (by decide) (Oa9 (r:=200) (r2:=0) rfl Try.underlying30 TI.hi5 TI.hz5 TI.hs5 TI.hby5 TI.hzs5 (by decide) rfl rfl rfl rfl hm (bs_one _) (by unfold maxLen; simp [hdL_length hn,numB_length, *] <;> omega) (by simp [hdL_length hn,numB_length, *] <;> omega) (fun v23=>?_))))
 refine Lt9 (P':=rowB 5 v23 (hdL nm q++[129,129]++c++msg)) 200 rfl (fun h hp=>rowB_mk hp (by simp [hdL_length hn,numB_length, *] <;> omega) (by simp only [bs_append])) ?_
 refine (Lc9 rfl rfl (by decide) (Oc9 300 [0,101,102,200,201] [] rfl Try.call14 rfl rfl rfl (by decide) (by decide) (refSum_spec v23 (hdL nm q++[129,129]++c++msg) (by simp [hdL_length hn, *] <;> omega) _ (rs9 3 rfl rowB_rd)) (fun v24 Ps24 hR24=>?_)))
 obtain ⟨rfl,rfl⟩:=hR24
 refine (Lc9 rfl rfl (by decide) (OpT_alloc (r:=301) (cs:=(bs zeroId)) rfl (zero_run (by kernel_rfl:(Try.prog.info? 29).bind (·.zero)=some (.agg (bs zeroId).toArray))) rfl (fun g301=>(Lc09 rfl rfl (OpT_storeAll (r:=301) rfl Try.sizeOf29 rfl rfl rfl rfl ((bs_length _).trans (sha_length _)) (bs_one _) ?_)))))
 refine (N9 (X9 ?_))
 refine Q9 (R9 (Lc9 rfl rfl (by decide) (OpT_buildOnes (r:=302) (bs []) rfl rfl Try.runUnderlying30 Try.sizeOf5 Try.zeroValue5 rfl rfl (by decide) rfl (bs_cells _) (fun v25=>(L9 rfl (Pu_sliceArr rfl Try.runUnderlying29 Try.sizeOf5 rfl) (Lc9 rfl rfl (by decide) (Oa9 (r:=302) (r2:=301) rfl Try.underlying30 TI.hi5 TI.hz5 TI.hs5 TI.hby5 TI.hzs5 (by decide) rfl rfl rfl rfl (fun _ h=>blk_all h (sha_length _)) (bs_one _) (by unfold maxLen; omega) (by omega) (fun v27=>?_))))))))
 refine Lt9 (P':=rowB 5 v27 (digB nm q c msg)) 302 rfl (fun h hp=>rowB_mk hp (by unfold digB; simp [sha_length]) (by unfold digB; simp [bs])) ?_
 refine (G9 rfl rfl (N9 (X9 ?_)))
 refine Q9 (R9 (G9 rfl rfl (N9 (X9 (Q9 (Q9 (R9 (G9 rfl rfl (N9 (X9 ?_))))))))))
 refine W_block ?_
 have hdl:(digB nm q c msg).length=32:=sha_length _
 refine W_loop (α:=Nat) (fun x=>[(8,.pointer (some ⟨g102,0,none⟩)),(10,v27),(11,.int .i64 (digSum (digB nm q c msg) x:Int)),(12,.int .i64 (x:Int))]) (fun x=>[(0,F),(102,blk g102 99 (nsC (List.replicate 133 0))),(302,rowB 5 v27 (digB nm q c msg))]) (fun x=>x≤128) (fun x=>128 - x) (0) (by omega) (a9 rfl) (a9 rfl) (fun x hx=>?_)
 have hds:=digSum_le (digB nm q c msg) x
 refine Q9 (Q9 (R9 (M9 rfl rfl (L9 rfl (Pn9 rfl rfl rfl (run_lss _ _ _ _ _ _)) (N9 (X9 ?_))))))
 refine C9 rfl (fun hc29=>?_) (fun hc29=>?_)
 ·
  have hlt:x < 128:=by have:=of_decide_eq_true hc29; omega
  have hdx:=dig_lt (digB nm q c msg) x
  refine K9 (X9 ?_)
  refine Q9 ?_
  refine W_block ?_
  refine R9 (M9 rfl rfl (L9 rfl (Pn9 rfl rfl rfl (run_add _ _ _ _ _ (by omega))) (M9 rfl rfl (M9 rfl rfl (Lc9 rfl rfl (by decide) (Oc9 400 [0,102,302] [] rfl Try.call71 rfl rfl rfl (by decide) (by decide) (digit5_spec v27 (digB nm q c msg) x (by omega) (by omega) _ (rs9 2 rfl rowB_rd)) (fun v36 Ps36 hR36=>?_)))))))
  obtain ⟨rfl,rfl⟩:=hR36
  refine (L9 rfl (Pn9 rfl rfl rfl (run_sub _ _ _ _ _ (by omega))) (G9 rfl rfl (N9 (X_block (X9 ?_)))))
  refine R9 (M9 rfl rfl (L9 rfl (Pn9 rfl rfl rfl (run_add _ _ _ _ _ (by omega))) (G9 rfl rfl (N9 ?_))))
  exact Xr9 (x + 1) (by omega) (by omega) ⟨rfl,rfl,lookV_eq rfl (int_eq (by have:=dig_lt (digB nm q c msg) x; rw [digSum]; omega)),rfl,trivial⟩ ⟨rfl,rfl,rfl,trivial⟩
 ·
  obtain rfl:x=128:=by have:=of_decide_eq_false hc29; omega
  refine W_exit (X_then_exit (X_then_exit (X_block_exit (X9 ?_))))
  refine Q9 (R9 (M9 rfl rfl (M9 rfl rfl (L9 rfl (Pn9 rfl rfl rfl (run_mul _ _ _ _ _ (by omega))) (Lc9 rfl rfl (by decide) (Oc9 400 [0,102] [302] rfl Try.call55 rfl rfl rfl (by decide) (by decide) (two5_spec _ rfl v27 (digB nm q c msg) (64 * (digSum (digB nm q c msg) 128:Int)) (by omega) _) (fun v41 Ps41 hR41=>?_)))))))
  subst hR41
  refine Lt9 (P':=rowB 5 v41 (digB2 nm q c msg)) 400 rfl (fun h hp=>by unfold digB2; rw [Int.natCast_mul]; exact hp) ?_
  refine (G9 rfl rfl (N9 (X9 ?_)))
  refine Q9 (R9 (Lc9 rfl rfl (by decide) (OpT_alloc (r:=401) (cs:=(nsC (List.replicate 133 0))) rfl (zero_run (by kernel_rfl:(Try.prog.info? 99).bind (·.zero)=some (nsV (List.replicate 133 0)))) rfl (fun g401=>(N9 (X9 (Q9 (Q9 (R9 (G9 rfl rfl (N9 (X9 ?_))))))))))))
  refine W_block ?_
  have hd2:=digB2_length nm q c msg
  refine W_loop (α:=Nat) (fun x=>[(8,.pointer (some ⟨g102,0,none⟩)),(10,v41),(13,.pointer (some ⟨g401,0,none⟩)),(14,.int .i64 (x:Int))]) (fun x=>[(0,F),(102,blk g102 99 (nsC (List.replicate 133 0))),(400,rowB 5 v41 (digB2 nm q c msg)),(401,blk g401 99 (nsC (digZ (digB2 nm q c msg) x)))]) (fun x=>x≤133) (fun x=>133 - x) (0) (by omega) ⟨rfl,rfl,rfl,rfl,trivial⟩ ⟨rfl,rfl,rfl,look_eq rfl (by rw [digZ_get0]; rfl),trivial⟩ (fun x hx=>?_)
  have hzl:=digZ_length (digB2 nm q c msg) hx
  refine Q9 (Q9 (R9 (M9 rfl rfl (L9 rfl (Pn9 rfl rfl rfl (run_lss _ _ _ _ _ _)) (N9 (X9 ?_))))))
  refine C9 rfl (fun hc43=>?_) (fun hc43=>?_)
  ·
   have hlt:x < 133:=by have:=of_decide_eq_true hc43; omega
   refine K9 (X9 ?_)
   refine Q9 ?_
   refine W_block ?_
   refine R9 (M9 rfl rfl (M9 rfl rfl (M9 rfl rfl (Lc9 rfl rfl (by decide) (Oc9 500 [0,102,400,401] [] rfl Try.call71 rfl rfl rfl (by decide) (by decide) (digit5_spec v41 (digB2 nm q c msg) x (by omega) (by omega) _ (rs9 2 rfl rowB_rd)) (fun v49 Ps49 hR49=>?_))))))
   obtain ⟨rfl,rfl⟩:=hR49
   refine (L9 rfl (Pu_idxA rfl Try.runUnderlying99 Try.sizeOf3 rfl rfl (by omega)) (Lc09 rfl rfl (OpT_storeB1 (r:=401) rfl Try.sizeOf3 rfl rfl rfl rfl (by rw [nsC_length,hzl]; omega) ((congrArg (fun q=>List.set _ q _) (Nat.zero_add _)).trans (digZ_set _ hlt)) ?_)))
   refine (N9 (X_block (X9 ?_)))
   refine R9 (M9 rfl rfl (L9 rfl (Pn9 rfl rfl rfl (run_add _ _ _ _ _ (by omega))) (G9 rfl rfl (N9 ?_))))
   exact Xr9 (x + 1) (by omega) (by omega) (a9 rfl) (a9 rfl)
  ·
   obtain rfl:x=133:=by have:=of_decide_eq_false hc43; omega
   rw [digZ_full]
   have hll:=digL_length (digB2 nm q c msg)
   refine W_exit (X_then_exit (X_then_exit (X_block_exit (X9 ?_))))
   refine Q9 (R9 (L9 rfl (Px9 (r:=401) rfl Try.isAgg99 Try.sizeOf99 rfl rfl ((nsC_length _).trans hll) (load_all ((nsC_length _).trans hll))) (Lc09 rfl rfl (OpT_storeAll (r:=102) rfl Try.sizeOf99 rfl rfl rfl rfl ((nsC_length _).trans hll) (nsC_one _) ?_))))
   refine (N9 (X9 ?_))
   refine W_ret ?_
   exact Xq9 [] (Ps:=[]) (resC1 (r:=102) Try.results57 rfl Try.isAgg99 Try.sizeOf99 rfl ((nsC_length _).trans hll)) rfl (by decide) ⟨rfl,rfl⟩
theorem sign5_spec (nm:List UInt8) (hn:nm.length=16) (q:Int) (seed:List UInt8) (hs:seed.length=32) (mv:Value) (msg:List UInt8) (hml:msg.length≤1000000) (F:HP) (hm:∀ h,F h→rdB mv msg h):CallsS Try.prog 38 #[idV nm,.int .i64 q,idV seed,mv] F [] (fun r Ps=>Ps=[rowB 5 r (sgnO nm q seed msg)]):=by
 refine callsS_enter Try.func38 rfl Try.ntmps38 (by simp) (fun E=>?_)
 refine Q9 (R9 (Lc9 rfl rfl (by decide) (OpT_box (r:=101) rfl rfl rfl (fun g101=>(Lc9 rfl rfl (by decide) (OpT_box (r:=102) rfl rfl rfl (fun g102=>(G9 rfl rfl (N9 (X9 ?_))))))))))
 refine W_cut (α:=Nat) (fun z9=>[(1,.int .i64 q),(3,mv),(4,.pointer (some ⟨g101,0,none⟩)),(6,.pointer (some ⟨g102,0,none⟩)),(9,.pointer (some ⟨z9,0,none⟩))]) (fun z9=>[(0,F),(101,blk g101 52 (bs nm)),(102,blk g102 29 (bs seed)),(181,blk z9 29 (bs (rndO nm q seed)))]) (fun z9=>True) ?_ (fun z9 _=>?_)
 ·
  refine W_draw (N:=11) (by kernel_rfl) rfl [(0,_),(101,_),(102,_)] ⟨rfl,rfl,rfl,trivial⟩ ?_
  refine (T9 0 rfl rfl (Px9 (r:=101) rfl Try.isAgg52 Try.sizeOf52 rfl rfl ((bs_length _).trans hn) (load_all ((bs_length _).trans hn))) (T9 1 rfl rfl (Pm9 rfl rfl) (T9 6 rfl rfl (Pu_sliceArr rfl Try.runUnderlying29 Try.sizeOf5 rfl) (Y9 [2,4,9] ?_))))
  refine Z9 rfl rfl (Oc9 200 [0,101,102] [] rfl Try.call56 rfl rfl rfl (by decide) (by decide) (head5_spec nm hn q _) (fun v16 Ps16 hR16=>?_)) ?_
  ·
   subst hR16
   refine ⟨⟨rfl,rfl,rfl,trivial⟩,?_⟩
   refine (Y9 [3,4,9] ?_)
   refine Z9 rfl rfl (Oc9 300 [0,101,102] [200] rfl Try.call55 rfl rfl rfl (by decide) (by decide) (two5_spec _ rfl _ (hdL nm q) 65533 (by rw [hdL_length hn]; omega) _) (fun v17 Ps17 hR17=>?_)) ?_
   ·
    subst hR17
    refine ⟨⟨rfl,rfl,rfl,trivial⟩,?_⟩
    refine (Y9 [4,9] ?_)
    refine Z9 rfl rfl (OpT_buildOnes (r:=301) (bs [255]) rfl rfl Try.runUnderlying30 Try.sizeOf5 Try.zeroValue5 rfl rfl (by decide) rfl (bs_cells _) (fun v18=>⟨⟨rfl,rfl,rfl,trivial⟩,?_⟩)) ?_
    ·
     refine (Y9 [5,9] ?_)
     refine Z9 rfl rfl (Oa9 (r:=300) (r2:=301) rfl Try.underlying30 TI.hi5 TI.hz5 TI.hs5 TI.hby5 TI.hzs5 (by decide) rfl rfl rfl rfl (fun _ h=>rp9 h) (bs_one _) (by unfold maxLen; simp [hdL_length hn,numB_length, *] <;> omega) (by simp [hdL_length hn,numB_length, *] <;> omega) (fun v19=>?_)) ?_
     ·
      refine ⟨⟨rfl,rfl,rfl,trivial⟩,?_⟩
      refine AH_turn (P':=rowB 5 v19 (hdL nm q++numB 65533 2++[255])) 300 rfl (fun h hp=>rowB_mk hp (by simp [hdL_length hn,numB_length, *] <;> omega) (by simp only [bs_append])) ?_
      refine (Y9 [7,9] ?_)
      refine Z9 rfl rfl (Oa9 (r:=300) (r2:=102) rfl Try.underlying30 TI.hi5 TI.hz5 TI.hs5 TI.hby5 TI.hzs5 (by decide) rfl rfl rfl rfl (fun _ h=>blk_all h hs) (bs_one _) (by unfold maxLen; simp [hdL_length hn,numB_length, *] <;> omega) (by simp [hdL_length hn,numB_length, *] <;> omega) (fun v21=>?_)) ?_
      ·
       refine ⟨⟨rfl,rfl,rfl,trivial⟩,?_⟩
       refine AH_turn (P':=rowB 5 v21 (hdL nm q++numB 65533 2++[255]++seed)) 300 rfl (fun h hp=>rowB_mk hp (by simp [hdL_length hn,numB_length, *] <;> omega) (by simp only [bs_append])) ?_
       refine (Y9 [8,9] ?_)
       refine Z9 rfl rfl (Oc9 400 [0,101,102,300,301] [] rfl Try.call14 rfl rfl rfl (by decide) (by decide) (refSum_spec v21 (hdL nm q++numB 65533 2++[255]++seed) (by simp [hdL_length hn,numB_length, *]) _ (rs9 3 rfl rowB_rd)) (fun v22 Ps22 hR22=>?_)) ?_
       ·
        obtain ⟨rfl,rfl⟩:=hR22
        refine ⟨⟨rfl,rfl,rfl,trivial⟩,?_⟩
        refine (Y9 [9] ?_)
        refine Z9 rfl rfl (OpT_alloc (r:=401) (cs:=(bs zeroId)) rfl (zero_run (by kernel_rfl:(Try.prog.info? 29).bind (·.zero)=some (.agg (bs zeroId).toArray))) rfl (fun g401=>⟨⟨rfl,rfl,rfl,trivial⟩,?_⟩)) ?_
        ·
         refine (Y9 [10] ?_)
         refine Ac09 rfl rfl rfl (OpT_storeAll (r:=401) rfl Try.sizeOf29 rfl rfl rfl rfl ((bs_length _).trans (sha_length _)) (bs_one _) ?_) ?_
         ·
          refine ⟨⟨rfl,rfl,rfl,trivial⟩,?_⟩
          refine (Ad9 (by kernel_rfl) ?_)
          refine X_ren 401 181 rfl ?_
          exact X_cut g401 trivial (a9 rfl) (a9 rfl)
         exact An9
        exact An9
       refine Z9 rfl rfl (OpT_alloc (r:=302) (cs:=(bs zeroId)) rfl (zero_run (by kernel_rfl:(Try.prog.info? 29).bind (·.zero)=some (.agg (bs zeroId).toArray))) rfl (fun g302=>⟨⟨rfl,rfl,rfl,trivial⟩,?_⟩)) ?_
       ·
        refine (Y9 [8] ?_)
        refine Z9 rfl rfl (Oc9 400 [0,101,102,300,301,302] [] rfl Try.call14 rfl rfl rfl (by decide) (by decide) (refSum_spec v21 (hdL nm q++numB 65533 2++[255]++seed) (by simp [hdL_length hn,numB_length, *]) _ (rs9 3 rfl rowB_rd)) (fun v22 Ps22 hR22=>?_)) ?_
        ·
         obtain ⟨rfl,rfl⟩:=hR22
         refine ⟨⟨rfl,rfl,rfl,trivial⟩,?_⟩
         refine (Y9 [10] ?_)
         refine Ac09 rfl rfl rfl (OpT_storeAll (r:=302) rfl Try.sizeOf29 rfl rfl rfl rfl ((bs_length _).trans (sha_length _)) (bs_one _) ?_) ?_
         ·
          refine ⟨⟨rfl,rfl,rfl,trivial⟩,?_⟩
          refine (Ad9 (by kernel_rfl) ?_)
          refine X_ren 302 181 rfl ?_
          exact X_cut g302 trivial (a9 rfl) (a9 rfl)
         exact An9
        exact An9
       exact An9
      refine Z9 rfl rfl (OpT_alloc (r:=302) (cs:=(bs zeroId)) rfl (zero_run (by kernel_rfl:(Try.prog.info? 29).bind (·.zero)=some (.agg (bs zeroId).toArray))) rfl (fun g302=>⟨⟨rfl,rfl,rfl,trivial⟩,?_⟩)) ?_
      ·
       refine (Y9 [7] ?_)
       refine Z9 rfl rfl (Oa9 (r:=300) (r2:=102) rfl Try.underlying30 TI.hi5 TI.hz5 TI.hs5 TI.hby5 TI.hzs5 (by decide) rfl rfl rfl rfl (fun _ h=>blk_all h hs) (bs_one _) (by unfold maxLen; simp [hdL_length hn,numB_length, *] <;> omega) (by simp [hdL_length hn,numB_length, *] <;> omega) (fun v21=>?_)) ?_
       ·
        refine ⟨⟨rfl,rfl,rfl,trivial⟩,?_⟩
        refine AH_turn (P':=rowB 5 v21 (hdL nm q++numB 65533 2++[255]++seed)) 300 rfl (fun h hp=>rowB_mk hp (by simp [hdL_length hn,numB_length, *] <;> omega) (by simp only [bs_append])) ?_
        refine (Y9 [8] ?_)
        refine Z9 rfl rfl (Oc9 400 [0,101,102,300,301,302] [] rfl Try.call14 rfl rfl rfl (by decide) (by decide) (refSum_spec v21 (hdL nm q++numB 65533 2++[255]++seed) (by simp [hdL_length hn,numB_length, *]) _ (rs9 3 rfl rowB_rd)) (fun v22 Ps22 hR22=>?_)) ?_
        ·
         obtain ⟨rfl,rfl⟩:=hR22
         refine ⟨⟨rfl,rfl,rfl,trivial⟩,?_⟩
         refine (Y9 [10] ?_)
         refine Ac09 rfl rfl rfl (OpT_storeAll (r:=302) rfl Try.sizeOf29 rfl rfl rfl rfl ((bs_length _).trans (sha_length _)) (bs_one _) ?_) ?_
         ·
          refine ⟨⟨rfl,rfl,rfl,trivial⟩,?_⟩
          refine (Ad9 (by kernel_rfl) ?_)
          refine X_ren 302 181 rfl ?_
          exact X_cut g302 trivial (a9 rfl) (a9 rfl)
         exact An9
        exact An9
       exact An9
      exact An9
     refine Z9 rfl rfl (OpT_alloc (r:=302) (cs:=(bs zeroId)) rfl (zero_run (by kernel_rfl:(Try.prog.info? 29).bind (·.zero)=some (.agg (bs zeroId).toArray))) rfl (fun g302=>⟨⟨rfl,rfl,rfl,trivial⟩,?_⟩)) ?_
     ·
      refine (Y9 [5] ?_)
      refine Z9 rfl rfl (Oa9 (r:=300) (r2:=301) rfl Try.underlying30 TI.hi5 TI.hz5 TI.hs5 TI.hby5 TI.hzs5 (by decide) rfl rfl rfl rfl (fun _ h=>rp9 h) (bs_one _) (by unfold maxLen; simp [hdL_length hn,numB_length, *] <;> omega) (by simp [hdL_length hn,numB_length, *] <;> omega) (fun v19=>?_)) ?_
      ·
       refine ⟨⟨rfl,rfl,rfl,trivial⟩,?_⟩
       refine AH_turn (P':=rowB 5 v19 (hdL nm q++numB 65533 2++[255])) 300 rfl (fun h hp=>rowB_mk hp (by simp [hdL_length hn,numB_length, *] <;> omega) (by simp only [bs_append])) ?_
       refine (Y9 [7] ?_)
       refine Z9 rfl rfl (Oa9 (r:=300) (r2:=102) rfl Try.underlying30 TI.hi5 TI.hz5 TI.hs5 TI.hby5 TI.hzs5 (by decide) rfl rfl rfl rfl (fun _ h=>blk_all h hs) (bs_one _) (by unfold maxLen; simp [hdL_length hn,numB_length, *] <;> omega) (by simp [hdL_length hn,numB_length, *] <;> omega) (fun v21=>?_)) ?_
       ·
        refine ⟨⟨rfl,rfl,rfl,trivial⟩,?_⟩
        refine AH_turn (P':=rowB 5 v21 (hdL nm q++numB 65533 2++[255]++seed)) 300 rfl (fun h hp=>rowB_mk hp (by simp [hdL_length hn,numB_length, *] <;> omega) (by simp only [bs_append])) ?_
        refine (Y9 [8] ?_)
        refine Z9 rfl rfl (Oc9 400 [0,101,102,300,301,302] [] rfl Try.call14 rfl rfl rfl (by decide) (by decide) (refSum_spec v21 (hdL nm q++numB 65533 2++[255]++seed) (by simp [hdL_length hn,numB_length, *]) _ (rs9 3 rfl rowB_rd)) (fun v22 Ps22 hR22=>?_)) ?_
        ·
         obtain ⟨rfl,rfl⟩:=hR22
         refine ⟨⟨rfl,rfl,rfl,trivial⟩,?_⟩
         refine (Y9 [10] ?_)
         refine Ac09 rfl rfl rfl (OpT_storeAll (r:=302) rfl Try.sizeOf29 rfl rfl rfl rfl ((bs_length _).trans (sha_length _)) (bs_one _) ?_) ?_
         ·
          refine ⟨⟨rfl,rfl,rfl,trivial⟩,?_⟩
          refine (Ad9 (by kernel_rfl) ?_)
          refine X_ren 302 181 rfl ?_
          exact X_cut g302 trivial (a9 rfl) (a9 rfl)
         exact An9
        exact An9
       exact An9
      exact An9
     exact An9
    refine Z9 rfl rfl (OpT_alloc (r:=301) (cs:=(bs zeroId)) rfl (zero_run (by kernel_rfl:(Try.prog.info? 29).bind (·.zero)=some (.agg (bs zeroId).toArray))) rfl (fun g301=>⟨⟨rfl,rfl,rfl,trivial⟩,?_⟩)) ?_
    ·
     refine (Y9 [4] ?_)
     refine Z9 rfl rfl (OpT_buildOnes (r:=302) (bs [255]) rfl rfl Try.runUnderlying30 Try.sizeOf5 Try.zeroValue5 rfl rfl (by decide) rfl (bs_cells _) (fun v18=>⟨⟨rfl,rfl,rfl,trivial⟩,?_⟩)) ?_
     ·
      refine (Y9 [5] ?_)
      refine Z9 rfl rfl (Oa9 (r:=300) (r2:=302) rfl Try.underlying30 TI.hi5 TI.hz5 TI.hs5 TI.hby5 TI.hzs5 (by decide) rfl rfl rfl rfl (fun _ h=>rp9 h) (bs_one _) (by unfold maxLen; simp [hdL_length hn,numB_length, *] <;> omega) (by simp [hdL_length hn,numB_length, *] <;> omega) (fun v19=>?_)) ?_
      ·
       refine ⟨⟨rfl,rfl,rfl,trivial⟩,?_⟩
       refine AH_turn (P':=rowB 5 v19 (hdL nm q++numB 65533 2++[255])) 300 rfl (fun h hp=>rowB_mk hp (by simp [hdL_length hn,numB_length, *] <;> omega) (by simp only [bs_append])) ?_
       refine (Y9 [7] ?_)
       refine Z9 rfl rfl (Oa9 (r:=300) (r2:=102) rfl Try.underlying30 TI.hi5 TI.hz5 TI.hs5 TI.hby5 TI.hzs5 (by decide) rfl rfl rfl rfl (fun _ h=>blk_all h hs) (bs_one _) (by unfold maxLen; simp [hdL_length hn,numB_length, *] <;> omega) (by simp [hdL_length hn,numB_length, *] <;> omega) (fun v21=>?_)) ?_
       ·
        refine ⟨⟨rfl,rfl,rfl,trivial⟩,?_⟩
        refine AH_turn (P':=rowB 5 v21 (hdL nm q++numB 65533 2++[255]++seed)) 300 rfl (fun h hp=>rowB_mk hp (by simp [hdL_length hn,numB_length, *] <;> omega) (by simp only [bs_append])) ?_
        refine (Y9 [8] ?_)
        refine Z9 rfl rfl (Oc9 400 [0,101,102,300,301,302] [] rfl Try.call14 rfl rfl rfl (by decide) (by decide) (refSum_spec v21 (hdL nm q++numB 65533 2++[255]++seed) (by simp [hdL_length hn,numB_length, *]) _ (rs9 3 rfl rowB_rd)) (fun v22 Ps22 hR22=>?_)) ?_
        ·
         obtain ⟨rfl,rfl⟩:=hR22
         refine ⟨⟨rfl,rfl,rfl,trivial⟩,?_⟩
         refine (Y9 [10] ?_)
         refine Ac09 rfl rfl rfl (OpT_storeAll (r:=301) rfl Try.sizeOf29 rfl rfl rfl rfl ((bs_length _).trans (sha_length _)) (bs_one _) ?_) ?_
         ·
          refine ⟨⟨rfl,rfl,rfl,trivial⟩,?_⟩
          refine (Ad9 (by kernel_rfl) ?_)
          refine X_ren 301 181 rfl ?_
          exact X_cut g301 trivial (a9 rfl) (a9 rfl)
         exact An9
        exact An9
       exact An9
      exact An9
     exact An9
    exact An9
   refine Z9 rfl rfl (OpT_buildOnes (r:=201) (bs [255]) rfl rfl Try.runUnderlying30 Try.sizeOf5 Try.zeroValue5 rfl rfl (by decide) rfl (bs_cells _) (fun v18=>⟨⟨rfl,rfl,rfl,trivial⟩,?_⟩)) ?_
   ·
    refine (Y9 [3,9] ?_)
    refine Z9 rfl rfl (Oc9 300 [0,101,102,201] [200] rfl Try.call55 rfl rfl rfl (by decide) (by decide) (two5_spec _ rfl _ (hdL nm q) 65533 (by rw [hdL_length hn]; omega) _) (fun v17 Ps17 hR17=>?_)) ?_
    ·
     subst hR17
     refine ⟨⟨rfl,rfl,rfl,trivial⟩,?_⟩
     refine (Y9 [5,9] ?_)
     refine Z9 rfl rfl (Oa9 (r:=300) (r2:=201) rfl Try.underlying30 TI.hi5 TI.hz5 TI.hs5 TI.hby5 TI.hzs5 (by decide) rfl rfl rfl rfl (fun _ h=>rp9 h) (bs_one _) (by unfold maxLen; simp [hdL_length hn,numB_length, *] <;> omega) (by simp [hdL_length hn,numB_length, *] <;> omega) (fun v19=>?_)) ?_
     ·
      refine ⟨⟨rfl,rfl,rfl,trivial⟩,?_⟩
      refine AH_turn (P':=rowB 5 v19 (hdL nm q++numB 65533 2++[255])) 300 rfl (fun h hp=>rowB_mk hp (by simp [hdL_length hn,numB_length, *] <;> omega) (by simp only [bs_append])) ?_
      refine (Y9 [7,9] ?_)
      refine Z9 rfl rfl (Oa9 (r:=300) (r2:=102) rfl Try.underlying30 TI.hi5 TI.hz5 TI.hs5 TI.hby5 TI.hzs5 (by decide) rfl rfl rfl rfl (fun _ h=>blk_all h hs) (bs_one _) (by unfold maxLen; simp [hdL_length hn,numB_length, *] <;> omega) (by simp [hdL_length hn,numB_length, *] <;> omega) (fun v21=>?_)) ?_
      ·
       refine ⟨⟨rfl,rfl,rfl,trivial⟩,?_⟩
       refine AH_turn (P':=rowB 5 v21 (hdL nm q++numB 65533 2++[255]++seed)) 300 rfl (fun h hp=>rowB_mk hp (by simp [hdL_length hn,numB_length, *] <;> omega) (by simp only [bs_append])) ?_
       refine (Y9 [8,9] ?_)
       refine Z9 rfl rfl (Oc9 400 [0,101,102,201,300] [] rfl Try.call14 rfl rfl rfl (by decide) (by decide) (refSum_spec v21 (hdL nm q++numB 65533 2++[255]++seed) (by simp [hdL_length hn,numB_length, *]) _ (rs9 4 rfl rowB_rd)) (fun v22 Ps22 hR22=>?_)) ?_
       ·
        obtain ⟨rfl,rfl⟩:=hR22
        refine ⟨⟨rfl,rfl,rfl,trivial⟩,?_⟩
        refine (Y9 [9] ?_)
        refine Z9 rfl rfl (OpT_alloc (r:=401) (cs:=(bs zeroId)) rfl (zero_run (by kernel_rfl:(Try.prog.info? 29).bind (·.zero)=some (.agg (bs zeroId).toArray))) rfl (fun g401=>⟨⟨rfl,rfl,rfl,trivial⟩,?_⟩)) ?_
        ·
         refine (Y9 [10] ?_)
         refine Ac09 rfl rfl rfl (OpT_storeAll (r:=401) rfl Try.sizeOf29 rfl rfl rfl rfl ((bs_length _).trans (sha_length _)) (bs_one _) ?_) ?_
         ·
          refine ⟨⟨rfl,rfl,rfl,trivial⟩,?_⟩
          refine (Ad9 (by kernel_rfl) ?_)
          refine X_ren 401 181 rfl ?_
          exact X_cut g401 trivial (a9 rfl) (a9 rfl)
         exact An9
        exact An9
       refine Z9 rfl rfl (OpT_alloc (r:=301) (cs:=(bs zeroId)) rfl (zero_run (by kernel_rfl:(Try.prog.info? 29).bind (·.zero)=some (.agg (bs zeroId).toArray))) rfl (fun g301=>⟨⟨rfl,rfl,rfl,trivial⟩,?_⟩)) ?_
       ·
        refine (Y9 [8] ?_)
        refine Z9 rfl rfl (Oc9 400 [0,101,102,201,300,301] [] rfl Try.call14 rfl rfl rfl (by decide) (by decide) (refSum_spec v21 (hdL nm q++numB 65533 2++[255]++seed) (by simp [hdL_length hn,numB_length, *]) _ (rs9 4 rfl rowB_rd)) (fun v22 Ps22 hR22=>?_)) ?_
        ·
         obtain ⟨rfl,rfl⟩:=hR22
         refine ⟨⟨rfl,rfl,rfl,trivial⟩,?_⟩
         refine (Y9 [10] ?_)
         refine Ac09 rfl rfl rfl (OpT_storeAll (r:=301) rfl Try.sizeOf29 rfl rfl rfl rfl ((bs_length _).trans (sha_length _)) (bs_one _) ?_) ?_
         ·
          refine ⟨⟨rfl,rfl,rfl,trivial⟩,?_⟩
          refine (Ad9 (by kernel_rfl) ?_)
          refine X_ren 301 181 rfl ?_
          exact X_cut g301 trivial (a9 rfl) (a9 rfl)
         exact An9
        exact An9
       exact An9
      refine Z9 rfl rfl (OpT_alloc (r:=301) (cs:=(bs zeroId)) rfl (zero_run (by kernel_rfl:(Try.prog.info? 29).bind (·.zero)=some (.agg (bs zeroId).toArray))) rfl (fun g301=>⟨⟨rfl,rfl,rfl,trivial⟩,?_⟩)) ?_
      ·
       refine (Y9 [7] ?_)
       refine Z9 rfl rfl (Oa9 (r:=300) (r2:=102) rfl Try.underlying30 TI.hi5 TI.hz5 TI.hs5 TI.hby5 TI.hzs5 (by decide) rfl rfl rfl rfl (fun _ h=>blk_all h hs) (bs_one _) (by unfold maxLen; simp [hdL_length hn,numB_length, *] <;> omega) (by simp [hdL_length hn,numB_length, *] <;> omega) (fun v21=>?_)) ?_
       ·
        refine ⟨⟨rfl,rfl,rfl,trivial⟩,?_⟩
        refine AH_turn (P':=rowB 5 v21 (hdL nm q++numB 65533 2++[255]++seed)) 300 rfl (fun h hp=>rowB_mk hp (by simp [hdL_length hn,numB_length, *] <;> omega) (by simp only [bs_append])) ?_
        refine (Y9 [8] ?_)
        refine Z9 rfl rfl (Oc9 400 [0,101,102,201,300,301] [] rfl Try.call14 rfl rfl rfl (by decide) (by decide) (refSum_spec v21 (hdL nm q++numB 65533 2++[255]++seed) (by simp [hdL_length hn,numB_length, *]) _ (rs9 4 rfl rowB_rd)) (fun v22 Ps22 hR22=>?_)) ?_
        ·
         obtain ⟨rfl,rfl⟩:=hR22
         refine ⟨⟨rfl,rfl,rfl,trivial⟩,?_⟩
         refine (Y9 [10] ?_)
         refine Ac09 rfl rfl rfl (OpT_storeAll (r:=301) rfl Try.sizeOf29 rfl rfl rfl rfl ((bs_length _).trans (sha_length _)) (bs_one _) ?_) ?_
         ·
          refine ⟨⟨rfl,rfl,rfl,trivial⟩,?_⟩
          refine (Ad9 (by kernel_rfl) ?_)
          refine X_ren 301 181 rfl ?_
          exact X_cut g301 trivial (a9 rfl) (a9 rfl)
         exact An9
        exact An9
       exact An9
      exact An9
     refine Z9 rfl rfl (OpT_alloc (r:=301) (cs:=(bs zeroId)) rfl (zero_run (by kernel_rfl:(Try.prog.info? 29).bind (·.zero)=some (.agg (bs zeroId).toArray))) rfl (fun g301=>⟨⟨rfl,rfl,rfl,trivial⟩,?_⟩)) ?_
     ·
      refine (Y9 [5] ?_)
      refine Z9 rfl rfl (Oa9 (r:=300) (r2:=201) rfl Try.underlying30 TI.hi5 TI.hz5 TI.hs5 TI.hby5 TI.hzs5 (by decide) rfl rfl rfl rfl (fun _ h=>rp9 h) (bs_one _) (by unfold maxLen; simp [hdL_length hn,numB_length, *] <;> omega) (by simp [hdL_length hn,numB_length, *] <;> omega) (fun v19=>?_)) ?_
      ·
       refine ⟨⟨rfl,rfl,rfl,trivial⟩,?_⟩
       refine AH_turn (P':=rowB 5 v19 (hdL nm q++numB 65533 2++[255])) 300 rfl (fun h hp=>rowB_mk hp (by simp [hdL_length hn,numB_length, *] <;> omega) (by simp only [bs_append])) ?_
       refine (Y9 [7] ?_)
       refine Z9 rfl rfl (Oa9 (r:=300) (r2:=102) rfl Try.underlying30 TI.hi5 TI.hz5 TI.hs5 TI.hby5 TI.hzs5 (by decide) rfl rfl rfl rfl (fun _ h=>blk_all h hs) (bs_one _) (by unfold maxLen; simp [hdL_length hn,numB_length, *] <;> omega) (by simp [hdL_length hn,numB_length, *] <;> omega) (fun v21=>?_)) ?_
       ·
        refine ⟨⟨rfl,rfl,rfl,trivial⟩,?_⟩
        refine AH_turn (P':=rowB 5 v21 (hdL nm q++numB 65533 2++[255]++seed)) 300 rfl (fun h hp=>rowB_mk hp (by simp [hdL_length hn,numB_length, *] <;> omega) (by simp only [bs_append])) ?_
        refine (Y9 [8] ?_)
        refine Z9 rfl rfl (Oc9 400 [0,101,102,201,300,301] [] rfl Try.call14 rfl rfl rfl (by decide) (by decide) (refSum_spec v21 (hdL nm q++numB 65533 2++[255]++seed) (by simp [hdL_length hn,numB_length, *]) _ (rs9 4 rfl rowB_rd)) (fun v22 Ps22 hR22=>?_)) ?_
        ·
         obtain ⟨rfl,rfl⟩:=hR22
         refine ⟨⟨rfl,rfl,rfl,trivial⟩,?_⟩
         refine (Y9 [10] ?_)
         refine Ac09 rfl rfl rfl (OpT_storeAll (r:=301) rfl Try.sizeOf29 rfl rfl rfl rfl ((bs_length _).trans (sha_length _)) (bs_one _) ?_) ?_
         ·
          refine ⟨⟨rfl,rfl,rfl,trivial⟩,?_⟩
          refine (Ad9 (by kernel_rfl) ?_)
          refine X_ren 301 181 rfl ?_
          exact X_cut g301 trivial (a9 rfl) (a9 rfl)
         exact An9
        exact An9
       exact An9
      exact An9
     exact An9
    refine Z9 rfl rfl (OpT_alloc (r:=202) (cs:=(bs zeroId)) rfl (zero_run (by kernel_rfl:(Try.prog.info? 29).bind (·.zero)=some (.agg (bs zeroId).toArray))) rfl (fun g202=>⟨⟨rfl,rfl,rfl,trivial⟩,?_⟩)) ?_
    ·
     refine (Y9 [3] ?_)
     refine Z9 rfl rfl (Oc9 300 [0,101,102,201,202] [200] rfl Try.call55 rfl rfl rfl (by decide) (by decide) (two5_spec _ rfl _ (hdL nm q) 65533 (by rw [hdL_length hn]; omega) _) (fun v17 Ps17 hR17=>?_)) ?_
     ·
      subst hR17
      refine ⟨⟨rfl,rfl,rfl,trivial⟩,?_⟩
      refine (Y9 [5] ?_)
      refine Z9 rfl rfl (Oa9 (r:=300) (r2:=201) rfl Try.underlying30 TI.hi5 TI.hz5 TI.hs5 TI.hby5 TI.hzs5 (by decide) rfl rfl rfl rfl (fun _ h=>rp9 h) (bs_one _) (by unfold maxLen; simp [hdL_length hn,numB_length, *] <;> omega) (by simp [hdL_length hn,numB_length, *] <;> omega) (fun v19=>?_)) ?_
      ·
       refine ⟨⟨rfl,rfl,rfl,trivial⟩,?_⟩
       refine AH_turn (P':=rowB 5 v19 (hdL nm q++numB 65533 2++[255])) 300 rfl (fun h hp=>rowB_mk hp (by simp [hdL_length hn,numB_length, *] <;> omega) (by simp only [bs_append])) ?_
       refine (Y9 [7] ?_)
       refine Z9 rfl rfl (Oa9 (r:=300) (r2:=102) rfl Try.underlying30 TI.hi5 TI.hz5 TI.hs5 TI.hby5 TI.hzs5 (by decide) rfl rfl rfl rfl (fun _ h=>blk_all h hs) (bs_one _) (by unfold maxLen; simp [hdL_length hn,numB_length, *] <;> omega) (by simp [hdL_length hn,numB_length, *] <;> omega) (fun v21=>?_)) ?_
       ·
        refine ⟨⟨rfl,rfl,rfl,trivial⟩,?_⟩
        refine AH_turn (P':=rowB 5 v21 (hdL nm q++numB 65533 2++[255]++seed)) 300 rfl (fun h hp=>rowB_mk hp (by simp [hdL_length hn,numB_length, *] <;> omega) (by simp only [bs_append])) ?_
        refine (Y9 [8] ?_)
        refine Z9 rfl rfl (Oc9 400 [0,101,102,201,202,300] [] rfl Try.call14 rfl rfl rfl (by decide) (by decide) (refSum_spec v21 (hdL nm q++numB 65533 2++[255]++seed) (by simp [hdL_length hn,numB_length, *]) _ (rs9 5 rfl rowB_rd)) (fun v22 Ps22 hR22=>?_)) ?_
        ·
         obtain ⟨rfl,rfl⟩:=hR22
         refine ⟨⟨rfl,rfl,rfl,trivial⟩,?_⟩
         refine (Y9 [10] ?_)
         refine Ac09 rfl rfl rfl (OpT_storeAll (r:=202) rfl Try.sizeOf29 rfl rfl rfl rfl ((bs_length _).trans (sha_length _)) (bs_one _) ?_) ?_
         ·
          refine ⟨⟨rfl,rfl,rfl,trivial⟩,?_⟩
          refine (Ad9 (by kernel_rfl) ?_)
          refine X_ren 202 181 rfl ?_
          exact X_cut g202 trivial (a9 rfl) (a9 rfl)
         exact An9
        exact An9
       exact An9
      exact An9
     exact An9
    exact An9
   refine Z9 rfl rfl (OpT_alloc (r:=201) (cs:=(bs zeroId)) rfl (zero_run (by kernel_rfl:(Try.prog.info? 29).bind (·.zero)=some (.agg (bs zeroId).toArray))) rfl (fun g201=>⟨⟨rfl,rfl,rfl,trivial⟩,?_⟩)) ?_
   ·
    refine (Y9 [3,4] ?_)
    refine Z9 rfl rfl (Oc9 300 [0,101,102,201] [200] rfl Try.call55 rfl rfl rfl (by decide) (by decide) (two5_spec _ rfl _ (hdL nm q) 65533 (by rw [hdL_length hn]; omega) _) (fun v17 Ps17 hR17=>?_)) ?_
    ·
     subst hR17
     refine ⟨⟨rfl,rfl,rfl,trivial⟩,?_⟩
     refine (Y9 [4] ?_)
     refine Z9 rfl rfl (OpT_buildOnes (r:=301) (bs [255]) rfl rfl Try.runUnderlying30 Try.sizeOf5 Try.zeroValue5 rfl rfl (by decide) rfl (bs_cells _) (fun v18=>⟨⟨rfl,rfl,rfl,trivial⟩,?_⟩)) ?_
     ·
      refine (Y9 [5] ?_)
      refine Z9 rfl rfl (Oa9 (r:=300) (r2:=301) rfl Try.underlying30 TI.hi5 TI.hz5 TI.hs5 TI.hby5 TI.hzs5 (by decide) rfl rfl rfl rfl (fun _ h=>rp9 h) (bs_one _) (by unfold maxLen; simp [hdL_length hn,numB_length, *] <;> omega) (by simp [hdL_length hn,numB_length, *] <;> omega) (fun v19=>?_)) ?_
      ·
       refine ⟨⟨rfl,rfl,rfl,trivial⟩,?_⟩
       refine AH_turn (P':=rowB 5 v19 (hdL nm q++numB 65533 2++[255])) 300 rfl (fun h hp=>rowB_mk hp (by simp [hdL_length hn,numB_length, *] <;> omega) (by simp only [bs_append])) ?_
       refine (Y9 [7] ?_)
       refine Z9 rfl rfl (Oa9 (r:=300) (r2:=102) rfl Try.underlying30 TI.hi5 TI.hz5 TI.hs5 TI.hby5 TI.hzs5 (by decide) rfl rfl rfl rfl (fun _ h=>blk_all h hs) (bs_one _) (by unfold maxLen; simp [hdL_length hn,numB_length, *] <;> omega) (by simp [hdL_length hn,numB_length, *] <;> omega) (fun v21=>?_)) ?_
       ·
        refine ⟨⟨rfl,rfl,rfl,trivial⟩,?_⟩
        refine AH_turn (P':=rowB 5 v21 (hdL nm q++numB 65533 2++[255]++seed)) 300 rfl (fun h hp=>rowB_mk hp (by simp [hdL_length hn,numB_length, *] <;> omega) (by simp only [bs_append])) ?_
        refine (Y9 [8] ?_)
        refine Z9 rfl rfl (Oc9 400 [0,101,102,201,300,301] [] rfl Try.call14 rfl rfl rfl (by decide) (by decide) (refSum_spec v21 (hdL nm q++numB 65533 2++[255]++seed) (by simp [hdL_length hn,numB_length, *]) _ (rs9 4 rfl rowB_rd)) (fun v22 Ps22 hR22=>?_)) ?_
        ·
         obtain ⟨rfl,rfl⟩:=hR22
         refine ⟨⟨rfl,rfl,rfl,trivial⟩,?_⟩
         refine (Y9 [10] ?_)
         refine Ac09 rfl rfl rfl (OpT_storeAll (r:=201) rfl Try.sizeOf29 rfl rfl rfl rfl ((bs_length _).trans (sha_length _)) (bs_one _) ?_) ?_
         ·
          refine ⟨⟨rfl,rfl,rfl,trivial⟩,?_⟩
          refine (Ad9 (by kernel_rfl) ?_)
          refine X_ren 201 181 rfl ?_
          exact X_cut g201 trivial (a9 rfl) (a9 rfl)
         exact An9
        exact An9
       exact An9
      exact An9
     exact An9
    refine Z9 rfl rfl (OpT_buildOnes (r:=202) (bs [255]) rfl rfl Try.runUnderlying30 Try.sizeOf5 Try.zeroValue5 rfl rfl (by decide) rfl (bs_cells _) (fun v18=>⟨⟨rfl,rfl,rfl,trivial⟩,?_⟩)) ?_
    ·
     refine (Y9 [3] ?_)
     refine Z9 rfl rfl (Oc9 300 [0,101,102,201,202] [200] rfl Try.call55 rfl rfl rfl (by decide) (by decide) (two5_spec _ rfl _ (hdL nm q) 65533 (by rw [hdL_length hn]; omega) _) (fun v17 Ps17 hR17=>?_)) ?_
     ·
      subst hR17
      refine ⟨⟨rfl,rfl,rfl,trivial⟩,?_⟩
      refine (Y9 [5] ?_)
      refine Z9 rfl rfl (Oa9 (r:=300) (r2:=202) rfl Try.underlying30 TI.hi5 TI.hz5 TI.hs5 TI.hby5 TI.hzs5 (by decide) rfl rfl rfl rfl (fun _ h=>rp9 h) (bs_one _) (by unfold maxLen; simp [hdL_length hn,numB_length, *] <;> omega) (by simp [hdL_length hn,numB_length, *] <;> omega) (fun v19=>?_)) ?_
      ·
       refine ⟨⟨rfl,rfl,rfl,trivial⟩,?_⟩
       refine AH_turn (P':=rowB 5 v19 (hdL nm q++numB 65533 2++[255])) 300 rfl (fun h hp=>rowB_mk hp (by simp [hdL_length hn,numB_length, *] <;> omega) (by simp only [bs_append])) ?_
       refine (Y9 [7] ?_)
       refine Z9 rfl rfl (Oa9 (r:=300) (r2:=102) rfl Try.underlying30 TI.hi5 TI.hz5 TI.hs5 TI.hby5 TI.hzs5 (by decide) rfl rfl rfl rfl (fun _ h=>blk_all h hs) (bs_one _) (by unfold maxLen; simp [hdL_length hn,numB_length, *] <;> omega) (by simp [hdL_length hn,numB_length, *] <;> omega) (fun v21=>?_)) ?_
       ·
        refine ⟨⟨rfl,rfl,rfl,trivial⟩,?_⟩
        refine AH_turn (P':=rowB 5 v21 (hdL nm q++numB 65533 2++[255]++seed)) 300 rfl (fun h hp=>rowB_mk hp (by simp [hdL_length hn,numB_length, *] <;> omega) (by simp only [bs_append])) ?_
        refine (Y9 [8] ?_)
        refine Z9 rfl rfl (Oc9 400 [0,101,102,201,202,300] [] rfl Try.call14 rfl rfl rfl (by decide) (by decide) (refSum_spec v21 (hdL nm q++numB 65533 2++[255]++seed) (by simp [hdL_length hn,numB_length, *]) _ (rs9 5 rfl rowB_rd)) (fun v22 Ps22 hR22=>?_)) ?_
        ·
         obtain ⟨rfl,rfl⟩:=hR22
         refine ⟨⟨rfl,rfl,rfl,trivial⟩,?_⟩
         refine (Y9 [10] ?_)
         refine Ac09 rfl rfl rfl (OpT_storeAll (r:=201) rfl Try.sizeOf29 rfl rfl rfl rfl ((bs_length _).trans (sha_length _)) (bs_one _) ?_) ?_
         ·
          refine ⟨⟨rfl,rfl,rfl,trivial⟩,?_⟩
          refine (Ad9 (by kernel_rfl) ?_)
          refine X_ren 201 181 rfl ?_
          exact X_cut g201 trivial (a9 rfl) (a9 rfl)
         exact An9
        exact An9
       exact An9
      exact An9
     exact An9
    exact An9
   exact An9
  refine Z9 rfl rfl (OpT_buildOnes (r:=103) (bs [255]) rfl rfl Try.runUnderlying30 Try.sizeOf5 Try.zeroValue5 rfl rfl (by decide) rfl (bs_cells _) (fun v18=>⟨⟨rfl,rfl,rfl,trivial⟩,?_⟩)) ?_
  ·
   refine (Y9 [2,9] ?_)
   refine Z9 rfl rfl (Oc9 200 [0,101,102,103] [] rfl Try.call56 rfl rfl rfl (by decide) (by decide) (head5_spec nm hn q _) (fun v16 Ps16 hR16=>?_)) ?_
   ·
    subst hR16
    refine ⟨⟨rfl,rfl,rfl,trivial⟩,?_⟩
    refine (Y9 [3,9] ?_)
    refine Z9 rfl rfl (Oc9 300 [0,101,102,103] [200] rfl Try.call55 rfl rfl rfl (by decide) (by decide) (two5_spec _ rfl _ (hdL nm q) 65533 (by rw [hdL_length hn]; omega) _) (fun v17 Ps17 hR17=>?_)) ?_
    ·
     subst hR17
     refine ⟨⟨rfl,rfl,rfl,trivial⟩,?_⟩
     refine (Y9 [5,9] ?_)
     refine Z9 rfl rfl (Oa9 (r:=300) (r2:=103) rfl Try.underlying30 TI.hi5 TI.hz5 TI.hs5 TI.hby5 TI.hzs5 (by decide) rfl rfl rfl rfl (fun _ h=>rp9 h) (bs_one _) (by unfold maxLen; simp [hdL_length hn,numB_length, *] <;> omega) (by simp [hdL_length hn,numB_length, *] <;> omega) (fun v19=>?_)) ?_
     ·
      refine ⟨⟨rfl,rfl,rfl,trivial⟩,?_⟩
      refine AH_turn (P':=rowB 5 v19 (hdL nm q++numB 65533 2++[255])) 300 rfl (fun h hp=>rowB_mk hp (by simp [hdL_length hn,numB_length, *] <;> omega) (by simp only [bs_append])) ?_
      refine (Y9 [7,9] ?_)
      refine Z9 rfl rfl (Oa9 (r:=300) (r2:=102) rfl Try.underlying30 TI.hi5 TI.hz5 TI.hs5 TI.hby5 TI.hzs5 (by decide) rfl rfl rfl rfl (fun _ h=>blk_all h hs) (bs_one _) (by unfold maxLen; simp [hdL_length hn,numB_length, *] <;> omega) (by simp [hdL_length hn,numB_length, *] <;> omega) (fun v21=>?_)) ?_
      ·
       refine ⟨⟨rfl,rfl,rfl,trivial⟩,?_⟩
       refine AH_turn (P':=rowB 5 v21 (hdL nm q++numB 65533 2++[255]++seed)) 300 rfl (fun h hp=>rowB_mk hp (by simp [hdL_length hn,numB_length, *] <;> omega) (by simp only [bs_append])) ?_
       refine (Y9 [8,9] ?_)
       refine Z9 rfl rfl (Oc9 400 [0,101,102,103,300] [] rfl Try.call14 rfl rfl rfl (by decide) (by decide) (refSum_spec v21 (hdL nm q++numB 65533 2++[255]++seed) (by simp [hdL_length hn,numB_length, *]) _ (rs9 4 rfl rowB_rd)) (fun v22 Ps22 hR22=>?_)) ?_
       ·
        obtain ⟨rfl,rfl⟩:=hR22
        refine ⟨⟨rfl,rfl,rfl,trivial⟩,?_⟩
        refine (Y9 [9] ?_)
        refine Z9 rfl rfl (OpT_alloc (r:=401) (cs:=(bs zeroId)) rfl (zero_run (by kernel_rfl:(Try.prog.info? 29).bind (·.zero)=some (.agg (bs zeroId).toArray))) rfl (fun g401=>⟨⟨rfl,rfl,rfl,trivial⟩,?_⟩)) ?_
        ·
         refine (Y9 [10] ?_)
         refine Ac09 rfl rfl rfl (OpT_storeAll (r:=401) rfl Try.sizeOf29 rfl rfl rfl rfl ((bs_length _).trans (sha_length _)) (bs_one _) ?_) ?_
         ·
          refine ⟨⟨rfl,rfl,rfl,trivial⟩,?_⟩
          refine (Ad9 (by kernel_rfl) ?_)
          refine X_ren 401 181 rfl ?_
          exact X_cut g401 trivial (a9 rfl) (a9 rfl)
         exact An9
        exact An9
       refine Z9 rfl rfl (OpT_alloc (r:=301) (cs:=(bs zeroId)) rfl (zero_run (by kernel_rfl:(Try.prog.info? 29).bind (·.zero)=some (.agg (bs zeroId).toArray))) rfl (fun g301=>⟨⟨rfl,rfl,rfl,trivial⟩,?_⟩)) ?_
       ·
        refine (Y9 [8] ?_)
        refine Z9 rfl rfl (Oc9 400 [0,101,102,103,300,301] [] rfl Try.call14 rfl rfl rfl (by decide) (by decide) (refSum_spec v21 (hdL nm q++numB 65533 2++[255]++seed) (by simp [hdL_length hn,numB_length, *]) _ (rs9 4 rfl rowB_rd)) (fun v22 Ps22 hR22=>?_)) ?_
        ·
         obtain ⟨rfl,rfl⟩:=hR22
         refine ⟨⟨rfl,rfl,rfl,trivial⟩,?_⟩
         refine (Y9 [10] ?_)
         refine Ac09 rfl rfl rfl (OpT_storeAll (r:=301) rfl Try.sizeOf29 rfl rfl rfl rfl ((bs_length _).trans (sha_length _)) (bs_one _) ?_) ?_
         ·
          refine ⟨⟨rfl,rfl,rfl,trivial⟩,?_⟩
          refine (Ad9 (by kernel_rfl) ?_)
          refine X_ren 301 181 rfl ?_
          exact X_cut g301 trivial (a9 rfl) (a9 rfl)
         exact An9
        exact An9
       exact An9
      refine Z9 rfl rfl (OpT_alloc (r:=301) (cs:=(bs zeroId)) rfl (zero_run (by kernel_rfl:(Try.prog.info? 29).bind (·.zero)=some (.agg (bs zeroId).toArray))) rfl (fun g301=>⟨⟨rfl,rfl,rfl,trivial⟩,?_⟩)) ?_
      ·
       refine (Y9 [7] ?_)
       refine Z9 rfl rfl (Oa9 (r:=300) (r2:=102) rfl Try.underlying30 TI.hi5 TI.hz5 TI.hs5 TI.hby5 TI.hzs5 (by decide) rfl rfl rfl rfl (fun _ h=>blk_all h hs) (bs_one _) (by unfold maxLen; simp [hdL_length hn,numB_length, *] <;> omega) (by simp [hdL_length hn,numB_length, *] <;> omega) (fun v21=>?_)) ?_
       ·
        refine ⟨⟨rfl,rfl,rfl,trivial⟩,?_⟩
        refine AH_turn (P':=rowB 5 v21 (hdL nm q++numB 65533 2++[255]++seed)) 300 rfl (fun h hp=>rowB_mk hp (by simp [hdL_length hn,numB_length, *] <;> omega) (by simp only [bs_append])) ?_
        refine (Y9 [8] ?_)
        refine Z9 rfl rfl (Oc9 400 [0,101,102,103,300,301] [] rfl Try.call14 rfl rfl rfl (by decide) (by decide) (refSum_spec v21 (hdL nm q++numB 65533 2++[255]++seed) (by simp [hdL_length hn,numB_length, *]) _ (rs9 4 rfl rowB_rd)) (fun v22 Ps22 hR22=>?_)) ?_
        ·
         obtain ⟨rfl,rfl⟩:=hR22
         refine ⟨⟨rfl,rfl,rfl,trivial⟩,?_⟩
         refine (Y9 [10] ?_)
         refine Ac09 rfl rfl rfl (OpT_storeAll (r:=301) rfl Try.sizeOf29 rfl rfl rfl rfl ((bs_length _).trans (sha_length _)) (bs_one _) ?_) ?_
         ·
          refine ⟨⟨rfl,rfl,rfl,trivial⟩,?_⟩
          refine (Ad9 (by kernel_rfl) ?_)
          refine X_ren 301 181 rfl ?_
          exact X_cut g301 trivial (a9 rfl) (a9 rfl)
         exact An9
        exact An9
       exact An9
      exact An9
     refine Z9 rfl rfl (OpT_alloc (r:=301) (cs:=(bs zeroId)) rfl (zero_run (by kernel_rfl:(Try.prog.info? 29).bind (·.zero)=some (.agg (bs zeroId).toArray))) rfl (fun g301=>⟨⟨rfl,rfl,rfl,trivial⟩,?_⟩)) ?_
     ·
      refine (Y9 [5] ?_)
      refine Z9 rfl rfl (Oa9 (r:=300) (r2:=103) rfl Try.underlying30 TI.hi5 TI.hz5 TI.hs5 TI.hby5 TI.hzs5 (by decide) rfl rfl rfl rfl (fun _ h=>rp9 h) (bs_one _) (by unfold maxLen; simp [hdL_length hn,numB_length, *] <;> omega) (by simp [hdL_length hn,numB_length, *] <;> omega) (fun v19=>?_)) ?_
      ·
       refine ⟨⟨rfl,rfl,rfl,trivial⟩,?_⟩
       refine AH_turn (P':=rowB 5 v19 (hdL nm q++numB 65533 2++[255])) 300 rfl (fun h hp=>rowB_mk hp (by simp [hdL_length hn,numB_length, *] <;> omega) (by simp only [bs_append])) ?_
       refine (Y9 [7] ?_)
       refine Z9 rfl rfl (Oa9 (r:=300) (r2:=102) rfl Try.underlying30 TI.hi5 TI.hz5 TI.hs5 TI.hby5 TI.hzs5 (by decide) rfl rfl rfl rfl (fun _ h=>blk_all h hs) (bs_one _) (by unfold maxLen; simp [hdL_length hn,numB_length, *] <;> omega) (by simp [hdL_length hn,numB_length, *] <;> omega) (fun v21=>?_)) ?_
       ·
        refine ⟨⟨rfl,rfl,rfl,trivial⟩,?_⟩
        refine AH_turn (P':=rowB 5 v21 (hdL nm q++numB 65533 2++[255]++seed)) 300 rfl (fun h hp=>rowB_mk hp (by simp [hdL_length hn,numB_length, *] <;> omega) (by simp only [bs_append])) ?_
        refine (Y9 [8] ?_)
        refine Z9 rfl rfl (Oc9 400 [0,101,102,103,300,301] [] rfl Try.call14 rfl rfl rfl (by decide) (by decide) (refSum_spec v21 (hdL nm q++numB 65533 2++[255]++seed) (by simp [hdL_length hn,numB_length, *]) _ (rs9 4 rfl rowB_rd)) (fun v22 Ps22 hR22=>?_)) ?_
        ·
         obtain ⟨rfl,rfl⟩:=hR22
         refine ⟨⟨rfl,rfl,rfl,trivial⟩,?_⟩
         refine (Y9 [10] ?_)
         refine Ac09 rfl rfl rfl (OpT_storeAll (r:=301) rfl Try.sizeOf29 rfl rfl rfl rfl ((bs_length _).trans (sha_length _)) (bs_one _) ?_) ?_
         ·
          refine ⟨⟨rfl,rfl,rfl,trivial⟩,?_⟩
          refine (Ad9 (by kernel_rfl) ?_)
          refine X_ren 301 181 rfl ?_
          exact X_cut g301 trivial (a9 rfl) (a9 rfl)
         exact An9
        exact An9
       exact An9
      exact An9
     exact An9
    refine Z9 rfl rfl (OpT_alloc (r:=201) (cs:=(bs zeroId)) rfl (zero_run (by kernel_rfl:(Try.prog.info? 29).bind (·.zero)=some (.agg (bs zeroId).toArray))) rfl (fun g201=>⟨⟨rfl,rfl,rfl,trivial⟩,?_⟩)) ?_
    ·
     refine (Y9 [3] ?_)
     refine Z9 rfl rfl (Oc9 300 [0,101,102,103,201] [200] rfl Try.call55 rfl rfl rfl (by decide) (by decide) (two5_spec _ rfl _ (hdL nm q) 65533 (by rw [hdL_length hn]; omega) _) (fun v17 Ps17 hR17=>?_)) ?_
     ·
      subst hR17
      refine ⟨⟨rfl,rfl,rfl,trivial⟩,?_⟩
      refine (Y9 [5] ?_)
      refine Z9 rfl rfl (Oa9 (r:=300) (r2:=103) rfl Try.underlying30 TI.hi5 TI.hz5 TI.hs5 TI.hby5 TI.hzs5 (by decide) rfl rfl rfl rfl (fun _ h=>rp9 h) (bs_one _) (by unfold maxLen; simp [hdL_length hn,numB_length, *] <;> omega) (by simp [hdL_length hn,numB_length, *] <;> omega) (fun v19=>?_)) ?_
      ·
       refine ⟨⟨rfl,rfl,rfl,trivial⟩,?_⟩
       refine AH_turn (P':=rowB 5 v19 (hdL nm q++numB 65533 2++[255])) 300 rfl (fun h hp=>rowB_mk hp (by simp [hdL_length hn,numB_length, *] <;> omega) (by simp only [bs_append])) ?_
       refine (Y9 [7] ?_)
       refine Z9 rfl rfl (Oa9 (r:=300) (r2:=102) rfl Try.underlying30 TI.hi5 TI.hz5 TI.hs5 TI.hby5 TI.hzs5 (by decide) rfl rfl rfl rfl (fun _ h=>blk_all h hs) (bs_one _) (by unfold maxLen; simp [hdL_length hn,numB_length, *] <;> omega) (by simp [hdL_length hn,numB_length, *] <;> omega) (fun v21=>?_)) ?_
       ·
        refine ⟨⟨rfl,rfl,rfl,trivial⟩,?_⟩
        refine AH_turn (P':=rowB 5 v21 (hdL nm q++numB 65533 2++[255]++seed)) 300 rfl (fun h hp=>rowB_mk hp (by simp [hdL_length hn,numB_length, *] <;> omega) (by simp only [bs_append])) ?_
        refine (Y9 [8] ?_)
        refine Z9 rfl rfl (Oc9 400 [0,101,102,103,201,300] [] rfl Try.call14 rfl rfl rfl (by decide) (by decide) (refSum_spec v21 (hdL nm q++numB 65533 2++[255]++seed) (by simp [hdL_length hn,numB_length, *]) _ (rs9 5 rfl rowB_rd)) (fun v22 Ps22 hR22=>?_)) ?_
        ·
         obtain ⟨rfl,rfl⟩:=hR22
         refine ⟨⟨rfl,rfl,rfl,trivial⟩,?_⟩
         refine (Y9 [10] ?_)
         refine Ac09 rfl rfl rfl (OpT_storeAll (r:=201) rfl Try.sizeOf29 rfl rfl rfl rfl ((bs_length _).trans (sha_length _)) (bs_one _) ?_) ?_
         ·
          refine ⟨⟨rfl,rfl,rfl,trivial⟩,?_⟩
          refine (Ad9 (by kernel_rfl) ?_)
          refine X_ren 201 181 rfl ?_
          exact X_cut g201 trivial (a9 rfl) (a9 rfl)
         exact An9
        exact An9
       exact An9
      exact An9
     exact An9
    exact An9
   refine Z9 rfl rfl (OpT_alloc (r:=104) (cs:=(bs zeroId)) rfl (zero_run (by kernel_rfl:(Try.prog.info? 29).bind (·.zero)=some (.agg (bs zeroId).toArray))) rfl (fun g104=>⟨⟨rfl,rfl,rfl,trivial⟩,?_⟩)) ?_
   ·
    refine (Y9 [2] ?_)
    refine Z9 rfl rfl (Oc9 200 [0,101,102,103,104] [] rfl Try.call56 rfl rfl rfl (by decide) (by decide) (head5_spec nm hn q _) (fun v16 Ps16 hR16=>?_)) ?_
    ·
     subst hR16
     refine ⟨⟨rfl,rfl,rfl,trivial⟩,?_⟩
     refine (Y9 [3] ?_)
     refine Z9 rfl rfl (Oc9 300 [0,101,102,103,104] [200] rfl Try.call55 rfl rfl rfl (by decide) (by decide) (two5_spec _ rfl _ (hdL nm q) 65533 (by rw [hdL_length hn]; omega) _) (fun v17 Ps17 hR17=>?_)) ?_
     ·
      subst hR17
      refine ⟨⟨rfl,rfl,rfl,trivial⟩,?_⟩
      refine (Y9 [5] ?_)
      refine Z9 rfl rfl (Oa9 (r:=300) (r2:=103) rfl Try.underlying30 TI.hi5 TI.hz5 TI.hs5 TI.hby5 TI.hzs5 (by decide) rfl rfl rfl rfl (fun _ h=>rp9 h) (bs_one _) (by unfold maxLen; simp [hdL_length hn,numB_length, *] <;> omega) (by simp [hdL_length hn,numB_length, *] <;> omega) (fun v19=>?_)) ?_
      ·
       refine ⟨⟨rfl,rfl,rfl,trivial⟩,?_⟩
       refine AH_turn (P':=rowB 5 v19 (hdL nm q++numB 65533 2++[255])) 300 rfl (fun h hp=>rowB_mk hp (by simp [hdL_length hn,numB_length, *] <;> omega) (by simp only [bs_append])) ?_
       refine (Y9 [7] ?_)
       refine Z9 rfl rfl (Oa9 (r:=300) (r2:=102) rfl Try.underlying30 TI.hi5 TI.hz5 TI.hs5 TI.hby5 TI.hzs5 (by decide) rfl rfl rfl rfl (fun _ h=>blk_all h hs) (bs_one _) (by unfold maxLen; simp [hdL_length hn,numB_length, *] <;> omega) (by simp [hdL_length hn,numB_length, *] <;> omega) (fun v21=>?_)) ?_
       ·
        refine ⟨⟨rfl,rfl,rfl,trivial⟩,?_⟩
        refine AH_turn (P':=rowB 5 v21 (hdL nm q++numB 65533 2++[255]++seed)) 300 rfl (fun h hp=>rowB_mk hp (by simp [hdL_length hn,numB_length, *] <;> omega) (by simp only [bs_append])) ?_
        refine (Y9 [8] ?_)
        refine Z9 rfl rfl (Oc9 400 [0,101,102,103,104,300] [] rfl Try.call14 rfl rfl rfl (by decide) (by decide) (refSum_spec v21 (hdL nm q++numB 65533 2++[255]++seed) (by simp [hdL_length hn,numB_length, *]) _ (rs9 5 rfl rowB_rd)) (fun v22 Ps22 hR22=>?_)) ?_
        ·
         obtain ⟨rfl,rfl⟩:=hR22
         refine ⟨⟨rfl,rfl,rfl,trivial⟩,?_⟩
         refine (Y9 [10] ?_)
         refine Ac09 rfl rfl rfl (OpT_storeAll (r:=104) rfl Try.sizeOf29 rfl rfl rfl rfl ((bs_length _).trans (sha_length _)) (bs_one _) ?_) ?_
         ·
          refine ⟨⟨rfl,rfl,rfl,trivial⟩,?_⟩
          refine (Ad9 (by kernel_rfl) ?_)
          refine X_ren 104 181 rfl ?_
          exact X_cut g104 trivial (a9 rfl) (a9 rfl)
         exact An9
        exact An9
       exact An9
      exact An9
     exact An9
    exact An9
   exact An9
  refine Z9 rfl rfl (OpT_alloc (r:=103) (cs:=(bs zeroId)) rfl (zero_run (by kernel_rfl:(Try.prog.info? 29).bind (·.zero)=some (.agg (bs zeroId).toArray))) rfl (fun g103=>⟨⟨rfl,rfl,rfl,trivial⟩,?_⟩)) ?_
  ·
   refine (Y9 [2,4] ?_)
   refine Z9 rfl rfl (Oc9 200 [0,101,102,103] [] rfl Try.call56 rfl rfl rfl (by decide) (by decide) (head5_spec nm hn q _) (fun v16 Ps16 hR16=>?_)) ?_
   ·
    subst hR16
    refine ⟨⟨rfl,rfl,rfl,trivial⟩,?_⟩
    refine (Y9 [3,4] ?_)
    refine Z9 rfl rfl (Oc9 300 [0,101,102,103] [200] rfl Try.call55 rfl rfl rfl (by decide) (by decide) (two5_spec _ rfl _ (hdL nm q) 65533 (by rw [hdL_length hn]; omega) _) (fun v17 Ps17 hR17=>?_)) ?_
    ·
     subst hR17
     refine ⟨⟨rfl,rfl,rfl,trivial⟩,?_⟩
     refine (Y9 [4] ?_)
     refine Z9 rfl rfl (OpT_buildOnes (r:=301) (bs [255]) rfl rfl Try.runUnderlying30 Try.sizeOf5 Try.zeroValue5 rfl rfl (by decide) rfl (bs_cells _) (fun v18=>⟨⟨rfl,rfl,rfl,trivial⟩,?_⟩)) ?_
     ·
      refine (Y9 [5] ?_)
      refine Z9 rfl rfl (Oa9 (r:=300) (r2:=301) rfl Try.underlying30 TI.hi5 TI.hz5 TI.hs5 TI.hby5 TI.hzs5 (by decide) rfl rfl rfl rfl (fun _ h=>rp9 h) (bs_one _) (by unfold maxLen; simp [hdL_length hn,numB_length, *] <;> omega) (by simp [hdL_length hn,numB_length, *] <;> omega) (fun v19=>?_)) ?_
      ·
       refine ⟨⟨rfl,rfl,rfl,trivial⟩,?_⟩
       refine AH_turn (P':=rowB 5 v19 (hdL nm q++numB 65533 2++[255])) 300 rfl (fun h hp=>rowB_mk hp (by simp [hdL_length hn,numB_length, *] <;> omega) (by simp only [bs_append])) ?_
       refine (Y9 [7] ?_)
       refine Z9 rfl rfl (Oa9 (r:=300) (r2:=102) rfl Try.underlying30 TI.hi5 TI.hz5 TI.hs5 TI.hby5 TI.hzs5 (by decide) rfl rfl rfl rfl (fun _ h=>blk_all h hs) (bs_one _) (by unfold maxLen; simp [hdL_length hn,numB_length, *] <;> omega) (by simp [hdL_length hn,numB_length, *] <;> omega) (fun v21=>?_)) ?_
       ·
        refine ⟨⟨rfl,rfl,rfl,trivial⟩,?_⟩
        refine AH_turn (P':=rowB 5 v21 (hdL nm q++numB 65533 2++[255]++seed)) 300 rfl (fun h hp=>rowB_mk hp (by simp [hdL_length hn,numB_length, *] <;> omega) (by simp only [bs_append])) ?_
        refine (Y9 [8] ?_)
        refine Z9 rfl rfl (Oc9 400 [0,101,102,103,300,301] [] rfl Try.call14 rfl rfl rfl (by decide) (by decide) (refSum_spec v21 (hdL nm q++numB 65533 2++[255]++seed) (by simp [hdL_length hn,numB_length, *]) _ (rs9 4 rfl rowB_rd)) (fun v22 Ps22 hR22=>?_)) ?_
        ·
         obtain ⟨rfl,rfl⟩:=hR22
         refine ⟨⟨rfl,rfl,rfl,trivial⟩,?_⟩
         refine (Y9 [10] ?_)
         refine Ac09 rfl rfl rfl (OpT_storeAll (r:=103) rfl Try.sizeOf29 rfl rfl rfl rfl ((bs_length _).trans (sha_length _)) (bs_one _) ?_) ?_
         ·
          refine ⟨⟨rfl,rfl,rfl,trivial⟩,?_⟩
          refine (Ad9 (by kernel_rfl) ?_)
          refine X_ren 103 181 rfl ?_
          exact X_cut g103 trivial (a9 rfl) (a9 rfl)
         exact An9
        exact An9
       exact An9
      exact An9
     exact An9
    refine Z9 rfl rfl (OpT_buildOnes (r:=201) (bs [255]) rfl rfl Try.runUnderlying30 Try.sizeOf5 Try.zeroValue5 rfl rfl (by decide) rfl (bs_cells _) (fun v18=>⟨⟨rfl,rfl,rfl,trivial⟩,?_⟩)) ?_
    ·
     refine (Y9 [3] ?_)
     refine Z9 rfl rfl (Oc9 300 [0,101,102,103,201] [200] rfl Try.call55 rfl rfl rfl (by decide) (by decide) (two5_spec _ rfl _ (hdL nm q) 65533 (by rw [hdL_length hn]; omega) _) (fun v17 Ps17 hR17=>?_)) ?_
     ·
      subst hR17
      refine ⟨⟨rfl,rfl,rfl,trivial⟩,?_⟩
      refine (Y9 [5] ?_)
      refine Z9 rfl rfl (Oa9 (r:=300) (r2:=201) rfl Try.underlying30 TI.hi5 TI.hz5 TI.hs5 TI.hby5 TI.hzs5 (by decide) rfl rfl rfl rfl (fun _ h=>rp9 h) (bs_one _) (by unfold maxLen; simp [hdL_length hn,numB_length, *] <;> omega) (by simp [hdL_length hn,numB_length, *] <;> omega) (fun v19=>?_)) ?_
      ·
       refine ⟨⟨rfl,rfl,rfl,trivial⟩,?_⟩
       refine AH_turn (P':=rowB 5 v19 (hdL nm q++numB 65533 2++[255])) 300 rfl (fun h hp=>rowB_mk hp (by simp [hdL_length hn,numB_length, *] <;> omega) (by simp only [bs_append])) ?_
       refine (Y9 [7] ?_)
       refine Z9 rfl rfl (Oa9 (r:=300) (r2:=102) rfl Try.underlying30 TI.hi5 TI.hz5 TI.hs5 TI.hby5 TI.hzs5 (by decide) rfl rfl rfl rfl (fun _ h=>blk_all h hs) (bs_one _) (by unfold maxLen; simp [hdL_length hn,numB_length, *] <;> omega) (by simp [hdL_length hn,numB_length, *] <;> omega) (fun v21=>?_)) ?_
       ·
        refine ⟨⟨rfl,rfl,rfl,trivial⟩,?_⟩
        refine AH_turn (P':=rowB 5 v21 (hdL nm q++numB 65533 2++[255]++seed)) 300 rfl (fun h hp=>rowB_mk hp (by simp [hdL_length hn,numB_length, *] <;> omega) (by simp only [bs_append])) ?_
        refine (Y9 [8] ?_)
        refine Z9 rfl rfl (Oc9 400 [0,101,102,103,201,300] [] rfl Try.call14 rfl rfl rfl (by decide) (by decide) (refSum_spec v21 (hdL nm q++numB 65533 2++[255]++seed) (by simp [hdL_length hn,numB_length, *]) _ (rs9 5 rfl rowB_rd)) (fun v22 Ps22 hR22=>?_)) ?_
        ·
         obtain ⟨rfl,rfl⟩:=hR22
         refine ⟨⟨rfl,rfl,rfl,trivial⟩,?_⟩
         refine (Y9 [10] ?_)
         refine Ac09 rfl rfl rfl (OpT_storeAll (r:=103) rfl Try.sizeOf29 rfl rfl rfl rfl ((bs_length _).trans (sha_length _)) (bs_one _) ?_) ?_
         ·
          refine ⟨⟨rfl,rfl,rfl,trivial⟩,?_⟩
          refine (Ad9 (by kernel_rfl) ?_)
          refine X_ren 103 181 rfl ?_
          exact X_cut g103 trivial (a9 rfl) (a9 rfl)
         exact An9
        exact An9
       exact An9
      exact An9
     exact An9
    exact An9
   refine Z9 rfl rfl (OpT_buildOnes (r:=104) (bs [255]) rfl rfl Try.runUnderlying30 Try.sizeOf5 Try.zeroValue5 rfl rfl (by decide) rfl (bs_cells _) (fun v18=>⟨⟨rfl,rfl,rfl,trivial⟩,?_⟩)) ?_
   ·
    refine (Y9 [2] ?_)
    refine Z9 rfl rfl (Oc9 200 [0,101,102,103,104] [] rfl Try.call56 rfl rfl rfl (by decide) (by decide) (head5_spec nm hn q _) (fun v16 Ps16 hR16=>?_)) ?_
    ·
     subst hR16
     refine ⟨⟨rfl,rfl,rfl,trivial⟩,?_⟩
     refine (Y9 [3] ?_)
     refine Z9 rfl rfl (Oc9 300 [0,101,102,103,104] [200] rfl Try.call55 rfl rfl rfl (by decide) (by decide) (two5_spec _ rfl _ (hdL nm q) 65533 (by rw [hdL_length hn]; omega) _) (fun v17 Ps17 hR17=>?_)) ?_
     ·
      subst hR17
      refine ⟨⟨rfl,rfl,rfl,trivial⟩,?_⟩
      refine (Y9 [5] ?_)
      refine Z9 rfl rfl (Oa9 (r:=300) (r2:=104) rfl Try.underlying30 TI.hi5 TI.hz5 TI.hs5 TI.hby5 TI.hzs5 (by decide) rfl rfl rfl rfl (fun _ h=>rp9 h) (bs_one _) (by unfold maxLen; simp [hdL_length hn,numB_length, *] <;> omega) (by simp [hdL_length hn,numB_length, *] <;> omega) (fun v19=>?_)) ?_
      ·
       refine ⟨⟨rfl,rfl,rfl,trivial⟩,?_⟩
       refine AH_turn (P':=rowB 5 v19 (hdL nm q++numB 65533 2++[255])) 300 rfl (fun h hp=>rowB_mk hp (by simp [hdL_length hn,numB_length, *] <;> omega) (by simp only [bs_append])) ?_
       refine (Y9 [7] ?_)
       refine Z9 rfl rfl (Oa9 (r:=300) (r2:=102) rfl Try.underlying30 TI.hi5 TI.hz5 TI.hs5 TI.hby5 TI.hzs5 (by decide) rfl rfl rfl rfl (fun _ h=>blk_all h hs) (bs_one _) (by unfold maxLen; simp [hdL_length hn,numB_length, *] <;> omega) (by simp [hdL_length hn,numB_length, *] <;> omega) (fun v21=>?_)) ?_
       ·
        refine ⟨⟨rfl,rfl,rfl,trivial⟩,?_⟩
        refine AH_turn (P':=rowB 5 v21 (hdL nm q++numB 65533 2++[255]++seed)) 300 rfl (fun h hp=>rowB_mk hp (by simp [hdL_length hn,numB_length, *] <;> omega) (by simp only [bs_append])) ?_
        refine (Y9 [8] ?_)
        refine Z9 rfl rfl (Oc9 400 [0,101,102,103,104,300] [] rfl Try.call14 rfl rfl rfl (by decide) (by decide) (refSum_spec v21 (hdL nm q++numB 65533 2++[255]++seed) (by simp [hdL_length hn,numB_length, *]) _ (rs9 5 rfl rowB_rd)) (fun v22 Ps22 hR22=>?_)) ?_
        ·
         obtain ⟨rfl,rfl⟩:=hR22
         refine ⟨⟨rfl,rfl,rfl,trivial⟩,?_⟩
         refine (Y9 [10] ?_)
         refine Ac09 rfl rfl rfl (OpT_storeAll (r:=103) rfl Try.sizeOf29 rfl rfl rfl rfl ((bs_length _).trans (sha_length _)) (bs_one _) ?_) ?_
         ·
          refine ⟨⟨rfl,rfl,rfl,trivial⟩,?_⟩
          refine (Ad9 (by kernel_rfl) ?_)
          refine X_ren 103 181 rfl ?_
          exact X_cut g103 trivial (a9 rfl) (a9 rfl)
         exact An9
        exact An9
       exact An9
      exact An9
     exact An9
    exact An9
   exact An9
  exact An9
 ·
  refine W_cut (α:=Nat) (fun z10=>[(1,.int .i64 q),(3,mv),(4,.pointer (some ⟨g101,0,none⟩)),(6,.pointer (some ⟨g102,0,none⟩)),(9,.pointer (some ⟨z9,0,none⟩)),(10,.pointer (some ⟨z10,0,none⟩))]) (fun z10=>[(0,F),(101,blk g101 52 (bs nm)),(102,blk g102 29 (bs seed)),(181,blk z9 29 (bs (rndO nm q seed))),(182,blk z10 99 (nsC (digL (digB2 nm q (rndO nm q seed) msg))))]) (fun z10=>True) ?_ (fun z10 _=>?_)
  ·
   refine W_draw (N:=7) (by kernel_rfl) rfl [(0,_),(101,_),(102,_),(181,_)] ⟨rfl,rfl,rfl,rfl,trivial⟩ ?_
   refine (T9 0 rfl rfl (Px9 (r:=101) rfl Try.isAgg52 Try.sizeOf52 rfl rfl ((bs_length _).trans hn) (load_all ((bs_length _).trans hn))) (T9 1 rfl rfl (Pm9 rfl rfl) (T9 2 rfl rfl (Pu_sliceArr rfl Try.runUnderlying29 Try.sizeOf5 rfl) (T9 3 rfl rfl (Pm9 rfl rfl) (Y9 [4,5] ?_)))))
   refine Z9 rfl rfl (Oc9 200 [0,101,102,181] [] rfl Try.call57 rfl rfl rfl (by decide) (by decide) (digits5_spec nm hn q _ _ (rndO nm q seed) msg (by rw [show (rndO nm q seed).length=32 from (hashC_length nm q 65533 255 seed)]; omega) (by omega) _ (fun h hp=>rdP_cast (rs9 3 rfl (fun _ h=>blk_all h (hashC_length nm q 65533 255 seed)) h hp) rfl (show 32=(rndO nm q seed).length from (hashC_length nm q 65533 255 seed).symm)) (rs9 0 rfl hm)) (fun v27 Ps27 hR27=>?_)) ?_
   ·
    obtain ⟨rfl,rfl⟩:=hR27
    refine ⟨⟨rfl,rfl,rfl,rfl,trivial⟩,?_⟩
    refine (Y9 [5] ?_)
    refine Z9 rfl rfl (OpT_alloc (r:=201) (cs:=(nsC (List.replicate 133 0))) rfl (zero_run (by kernel_rfl:(Try.prog.info? 99).bind (·.zero)=some (nsV (List.replicate 133 0)))) rfl (fun g201=>⟨⟨rfl,rfl,rfl,rfl,trivial⟩,?_⟩)) ?_
    ·
     refine (Y9 [6] ?_)
     refine Ac09 rfl rfl rfl (OpT_storeAll (r:=201) rfl Try.sizeOf99 rfl rfl rfl rfl ((nsC_length _).trans (digL_length _)) (nsC_one _) ?_) ?_
     ·
      refine ⟨⟨rfl,rfl,rfl,rfl,trivial⟩,?_⟩
      refine (Ad9 (by kernel_rfl) ?_)
      refine X_ren 201 182 rfl ?_
      exact X_cut g201 trivial (a9 rfl) (a9 rfl)
     exact An9
    exact An9
   refine Z9 rfl rfl (OpT_alloc (r:=103) (cs:=(nsC (List.replicate 133 0))) rfl (zero_run (by kernel_rfl:(Try.prog.info? 99).bind (·.zero)=some (nsV (List.replicate 133 0)))) rfl (fun g103=>⟨⟨rfl,rfl,rfl,rfl,trivial⟩,?_⟩)) ?_
   ·
    refine (Y9 [4] ?_)
    refine Z9 rfl rfl (Oc9 200 [0,101,102,103,181] [] rfl Try.call57 rfl rfl rfl (by decide) (by decide) (digits5_spec nm hn q _ _ (rndO nm q seed) msg (by rw [show (rndO nm q seed).length=32 from (hashC_length nm q 65533 255 seed)]; omega) (by omega) _ (fun h hp=>rdP_cast (rs9 4 rfl (fun _ h=>blk_all h (hashC_length nm q 65533 255 seed)) h hp) rfl (show 32=(rndO nm q seed).length from (hashC_length nm q 65533 255 seed).symm)) (rs9 0 rfl hm)) (fun v27 Ps27 hR27=>?_)) ?_
    ·
     obtain ⟨rfl,rfl⟩:=hR27
     refine ⟨⟨rfl,rfl,rfl,rfl,trivial⟩,?_⟩
     refine (Y9 [6] ?_)
     refine Ac09 rfl rfl rfl (OpT_storeAll (r:=103) rfl Try.sizeOf99 rfl rfl rfl rfl ((nsC_length _).trans (digL_length _)) (nsC_one _) ?_) ?_
     ·
      refine ⟨⟨rfl,rfl,rfl,rfl,trivial⟩,?_⟩
      refine (Ad9 (by kernel_rfl) ?_)
      refine X_ren 103 182 rfl ?_
      exact X_cut g103 trivial (a9 rfl) (a9 rfl)
     exact An9
    exact An9
   exact An9
  ·
   refine W_cut (α:=Value) (fun z11=>[(1,.int .i64 q),(3,mv),(4,.pointer (some ⟨g101,0,none⟩)),(6,.pointer (some ⟨g102,0,none⟩)),(9,.pointer (some ⟨z9,0,none⟩)),(10,.pointer (some ⟨z10,0,none⟩)),(11,z11)]) (fun z11=>[(0,F),(101,blk g101 52 (bs nm)),(102,blk g102 29 (bs seed)),(181,blk z9 29 (bs (rndO nm q seed))),(182,blk z10 99 (nsC (digL (digB2 nm q (rndO nm q seed) msg)))),(183,rowB 5 z11 ([0,0,0,2]++(rndO nm q seed)))]) (fun z11=>True) ?_ (fun z11 _=>?_)
   ·
    refine W_nilRow 185 5 1 ?_
    refine W_draw (N:=4) (by kernel_rfl) rfl [(0,_),(101,_),(102,_),(181,_),(182,_)] ⟨rfl,rfl,rfl,rfl,rfl,trivial⟩ ?_
    refine (T9 1 rfl rfl (Pu_sliceArr rfl Try.runUnderlying29 Try.sizeOf5 rfl) (Y9 [0] ?_))
    refine Z9 rfl rfl (Oc9 200 [0,101,102,181,182] [185] rfl Try.call58 rfl rfl rfl (by decide) (by decide) (four5_spec _ rfl _ [] 2 (by simp) _) (fun v28 Ps28 hR28=>?_)) ?_
    ·
     subst hR28
     refine ⟨⟨rfl,rfl,rfl,rfl,rfl,trivial⟩,?_⟩
     refine (Y9 [2] ?_)
     refine Z9 rfl rfl (Oa9 (r:=200) (r2:=181) rfl Try.underlying30 TI.hi5 TI.hz5 TI.hs5 TI.hby5 TI.hzs5 (by decide) rfl rfl rfl rfl (fun _ h=>blk_all h (hashC_length nm q 65533 255 seed)) (bs_one _) (by unfold maxLen; simp [numB_length] <;> omega) (by simp [numB_length] <;> omega) (fun v30=>?_)) ?_
     ·
      refine ⟨⟨rfl,rfl,rfl,rfl,rfl,trivial⟩,?_⟩
      refine AH_turn (P':=rowB 5 v30 ([0,0,0,2]++(rndO nm q seed))) 200 rfl (fun h hp=>rowB_mk hp (by simp [numB_length,rndO,hashC_length]) (by rw [bs_append]; rfl)) ?_
      refine (T9 3 rfl rfl (Pg9 rfl rfl) (Ad9 (by kernel_rfl) ?_))
      refine X_ren 200 183 rfl ?_
      exact X_cut v30 trivial (a9 rfl) (a9 rfl)
     exact An9
    exact An9
   ·
    refine Q9 (Q9 (R9 (G9 rfl rfl (N9 (X9 ?_)))))
    refine W_block ?_
    refine W_loop (α:=Value × Nat) (fun y=>[(1,.int .i64 q),(4,.pointer (some ⟨g101,0,none⟩)),(6,.pointer (some ⟨g102,0,none⟩)),(10,.pointer (some ⟨z10,0,none⟩)),(11,y.1),(12,.int .i64 (y.2:Int))]) (fun y=>[(0,F),(101,blk g101 52 (bs nm)),(102,blk g102 29 (bs seed)),(182,blk z10 99 (nsC (digL (digB2 nm q (rndO nm q seed) msg)))),(183,rowB 5 y.1 ([0,0,0,2]++(rndO nm q seed)++rowsC (sgnY nm q seed (rndO nm q seed) msg) y.2))]) (fun y=>y.2≤133) (fun y=>133 - y.2) ((z11,0)) (by dsimp only; omega) ⟨rfl,rfl,rfl,rfl,rfl,rfl,trivial⟩ ⟨rfl,rfl,rfl,rfl,look_eq rfl (by rw [rowsC,List.append_nil]),trivial⟩ (fun y hy=>?_)
    have hyl:(rowsC (sgnY nm q seed (rndO nm q seed) msg) y.2).length=32 * y.2:=rowsC_length fun i _=>sgnY_length _ _ _ _ _ i
    have hcl:(rndO nm q seed).length=32:=(hashC_length nm q 65533 255 seed)
    refine Q9 (Q9 (R9 (M9 rfl rfl (L9 rfl (Pn9 rfl rfl rfl (run_lss _ _ _ _ _ _)) (N9 (X9 ?_))))))
    refine C9 rfl (fun hc32=>?_) (fun hc32=>?_)
    ·
     have hlt:y.2 < 133:=by have:=of_decide_eq_true hc32; omega
     have hdx:=digA_lt nm q (rndO nm q seed) msg y.2
     refine K9 (X9 ?_)
     refine Q9 ?_
     refine W_block ?_
     refine Q9 ?_
     refine W_draw (N:=14) (by kernel_rfl) rfl [(0,_),(101,_),(102,_),(182,_)] ⟨rfl,rfl,rfl,rfl,trivial⟩ ?_
     refine (T9 0 rfl rfl (Px9 (r:=101) rfl Try.isAgg52 Try.sizeOf52 rfl rfl ((bs_length _).trans hn) (load_all ((bs_length _).trans hn))) (T9 1 rfl rfl (Pm9 rfl rfl) (T9 2 rfl rfl (Pm9 rfl rfl) (T9 3 rfl rfl (Pm9 rfl rfl) (T9 4 rfl rfl (Pu_idxA rfl Try.runUnderlying99 Try.sizeOf3 rfl rfl (by omega)) (T9 5 rfl rfl (Pb9 (r:=182) rfl Try.isAgg3 rfl rfl (digA_get nm q (rndO nm q seed) msg hlt)) (T9 6 rfl rfl (Px9 (r:=101) rfl Try.isAgg52 Try.sizeOf52 rfl rfl ((bs_length _).trans hn) (load_all ((bs_length _).trans hn))) (T9 7 rfl rfl (Pm9 rfl rfl) (T9 8 rfl rfl (Pm9 rfl rfl) (T9 9 rfl rfl (Px9 (r:=102) rfl Try.isAgg29 Try.sizeOf29 rfl rfl ((bs_length _).trans hs) (load_all ((bs_length _).trans hs))) (Y9 [10,12] ?_)))))))))))
     refine Z9 rfl rfl (Oc9 200 [0,101,102,182,183] [] rfl Try.call60 rfl rfl rfl (by decide) (by decide) (secret5_spec nm hn q (y.2:Int) seed hs _) (fun v45 Ps45 hR45=>?_)) ?_
     ·
      obtain ⟨rfl,rfl⟩:=hR45
      refine ⟨⟨rfl,rfl,rfl,rfl,trivial⟩,?_⟩
      refine (Y9 [11,12] ?_)
      refine Z9 rfl rfl (Oc9 300 [0,101,102,182,183] [] rfl Try.call59 rfl rfl rfl (by decide) (by decide) (walk5_spec nm hn q y.2 0 (digA nm q (rndO nm q seed) msg y.2) (by omega) (by omega) (hashC nm q (y.2:Int) 255 seed) (hashC_length _ _ _ _ _) _) (fun v46 Ps46 hR46=>?_)) ?_
      ·
       obtain ⟨rfl,rfl⟩:=hR46
       refine ⟨⟨rfl,rfl,rfl,rfl,trivial⟩,?_⟩
       refine (Y9 [12] ?_)
       refine Z9 rfl rfl (OpT_alloc (r:=301) (cs:=(bs zeroId)) rfl (zero_run (by kernel_rfl:(Try.prog.info? 29).bind (·.zero)=some (.agg (bs zeroId).toArray))) rfl (fun g301=>⟨⟨rfl,rfl,rfl,rfl,trivial⟩,?_⟩)) ?_
       ·
        refine (Y9 [13] ?_)
        refine Ac09 rfl rfl rfl (OpT_storeAll (r:=301) rfl Try.sizeOf29 rfl rfl rfl rfl ((bs_length _).trans (sgnY_length nm q seed (rndO nm q seed) msg y.2)) (bs_one _) ?_) ?_
        ·
         refine ⟨⟨rfl,rfl,rfl,rfl,trivial⟩,?_⟩
         refine (Ad9 (by kernel_rfl) (X9 ?_))
         refine R9 (M9 rfl rfl (L9 rfl (Pu_sliceArr rfl Try.runUnderlying29 Try.sizeOf5 rfl) (Lc9 rfl rfl (by decide) (Oa9 (r:=183) (r2:=301) rfl Try.underlying30 TI.hi5 TI.hz5 TI.hs5 TI.hby5 TI.hzs5 (by decide) rfl rfl rfl rfl (fun _ h=>blk_all h (sgnY_length nm q seed (rndO nm q seed) msg y.2)) (bs_one _) (by unfold maxLen; simp [hcl,hyl] <;> omega) (by simp [hcl,hyl] <;> omega) (fun v49=>?_)))))
         refine Lt9 (P':=rowB 5 v49 ([0,0,0,2]++(rndO nm q seed)++rowsC (sgnY nm q seed (rndO nm q seed) msg) (y.2 + 1))) 183 rfl (fun h hp=>rowB_mk hp (rows_len (sgnY_length nm q seed (rndO nm q seed) msg y.2)) (rows_step _ (sgnY nm q seed (rndO nm q seed) msg) y.2)) ?_
         refine (G9 rfl rfl (N9 (X_block (X9 ?_))))
         refine R9 (M9 rfl rfl (L9 rfl (Pn9 rfl rfl rfl (run_add _ _ _ _ _ (by omega))) (G9 rfl rfl (N9 ?_))))
         exact Xr9 (v49,y.2 + 1) (by dsimp only; omega) (by show 133 - (y.2 + 1) < 133 - y.2; omega) (a9 rfl) (a9 rfl)
        exact An9
       exact An9
      refine Z9 rfl rfl (OpT_alloc (r:=201) (cs:=(bs zeroId)) rfl (zero_run (by kernel_rfl:(Try.prog.info? 29).bind (·.zero)=some (.agg (bs zeroId).toArray))) rfl (fun g201=>⟨⟨rfl,rfl,rfl,rfl,trivial⟩,?_⟩)) ?_
      ·
       refine (Y9 [11] ?_)
       refine Z9 rfl rfl (Oc9 300 [0,101,102,182,183,201] [] rfl Try.call59 rfl rfl rfl (by decide) (by decide) (walk5_spec nm hn q y.2 0 (digA nm q (rndO nm q seed) msg y.2) (by omega) (by omega) (hashC nm q (y.2:Int) 255 seed) (hashC_length _ _ _ _ _) _) (fun v46 Ps46 hR46=>?_)) ?_
       ·
        obtain ⟨rfl,rfl⟩:=hR46
        refine ⟨⟨rfl,rfl,rfl,rfl,trivial⟩,?_⟩
        refine (Y9 [13] ?_)
        refine Ac09 rfl rfl rfl (OpT_storeAll (r:=201) rfl Try.sizeOf29 rfl rfl rfl rfl ((bs_length _).trans (sgnY_length nm q seed (rndO nm q seed) msg y.2)) (bs_one _) ?_) ?_
        ·
         refine ⟨⟨rfl,rfl,rfl,rfl,trivial⟩,?_⟩
         refine (Ad9 (by kernel_rfl) (X9 ?_))
         refine R9 (M9 rfl rfl (L9 rfl (Pu_sliceArr rfl Try.runUnderlying29 Try.sizeOf5 rfl) (Lc9 rfl rfl (by decide) (Oa9 (r:=183) (r2:=201) rfl Try.underlying30 TI.hi5 TI.hz5 TI.hs5 TI.hby5 TI.hzs5 (by decide) rfl rfl rfl rfl (fun _ h=>blk_all h (sgnY_length nm q seed (rndO nm q seed) msg y.2)) (bs_one _) (by unfold maxLen; simp [hcl,hyl] <;> omega) (by simp [hcl,hyl] <;> omega) (fun v49=>?_)))))
         refine Lt9 (P':=rowB 5 v49 ([0,0,0,2]++(rndO nm q seed)++rowsC (sgnY nm q seed (rndO nm q seed) msg) (y.2 + 1))) 183 rfl (fun h hp=>rowB_mk hp (rows_len (sgnY_length nm q seed (rndO nm q seed) msg y.2)) (rows_step _ (sgnY nm q seed (rndO nm q seed) msg) y.2)) ?_
         refine (G9 rfl rfl (N9 (X_block (X9 ?_))))
         refine R9 (M9 rfl rfl (L9 rfl (Pn9 rfl rfl rfl (run_add _ _ _ _ _ (by omega))) (G9 rfl rfl (N9 ?_))))
         exact Xr9 (v49,y.2 + 1) (by dsimp only; omega) (by show 133 - (y.2 + 1) < 133 - y.2; omega) (a9 rfl) (a9 rfl)
        exact An9
       exact An9
      exact An9
     refine Z9 rfl rfl (OpT_alloc (r:=103) (cs:=(bs zeroId)) rfl (zero_run (by kernel_rfl:(Try.prog.info? 29).bind (·.zero)=some (.agg (bs zeroId).toArray))) rfl (fun g103=>⟨⟨rfl,rfl,rfl,rfl,trivial⟩,?_⟩)) ?_
     ·
      refine (Y9 [10] ?_)
      refine Z9 rfl rfl (Oc9 200 [0,101,102,103,182,183] [] rfl Try.call60 rfl rfl rfl (by decide) (by decide) (secret5_spec nm hn q (y.2:Int) seed hs _) (fun v45 Ps45 hR45=>?_)) ?_
      ·
       obtain ⟨rfl,rfl⟩:=hR45
       refine ⟨⟨rfl,rfl,rfl,rfl,trivial⟩,?_⟩
       refine (Y9 [11] ?_)
       refine Z9 rfl rfl (Oc9 300 [0,101,102,103,182,183] [] rfl Try.call59 rfl rfl rfl (by decide) (by decide) (walk5_spec nm hn q y.2 0 (digA nm q (rndO nm q seed) msg y.2) (by omega) (by omega) (hashC nm q (y.2:Int) 255 seed) (hashC_length _ _ _ _ _) _) (fun v46 Ps46 hR46=>?_)) ?_
       ·
        obtain ⟨rfl,rfl⟩:=hR46
        refine ⟨⟨rfl,rfl,rfl,rfl,trivial⟩,?_⟩
        refine (Y9 [13] ?_)
        refine Ac09 rfl rfl rfl (OpT_storeAll (r:=103) rfl Try.sizeOf29 rfl rfl rfl rfl ((bs_length _).trans (sgnY_length nm q seed (rndO nm q seed) msg y.2)) (bs_one _) ?_) ?_
        ·
         refine ⟨⟨rfl,rfl,rfl,rfl,trivial⟩,?_⟩
         refine (Ad9 (by kernel_rfl) (X9 ?_))
         refine R9 (M9 rfl rfl (L9 rfl (Pu_sliceArr rfl Try.runUnderlying29 Try.sizeOf5 rfl) (Lc9 rfl rfl (by decide) (Oa9 (r:=183) (r2:=103) rfl Try.underlying30 TI.hi5 TI.hz5 TI.hs5 TI.hby5 TI.hzs5 (by decide) rfl rfl rfl rfl (fun _ h=>blk_all h (sgnY_length nm q seed (rndO nm q seed) msg y.2)) (bs_one _) (by unfold maxLen; simp [hcl,hyl] <;> omega) (by simp [hcl,hyl] <;> omega) (fun v49=>?_)))))
         refine Lt9 (P':=rowB 5 v49 ([0,0,0,2]++(rndO nm q seed)++rowsC (sgnY nm q seed (rndO nm q seed) msg) (y.2 + 1))) 183 rfl (fun h hp=>rowB_mk hp (rows_len (sgnY_length nm q seed (rndO nm q seed) msg y.2)) (rows_step _ (sgnY nm q seed (rndO nm q seed) msg) y.2)) ?_
         refine (G9 rfl rfl (N9 (X_block (X9 ?_))))
         refine R9 (M9 rfl rfl (L9 rfl (Pn9 rfl rfl rfl (run_add _ _ _ _ _ (by omega))) (G9 rfl rfl (N9 ?_))))
         exact Xr9 (v49,y.2 + 1) (by dsimp only; omega) (by show 133 - (y.2 + 1) < 133 - y.2; omega) (a9 rfl) (a9 rfl)
        exact An9
       exact An9
      exact An9
     exact An9
    ·
     have hye:y.2=133:=by have:=of_decide_eq_false hc32; omega
     rw [hye] at hyl ⊢
     refine W_exit (X_then_exit (X_then_exit (X_block_exit (X9 ?_))))
     refine Q9 (R9 (M9 rfl rfl (G9 rfl rfl (N9 (X9 ?_)))))
     refine W_ret ?_
     exact Xq9 [183] (Ps:=[_]) (res1 Try.results38 rfl) rfl (by decide) rfl
open Go.RowKit
section
variable {P:Program} {E:Env} {n:Nat} {K:Slots} {L:Res} {o:Oper}
theorem Pu_idZero (ho:o.op = .build 29 #[]):Pure Try.prog E n o K L (.agg (bs zeroId).toArray):=fun a w hA hS=>by
  have h:=run_build (P:=Try.prog) w 29 #[] (bs zeroId).toArray (by kernel_rfl)
  simp [execOp,ho,h]
end
theorem sz_id {y:List UInt8} (h:y.length=32):∀ w,(sizeOf 29).run Try.prog w = .ok (Value.agg (bs y).toArray).cells.size w:=fun w=>by
  have e:(Value.agg (bs y).toArray).cells.size=32:=by show (bs y).toArray.size=32; simp [bs_length,h]
  rw [e]
  exact Try.sizeOf29 w
def okB (sig:List UInt8):Bool:=decide (sig.length=4292) && (sig.take 4 == [0,0,0,2])
def bckR (nm:List UInt8) (q:Int) (msg sig:List UInt8):List UInt8:=if okB sig=true then bckO nm q msg sig else zeroId
def bckE (sig:List UInt8):Int:=if okB sig=true then 0 else 12
theorem bckR_length (nm:List UInt8) (q:Int) (msg sig:List UInt8):(bckR nm q msg sig).length=32:=by
  unfold bckR
  split
  · exact sha_length _
  · rfl
theorem okB_len {sig:List UInt8} (h:(!decide ((sig.length:Int)=4292))=true):okB sig=false:=by
  have:sig.length≠4292:=by simp at h; omega
  simp [okB,this]
theorem okB_not {sig:List UInt8} (h:(!(sig.take 4 == [0,0,0,2]))=true):okB sig=false:=by
  have h2:(sig.take 4 == [0,0,0,2])=false:=by simpa using h
  unfold okB
  rw [h2,Bool.and_false]
theorem okB_yes {sig:List UInt8} (hl:sig.length=4292) (h:(!(sig.take 4 == [0,0,0,2]))=false):okB sig=true:=by
  have h2:(sig.take 4 == [0,0,0,2])=true:=by simpa using h
  unfold okB
  rw [h2,hl]
  rfl
theorem idTo_setA {l:List UInt8} {a k:Nat} (hl:32≤(l.drop a).length) (hk:k < 32):(bs (idTo (l.drop a) k)).set (0 + (k:Int).toNat) (bv (at0 l (a + k)))=bs (idTo (l.drop a) (k + 1)):=by
  rw [Nat.zero_add,Int.toNat_natCast,← at0_off]
  exact idTo_set _ hl hk
def nmTo (l:List UInt8) (k:Nat):List UInt8:=l.take k++List.replicate (16 - k) 0
theorem nmTo_zero (l:List UInt8):nmTo l 0=List.replicate 16 0:=by simp [nmTo]
theorem nmTo_length {l:List UInt8} {k:Nat} (hl:16≤l.length) (hk:k≤16):(nmTo l k).length=16:=by simp [nmTo]; omega
theorem nmTo_all (l:List UInt8):nmTo l 16=l.take 16:=by simp [nmTo]
theorem nmTo_set {l:List UInt8} {k:Nat} (hl:16≤l.length) (hk:k < 16):(bs (nmTo l k)).set k (bv (at0 l k))=bs (nmTo l (k + 1)):=by
  have e:(bs (nmTo l k)).set k (bv (at0 l k))=bs ((nmTo l k).set k (at0 l k)):=by simp [bs,List.map_set]
  rw [e]
  congr 1
  unfold nmTo
  have hl2:(l.take k).length=k:=by simp; omega
  have er:List.replicate (16 - k) (0:UInt8)=0::List.replicate (16 - (k + 1)) 0:=by rw [show 16 - k=(16 - (k + 1)) + 1 by omega]; rfl
  rw [List.set_append_right _ _ (by omega),hl2,Nat.sub_self,er,List.set_cons_zero,List.take_add_one,List.append_assoc]
  congr 1
  rw [List.getElem?_eq_getElem (by omega)]
  simp [at0,List.getElem?_eq_getElem (show k < l.length by omega)]
def trA (nm seed:List UInt8) (x:Nat):List (List UInt8):=[zeroId,zeroId,if 0 < x then leafT nm seed 0 else zeroId,if 1 < x then leafT nm seed 1 else zeroId]
def trB (nm seed:List UInt8) (x:Nat):List (List UInt8):=[zeroId,if 0 < x then topT nm seed else zeroId,leafT nm seed 0,leafT nm seed 1]
theorem leafT_length (nm seed:List UInt8) (q:Nat):(leafT nm seed q).length=32:=sha_length _
theorem topT_length (nm seed:List UInt8):(topT nm seed).length=32:=sha_length _
theorem trA_ids (nm seed:List UInt8) (x:Nat):Ids (trA nm seed x):=by
  intro y hy
  simp only [trA,List.mem_cons,List.not_mem_nil,or_false] at hy
  rcases hy with rfl | rfl | rfl | rfl
  · rfl
  · rfl
  · split
    · exact leafT_length _ _ _
    · rfl
  · split
    · exact leafT_length _ _ _
    · rfl
theorem trB_ids (nm seed:List UInt8) (x:Nat):Ids (trB nm seed x):=by
  intro y hy
  simp only [trB,List.mem_cons,List.not_mem_nil,or_false] at hy
  rcases hy with rfl | rfl | rfl | rfl
  · rfl
  · split
    · exact topT_length _ _
    · rfl
  · exact leafT_length _ _ _
  · exact leafT_length _ _ _
theorem trA_set (nm seed:List UInt8) {x:Nat} (hx:x < 2):(trA nm seed x).set (2 + x) (leafT nm seed x)=trA nm seed (x + 1):=by
  obtain rfl | rfl:x=0∨x=1:=by omega
  · rfl
  · rfl
theorem trA_zero (nm seed:List UInt8):trA nm seed 0=List.replicate 4 zeroId:=rfl
theorem trA_full (nm seed:List UInt8):trA nm seed 2=trB nm seed 0:=rfl
theorem trB_set (nm seed:List UInt8):(trB nm seed 0).set 1 (topT nm seed)=trB nm seed 1:=rfl
theorem trB_leaf (nm seed:List UInt8) (x:Nat) {q:Nat} (hq:q < 2):(trB nm seed x).getD (2 + q) []=leafT nm seed q:=by
  obtain rfl | rfl:q=0∨q=1:=by omega
  · rfl
  · rfl
theorem xor_two {q:Nat} (h:q < 2):bits .xor .i64 ((2 + q:Nat):Int) 1=((2 + (1 - q):Nat):Int):=by
  obtain rfl | rfl:q=0∨q=1:=by omega
  · decide
  · decide
theorem checkT_pub {pub msg sig:List UInt8} (h:badPub pub):checkT pub msg sig=11:=by unfold checkT; rw [if_pos h]
theorem checkT_sig {pub msg sig:List UInt8} (h:¬ badPub pub) (h2:badSig (val pub 4) sig):checkT pub msg sig=12:=by unfold checkT; rw [if_neg h,if_pos h2]
theorem checkT_front {pub msg sig:List UInt8} (h:¬ badPub pub) (h2:¬ badSig (val pub 4) sig) (h3:okB ((sig.drop 4).take 4292)=false):checkT pub msg sig=12:=by
  unfold checkT
  rw [if_neg h,if_neg h2,if_pos]
  intro h4
  have hl:((sig.drop 4).take 4292).length=4292:=by unfold badSig at h2; rw [List.length_take,List.length_drop]; omega
  unfold okB at h3
  rw [hl,List.take_take,show min 4 4292=4 from rfl,h4] at h3
  exact absurd h3 (by decide)
theorem checkT_at {pub msg sig:List UInt8} (h:¬ badPub pub) (h2:¬ badSig (val pub 4) sig) (h3:okB ((sig.drop 4).take 4292)=true):checkT pub msg sig=if rootT pub msg sig == pub.drop 24 then 0 else 12:=by
  unfold checkT
  have h4:(sig.drop 4).take 4=[0,0,0,2]:=by
    unfold okB at h3
    rw [Bool.and_eq_true,List.take_take] at h3
    exact eq_of_beq h3.2
  rw [if_neg h,if_neg h2,if_neg (fun h=>h h4)]
  by_cases hr:rootT pub msg sig=pub.drop 24
  · rw [if_pos hr,if_pos (by rw [hr]; exact beq_self_eq_true _)]
  · rw [if_neg hr,if_neg (by simpa using hr)]
theorem climb_succ (nm:List UInt8) (k r:Nat) (t p:List UInt8):climb nm (k + 1) r t p=climb nm k (r / 2) (nodH nm ((r / 2:Nat):Int) 131 (if r % 2=1 then p.take 32++t else t++p.take 32)) (p.drop 32):=rfl
open Go.RowKit
set_option maxRecDepth 8000

theorem back5_spec (nm:List UInt8) (hn:nm.length=16) (q:Int) (mv sv:Value) (msg sig:List UInt8) (hml:msg.length≤1000000) (F:HP) (hm:∀ h,F h→rdB mv msg h) (hsg:∀ h,F h→rdB sv sig h):CallsS Try.prog 52 #[idV nm,.int .i64 q,mv,sv] F [] (fun r Ps=>r = .tuple #[idV (bckR nm q msg sig),.int .i64 (bckE sig)]∧Ps=[]):=by
 refine callsS_enter Try.func52 rfl Try.ntmps52 (by simp) (fun E=>?_)
 refine Q9 (R9 (Lc9 rfl rfl (by decide) (OpT_box (r:=101) rfl rfl rfl (fun g101=>(Lc9 rfl rfl (by decide) (OpT_alloc (r:=102) (cs:=(bs zeroId)) rfl (zero_run (by kernel_rfl:(Try.prog.info? 29).bind (·.zero)=some (.agg (bs zeroId).toArray))) rfl (fun g102=>(G9 rfl rfl (N9 (X9 (Q9 (Q9 ?_))))))))))))
 refine W_nilRow 185 5 1 ?_
 rcases Bool.eq_false_or_eq_true (!decide ((sig.length:Int)=4292)) with hsp1 | hsp1
 ·
  have hno:=okB_len hsp1
  refine W_draw (N:=11) (by kernel_rfl) rfl [(0,_),(101,_),(102,_)] ⟨rfl,rfl,rfl,trivial⟩ ?_
  refine (T9 0 rfl rfl (Pm9 rfl rfl) (T9 1 rfl rfl (Pl9 (r:=0) rfl Try.runUnderlying30 rfl rfl hsg) (T9 2 rfl rfl (Pn9 rfl rfl rfl (run_neq _ _ _ _ _ _)) (T9 3 rfl rfl (Pm9 rfl rfl) (AH_takeF 4 rfl (by kernel_rfl) (by kernel_rfl) (by kernel_rfl) rfl rfl rfl (by rw [hsp1]; rfl) rfl (by decide) (AH_takeF 5 rfl (by kernel_rfl) (by kernel_rfl) (by kernel_rfl) rfl rfl rfl (by rw [hsp1]; rfl) rfl (by decide) (AH_takeF 6 rfl (by kernel_rfl) (by kernel_rfl) (by kernel_rfl) rfl rfl rfl (by rw [hsp1]; rfl) rfl (by decide) (Y9 [7] ?_))))))))
  refine AHs_gF rfl rfl rfl rfl (by rw [hsp1]; rfl) rfl (by decide) ?_ ?_
  ·
   refine (Y9 [8] ?_)
   refine AHs_gF rfl rfl rfl rfl (by rw [hsp1]; rfl) rfl (by decide) ?_ ?_
   ·
    refine (AH_takeF 9 rfl (by kernel_rfl) (by kernel_rfl) (by kernel_rfl) rfl rfl rfl (by rw [hsp1]; rfl) rfl (by decide) (T9 10 rfl rfl (Pu_pickT rfl rfl hsp1 rfl) (Ad9 (by kernel_rfl) (X9 ?_))))
    refine W_true rfl (rfl) ?_
    refine Q9 (R9 (L9 rfl (Pu_idZero rfl) (Lc09 rfl rfl (OpT_storeAll (r:=102) rfl Try.sizeOf29 rfl rfl rfl rfl rfl (bs_one _) ?_))))
    refine (G9 rfl rfl (N9 (X9 ?_)))
    refine W_ret (X_then_ret ?_)
    exact Xq9 [] (Ps:=[]) (resC2 (r:=102) Try.results52 rfl rfl Try.isAgg29 Try.sizeOf29 rfl rfl) rfl (by decide) ⟨by unfold bckR bckE; rw [hno]; rfl,rfl⟩
   exact An9
  exact An9
 ·
  have hlen:sig.length=4292:=by simp at hsp1; omega
  refine W_draw (N:=11) (by kernel_rfl) rfl [(0,_),(101,_),(102,_)] ⟨rfl,rfl,rfl,trivial⟩ ?_
  refine (T9 0 rfl rfl (Pm9 rfl rfl) (T9 1 rfl rfl (Pl9 (r:=0) rfl Try.runUnderlying30 rfl rfl hsg) (T9 2 rfl rfl (Pn9 rfl rfl rfl (run_neq _ _ _ _ _ _)) (T9 3 rfl rfl (Pm9 rfl rfl) (AH_takeT 4 rfl (by kernel_rfl) (by kernel_rfl) (by kernel_rfl) rfl rfl rfl (by rw [hsp1]; rfl) rfl (by decide) (Pm9 rfl rfl) (AH_takeT 5 rfl (by kernel_rfl) (by kernel_rfl) (by kernel_rfl) rfl rfl rfl (by rw [hsp1]; rfl) rfl (by decide) (Pu_slice (r:=0) (a:=0) (b:=4) rfl Try.runUnderlying30 Try.sizeOf5 rfl rfl hsg (.inl ⟨rfl,rfl⟩) (.inr ⟨_,_,_,rfl,rfl,rfl⟩) (by omega) (by omega)) (AH_takeT 6 rfl (by kernel_rfl) (by kernel_rfl) (by kernel_rfl) rfl rfl rfl (by rw [hsp1]; rfl) rfl (by decide) (Pu_convBS (r:=0) rfl Try.underlying30 Try.underlying5 Try.underlying9 rfl rfl (fun h hp=>rdB_sub (hsg h hp) (by omega) (by omega))) (Y9 [7] ?_))))))))
  refine AHs_gT rfl rfl rfl rfl (by rw [hsp1]; rfl) rfl (by decide) (Oc9 200 [0,101,102] [185] rfl Try.call58 rfl rfl rfl (by decide) (by decide) (four5_spec _ rfl _ [] 2 (by simp) _) (fun v23 Ps23 hR23=>?_)) ?_
  ·
   subst hR23
   refine ⟨⟨rfl,rfl,rfl,trivial⟩,?_⟩
   refine (Y9 [8] ?_)
   refine AHs_gT rfl rfl rfl rfl (by rw [hsp1]; rfl) rfl (by decide) (Or9 (Pu_convBS (r:=200) rfl Try.underlying30 Try.underlying5 Try.underlying9 rfl rfl rowB_rd) ⟨⟨rfl,rfl,rfl,trivial⟩,?_⟩) ?_
   ·
    refine (AH_takeT 9 rfl (by kernel_rfl) (by kernel_rfl) (by kernel_rfl) rfl rfl rfl (by rw [hsp1]; rfl) rfl (by decide) (Pn9 rfl rfl rfl (run_strNe _ _ _ _ _)) (T9 10 rfl rfl (Pu_pickF rfl rfl hsp1 rfl) (Ad9 (by kernel_rfl) (X9 ?_))))
    refine C9 rfl (fun hc26=>?_) (fun hc26=>?_)
    ·
     have hno:okB sig=false:=okB_not hc26
     refine Q9 (R9 (L9 rfl (Pu_idZero rfl) (Lc09 rfl rfl (OpT_storeAll (r:=102) rfl Try.sizeOf29 rfl rfl rfl rfl rfl (bs_one _) ?_))))
     refine (G9 rfl rfl (N9 (X9 ?_)))
     refine W_ret (X_then_ret ?_)
     exact Xq9 [] (Ps:=[]) (resC2 (r:=102) Try.results52 rfl rfl Try.isAgg29 Try.sizeOf29 rfl rfl) rfl (by decide) ⟨by unfold bckR bckE; rw [hno]; rfl,rfl⟩
    ·
     have hyes:okB sig=true:=okB_yes hlen hc26
     have hcl:((sig.drop 4).take 32).length=32:=by rw [List.length_take,List.length_drop]; omega
     refine K9 (X9 ?_)
     refine W_cut (α:=Nat) (fun z10=>[(1,.int .i64 q),(3,sv),(4,.pointer (some ⟨g101,0,none⟩)),(8,.pointer (some ⟨g102,0,none⟩)),(10,.pointer (some ⟨z10,0,none⟩))]) (fun z10=>[(0,F),(101,blk g101 52 (bs nm)),(102,blk g102 29 (bs zeroId)),(181,blk z10 99 (nsC (digL (digB2 nm q ((sig.drop 4).take 32) msg))))]) (fun z10=>True) ?_ (fun z10 _=>?_)
     ·
      refine W_draw (N:=8) (by kernel_rfl) rfl [(0,_),(101,_),(102,_)] ⟨rfl,rfl,rfl,trivial⟩ ?_
      refine (T9 0 rfl rfl (Px9 (r:=101) rfl Try.isAgg52 Try.sizeOf52 rfl rfl ((bs_length _).trans hn) (load_all ((bs_length _).trans hn))) (T9 1 rfl rfl (Pm9 rfl rfl) (T9 2 rfl rfl (Pm9 rfl rfl) (T9 3 rfl rfl (Pu_slice (r:=0) (a:=4) (b:=36) rfl Try.runUnderlying30 Try.sizeOf5 rfl rfl hsg (.inr ⟨_,_,_,rfl,rfl,rfl⟩) (.inr ⟨_,_,_,rfl,rfl,rfl⟩) (by omega) (by omega)) (T9 4 rfl rfl (Pm9 rfl rfl) (Y9 [5,6] ?_))))))
      refine Z9 rfl rfl (Oc9 300 [0,101,102,200] [] rfl Try.call57 rfl rfl rfl (by decide) (by decide) (digits5_spec nm hn q _ _ ((sig.drop 4).take 32) msg (by omega) hml _ (rs9 0 rfl (fun h hp=>rdB_sub (hsg h hp) (by omega) (by omega))) (rs9 0 rfl hm)) (fun v33 Ps33 hR33=>?_)) ?_
      ·
       obtain ⟨rfl,rfl⟩:=hR33
       refine ⟨⟨rfl,rfl,rfl,trivial⟩,?_⟩
       refine (Y9 [6] ?_)
       refine Z9 rfl rfl (OpT_alloc (r:=301) (cs:=(nsC (List.replicate 133 0))) rfl (zero_run (by kernel_rfl:(Try.prog.info? 99).bind (·.zero)=some (nsV (List.replicate 133 0)))) rfl (fun g301=>⟨⟨rfl,rfl,rfl,trivial⟩,?_⟩)) ?_
       ·
        refine (Y9 [7] ?_)
        refine Ac09 rfl rfl rfl (OpT_storeAll (r:=301) rfl Try.sizeOf99 rfl rfl rfl rfl ((nsC_length _).trans (digL_length _)) (nsC_one _) ?_) ?_
        ·
         refine ⟨⟨rfl,rfl,rfl,trivial⟩,?_⟩
         refine (Ad9 (by kernel_rfl) ?_)
         refine X_ren 301 181 rfl ?_
         exact X_cut g301 trivial (a9 rfl) (a9 rfl)
        exact An9
       exact An9
      refine Z9 rfl rfl (OpT_alloc (r:=201) (cs:=(nsC (List.replicate 133 0))) rfl (zero_run (by kernel_rfl:(Try.prog.info? 99).bind (·.zero)=some (nsV (List.replicate 133 0)))) rfl (fun g201=>⟨⟨rfl,rfl,rfl,trivial⟩,?_⟩)) ?_
      ·
       refine (Y9 [5] ?_)
       refine Z9 rfl rfl (Oc9 300 [0,101,102,200,201] [] rfl Try.call57 rfl rfl rfl (by decide) (by decide) (digits5_spec nm hn q _ _ ((sig.drop 4).take 32) msg (by omega) hml _ (rs9 0 rfl (fun h hp=>rdB_sub (hsg h hp) (by omega) (by omega))) (rs9 0 rfl hm)) (fun v33 Ps33 hR33=>?_)) ?_
       ·
        obtain ⟨rfl,rfl⟩:=hR33
        refine ⟨⟨rfl,rfl,rfl,trivial⟩,?_⟩
        refine (Y9 [7] ?_)
        refine Ac09 rfl rfl rfl (OpT_storeAll (r:=201) rfl Try.sizeOf99 rfl rfl rfl rfl ((nsC_length _).trans (digL_length _)) (nsC_one _) ?_) ?_
        ·
         refine ⟨⟨rfl,rfl,rfl,trivial⟩,?_⟩
         refine (Ad9 (by kernel_rfl) ?_)
         refine X_ren 201 181 rfl ?_
         exact X_cut g201 trivial (a9 rfl) (a9 rfl)
        exact An9
       exact An9
      exact An9
     ·
      refine Q9 (R9 (L9 rfl (Px9 (r:=101) rfl Try.isAgg52 Try.sizeOf52 rfl rfl ((bs_length _).trans hn) (load_all ((bs_length _).trans hn))) (M9 rfl rfl (Lc9 rfl rfl (by decide) (Oc9 300 [0,101,102,181] [] rfl Try.call56 rfl rfl rfl (by decide) (by decide) (head5_spec nm hn q _) (fun v36 Ps36 hR36=>?_))))))
      subst hR36
      refine (Lc9 rfl rfl (by decide) (OpT_buildOnes (r:=301) (bs [128,128]) rfl rfl Try.runUnderlying30 Try.sizeOf5 Try.zeroValue5 rfl rfl (by decide) rfl (bs_cells _) (fun v37=>(Lc9 rfl rfl (by decide) (Oa9 (r:=300) (r2:=301) rfl Try.underlying30 TI.hi5 TI.hz5 TI.hs5 TI.hby5 TI.hzs5 (by decide) rfl rfl rfl rfl (fun _ h=>rp9 h) (bs_one _) (by unfold maxLen; simp [hdL_length hn,numB_length, *] <;> omega) (by simp [hdL_length hn,numB_length, *] <;> omega) (fun v38=>?_))))))
      refine Lt9 (P':=rowB 5 v38 (hdL nm q++[128,128])) 300 rfl (fun h hp=>rowB_mk hp (by simp [hdL_length hn,numB_length, *] <;> omega) (by simp only [bs_append])) ?_
      refine (G9 rfl rfl (N9 (X9 ?_)))
      refine Q9 (Q9 (R9 (G9 rfl rfl (N9 (X9 ?_)))))
      refine W_block ?_
      refine W_loop (α:=Value × Nat) (fun y=>[(1,.int .i64 q),(3,sv),(4,.pointer (some ⟨g101,0,none⟩)),(8,.pointer (some ⟨g102,0,none⟩)),(10,.pointer (some ⟨z10,0,none⟩)),(11,y.1),(12,.int .i64 (y.2:Int))]) (fun y=>[(0,F),(101,blk g101 52 (bs nm)),(102,blk g102 29 (bs zeroId)),(181,blk z10 99 (nsC (digL (digB2 nm q ((sig.drop 4).take 32) msg)))),(300,rowB 5 y.1 (hdL nm q++[128,128]++rowsC (bckY nm q ((sig.drop 4).take 32) msg sig) y.2))]) (fun y=>y.2≤133) (fun y=>133 - y.2) ((v38,0)) (by dsimp only; omega) ⟨rfl,rfl,rfl,rfl,rfl,rfl,rfl,trivial⟩ ⟨rfl,rfl,rfl,rfl,look_eq rfl (by rw [rowsC,List.append_nil]),trivial⟩ (fun y hy=>?_)
      have hyl:(rowsC (bckY nm q ((sig.drop 4).take 32) msg sig) y.2).length=32 * y.2:=rowsC_length fun i hi=>bckY_length (by omega)
      refine Q9 (Q9 (R9 (M9 rfl rfl (L9 rfl (Pn9 rfl rfl rfl (run_lss _ _ _ _ _ _)) (N9 (X9 ?_))))))
      refine C9 rfl (fun hc40=>?_) (fun hc40=>?_)
      ·
       have hlt:y.2 < 133:=by have:=of_decide_eq_true hc40; omega
       have hdx:=digA_lt nm q ((sig.drop 4).take 32) msg y.2
       have hzl:((sig.drop (36 + 32 * y.2)).take 32).length=32:=by rw [List.length_take,List.length_drop]; omega
       have hYl:((bckY nm q ((sig.drop 4).take 32) msg sig) y.2).length=32:=bckY_length (by omega)
       have hdr:32≤(sig.drop (36 + 32 * y.2)).length:=by rw [List.length_drop]; omega
       refine K9 (X9 ?_)
       refine Q9 ?_
       refine W_block ?_
       refine Q9 (R9 (Lc9 rfl rfl (by decide) (OpT_alloc (r:=302) (cs:=(bs zeroId)) rfl (zero_run (by kernel_rfl:(Try.prog.info? 29).bind (·.zero)=some (.agg (bs zeroId).toArray))) rfl (fun g302=>(N9 (X9 (Q9 (Q9 (R9 (G9 rfl rfl (N9 (X9 ?_))))))))))))
       refine W_block ?_
       refine W_loop (α:=Nat) (fun x=>[(1,.int .i64 q),(3,sv),(4,.pointer (some ⟨g101,0,none⟩)),(8,.pointer (some ⟨g102,0,none⟩)),(10,.pointer (some ⟨z10,0,none⟩)),(11,y.1),(12,.int .i64 (y.2:Int)),(13,.pointer (some ⟨g302,0,none⟩)),(14,.int .i64 (x:Int))]) (fun x=>[(0,F),(101,blk g101 52 (bs nm)),(102,blk g102 29 (bs zeroId)),(181,blk z10 99 (nsC (digL (digB2 nm q ((sig.drop 4).take 32) msg)))),(300,rowB 5 y.1 (hdL nm q++[128,128]++rowsC (bckY nm q ((sig.drop 4).take 32) msg sig) y.2)),(302,blk g302 29 (bs (idTo (sig.drop (36 + 32 * y.2)) x)))]) (fun x=>x≤32) (fun x=>32 - x) (0) (by omega) ⟨rfl,rfl,rfl,rfl,rfl,rfl,rfl,rfl,rfl,trivial⟩ ⟨rfl,rfl,rfl,rfl,rfl,look_eq rfl (by rw [idTo_zero]),trivial⟩ (fun x hx=>?_)
       have hil:=idTo_length (sig.drop (36 + 32 * y.2)) hdr hx
       refine Q9 (Q9 (R9 (M9 rfl rfl (L9 rfl (Pn9 rfl rfl rfl (run_lss _ _ _ _ _ _)) (N9 (X9 ?_))))))
       refine C9 rfl (fun hc44=>?_) (fun hc44=>?_)
       ·
        have hlx:x < 32:=by have:=of_decide_eq_true hc44; omega
        refine K9 (X9 ?_)
        refine Q9 ?_
        refine W_block ?_
        refine R9 (M9 rfl rfl (M9 rfl rfl (M9 rfl rfl (L9 rfl (Pn9 rfl rfl rfl (run_mul _ _ _ _ _ (by omega))) (L9 rfl (Pn9 rfl rfl rfl (run_add _ _ _ _ _ (by omega))) (M9 rfl rfl (L9 rfl (Pn9 rfl rfl rfl (run_add _ _ _ _ _ (by omega))) (L9 rfl (Pu_idxS1 (r:=0) rfl Try.runUnderlying30 Try.sizeOf5 rfl rfl rfl hsg (by omega)) (L9 rfl (Py9 (r:=0) rfl Try.isAgg5 rfl rfl hsg (bs_at1 (k:=36 + 32 * y.2 + x) (by omega))) (L9 rfl (Pu_idxA rfl Try.runUnderlying29 Try.sizeOf5 rfl rfl (by omega)) (Lc09 rfl rfl (OpT_storeB1 (r:=302) rfl Try.sizeOf5 rfl rfl rfl rfl (by rw [bs_length,hil]; omega) (idTo_setA hdr hlx) ?_))))))))))))
        refine (N9 (X_block (X9 ?_)))
        refine R9 (M9 rfl rfl (L9 rfl (Pn9 rfl rfl rfl (run_add _ _ _ _ _ (by omega))) (G9 rfl rfl (N9 ?_))))
        exact Xr9 (x + 1) (by omega) (by omega) (a9 rfl) (a9 rfl)
       ·
        obtain rfl:x=32:=by have:=of_decide_eq_false hc44; omega
        rw [idTo_all]
        refine W_exit (X_then_exit (X_then_exit (X_block_exit (X9 ?_))))
        refine Q9 ?_
        refine W_draw (N:=10) (by kernel_rfl) rfl [(0,_),(101,_),(102,_),(181,_),(302,_)] ⟨rfl,rfl,rfl,rfl,rfl,trivial⟩ ?_
        refine (T9 0 rfl rfl (Px9 (r:=101) rfl Try.isAgg52 Try.sizeOf52 rfl rfl ((bs_length _).trans hn) (load_all ((bs_length _).trans hn))) (T9 1 rfl rfl (Pm9 rfl rfl) (T9 2 rfl rfl (Pm9 rfl rfl) (T9 3 rfl rfl (Pm9 rfl rfl) (T9 4 rfl rfl (Pu_idxA rfl Try.runUnderlying99 Try.sizeOf3 rfl rfl (by omega)) (T9 5 rfl rfl (Pb9 (r:=181) rfl Try.isAgg3 rfl rfl (digA_get nm q ((sig.drop 4).take 32) msg hlt)) (T9 6 rfl rfl (Px9 (r:=302) rfl Try.isAgg29 Try.sizeOf29 rfl rfl ((bs_length _).trans hzl) (load_all ((bs_length _).trans hzl))) (Y9 [7,8] ?_))))))))
        refine Z9 rfl rfl (Oc9 400 [0,101,102,181,300,302] [] rfl Try.call59 rfl rfl rfl (by decide) (by decide) (walk5_spec nm hn q y.2 (digA nm q ((sig.drop 4).take 32) msg y.2) 3 (by omega) (by omega) ((sig.drop (36 + 32 * y.2)).take 32) hzl _) (fun v64 Ps64 hR64=>?_)) ?_
        ·
         obtain ⟨rfl,rfl⟩:=hR64
         refine ⟨⟨rfl,rfl,rfl,rfl,rfl,trivial⟩,?_⟩
         refine (Y9 [8] ?_)
         refine Z9 rfl rfl (OpT_alloc (r:=401) (cs:=(bs zeroId)) rfl (zero_run (by kernel_rfl:(Try.prog.info? 29).bind (·.zero)=some (.agg (bs zeroId).toArray))) rfl (fun g401=>⟨⟨rfl,rfl,rfl,rfl,rfl,trivial⟩,?_⟩)) ?_
         ·
          refine (Y9 [9] ?_)
          refine Ac09 rfl rfl rfl (OpT_storeAll (r:=401) rfl Try.sizeOf29 rfl rfl rfl rfl ((bs_length _).trans hYl) (bs_one _) ?_) ?_
          ·
           refine ⟨⟨rfl,rfl,rfl,rfl,rfl,trivial⟩,?_⟩
           refine (Ad9 (by kernel_rfl) (X9 ?_))
           refine R9 (M9 rfl rfl (L9 rfl (Pu_sliceArr rfl Try.runUnderlying29 Try.sizeOf5 rfl) (Lc9 rfl rfl (by decide) (Oa9 (r:=300) (r2:=401) rfl Try.underlying30 TI.hi5 TI.hz5 TI.hs5 TI.hby5 TI.hzs5 (by decide) rfl rfl rfl rfl (fun _ h=>blk_all h hYl) (bs_one _) (by unfold maxLen; simp [hdL_length hn,hyl] <;> omega) (by simp [hdL_length hn,hyl] <;> omega) (fun v67=>?_)))))
           refine Lt9 (P':=rowB 5 v67 (hdL nm q++[128,128]++rowsC (bckY nm q ((sig.drop 4).take 32) msg sig) (y.2 + 1))) 300 rfl (fun h hp=>rowB_mk hp (rows_len hYl) (rows_step _ (bckY nm q ((sig.drop 4).take 32) msg sig) y.2)) ?_
           refine (G9 rfl rfl (N9 (X_block (X9 ?_))))
           refine R9 (M9 rfl rfl (L9 rfl (Pn9 rfl rfl rfl (run_add _ _ _ _ _ (by omega))) (G9 rfl rfl (N9 ?_))))
           exact Xr9 (v67,y.2 + 1) (by dsimp only; omega) (by show 133 - (y.2 + 1) < 133 - y.2; omega) (a9 rfl) (a9 rfl)
          exact An9
         exact An9
        refine Z9 rfl rfl (OpT_alloc (r:=303) (cs:=(bs zeroId)) rfl (zero_run (by kernel_rfl:(Try.prog.info? 29).bind (·.zero)=some (.agg (bs zeroId).toArray))) rfl (fun g303=>⟨⟨rfl,rfl,rfl,rfl,rfl,trivial⟩,?_⟩)) ?_
        ·
         refine (Y9 [7] ?_)
         refine Z9 rfl rfl (Oc9 400 [0,101,102,181,300,302,303] [] rfl Try.call59 rfl rfl rfl (by decide) (by decide) (walk5_spec nm hn q y.2 (digA nm q ((sig.drop 4).take 32) msg y.2) 3 (by omega) (by omega) ((sig.drop (36 + 32 * y.2)).take 32) hzl _) (fun v64 Ps64 hR64=>?_)) ?_
         ·
          obtain ⟨rfl,rfl⟩:=hR64
          refine ⟨⟨rfl,rfl,rfl,rfl,rfl,trivial⟩,?_⟩
          refine (Y9 [9] ?_)
          refine Ac09 rfl rfl rfl (OpT_storeAll (r:=303) rfl Try.sizeOf29 rfl rfl rfl rfl ((bs_length _).trans hYl) (bs_one _) ?_) ?_
          ·
           refine ⟨⟨rfl,rfl,rfl,rfl,rfl,trivial⟩,?_⟩
           refine (Ad9 (by kernel_rfl) (X9 ?_))
           refine R9 (M9 rfl rfl (L9 rfl (Pu_sliceArr rfl Try.runUnderlying29 Try.sizeOf5 rfl) (Lc9 rfl rfl (by decide) (Oa9 (r:=300) (r2:=303) rfl Try.underlying30 TI.hi5 TI.hz5 TI.hs5 TI.hby5 TI.hzs5 (by decide) rfl rfl rfl rfl (fun _ h=>blk_all h hYl) (bs_one _) (by unfold maxLen; simp [hdL_length hn,hyl] <;> omega) (by simp [hdL_length hn,hyl] <;> omega) (fun v67=>?_)))))
           refine Lt9 (P':=rowB 5 v67 (hdL nm q++[128,128]++rowsC (bckY nm q ((sig.drop 4).take 32) msg sig) (y.2 + 1))) 300 rfl (fun h hp=>rowB_mk hp (rows_len hYl) (rows_step _ (bckY nm q ((sig.drop 4).take 32) msg sig) y.2)) ?_
           refine (G9 rfl rfl (N9 (X_block (X9 ?_))))
           refine R9 (M9 rfl rfl (L9 rfl (Pn9 rfl rfl rfl (run_add _ _ _ _ _ (by omega))) (G9 rfl rfl (N9 ?_))))
           exact Xr9 (v67,y.2 + 1) (by dsimp only; omega) (by show 133 - (y.2 + 1) < 133 - y.2; omega) (a9 rfl) (a9 rfl)
          exact An9
         exact An9
        exact An9
      ·
       have hye:y.2=133:=by have:=of_decide_eq_false hc40; omega
       rw [hye] at hyl ⊢
       refine W_exit (X_then_exit (X_then_exit (X_block_exit (X9 ?_))))
       refine Q9 (R9 (M9 rfl rfl (Lc9 rfl rfl (by decide) (Oc9 400 [0,101,102,181,300] [] rfl Try.call14 rfl rfl rfl (by decide) (by decide) (refSum_spec y.1 (hdL nm q++[128,128]++rowsC (bckY nm q ((sig.drop 4).take 32) msg sig) 133) (by simp [hdL_length hn,hyl]) _ (rs9 4 rfl rowB_rd)) (fun v69 Ps69 hR69=>?_)))))
       obtain ⟨rfl,rfl⟩:=hR69
       refine (Lc09 rfl rfl (OpT_storeAll (r:=102) rfl Try.sizeOf29 rfl rfl rfl rfl ((bs_length _).trans (sha_length _)) (bs_one _) ?_))
       refine (G9 rfl rfl (N9 (X9 ?_)))
       refine W_ret ?_
       exact Xq9 [] (Ps:=[]) (resC2 (r:=102) Try.results52 rfl rfl Try.isAgg29 Try.sizeOf29 rfl ((bs_length _).trans (sha_length _))) rfl (by decide) ⟨by unfold bckR bckE; rw [hyes]; rfl,rfl⟩
   exact An9
  exact An9
open Go.RowKit
set_option maxRecDepth 8000

theorem four6_spec (e:TypeId) (he:e=5) (v:Value) (l:List UInt8) (n:Int) (hl:l.length≤100000000) (F:HP):CallsS Try.prog 37 #[v,.int .i64 n] F [rowB e v l] (fun r Ps=>Ps=[rowB e r (l++numB n 4)]):=by
 subst he
 unfold rowB
 refine callsS_enter Try.func37 rfl Try.ntmps37 (by simp) (fun E=>?_)
 refine Q9 (R9 (G9 rfl rfl (N9 (X9 (Q9 (R9 (M9 rfl rfl (M9 rfl rfl (L9 rfl (Pn9 rfl rfl rfl (run_shr _ 24 _ _ _ (by omega))) (L9 rfl (Pu_conv rfl rfl (conv_byte _ _ Try.runUnderlying3 Try.runUnderlying5)) (M9 rfl rfl (L9 rfl (Pn9 rfl rfl rfl (run_shr _ 16 _ _ _ (by omega))) (L9 rfl (Pu_conv rfl rfl (conv_byte _ _ Try.runUnderlying3 Try.runUnderlying5)) (M9 rfl rfl (L9 rfl (Pn9 rfl rfl rfl (run_shr _ 8 _ _ _ (by omega))) (L9 rfl (Pu_conv rfl rfl (conv_byte _ _ Try.runUnderlying3 Try.runUnderlying5)) (M9 rfl rfl (L9 rfl (Pu_conv rfl rfl (conv_byte _ _ Try.runUnderlying3 Try.runUnderlying5)) (Lc9 rfl rfl (by decide) (OpT_buildOnes (r:=101) (bs (numB n 4)) rfl rfl Try.runUnderlying30 Try.sizeOf5 Try.zeroValue5 rfl rfl (by decide) (by rw [numB_four]; rfl) (bs_cells _) (fun v17=>(Lc9 rfl rfl (by decide) (Oa9 (r:=1) (r2:=101) rfl Try.underlying30 TI.hi5 TI.hz5 TI.hs5 TI.hby5 TI.hzs5 (by decide) rfl rfl rfl rfl (fun _ h=>rp9 h) (bs_one _) (by unfold maxLen; omega) (by omega) (fun v18=>?_))))))))))))))))))))))))
 refine (G9 rfl rfl (N9 (X9 ?_)))
 refine W_ret ?_
 exact Xq9 [1] (Ps:=[_]) (res1 Try.results37 rfl) rfl (by decide) (congrArg (·::[]) (rowB_of _ (by simp [numB_length]) (by rw [bs_append])))
theorem get6_spec (v:Value) (l:List UInt8) (F:HP) (hF:∀ h,F h→rdB v l h) (hl:4≤l.length):CallsS Try.prog 51 #[v] F [] (fun r Ps=>r = .int .i64 (val l 4:Int)∧Ps=[]):=by
 refine callsS_enter Try.func51 rfl Try.ntmps51 (by simp) (fun E=>?_)
 refine Q9 (R9 (G9 rfl rfl (N9 (X9 (Q9 ?_)))))
 refine W_draw (N:=23) (by kernel_rfl) rfl [(0,_)] ⟨rfl,trivial⟩ ?_
 refine (T9 0 rfl rfl (Pm9 rfl rfl) (T9 1 rfl rfl (Pu_idxS1 (r:=0) rfl Try.runUnderlying30 Try.sizeOf5 rfl rfl rfl hF (by omega)) (T9 2 rfl rfl (Py9 (r:=0) rfl Try.isAgg5 rfl rfl hF (bs_at1 (k:=0) (by omega))) (T9 3 rfl rfl (Pu_conv rfl rfl (conv_u8 _ Try.runUnderlying5 Try.runUnderlying3)) (T9 4 rfl rfl (Pn9 rfl rfl rfl (run_shl _ 24 _ _ _ (by have:=(at0 l 0).toNat_lt; omega) (by omega))) (T9 5 rfl rfl (Pm9 rfl rfl) (T9 6 rfl rfl (Pu_idxS1 (r:=0) rfl Try.runUnderlying30 Try.sizeOf5 rfl rfl rfl hF (by omega)) (T9 7 rfl rfl (Py9 (r:=0) rfl Try.isAgg5 rfl rfl hF (bs_at1 (k:=1) (by omega))) (T9 8 rfl rfl (Pu_conv rfl rfl (conv_u8 _ Try.runUnderlying5 Try.runUnderlying3)) (T9 9 rfl rfl (Pn9 rfl rfl rfl (run_shl _ 16 _ _ _ (by have:=(at0 l 1).toNat_lt; omega) (by omega))) (T9 10 rfl rfl (Pn9 rfl rfl rfl (run_or _ _ 24 _ _ _ (by have:=(at0 l 0).toNat_lt; have:=(at0 l 1).toNat_lt; have:=(at0 l 2).toNat_lt; have:=(at0 l 3).toNat_lt; omega) (by have:=(at0 l 0).toNat_lt; have:=(at0 l 1).toNat_lt; have:=(at0 l 2).toNat_lt; have:=(at0 l 3).toNat_lt; omega) (by have:=(at0 l 0).toNat_lt; have:=(at0 l 1).toNat_lt; have:=(at0 l 2).toNat_lt; have:=(at0 l 3).toNat_lt; omega) (by omega))) (T9 11 rfl rfl (Pm9 rfl rfl) (T9 12 rfl rfl (Pu_idxS1 (r:=0) rfl Try.runUnderlying30 Try.sizeOf5 rfl rfl rfl hF (by omega)) (T9 13 rfl rfl (Py9 (r:=0) rfl Try.isAgg5 rfl rfl hF (bs_at1 (k:=2) (by omega))) (T9 14 rfl rfl (Pu_conv rfl rfl (conv_u8 _ Try.runUnderlying5 Try.runUnderlying3)) (T9 15 rfl rfl (Pn9 rfl rfl rfl (run_shl _ 8 _ _ _ (by have:=(at0 l 2).toNat_lt; omega) (by omega))) (T9 16 rfl rfl (Pn9 rfl rfl rfl (run_or _ _ 16 _ _ _ (by have:=(at0 l 0).toNat_lt; have:=(at0 l 1).toNat_lt; have:=(at0 l 2).toNat_lt; have:=(at0 l 3).toNat_lt; omega) (by have:=(at0 l 0).toNat_lt; have:=(at0 l 1).toNat_lt; have:=(at0 l 2).toNat_lt; have:=(at0 l 3).toNat_lt; omega) (by have:=(at0 l 0).toNat_lt; have:=(at0 l 1).toNat_lt; have:=(at0 l 2).toNat_lt; have:=(at0 l 3).toNat_lt; omega) (by omega))) (T9 17 rfl rfl (Pm9 rfl rfl) (T9 18 rfl rfl (Pu_idxS1 (r:=0) rfl Try.runUnderlying30 Try.sizeOf5 rfl rfl rfl hF (by omega)) (T9 19 rfl rfl (Py9 (r:=0) rfl Try.isAgg5 rfl rfl hF (bs_at1 (k:=3) (by omega))) (T9 20 rfl rfl (Pu_conv rfl rfl (conv_u8 _ Try.runUnderlying5 Try.runUnderlying3)) (T9 21 rfl rfl (Pn9 rfl rfl rfl (run_or _ _ 8 _ _ _ (by have:=(at0 l 0).toNat_lt; have:=(at0 l 1).toNat_lt; have:=(at0 l 2).toNat_lt; have:=(at0 l 3).toNat_lt; omega) (by have:=(at0 l 0).toNat_lt; have:=(at0 l 1).toNat_lt; have:=(at0 l 2).toNat_lt; have:=(at0 l 3).toNat_lt; omega) (by have:=(at0 l 0).toNat_lt; have:=(at0 l 1).toNat_lt; have:=(at0 l 2).toNat_lt; have:=(at0 l 3).toNat_lt; omega) (by omega))) (T9 22 rfl rfl (Pg9 rfl rfl) (Ad9 (by kernel_rfl) (X9 ?_)))))))))))))))))))))))))
 refine W_ret ?_
 exact Xq9 [] (Ps:=[]) (res1 Try.results51 rfl) rfl (by decide) ⟨by rw [val_four],rfl⟩
theorem node6_spec (nm:List UInt8) (hn:nm.length=16) (r:Int) (mark:UInt8) (bw:Value) (b:List UInt8) (hbl:b.length≤1000000) (F:HP) (hb:∀ h,F h→rdB bw b h):CallsS Try.prog 53 #[idV nm,.int .i64 r,bv mark,bw] F [] (fun v Ps=>v=idV (nodH nm r mark b)∧Ps=[]):=by
 refine callsS_enter Try.func53 rfl Try.ntmps53 (by simp) (fun E=>?_)
 refine Q9 (R9 (Lc9 rfl rfl (by decide) (OpT_box (r:=101) rfl rfl rfl (fun g101=>(Lc9 rfl rfl (by decide) (OpT_alloc (r:=102) (cs:=(bs zeroId)) rfl (zero_run (by kernel_rfl:(Try.prog.info? 29).bind (·.zero)=some (.agg (bs zeroId).toArray))) rfl (fun g102=>(N9 (X9 (Q9 (R9 (Lc9 rfl rfl (by decide) (OpT_buildOnes (r:=103) (bs []) rfl rfl Try.runUnderlying30 Try.sizeOf5 Try.zeroValue5 rfl rfl (by decide) rfl (bs_cells _) (fun v10=>(L9 rfl (Pu_sliceArr rfl Try.runUnderlying52 Try.sizeOf5 rfl) (Lc9 rfl rfl (by decide) (Oa9 (r:=103) (r2:=101) rfl Try.underlying30 TI.hi5 TI.hz5 TI.hs5 TI.hby5 TI.hzs5 (by decide) rfl rfl rfl rfl (fun _ h=>blk_all h hn) (bs_one _) (by unfold maxLen; omega) (by omega) (fun v12=>?_))))))))))))))))))
 refine Lt9 (P':=rowB 5 v12 (nm)) 103 rfl (fun h hp=>rowB_mk hp (by simp [hn]) (by simp [bs])) ?_
 refine (M9 rfl rfl (Lc9 rfl rfl (by decide) (Oc9 200 [0,101,102] [103] rfl Try.call37 rfl rfl rfl (by decide) (by decide) (four6_spec _ rfl _ nm r (by omega) _) (fun v14 Ps14 hR14=>?_))))
 subst hR14
 refine Lt9 (P':=rowB 5 v14 (hdL nm r)) 200 rfl (fun h hp=>hp) ?_
 refine (M9 rfl rfl (M9 rfl rfl (Lc9 rfl rfl (by decide) (OpT_buildOnes (r:=201) (bs [mark,mark]) rfl rfl Try.runUnderlying30 Try.sizeOf5 Try.zeroValue5 rfl rfl (by decide) rfl (bs_cells _) (fun v17=>(Lc9 rfl rfl (by decide) (Oa9 (r:=200) (r2:=201) rfl Try.underlying30 TI.hi5 TI.hz5 TI.hs5 TI.hby5 TI.hzs5 (by decide) rfl rfl rfl rfl (fun _ h=>rp9 h) (bs_one _) (by unfold maxLen; simp [hdL_length hn,numB_length, *] <;> omega) (by simp [hdL_length hn,numB_length, *] <;> omega) (fun v18=>?_))))))))
 refine Lt9 (P':=rowB 5 v18 (hdL nm r++[mark,mark])) 200 rfl (fun h hp=>rowB_mk hp (by simp [hdL_length hn,numB_length, *] <;> omega) (by simp only [bs_append])) ?_
 refine (G9 rfl rfl (N9 (X9 ?_)))
 refine Q9 (R9 (M9 rfl rfl (M9 rfl rfl (Lc9 rfl rfl (by decide) (Oa9 (r:=200) (r2:=0) rfl Try.underlying30 TI.hi5 TI.hz5 TI.hs5 TI.hby5 TI.hzs5 (by decide) rfl rfl rfl rfl hb (bs_one _) (by unfold maxLen; simp [hdL_length hn,numB_length, *] <;> omega) (by simp [hdL_length hn,numB_length, *] <;> omega) (fun v21=>?_))))))
 refine Lt9 (P':=rowB 5 v21 (hdL nm r++[mark,mark]++b)) 200 rfl (fun h hp=>rowB_mk hp (by simp [hdL_length hn,numB_length, *] <;> omega) (by simp only [bs_append])) ?_
 refine (Lc9 rfl rfl (by decide) (Oc9 300 [0,101,102,200,201] [] rfl Try.call14 rfl rfl rfl (by decide) (by decide) (refSum_spec v21 (hdL nm r++[mark,mark]++b) (by simp [hdL_length hn] <;> omega) _ (rs9 3 rfl rowB_rd)) (fun v22 Ps22 hR22=>?_)))
 obtain ⟨rfl,rfl⟩:=hR22
 refine (Lc09 rfl rfl (OpT_storeAll (r:=102) rfl Try.sizeOf29 rfl rfl rfl rfl ((bs_length _).trans (sha_length _)) (bs_one _) ?_))
 refine (N9 (X9 ?_))
 refine W_ret ?_
 exact Xq9 [] (Ps:=[]) (resC1 (r:=102) Try.results53 rfl Try.isAgg29 Try.sizeOf29 rfl ((bs_length _).trans (sha_length _))) rfl (by decide) ⟨rfl,rfl⟩
end Go.Proofs.Ytinamipkpdlphaa
