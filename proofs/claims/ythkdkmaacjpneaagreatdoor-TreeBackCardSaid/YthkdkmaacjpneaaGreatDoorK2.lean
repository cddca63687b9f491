/- Texts of this proof, one behind the other: Weak, ShaB, Rec, Ent, TiE, Ti, ShaP, Cut, IdL, ShaQ, ShaC, ShaS, ShaD, LayN, Names0, LibU, TiN, NamesA, Names1, NamesE0, Names2, Blob0, BlobA, BlobB, BlobC, Blob1, BlobE, BlobF, BlobG. -/
import Derived.Test.YthkdkmaacjpneaaGreatDoorK1
import Derived.Test.YthkdkmaacjpneaaGreatDoorProg
import Derived.Shelf.Lays
import Derived.Shelf.Bodies
import Derived.Lib.LaidU8
import Derived.Shelf.Unicode.DecodeAny
import Derived.Stop.BytesEq
set_option linter.unusedVariables false
set_option linter.unusedSimpArgs false
set_option linter.unusedSectionVars false
namespace Go.Proofs.YthkdkmaacjpneaaGreatDoor
open Go.RowKit
def AllImp (L:Res):Res→Prop
  | []=>True
  | (r,P)::l=>(∃ P0,look L r=some P0∧∀ h,P0 h→P h)∧AllImp L l
theorem AllImp.sat {E:Env} {L:Res} {w:World} (hS:Sat E L w):∀ {S:Res},AllImp L S→Sat E S w:=fun {S} h=>by
  obtain ⟨e,hs,h1,h2,h3⟩:=hS
  refine ⟨e,hs,?_,h2,h3⟩
  intro q Pq hq
  clear h2 h3
  induction S with
  | nil=>simp [look] at hq
  | cons rp S ih =>
    obtain ⟨r,Pr⟩:=rp
    obtain ⟨⟨P0,ha,hb⟩,hr⟩:=h
    by_cases hqr:r=q
    · subst hqr
      rw [look_same] at hq
      injection hq with hq
      subst hq
      exact hb _ (h1 r P0 ha)
    · rw [look_other hqr] at hq
      exact ih hr hq
section
variable {P:Program} {E:Env} {n:Nat} {K:Slots} {L:Res} {Q:Exit→Act→World→Prop} {ops:Array Oper} {o:Oper} {S:Res} {fuel:Nat} {listed:Array Bool}
theorem W_drawI {id N:Nat} {l:List Oper} (hm:P.follows .mixedOrders=true) (hN:l.length=N) (S:Res) (hL:AllImp L S) (h:AH P E n l.toArray S N (Array.replicate N false) K L Q):W P E n (.region id l.toArray true) K L Q:=fun a w hA hS=>by
  refine wp_region_noPanic (wp_region_held_drew (S:=fun w=>Sat E S w) hm (hL.sat hS).drew fun hh=>?_)
  have:l.toArray.size=N:=by simpa using hN
  rw [this]
  exact h a w.drew hA hS.drew hh
theorem AHs_consI {i d:Nat} {rs:List Nat} (hi:ops[i]?=some o) (hg:o.guard=none) (hd:o.dst=some d) (hn:d < n) (h:OpT P E n o K L (fun v L'=>AllImp L' S∧AH P E n ops S fuel (listed.setIfInBounds i true) ((d,v)::K) L' Q))
    (hs:AHs P E n ops S fuel listed K L Q rs):AHs P E n ops S fuel listed K L Q (i::rs):=fun j hj a w hA hS hh=>by
  rcases List.mem_cons.1 hj with rfl | hj
  · refine wpOp_step hi fun Kc hK=>?_
    rw [if_pos (by simp [Region.wanted,hg])]
    refine h a w Kc _ hA hS fun v L' w' ⟨c1,c2⟩ hS'=>?_
    rw [hd]
    have hh':=c1.sat hS'
    exact hK _ _ ⟨hh',c2 _ _ (hA.put hn v) hS' hh'⟩
  · exact hs j hj a w hA hS hh
theorem AHs_cons0I {i:Nat} {rs:List Nat} (hi:ops[i]?=some o) (hg:o.guard=none) (hd:o.dst=none) (h:OpT P E n o K L (fun v L'=>AllImp L' S∧AH P E n ops S fuel (listed.setIfInBounds i true) K L' Q))
    (hs:AHs P E n ops S fuel listed K L Q rs):AHs P E n ops S fuel listed K L Q (i::rs):=fun j hj a w hA hS hh=>by
  rcases List.mem_cons.1 hj with rfl | hj
  · refine wpOp_step hi fun Kc hK=>?_
    rw [if_pos (by simp [Region.wanted,hg])]
    refine h a w Kc _ hA hS fun v L' w' ⟨c1,c2⟩ hS'=>?_
    rw [hd]
    have hh':=c1.sat hS'
    exact hK _ _ ⟨hh',c2 _ _ hA hS' hh'⟩
  · exact hs j hj a w hA hS hh
end
def frontW (g:Nat) (T:TypeId) (l:List UInt32) (x:Nat):HP:=fun h=>∃ l2:List UInt32,blk g T (ws l2) h∧x≤l2.length∧∀ k,k < x→l2.getD k 0=l.getD k 0
theorem front_a {g:Nat} {T:TypeId} {l:List UInt32} {x:Nat} (hx:x≤l.length):∀ h,blk g T (ws l) h→frontW g T l x h:=fun h hp=>⟨l,hp,hx,fun _ _=>rfl⟩
theorem front_b {g:Nat} {T:TypeId} {l:List UInt32} {x:Nat} {z:Int} {w:UInt32} (hx:x≤l.length) (hz:z.toNat=x):∀ h,blk g T (ws (l.set (0 + z.toNat) w)) h→frontW g T l x h:=fun h hp=>⟨_,hp,by rw [List.length_set]; exact hx,fun k hk=>by
  rw [List.getD_eq_getElem?_getD,List.getD_eq_getElem?_getD,List.getElem?_set_ne (by omega)]⟩
theorem front_get {g:Nat} {T:TypeId} {l:List UInt32} {x k:Nat} {z:Int} {h:Hlt} (hp:frontW g T l x h) (hz:z.toNat=k) (hk:k < x):cellH h ⟨g,0 + z.toNat,none⟩=some (wv (l.getD k 0)):=by
  obtain ⟨l2,h1,h2,h3⟩:=hp
  rw [blk_cell h1,ws_at0 hz (by omega),h3 k hk]
open Go.RowKit
set_option maxRecDepth 8000
theorem bs_atZ0 {l:List UInt8} {k:Nat} {z:Int} (hz:z.toNat=k) (h:k < l.length):(bs l)[z.toNat]?=some (bv (at0 l k)):=by rw [hz]; exact bs_at1 h
theorem ws_atI {l:List UInt32} {k:Nat} {z:Int} (hz:z.toNat=k) (h:k < l.length):(ws l)[z.toNat]?=some (wv (l.getD k 0)):=by rw [hz]; exact ws_at h
set_option maxHeartbeats 2000000 in
theorem mix_spec (s:S8) (v:Value) (b:List UInt8) (hbl:b.length=64) (F:HP) (hF:∀ h,F h→rdB v b h):CallsS Tryz.prog 145 #[.agg (ws s.list).toArray,v] F [] (fun r Ps=>r = .agg (ws (mixS b 0 s).list).toArray∧Ps=[]):=by
 refine callsS_enter Tryz.func145 rfl Tryz.ntmps145 (by simp) (fun E=>?_)
 refine Q9 (R9 (Lc9 rfl rfl (by decide) (OpT_box (r:=101) rfl rfl rfl (fun g101=>(Lc9 rfl rfl (by decide) (OpT_alloc (r:=102) (cs:=(ws [0,0,0,0,0,0,0,0])) rfl (zero_run (by kernel_rfl:(Tryz.prog.info? 108).bind (·.zero)=some (.agg (ws [0,0,0,0,0,0,0,0]).toArray))) rfl (fun g102=>(N9 (X9 (Q9 (R9 (Lc9 rfl rfl (by decide) (OpT_alloc (r:=103) (cs:=(ws (List.replicate 64 0))) rfl (zero_run (by kernel_rfl:(Tryz.prog.info? 106).bind (·.zero)=some (.agg (ws (List.replicate 64 0)).toArray))) rfl (fun g103=>(N9 (X9 (Q9 (Q9 (R9 (L9 rfl (Pu_sliceArrHi (b:=16) rfl Tryz.runUnderlying106 Tryz.sizeOf105 rfl rfl (by decide) (by decide)) (L9 rfl (Pl9 (r:=103) rfl Tryz.runUnderlying230 rfl rfl (fun h hp=>blk_rd (size:=1) (m:=16) hp rfl (by rw [List.length_take,List.length_drop,ws_length,List.length_replicate]; decide) (by decide))) (M9 rfl rfl (N9 (X9 ?_))))))))))))))))))))))))
 refine W_block ?_
 refine Wt9 (P':=blk g103 106 (ws (schZ b 0 0))) 103 rfl (fun h hp=>hp) ?_
 refine W_loop (α:=Nat) (fun x=>[(1,v),(2,.pointer (some ⟨g101,0,none⟩)),(4,.pointer (some ⟨g102,0,none⟩)),(5,.pointer (some ⟨g103,0,none⟩)),(22,.int .i64 16),(23,.int .i64 (x:Int))]) (fun x=>[(0,F),(101,blk g101 108 (ws s.list)),(102,blk g102 108 (ws [0,0,0,0,0,0,0,0])),(103,blk g103 106 (ws (schZ b 0 x)))]) (fun x=>x≤16) (fun x=>16 - x) (0) (by omega) (a9 rfl) (a9 rfl) (fun x hx=>?_)
 refine Q9 (R9 (L9 rfl (Pn9 rfl rfl rfl (run_lss _ _ _ _ _ _)) (N9 (X9 (Q9 ?_)))))
 refine C9 rfl (fun hc24=>?_) (fun hc24=>?_)
 ·
  have hlt:x < 16:=by have:=of_decide_eq_true hc24; omega
  refine K9 (X9 ?_)
  refine Q9 ?_
  refine W_block ?_
  refine Q9 (R9 (M9 rfl rfl (G9 rfl rfl (N9 (X9 ?_)))))
  refine W_draw (N:=36) (by kernel_rfl) rfl [(0,_),(101,_),(102,_)] ⟨rfl,rfl,rfl,trivial⟩ ?_
  refine (T9 0 rfl rfl (Pm9 rfl rfl) (T9 1 rfl rfl (Pm9 rfl rfl) (T9 2 rfl rfl (Pm9 rfl rfl) (T9 3 rfl rfl (Pn9 rfl rfl rfl (run_mul _ _ _ _ _ (by omega))) (T9 4 rfl rfl (Pu_idxS1 (r:=0) rfl Tryz.runUnderlying36 Tryz.sizeOf5 rfl rfl rfl hF (by omega)) (T9 5 rfl rfl (Py9 (r:=0) rfl Tryz.isAgg5 rfl rfl hF (bs_atZ0 (k:=4 * x) (by omega) (by omega))) (T9 6 rfl rfl (Pu_conv rfl rfl (conv_u8W _ Tryz.runUnderlying5 Tryz.runUnderlying105)) (T9 7 rfl rfl (Pn9 rfl rfl rfl (run_shlW _ (24) (by decide) _ _ _)) (T9 8 rfl rfl (Pm9 rfl rfl) (T9 9 rfl rfl (Pm9 rfl rfl) (T9 10 rfl rfl (Pn9 rfl rfl rfl (run_mul _ _ _ _ _ (by omega))) (T9 11 rfl rfl (Pn9 rfl rfl rfl (run_add _ _ _ _ _ (by omega))) (T9 12 rfl rfl (Pu_idxS1 (r:=0) rfl Tryz.runUnderlying36 Tryz.sizeOf5 rfl rfl rfl hF (by omega)) (T9 13 rfl rfl (Py9 (r:=0) rfl Tryz.isAgg5 rfl rfl hF (bs_atZ0 (k:=4 * x + 1) (by omega) (by omega))) (T9 14 rfl rfl (Pu_conv rfl rfl (conv_u8W _ Tryz.runUnderlying5 Tryz.runUnderlying105)) (T9 15 rfl rfl (Pn9 rfl rfl rfl (run_shlW _ (16) (by decide) _ _ _)) (T9 16 rfl rfl (Pn9 rfl rfl rfl (run_orW _ _ _ _ _)) (T9 17 rfl rfl (Pm9 rfl rfl) (T9 18 rfl rfl (Pm9 rfl rfl) (T9 19 rfl rfl (Pn9 rfl rfl rfl (run_mul _ _ _ _ _ (by omega))) (T9 20 rfl rfl (Pn9 rfl rfl rfl (run_add _ _ _ _ _ (by omega))) (T9 21 rfl rfl (Pu_idxS1 (r:=0) rfl Tryz.runUnderlying36 Tryz.sizeOf5 rfl rfl rfl hF (by omega)) (T9 22 rfl rfl (Py9 (r:=0) rfl Tryz.isAgg5 rfl rfl hF (bs_atZ0 (k:=4 * x + 2) (by omega) (by omega))) (T9 23 rfl rfl (Pu_conv rfl rfl (conv_u8W _ Tryz.runUnderlying5 Tryz.runUnderlying105)) (T9 24 rfl rfl (Pn9 rfl rfl rfl (run_shlW _ (8) (by decide) _ _ _)) (T9 25 rfl rfl (Pn9 rfl rfl rfl (run_orW _ _ _ _ _)) (T9 26 rfl rfl (Pm9 rfl rfl) (T9 27 rfl rfl (Pm9 rfl rfl) (T9 28 rfl rfl (Pn9 rfl rfl rfl (run_mul _ _ _ _ _ (by omega))) (T9 29 rfl rfl (Pn9 rfl rfl rfl (run_add _ _ _ _ _ (by omega))) (T9 30 rfl rfl (Pu_idxS1 (r:=0) rfl Tryz.runUnderlying36 Tryz.sizeOf5 rfl rfl rfl hF (by omega)) (T9 31 rfl rfl (Py9 (r:=0) rfl Tryz.isAgg5 rfl rfl hF (bs_atZ0 (k:=4 * x + 3) (by omega) (by omega))) (T9 32 rfl rfl (Pu_conv rfl rfl (conv_u8W _ Tryz.runUnderlying5 Tryz.runUnderlying105)) (T9 33 rfl rfl (Pn9 rfl rfl rfl (run_orW _ _ _ _ _)) (T9 34 rfl rfl (Pu_idxA rfl Tryz.runUnderlying106 Tryz.sizeOf105 rfl rfl (by omega)) (Y9 [35] ?_))))))))))))))))))))))))))))))))))))
  refine Ac09 rfl rfl rfl (OpT_storeB1 (r:=103) rfl Tryz.sizeOf105 rfl rfl rfl rfl (by rw [ws_length,schZ_length (by omega)]; omega) (ws_set _ _ _) ?_) ?_
  ·
   refine ⟨⟨rfl,rfl,rfl,trivial⟩,?_⟩
   refine (Ad9 (by kernel_rfl) (X_block (X9 ?_)))
   refine R9 (L9 rfl (Pn9 rfl rfl rfl (run_add _ _ _ _ _ (by omega))) (M9 rfl rfl (N9 ?_)))
   refine X_turn (P':=blk g103 106 (ws (schZ b 0 (x + 1)))) 103 rfl (fun h hp=>by rw [← schZ_set (t:=x) (z:=(x:Int)) (w:=word b (4 * x)) (by omega) (by omega) (by rw [if_pos hlt,Nat.zero_add])]; exact hp) ?_
   exact Xr9 (x + 1) (by omega) (by omega) (a9 rfl) (a9 rfl)
  exact An9
 ·
  obtain rfl:x=16:=by have:=of_decide_eq_false hc24; omega
  refine W_exit (X_then_exit (X_then_exit (X_block_exit (X9 ?_))))
  refine Q9 (Q9 (R9 (G9 rfl rfl (N9 (X9 ?_)))))
  refine W_block ?_
  refine W_loop (α:=Nat) (fun x=>[(1,v),(2,.pointer (some ⟨g101,0,none⟩)),(4,.pointer (some ⟨g102,0,none⟩)),(5,.pointer (some ⟨g103,0,none⟩)),(7,.int .i64 (x:Int))]) (fun x=>[(0,F),(101,blk g101 108 (ws s.list)),(102,blk g102 108 (ws [0,0,0,0,0,0,0,0])),(103,blk g103 106 (ws (schZ b 0 x)))]) (fun x=>16≤x∧x≤64) (fun x=>64 - x) (16) (by omega) (a9 rfl) (a9 rfl) (fun x hx=>?_)
  obtain ⟨h16,h64⟩:=hx
  have hzl:=schZ_length (b:=b) (p:=0) h64
  refine Q9 (Q9 (R9 (M9 rfl rfl (L9 rfl (Pn9 rfl rfl rfl (run_lss _ _ _ _ _ _)) (N9 (X9 ?_))))))
  refine C9 rfl (fun hc63=>?_) (fun hc63=>?_)
  ·
   have hlt:x < 64:=by have:=of_decide_eq_true hc63; omega
   refine K9 (X9 ?_)
   refine Q9 ?_
   refine W_block ?_
   refine W_drawI (N:=24) (by kernel_rfl) rfl [(0,_),(101,_),(102,_),(103,frontW g103 106 (schZ b 0 x) x)] ⟨⟨_,rfl,fun h hp=>hp⟩,⟨⟨_,rfl,fun h hp=>hp⟩,⟨⟨_,rfl,fun h hp=>hp⟩,⟨⟨_,rfl,by first | exact front_a (by omega) | exact front_b (by omega) (by omega)⟩,trivial⟩⟩⟩⟩ ?_
   refine (T9 0 rfl rfl (Pm9 rfl rfl) (T9 1 rfl rfl (Pm9 rfl rfl) (T9 2 rfl rfl (Pn9 rfl rfl rfl (run_sub _ _ _ _ _ (by omega))) (T9 3 rfl rfl (Pu_idxA rfl Tryz.runUnderlying106 Tryz.sizeOf105 rfl rfl (by omega)) (T9 4 rfl rfl (Pu_load1 (r:=103) rfl Tryz.isAgg105 rfl rfl (fun h hp=>front_get hp (k:=x - 2) (by omega) (by omega))) (T9 6 rfl rfl (Pm9 rfl rfl) (T9 7 rfl rfl (Pn9 rfl rfl rfl (run_sub _ _ _ _ _ (by omega))) (T9 8 rfl rfl (Pu_idxA rfl Tryz.runUnderlying106 Tryz.sizeOf105 rfl rfl (by omega)) (T9 9 rfl rfl (Pu_load1 (r:=103) rfl Tryz.isAgg105 rfl rfl (fun h hp=>front_get hp (k:=x - 7) (by omega) (by omega))) (T9 11 rfl rfl (Pm9 rfl rfl) (T9 12 rfl rfl (Pn9 rfl rfl rfl (run_sub _ _ _ _ _ (by omega))) (T9 13 rfl rfl (Pu_idxA rfl Tryz.runUnderlying106 Tryz.sizeOf105 rfl rfl (by omega)) (T9 14 rfl rfl (Pu_load1 (r:=103) rfl Tryz.isAgg105 rfl rfl (fun h hp=>front_get hp (k:=x - 15) (by omega) (by omega))) (T9 17 rfl rfl (Pm9 rfl rfl) (T9 18 rfl rfl (Pn9 rfl rfl rfl (run_sub _ _ _ _ _ (by omega))) (T9 19 rfl rfl (Pu_idxA rfl Tryz.runUnderlying106 Tryz.sizeOf105 rfl rfl (by omega)) (T9 20 rfl rfl (Pu_load1 (r:=103) rfl Tryz.isAgg105 rfl rfl (fun h hp=>front_get hp (k:=x - 16) (by omega) (by omega))) (Y9 [5] ?_))))))))))))))))))
   refine AHs_consI rfl rfl rfl (by decide) (Oc9 200 [0,101,102,103] [] rfl Tryz.call161 rfl rfl rfl (by decide) (by decide) (small1_spec _ _) (fun v71 Ps71 hR71=>?_)) ?_
   ·
    obtain ⟨rfl,rfl⟩:=hR71
    refine ⟨⟨⟨_,rfl,fun h hp=>hp⟩,⟨⟨_,rfl,fun h hp=>hp⟩,⟨⟨_,rfl,fun h hp=>hp⟩,⟨⟨_,rfl,by first | exact front_a (by omega) | exact front_b (by omega) (by omega)⟩,trivial⟩⟩⟩⟩,?_⟩
    refine (T9 10 rfl rfl (Pn9 rfl rfl rfl (run_addW _ _ _ _ _)) (Y9 [15] ?_))
    refine AHs_consI rfl rfl rfl (by decide) (Oc9 300 [0,101,102,103] [] rfl Tryz.call162 rfl rfl rfl (by decide) (by decide) (small0_spec _ _) (fun v81 Ps81 hR81=>?_)) ?_
    ·
     obtain ⟨rfl,rfl⟩:=hR81
     refine ⟨⟨⟨_,rfl,fun h hp=>hp⟩,⟨⟨_,rfl,fun h hp=>hp⟩,⟨⟨_,rfl,fun h hp=>hp⟩,⟨⟨_,rfl,by first | exact front_a (by omega) | exact front_b (by omega) (by omega)⟩,trivial⟩⟩⟩⟩,?_⟩
     refine (T9 16 rfl rfl (Pn9 rfl rfl rfl (run_addW _ _ _ _ _)) (T9 21 rfl rfl (Pn9 rfl rfl rfl (run_addW _ _ _ _ _)) (T9 22 rfl rfl (Pu_idxA rfl Tryz.runUnderlying106 Tryz.sizeOf105 rfl rfl (by omega)) (Y9 [23] ?_))))
     refine AHs_cons0I rfl rfl rfl (OpT_storeB1 (r:=103) rfl Tryz.sizeOf105 rfl rfl rfl rfl (by rw [ws_length,hzl]; omega) (ws_set _ _ _) ?_) ?_
     ·
      refine ⟨⟨⟨_,rfl,fun h hp=>hp⟩,⟨⟨_,rfl,fun h hp=>hp⟩,⟨⟨_,rfl,fun h hp=>hp⟩,⟨⟨_,rfl,by first | exact front_a (by omega) | exact front_b (by omega) (by omega)⟩,trivial⟩⟩⟩⟩,?_⟩
      refine (Ad9 (by kernel_rfl) (X_block (X9 ?_)))
      refine R9 (M9 rfl rfl (L9 rfl (Pn9 rfl rfl rfl (run_add _ _ _ _ _ (by omega))) (G9 rfl rfl (N9 ?_))))
      refine X_turn (P':=blk g103 106 (ws (schZ b 0 (x + 1)))) 103 rfl (fun h hp=>by rw [← schZ_set (t:=x) (z:=(x:Int)) (by omega) (by omega) (schZ_next h16)]; exact hp) ?_
      exact Xr9 (x + 1) (by omega) (by omega) (a9 rfl) (a9 rfl)
     exact An9
    exact An9
   exact An9
  ·
   obtain rfl:x=64:=by have:=of_decide_eq_false hc63; omega
   rw [schZ_full]
   refine W_exit (X_then_exit (X_then_exit (X_block_exit (X9 ?_))))
   refine Q9 (R9 (Lc9 rfl rfl (by decide) (Oc9 200 [0,101,102,103] [] rfl Tryz.call163 rfl rfl rfl (by decide) (by decide) (consts_spec _) (fun v89 Ps89 hR89=>?_))))
   obtain ⟨rfl,rfl⟩:=hR89
   refine (Lc9 rfl rfl (by decide) (OpT_alloc (r:=201) (cs:=(ws (List.replicate 64 0))) rfl (zero_run (by kernel_rfl:(Tryz.prog.info? 106).bind (·.zero)=some (.agg (ws (List.replicate 64 0)).toArray))) rfl (fun g201=>(Lc09 rfl rfl (OpT_storeAll (r:=201) rfl Tryz.sizeOf106 rfl rfl rfl rfl rfl (ws_one _) ?_)))))
   refine (N9 (X9 ?_))
   refine Q9 ?_
   refine W_draw (N:=24) (by kernel_rfl) rfl [(0,_),(101,_),(102,_),(103,_),(201,_)] ⟨rfl,rfl,rfl,rfl,rfl,trivial⟩ ?_
   refine (T9 0 rfl rfl (Pu_idxA rfl Tryz.runUnderlying108 Tryz.sizeOf105 rfl rfl (by omega)) (T9 1 rfl rfl (Pb9 (r:=101) rfl Tryz.isAgg105 rfl rfl rfl) (T9 2 rfl rfl (Pu_idxA rfl Tryz.runUnderlying108 Tryz.sizeOf105 rfl rfl (by omega)) (T9 3 rfl rfl (Pb9 (r:=101) rfl Tryz.isAgg105 rfl rfl rfl) (T9 4 rfl rfl (Pu_idxA rfl Tryz.runUnderlying108 Tryz.sizeOf105 rfl rfl (by omega)) (T9 5 rfl rfl (Pb9 (r:=101) rfl Tryz.isAgg105 rfl rfl rfl) (T9 6 rfl rfl (Pu_idxA rfl Tryz.runUnderlying108 Tryz.sizeOf105 rfl rfl (by omega)) (T9 7 rfl rfl (Pb9 (r:=101) rfl Tryz.isAgg105 rfl rfl rfl) (T9 8 rfl rfl (Pu_idxA rfl Tryz.runUnderlying108 Tryz.sizeOf105 rfl rfl (by omega)) (T9 9 rfl rfl (Pb9 (r:=101) rfl Tryz.isAgg105 rfl rfl rfl) (T9 10 rfl rfl (Pu_idxA rfl Tryz.runUnderlying108 Tryz.sizeOf105 rfl rfl (by omega)) (T9 11 rfl rfl (Pb9 (r:=101) rfl Tryz.isAgg105 rfl rfl rfl) (T9 12 rfl rfl (Pu_idxA rfl Tryz.runUnderlying108 Tryz.sizeOf105 rfl rfl (by omega)) (T9 13 rfl rfl (Pb9 (r:=101) rfl Tryz.isAgg105 rfl rfl rfl) (T9 14 rfl rfl (Pu_idxA rfl Tryz.runUnderlying108 Tryz.sizeOf105 rfl rfl (by omega)) (T9 15 rfl rfl (Pb9 (r:=101) rfl Tryz.isAgg105 rfl rfl rfl) (T9 16 rfl rfl (Pg9 rfl rfl) (T9 17 rfl rfl (Pg9 rfl rfl) (T9 18 rfl rfl (Pg9 rfl rfl) (T9 19 rfl rfl (Pg9 rfl rfl) (T9 20 rfl rfl (Pg9 rfl rfl) (T9 21 rfl rfl (Pg9 rfl rfl) (T9 22 rfl rfl (Pg9 rfl rfl) (T9 23 rfl rfl (Pg9 rfl rfl) (Ad9 (by kernel_rfl) (X9 ?_))))))))))))))))))))))))))
   refine Q9 (Q9 (R9 (L9 rfl (Px9 (r:=103) rfl Tryz.isAgg106 Tryz.sizeOf106 rfl rfl ((ws_length _).trans (sch_length b 0 64)) (load_all ((ws_length _).trans (sch_length b 0 64)))) (M9 rfl rfl (N9 (X9 ?_))))))
   refine W_block ?_
   refine W_loop (α:=Nat) (fun x=>[(2,.pointer (some ⟨g101,0,none⟩)),(4,.pointer (some ⟨g102,0,none⟩)),(8,.pointer (some ⟨g201,0,none⟩)),(9,wv (rnds (sch b 0 64) s x).a),(10,wv (rnds (sch b 0 64) s x).b),(11,wv (rnds (sch b 0 64) s x).c),(12,wv (rnds (sch b 0 64) s x).d),(13,wv (rnds (sch b 0 64) s x).e),(14,wv (rnds (sch b 0 64) s x).f),(15,wv (rnds (sch b 0 64) s x).g),(16,wv (rnds (sch b 0 64) s x).h),(106,.agg (ws (sch b 0 64)).toArray),(107,.int .i64 (x:Int))]) (fun x=>[(0,F),(101,blk g101 108 (ws s.list)),(102,blk g102 108 (ws [0,0,0,0,0,0,0,0])),(201,blk g201 106 (ws KS))]) (fun x=>x≤64) (fun x=>64 - x) (0) (by omega) (a9 rfl) (a9 rfl) (fun x hx=>?_)
   have hsl:=sch_length b 0 64
   refine Q9 (R9 (L9 rfl (Pn9 rfl rfl rfl (run_lss _ _ _ _ _ _)) (N9 (X9 (Q9 ?_)))))
   refine C9 rfl (fun hc108=>?_) (fun hc108=>?_)
   ·
    have hlt:x < 64:=by have:=of_decide_eq_true hc108; omega
    refine K9 (X9 ?_)
    refine Q9 ?_
    refine W_block ?_
    refine Q9 (R9 (M9 rfl rfl (L9 rfl (Pu_index rfl Tryz.runUnderlying106 Tryz.sizeOf105 Tryz.isAgg105 rfl rfl (by omega) (ws_atI (k:=x) (by omega) (by omega))) (G9 rfl rfl (G9 rfl rfl (N9 (X9 (Q9 ?_))))))))
    refine W_draw (N:=20) (by kernel_rfl) rfl [(0,_),(101,_),(102,_),(201,_)] ⟨rfl,rfl,rfl,rfl,trivial⟩ ?_
    refine (T9 0 rfl rfl (Pm9 rfl rfl) (T9 1 rfl rfl (Pm9 rfl rfl) (T9 4 rfl rfl (Pm9 rfl rfl) (T9 5 rfl rfl (Pm9 rfl rfl) (T9 6 rfl rfl (Pn9 rfl rfl rfl (run_andW _ _ _ _ _)) (T9 7 rfl rfl (Pm9 rfl rfl) (T9 8 rfl rfl (Pu_un rfl rfl (run_notW _)) (T9 9 rfl rfl (Pm9 rfl rfl) (T9 10 rfl rfl (Pn9 rfl rfl rfl (run_andW _ _ _ _ _)) (T9 11 rfl rfl (Pn9 rfl rfl rfl (run_xorW _ _ _ _ _)) (T9 13 rfl rfl (Pm9 rfl rfl) (T9 14 rfl rfl (Pu_idxA rfl Tryz.runUnderlying106 Tryz.sizeOf105 rfl rfl (by omega)) (T9 15 rfl rfl (Pb9 (r:=201) rfl Tryz.isAgg105 rfl rfl (ws_at0 (k:=x) (by omega) (by rw [KS_length]; omega))) (T9 17 rfl rfl (Pm9 rfl rfl) (Y9 [2] ?_)))))))))))))))
    refine Z9 rfl rfl (Oc9 300 [0,101,102,201] [] rfl Tryz.call164 rfl rfl rfl (by decide) (by decide) (great1_spec _ _) (fun v113 Ps113 hR113=>?_)) ?_
    ·
     obtain ⟨rfl,rfl⟩:=hR113
     refine ⟨⟨rfl,rfl,rfl,rfl,trivial⟩,?_⟩
     refine (T9 3 rfl rfl (Pn9 rfl rfl rfl (run_addW _ _ _ _ _)) (T9 12 rfl rfl (Pn9 rfl rfl rfl (run_addW _ _ _ _ _)) (T9 16 rfl rfl (Pn9 rfl rfl rfl (run_addW _ _ _ _ _)) (T9 18 rfl rfl (Pn9 rfl rfl rfl (run_addW _ _ _ _ _)) (T9 19 rfl rfl (Pg9 rfl rfl) (Ad9 (by kernel_rfl) (X9 ?_)))))))
     refine Q9 (R9 (M9 rfl rfl (Lc9 rfl rfl (by decide) (Oc9 400 [0,101,102,201] [] rfl Tryz.call165 rfl rfl rfl (by decide) (by decide) (great0_spec _ _) (fun v131 Ps131 hR131=>?_)))))
     obtain ⟨rfl,rfl⟩:=hR131
     refine (M9 rfl rfl (M9 rfl rfl (L9 rfl (Pn9 rfl rfl rfl (run_andW _ _ _ _ _)) (M9 rfl rfl (M9 rfl rfl (L9 rfl (Pn9 rfl rfl rfl (run_andW _ _ _ _ _)) (L9 rfl (Pn9 rfl rfl rfl (run_xorW _ _ _ _ _)) (M9 rfl rfl (M9 rfl rfl (L9 rfl (Pn9 rfl rfl rfl (run_andW _ _ _ _ _)) (L9 rfl (Pn9 rfl rfl rfl (run_xorW _ _ _ _ _)) (L9 rfl (Pn9 rfl rfl rfl (run_addW _ _ _ _ _)) (G9 rfl rfl (N9 (X9 ?_)))))))))))))))
     refine Q9 (R9 (M9 rfl rfl (M9 rfl rfl (M9 rfl rfl (M9 rfl rfl (M9 rfl rfl (L9 rfl (Pn9 rfl rfl rfl (run_addW _ _ _ _ _)) (G9 rfl rfl (G9 rfl rfl (G9 rfl rfl (G9 rfl rfl (N9 (X9 (R9 (M9 rfl rfl (M9 rfl rfl (M9 rfl rfl (M9 rfl rfl (M9 rfl rfl (L9 rfl (Pn9 rfl rfl rfl (run_addW _ _ _ _ _)) (G9 rfl rfl (G9 rfl rfl (G9 rfl rfl (G9 rfl rfl (N9 (X_block (X9 (R9 (L9 rfl (Pn9 rfl rfl rfl (run_add _ _ _ _ _ (by omega))) (M9 rfl rfl (N9 ?_)))))))))))))))))))))))))))))))
     exact Xr9 (x + 1) (by omega) (by omega) (a9 rfl) (a9 rfl)
    exact An9
   ·
    obtain rfl:x=64:=by have:=of_decide_eq_false hc108; omega
    obtain ⟨r,hr⟩:∃ r,rnds (sch b 0 64) s 64=r:=⟨_,rfl⟩
    rw [hr]
    refine W_exit (X_then_exit (X_then_exit (X_block_exit (X9 ?_))))
    refine Q9 (R9 (L9 rfl (Pu_idxA rfl Tryz.runUnderlying108 Tryz.sizeOf105 rfl rfl (by omega)) (L9 rfl (Pb9 (r:=101) rfl Tryz.isAgg105 rfl rfl rfl) (M9 rfl rfl (L9 rfl (Pn9 rfl rfl rfl (run_addW _ _ _ _ _)) (L9 rfl (Pu_idxA rfl Tryz.runUnderlying108 Tryz.sizeOf105 rfl rfl (by omega)) (L9 rfl (Pb9 (r:=101) rfl Tryz.isAgg105 rfl rfl rfl) (M9 rfl rfl (L9 rfl (Pn9 rfl rfl rfl (run_addW _ _ _ _ _)) (L9 rfl (Pu_idxA rfl Tryz.runUnderlying108 Tryz.sizeOf105 rfl rfl (by omega)) (L9 rfl (Pb9 (r:=101) rfl Tryz.isAgg105 rfl rfl rfl) (M9 rfl rfl (L9 rfl (Pn9 rfl rfl rfl (run_addW _ _ _ _ _)) (L9 rfl (Pu_idxA rfl Tryz.runUnderlying108 Tryz.sizeOf105 rfl rfl (by omega)) (L9 rfl (Pb9 (r:=101) rfl Tryz.isAgg105 rfl rfl rfl) (M9 rfl rfl (L9 rfl (Pn9 rfl rfl rfl (run_addW _ _ _ _ _)) (L9 rfl (Pu_idxA rfl Tryz.runUnderlying108 Tryz.sizeOf105 rfl rfl (by omega)) (L9 rfl (Pb9 (r:=101) rfl Tryz.isAgg105 rfl rfl rfl) (M9 rfl rfl (L9 rfl (Pn9 rfl rfl rfl (run_addW _ _ _ _ _)) (L9 rfl (Pu_idxA rfl Tryz.runUnderlying108 Tryz.sizeOf105 rfl rfl (by omega)) (L9 rfl (Pb9 (r:=101) rfl Tryz.isAgg105 rfl rfl rfl) (M9 rfl rfl (L9 rfl (Pn9 rfl rfl rfl (run_addW _ _ _ _ _)) (L9 rfl (Pu_idxA rfl Tryz.runUnderlying108 Tryz.sizeOf105 rfl rfl (by omega)) (L9 rfl (Pb9 (r:=101) rfl Tryz.isAgg105 rfl rfl rfl) (M9 rfl rfl (L9 rfl (Pn9 rfl rfl rfl (run_addW _ _ _ _ _)) (L9 rfl (Pu_idxA rfl Tryz.runUnderlying108 Tryz.sizeOf105 rfl rfl (by omega)) (L9 rfl (Pb9 (r:=101) rfl Tryz.isAgg105 rfl rfl rfl) (M9 rfl rfl (L9 rfl (Pn9 rfl rfl rfl (run_addW _ _ _ _ _)) (L9 rfl (Pu_built (cells:=ws (addS s r).list) rfl rfl (built8 Tryz.underlying108 (by kernel_rfl) (by kernel_rfl) _ _ _ _ _ _ _ _)) (Lc09 rfl rfl (OpT_storeAll (r:=102) rfl Tryz.sizeOf108 rfl rfl rfl rfl rfl (ws_one _) ?_))))))))))))))))))))))))))))))))))))
    refine (N9 (X9 ?_))
    refine W_ret ?_
    exact Xq9 [] (Ps:=[]) (resC1 (r:=102) Tryz.results145 rfl Tryz.isAgg108 Tryz.sizeOf108 rfl rfl) rfl (by decide) ⟨by unfold mixS; rw [hr],rfl⟩
open Go.RowKit
def recC {α:Type} (f:α→List Value) (es:List α):List Value:=(es.map f).flatten
section
variable {α:Type} {f:α→List Value} {S:Nat} {es:List α} {d:α}
theorem recC_append (a b:List α):recC f (a++b)=recC f a++recC f b:=by simp [recC]
theorem recC_one (x:α):recC f [x]=f x:=by simp [recC]
theorem recC_length (h:∀ e ∈ es,(f e).length=S):(recC f es).length=es.length * S:=by
  induction es with
  | nil=>simp [recC]
  | cons e es ih =>
    have h1:=ih fun x hx=>h x (by simp [hx])
    have h2:=h e (by simp)
    simp only [recC,List.map_cons,List.flatten_cons,List.length_append,List.length_cons] at h1 ⊢
    rw [h1,h2,Nat.add_mul]
    omega
theorem getD_split {k:Nat} (hk:k < es.length):es=es.take k++([es.getD k d]++es.drop (k + 1)):=by
  rw [show es.getD k d=es[k] by simp [hk],List.singleton_append,← List.drop_eq_getElem_cons hk,List.take_append_drop]
theorem getD_mem' {k:Nat} (hk:k < es.length):es.getD k d ∈ es:=by rw [show es.getD k d=es[k] by simp [hk]]; exact List.getElem_mem hk
theorem recC_at (h:∀ e ∈ es,(f e).length=S) {k j:Nat} (hk:k < es.length) (hj:j < S):(recC f es)[k * S + j]?=(f (es.getD k d))[j]?:=by
  have hx:=h _ (getD_mem' (d:=d) hk)
  have hl:(recC f (es.take k)).length=k * S:=by
    rw [recC_length fun e he=>h e (List.mem_of_mem_take he),List.length_take,Nat.min_eq_left (by omega)]
  conv=>lhs; rw [getD_split (d:=d) hk]
  rw [recC_append,recC_append,recC_one,List.getElem?_append_right (by omega),hl,Nat.add_sub_cancel_left,List.getElem?_append_left (by omega)]
theorem recC_get (h:∀ e ∈ es,(f e).length=S) {k:Nat} (hk:k < es.length):((recC f es).drop (k * S)).take S=f (es.getD k d):=by
  have hx:=h _ (getD_mem' (d:=d) hk)
  apply List.ext_getElem?
  intro j
  rw [List.getElem?_take]
  split
  · rename_i hj; rw [List.getElem?_drop,recC_at (d:=d) h hk hj]
  · rename_i hj; rw [List.getElem?_eq_none (by omega)]
theorem recC_rd (h:∀ e ∈ es,(f e).length=S) {v:Value} {n k off m:Nat} {hh:Hlt} {xs:List Value} (hr:rdP S v n (recC f es) hh) (hn:n=es.length) (hk:k < es.length) (hm:off + m≤S) (hx:((f (es.getD k d)).drop off).take m=xs) :
    rdP 1 (.slice (some ((adrOf v).add (k * S + off))) m m) m xs hh:=by
  have hfl:=h _ (getD_mem' (d:=d) hk)
  obtain ⟨h1,A,c,rfl,h3,h4,h5⟩:=hr
  refine ⟨by rw [← hx,List.length_take,List.length_drop]; omega,_,m,rfl,Nat.le_refl _,fun h=>(by cases h),fun ad had j u hu=>?_⟩
  injection had with had
  subst had
  cases A with
  | none=>have:=h4 rfl; omega
  | some ad =>
    rw [← hx,List.getElem?_take] at hu
    split at hu
    · rename_i hj
      rw [List.getElem?_drop] at hu
      have:=h5 ad rfl (k * S + (off + j)) u (by rw [recC_at (d:=d) h hk (by omega)]; exact hu)
      rw [add_of_add,Nat.add_assoc]
      exact this
    · cases hu
theorem recC_ones (h:∀ e,∀ u ∈ f e,u.oneCell'=true):∀ u ∈ recC f es,u.oneCell'=true:=by
  intro u hu
  simp only [recC,List.mem_flatten,List.mem_map] at hu
  obtain ⟨xs,⟨e,_,rfl⟩,hu⟩:=hu
  exact h e u hu
end
def rowR {α:Type} (f:α→List Value) (S:Nat) (e:TypeId) (v:Value) (es:List α):HP:=rowP e S v es.length (recC f es)
abbrev rdR {α:Type} (f:α→List Value) (S:Nat) (v:Value) (es:List α):HP:=rdP S v es.length (recC f es)
theorem rowR_rd {α:Type} {f:α→List Value} {S:Nat} {e:TypeId} {v:Value} {es:List α}:∀ h,rowR f S e v es h→rdR f S v es h:=fun h hr=>rp9 hr
theorem rowR_of {α:Type} {f:α→List Value} {S:Nat} {e:TypeId} {v:Value} {n:Nat} {xs:List Value} (es:List α) (hn:n=es.length) (hx:xs=recC f es):rowP e S v n xs=rowR f S e v es:=by subst hn; subst hx; rfl
section
variable {P:Program} {E:Env} {n:Nat} {K:Slots} {L:Res} {o:Oper} {C:Value→Res→Prop}
end
open Go.RowKit
abbrev Ent:=List UInt8 × List UInt8
def entC (nm id:List UInt8):List Value:=sV nm::bs id
def entF (e:Ent):List Value:=entC e.1 e.2
def Ents (es:List Ent):Prop:=∀ e ∈ es,e.2.length=32
def ent0:Ent:=([],[])
theorem entC_length {nm id:List UInt8} (h:id.length=32):(entC nm id).length=33:=by simp [entC,bs_length,h]
theorem Ents.len {es:List Ent} (h:Ents es):∀ e ∈ es,(entF e).length=33:=fun e he=>entC_length (h e he)
theorem Ents.get {es:List Ent} (h:Ents es) {k:Nat} (hk:k < es.length):(es.getD k ent0).2.length=32:=h _ (getD_mem' hk)
theorem entC_one (nm id:List UInt8):∀ u ∈ entC nm id,u.oneCell'=true:=by
  intro u hu
  rcases List.mem_cons.1 hu with rfl | hu
  · rfl
  · exact bs_one id u hu
abbrev rdE (v:Value) (es:List Ent):HP:=rdR entF 33 v es
abbrev rowE (e:TypeId) (v:Value) (es:List Ent):HP:=rowR entF 33 e v es
theorem ent_name {es:List Ent} (h:Ents es) {k:Nat} (hk:k < es.length):(recC entF es)[k * 33 + 0]?=some (sV (es.getD k ent0).1):=by
  rw [recC_at (d:=ent0) h.len hk (by omega)]; rfl
theorem ent_all {es:List Ent} (h:Ents es) {k:Nat} (hk:k < es.length):((recC entF es).drop (k * 33)).take 33=entC (es.getD k ent0).1 (es.getD k ent0).2:=recC_get (d:=ent0) h.len hk
theorem ent_id {es:List Ent} (hE:Ents es) {v:Value} {n k:Nat} {hh:Hlt} (hr:rdP 33 v n (recC entF es) hh) (hn:n=es.length) (hk:k < es.length):rdP 1 (.slice (some ((adrOf v).add (k * 33 + 1))) 32 32) 32 (bs (es.getD k ent0).2) hh :=
  recC_rd (d:=ent0) hE.len hr hn hk (by omega) (by
    have hx:=hE.get hk
    show ((entC (es.getD k ent0).1 (es.getD k ent0).2).drop 1).take 32=_
    unfold entC
    rw [List.drop_succ_cons,List.drop_zero]
    exact List.take_of_length_le (by rw [bs_length,hx]; omega))
end Go.Proofs.YthkdkmaacjpneaaGreatDoor
namespace Go.Proofs.YthkdkmaacjpneaaGreatDoor.TI
theorem hi5:Tryz.prog.info? 5=some Tryz.t5:=by kernel_rfl
theorem hz5:Tryz.t5.zero=some (.int .u8 0):=by kernel_rfl
theorem hs5:Tryz.t5.size=1:=by kernel_rfl
theorem hby5:Tryz.t5.bytes=1:=by kernel_rfl
theorem hzs5:(.int .u8 0:Value).cells.size=1:=by kernel_rfl
theorem hsm5:(Tryz.prog.info? 5).map (·.size)=some 1:=by kernel_rfl
theorem hz3:Tryz.t3.zero=some (.int .i64 0):=by kernel_rfl
theorem hi29:Tryz.prog.info? 29=some Tryz.t29:=by kernel_rfl
theorem hz29:Tryz.t29.zero=some (.agg (bs zeroId).toArray):=by kernel_rfl
theorem hs29:Tryz.t29.size=32:=by kernel_rfl
theorem hby29:Tryz.t29.bytes=32:=by kernel_rfl
theorem hzs29:(.agg (bs zeroId).toArray:Value).cells.size=32:=by kernel_rfl
theorem hi9:Tryz.prog.info? 9=some Tryz.t9:=by kernel_rfl
theorem hz9:Tryz.t9.zero=some (.string ⟨#[]⟩):=by kernel_rfl
theorem hs9:Tryz.t9.size=1:=by kernel_rfl
theorem hby9:Tryz.t9.bytes=16:=by kernel_rfl
theorem hzs9:(.string ⟨#[]⟩:Value).cells.size=1:=by kernel_rfl
theorem hi122:Tryz.prog.info? 122=some Tryz.t122:=by kernel_rfl
theorem hz122:Tryz.t122.zero=some (.agg (entC [] zeroId).toArray):=by kernel_rfl
theorem hs122:Tryz.t122.size=33:=by kernel_rfl
theorem hby122:Tryz.t122.bytes=48:=by kernel_rfl
theorem hzs122:(.agg (entC [] zeroId).toArray:Value).cells.size=33:=by kernel_rfl
end Go.Proofs.YthkdkmaacjpneaaGreatDoor.TI
namespace Go.Proofs.YthkdkmaacjpneaaGreatDoor.TI
end Go.Proofs.YthkdkmaacjpneaaGreatDoor.TI
namespace Go.Proofs.YthkdkmaacjpneaaGreatDoor
open Go.RowKit
def zs8 (k:Nat):List UInt8:=List.replicate k 0
theorem zs8_length (k:Nat):(zs8 k).length=k:=List.length_replicate
theorem bs_app (a b:List UInt8):bs (a++b)=bs a++bs b:=by simp [bs]
theorem over_zeros {p a:List UInt8} {k off:Nat} {rest:List Value} (ho:off=p.length) (hk:a.length≤k):over (bs (p++zs8 k)++rest) off (bs a)=bs (p++a++zs8 (k - a.length))++rest:=by
  subst ho
  unfold over
  rw [bs_app,List.append_assoc,List.take_left' (bs_length p),bs_length]
  rw [← List.drop_drop,List.drop_left' (bs_length p)]
  have h1:zs8 k=zs8 a.length++zs8 (k - a.length):=by unfold zs8; rw [List.replicate_append_replicate]; congr 1; omega
  rw [h1,bs_app,List.append_assoc,List.drop_left' ((bs_length _).trans (zs8_length _)),bs_app,bs_app]
  simp [List.append_assoc]
theorem set_zero {p:List UInt8} {k off:Nat} {rest:List Value} {x:UInt8} (ho:off=p.length) (hk:1≤k):(bs (p++zs8 k)++rest).set off (bv x)=bs (p++[x]++zs8 (k - 1))++rest:=by
  have h:=over_zeros (p:=p) (a:=[x]) (k:=k) (off:=off) (rest:=rest) ho hk
  rw [show k - 1=k - [x].length from rfl,← h]
  exact (over_one _ _ _ (by simp [bs_length,zs8_length]; omega)).symm
def lenAt (n j:Nat):UInt8:=byte (((n * 8 / 2 ^ (8 * (7 - j)):Nat)):Int)
def tailB (n zc i:Nat):List UInt8:=zs8 (zc - i)++(lenB n).drop (8 - i)
theorem lenB_length (n:Nat):(lenB n).length=8:=by simp [lenB]
theorem lenB_at {n j:Nat} (hj:j < 8):(lenB n)[j]?=some (lenAt n j):=by
  unfold lenB lenAt
  rw [List.getElem?_map,List.getElem?_range hj]
  show some _=some _
  congr 1
  apply UInt8.toNat_inj.1
  have:=byte_toNat ((n * 8 / 2 ^ (8 * (7 - j)):Nat):Int)
  rw [UInt8.toNat_ofNat',Nat.mul_comm 8 n]
  omega
theorem tailB_length {n zc i:Nat} (hi:i≤8) (hz:8≤zc):(tailB n zc i).length=zc:=by
  unfold tailB
  rw [List.length_append,zs8_length,List.length_drop,lenB_length]
  omega
theorem tailB_zero (n zc:Nat):tailB n zc 0=zs8 zc:=by
  unfold tailB
  rw [show 8 - 0=8 from rfl,List.drop_of_length_le (by rw [lenB_length]; exact Nat.le_refl _),List.append_nil]
  rfl
theorem tailB_set {n zc i:Nat} {p:List UInt8} {off:Nat} {rest:List Value} (hi:i < 8) (hz:8≤zc) (ho:off=p.length + (zc - 1 - i)):(bs (p++tailB n zc i)++rest).set off (bv (lenAt n (7 - i)))=bs (p++tailB n zc (i + 1))++rest:=by
  have h1:zs8 (zc - i)=zs8 (zc - (i + 1))++[0]:=by
    unfold zs8
    rw [show zc - i=(zc - (i + 1)) + 1 by omega,List.replicate_succ']
  have h2:(lenB n).drop (8 - (i + 1))=lenAt n (7 - i)::(lenB n).drop (8 - i):=by
    rw [show 8 - (i + 1)=7 - i by omega,show 8 - i=7 - i + 1 by omega]
    have hlt:7 - i < (lenB n).length:=by rw [lenB_length]; omega
    rw [List.drop_eq_getElem_cons hlt]
    congr 1
    have:=lenB_at (n:=n) (j:=7 - i) (by omega)
    rw [List.getElem?_eq_getElem hlt] at this
    injection this
  unfold tailB
  rw [h1,h2]
  have e1:bs (p++(zs8 (zc - (i + 1))++[0]++(lenB n).drop (8 - i)))++rest=(bs (p++zs8 (zc - (i + 1))))++(bv 0::(bs ((lenB n).drop (8 - i))++rest)):=by simp [bs]
  have e2:bs (p++(zs8 (zc - (i + 1))++lenAt n (7 - i)::(lenB n).drop (8 - i)))++rest=(bs (p++zs8 (zc - (i + 1))))++(bv (lenAt n (7 - i))::(bs ((lenB n).drop (8 - i))++rest)):=by simp [bs]
  rw [e1,e2,List.set_append_right _ _ (by simp [bs_length,zs8_length]; omega)]
  have e3:off - (bs (p++zs8 (zc - (i + 1)))).length=0:=by rw [bs_length,List.length_append,zs8_length]; omega
  rw [e3]
  rfl
theorem pad_eq {d:List UInt8} {n N:Nat} (hn:d.length=n) (hN:N=(n + 8) / 64 * 64 + 64):d++[128]++tailB n (N - n - 1) 8=padB d∧(padB d).length=N:=by
  have hl:=padB_length d
  refine ⟨?_,by rw [hl,hn,hN]⟩
  unfold padB tailB
  rw [hn,show 8 - 8=0 from rfl,List.drop_zero]
  have:N - n - 1 - 8=padZ n:=by unfold padZ; omega
  rw [this]
  unfold zs8
  simp
theorem outB_at {s:S8} {i k:Nat} (hi:i < 8) (hk:k < 4):(outB s).getD (4 * i + k) 0=((s.list.getD i 0) >>> UInt32.ofNat (24 - 8 * k)).toUInt8:=by
  have h0:∀ x:UInt32,x >>> UInt32.ofNat 0=x:=fun x=>by simp
  have hi':i=0∨i=1∨i=2∨i=3∨i=4∨i=5∨i=6∨i=7:=by omega
  have hk':k=0∨k=1∨k=2∨k=3:=by omega
  rcases hi' with rfl | rfl | rfl | rfl | rfl | rfl | rfl | rfl <;> rcases hk' with rfl | rfl | rfl | rfl <;> first | rfl | (show _=(_ >>> UInt32.ofNat 0).toUInt8; rw [h0]; rfl)
def outZ (s:S8) (q:Nat):List UInt8:=(outB s).take q++zs8 (32 - q)
theorem outZ_length {s:S8} {q:Nat} (h:q≤32):(outZ s q).length=32:=by unfold outZ; rw [List.length_append,List.length_take,outB_length,zs8_length]; omega
theorem outZ_full (s:S8):outZ s 32=outB s:=by
  unfold outZ
  rw [List.take_of_length_le (by rw [outB_length]; exact Nat.le_refl _)]
  exact List.append_nil _
theorem outZ_set {s:S8} {i k off:Nat} (hi:i < 8) (hk:k < 4) (ho:off=4 * i + k):(bs (outZ s (4 * i + k))).set off (bv ((s.list.getD i 0) >>> UInt32.ofNat (24 - 8 * k)).toUInt8)=bs (outZ s (4 * i + k + 1)):=by
  subst ho
  rw [← outB_at hi hk]
  have hq:4 * i + k < (outB s).length:=by rw [outB_length]; omega
  have e:outZ s (4 * i + k)=(outB s).take (4 * i + k)++(0::zs8 (32 - (4 * i + k + 1))):=by
    unfold outZ zs8
    rw [show 32 - (4 * i + k)=(32 - (4 * i + k + 1)) + 1 by omega,List.replicate_succ]
  have e2:outZ s (4 * i + k + 1)=(outB s).take (4 * i + k)++((outB s).getD (4 * i + k) 0::zs8 (32 - (4 * i + k + 1))):=by
    unfold outZ
    rw [List.take_succ_eq_append_getElem hq,List.append_assoc]
    congr 1
    rw [List.getD_eq_getElem?_getD,List.getElem?_eq_getElem hq]
    rfl
  rw [e,e2,bs_app,bs_app,List.set_append_right _ _ (by rw [bs_length,List.length_take]; omega)]
  congr 1
  rw [bs_length,List.length_take,show 4 * i + k - min (4 * i + k) (outB s).length=0 by omega]
  rfl
theorem piece {d:List UInt8} {p:Nat} {s:S8} (h:p + 64≤d.length):mixS ((d.drop p).take 64) 0 s=mixS d p s∧((d.drop p).take 64).length=64:=by
  refine ⟨mixS_at fun j hj=>?_,by rw [List.length_take,List.length_drop]; omega⟩
  unfold at0
  rw [List.getD_eq_getElem?_getD,List.getD_eq_getElem?_getD,Nat.zero_add,List.getElem?_take,if_pos hj,List.getElem?_drop]
open Go.RowKit
section
variable {P:Program} {E:Env} {n:Nat} {K:Slots} {L:Res} {Q:Exit→Act→World→Prop}
theorem W_cut {x y:Code} {α:Type} (Kf:α→Slots) (Lf:α→Res) (φ:α→Prop) (h1:W P E n x K L (Exit.then (fun a w=>∃ z,φ z∧Agr n (Kf z) a∧Sat E (Lf z) w) Q)) (h2:∀ z,φ z→W P E n y (Kf z) (Lf z) Q):W P E n (.seq x y) K L Q:=fun a w hA hS =>
  wp_seq (Code.wp_mono (fun e a' w' hq=>by
    cases e with
    | normal=>obtain ⟨z,z1,z2,z3⟩:=hq; exact h2 z z1 a' w' z2 z3
    | _=>exact hq) (h1 a w hA hS))
theorem X_cut {α:Type} {Kf:α→Slots} {Lf:α→Res} {φ:α→Prop} (z:α) (hz:φ z) (hK:AllIn K (Kf z)) (hL:AllIn L (Lf z)):X E n (Exit.then (fun a w=>∃ z,φ z∧Agr n (Kf z) a∧Sat E (Lf z) w) Q) .normal K L:=fun a w hA hS=>⟨z,hz,hA.sub hK.look,hS.sub hL.look⟩
end
end Go.Proofs.YthkdkmaacjpneaaGreatDoor
namespace Go.Proofs.YthkdkmaacjpneaaGreatDoor
theorem idsC_take {l:List (List UInt8)} (h:Ids l) (i:Nat):(idsC l).take (i * 32)=idsC (l.take i):=by
  rcases Nat.lt_or_ge l.length i with hi | hi
  · rw [List.take_of_length_le (by rw [idsC_length h]; omega),List.take_of_length_le (by omega)]
  · have hl:(idsC (l.take i)).length=i * 32:=by rw [idsC_length (h.take i),List.length_take,Nat.min_eq_left hi]
    have e:idsC l=idsC (l.take i)++idsC (l.drop i):=by rw [← idsC_append,List.take_append_drop]
    rw [e,← hl,List.take_left]
theorem idsC_drop {l:List (List UInt8)} (h:Ids l) (i:Nat):(idsC l).drop (i * 32)=idsC (l.drop i):=by
  rcases Nat.lt_or_ge l.length i with hi | hi
  · rw [List.drop_of_length_le (by rw [idsC_length h]; omega),List.drop_of_length_le (by omega)]; rfl
  · have hl:(idsC (l.take i)).length=i * 32:=by rw [idsC_length (h.take i),List.length_take,Nat.min_eq_left hi]
    have e:idsC l=idsC (l.take i)++idsC (l.drop i):=by rw [← idsC_append,List.take_append_drop]
    rw [e,← hl,List.drop_left]
theorem Ids.drop {l:List (List UInt8)} (h:Ids l) (i:Nat):Ids (l.drop i):=fun x hx=>h x (List.mem_of_mem_drop hx)
theorem int_eq {k:IntKind} {a b:Int} (h:a=b):Value.int k a=Value.int k b:=by rw [h]
theorem Ids.set {l:List (List UInt8)} (h:Ids l) {i:Nat} {x:List UInt8} (hx:x.length=32):Ids (l.set i x):=fun y hy=>by
  rcases List.mem_or_eq_of_mem_set hy with h' | rfl
  · exact h y h'
  · exact hx
theorem zeroId_length:zeroId.length=32:=rfl
section
variable {P:Program} {E:Env} {n:Nat} {K:Slots} {L:Res} {o:Oper}
theorem Pu_lenK {t e:TypeId} {x:Operand} {A:Option Addr} {m c:Nat} (ho:o.op = .call { callee:=.builtin .len,args:=#[x],argTypes:=#[t] }) (hu:∀ w,(underlying t).run P w = .ok (.slice e) w) (hx:evK K x=some (.slice A m c)):Pure P E n o K L (.int .i64 (m:Int)):=fun a w hA hS=>by
  simp [execOp,ho,resolve,invoke,builtin,hA.eval hx,Builtin.len_,hu,goInt]
end
open Go.RowKit
section
variable {P:Program} {E:Env} {n:Nat} {K:Slots} {L:Res} {o:Oper} {Q:Exit→Act→World→Prop} {ex:Exit}
theorem X_openRow (r:Nat) {e:TypeId} {size:Nat} {v:Value} {m:Nat} {xs:List Value} (hr:look L r=some (rowP e size v m xs)) (hm:0 < m)
    (k:∀ g cap cs,v = .slice (some ⟨g,0,none⟩) m cap→m≤cap→cap≤maxLen→cs.length=cap * size→cs.take (m * size)=xs→X E n Q ex K ((r,blk g e cs)::L)):X E n Q ex K L:=fun a w hA hS=>by
  obtain ⟨q,hS2⟩:=hS.ex hr (fun h hp=>rowP_open hp hm)
  obtain ⟨h1,h2,h3,h4,h5⟩:v = .slice (some ⟨q.1,0,none⟩) m q.2.1∧m≤q.2.1∧q.2.1≤maxLen∧q.2.2.length=q.2.1 * size∧q.2.2.take (m * size)=xs:=hS2.get (look_same _ _ _) fun h hp=>⟨hp.1,hp.2.1,hp.2.2.1,hp.2.2.2.1,hp.2.2.2.2.1⟩
  have hS3:=hS2.cons (P':=blk q.1 e q.2.2) (look_same _ _ _) fun h hp=>hp.2.2.2.2.2
  refine k q.1 q.2.1 q.2.2 h1 h2 h3 h4 h5 a w hA (hS3.sub fun r' P' h=>?_)
  by_cases hrr:r=r'
  · subst hrr; rw [look_same] at h ⊢; exact h
  · rw [look_other hrr] at h; rw [look_other hrr,look_other hrr]; exact h
end
theorem copy_front {p a:List UInt8} {k off m:Nat} {rest:List Value} (ho:off=p.length) (hk:a.length≤k) (hm:a.length≤m):over (bs (p++zs8 k)++rest) off ((bs a).take (min a.length m))=bs (p++a++zs8 (k - a.length))++rest:=by
  rw [Nat.min_eq_left hm,List.take_of_length_le (by rw [bs_length]; exact Nat.le_refl _)]
  exact over_zeros ho hk
theorem lenAt_rev {n i:Nat} (hi:i≤7):lenAt n (7 - i)=byte (((n * 8 / 2 ^ (8 * i):Nat)):Int):=by
  unfold lenAt
  rw [show 7 - (7 - i)=i by omega]
theorem tailB_step {n zc i:Nat} {p:List UInt8} {off:Nat} {rest:List Value} (hi:i < 8) (hz:8≤zc) (ho:off=p.length + (zc - 1 - i)):(bs (p++tailB n zc i)++rest).set off (bv (byte (((n * 8 / 2 ^ (8 * i):Nat)):Int)))=bs (p++tailB n zc (i + 1))++rest:=by
  rw [← lenAt_rev (n:=n) (i:=i) (by omega)]
  exact tailB_set hi hz ho
theorem piece_rd {g p c:Nat} {T:TypeId} {d:List UInt8} {rest:List Value} {h:Hlt} (hb:blk g T (bs d++rest) h) (hp:p + 64≤d.length) (hc:64≤c):rdB (.slice (some ⟨g,p * 1,none⟩) (p + 64 - p) c) ((d.drop p).take 64) h:=by
  have hl:=(piece (s:=S8.of HS) hp).2
  have hx:((bs d++rest).drop (p * 1)).take (64 * 1)=bs ((d.drop p).take 64):=by
    rw [Nat.mul_one,Nat.mul_one,List.drop_append_of_le_length (by rw [bs_length]; omega),List.take_append_of_le_length (by rw [List.length_drop,bs_length]; omega)]
    unfold bs
    rw [List.map_take,List.map_drop]
  have:=blk_rd (size:=1) (m:=64) (c:=c) hb hx (by rw [bs_length,hl]) hc
  rw [show p + 64 - p=64 by omega]
  exact rdP_cast this rfl hl.symm
open Go.RowKit
set_option maxRecDepth 8000
set_option maxHeartbeats 2000000 in
theorem pair_spec (va vb:Value) (a b:List UInt8) (hla:a.length≤1000000000) (hlb:b.length≤1000000000) (F:HP) (hFa:∀ h,F h→rdB va a h) (hFb:∀ h,F h→rdB vb b h):CallsS Tryz.prog 109 #[va,vb] F [] (fun r Ps=>r=idV (sha (a++b))∧Ps=[]):=by
 refine callsS_enter Tryz.func109 rfl Tryz.ntmps109 (by simp) (fun E=>?_)
 refine Q9 (R9 (Lc9 rfl rfl (by decide) (OpT_alloc (r:=101) (cs:=(bs zeroId)) rfl (zero_run (by kernel_rfl:(Tryz.prog.info? 29).bind (·.zero)=some (.agg (bs zeroId).toArray))) rfl (fun g101=>(N9 (X9 (Q9 (R9 (M9 rfl rfl (L9 rfl (Pl9 (r:=0) rfl Tryz.runUnderlying36 rfl rfl hFa) (M9 rfl rfl (L9 rfl (Pl9 (r:=0) rfl Tryz.runUnderlying36 rfl rfl hFb) (L9 rfl (Pn9 rfl rfl rfl (run_add _ _ _ _ _ (by omega))) ?_)))))))))))))
 obtain ⟨n,hn⟩:∃ n,a.length + b.length=n:=⟨_,rfl⟩
 rw [show (a.length:Int) + (b.length:Int)=(n:Int) by omega]
 refine (G9 rfl rfl (N9 (X9 ?_)))
 refine Q9 (R9 (Lc9 rfl rfl (by decide) (OpT_alloc (r:=102) (cs:=(bs (zs8 128))) rfl (zero_run (by kernel_rfl:(Tryz.prog.info? 216).bind (·.zero)=some (.agg (bs (zs8 128)).toArray))) rfl (fun g102=>(N9 (X9 (Q9 (R9 (L9 rfl (Pu_sliceArr rfl Tryz.runUnderlying216 Tryz.sizeOf5 rfl) (G9 rfl rfl (N9 (X9 ?_))))))))))))
 obtain ⟨N,hN⟩:∃ N,N=(n + 8) / 64 * 64 + 64:=⟨_,rfl⟩
 refine W_cut (α:=Nat × TypeId × List Value) (fun z=>[(0,va),(1,vb),(4,.pointer (some ⟨g101,0,none⟩)),(5,.int .i64 (n:Int)),(7,.slice (some ⟨z.1,0,none⟩) N (N + z.2.2.length))]) (fun z=>[(0,F),(101,blk g101 29 (bs zeroId)),(150,blk z.1 z.2.1 (bs (zs8 N)++z.2.2))]) (fun z=>True) ?_ (fun z hz=>?_)
 ·
  refine Q9 (R9 (M9 rfl rfl (L9 rfl (Pn9 rfl rfl rfl (run_add _ _ _ _ _ (by omega))) (L9 rfl (Pn9 rfl rfl rfl (run_quo _ _ _ _ _ (by omega))) (L9 rfl (Pn9 rfl rfl rfl (run_mul _ _ _ _ _ (by omega))) (L9 rfl (Pn9 rfl rfl rfl (run_add _ _ _ _ _ (by omega))) ?_))))))
  rw [show ((n:Int) + 8) / 64 * 64 + 64=(N:Int) by omega]
  refine (G9 rfl rfl (N9 (X9 ?_)))
  refine Q9 (R9 (M9 rfl rfl (M9 rfl rfl (L9 rfl (Pu_lenK rfl Tryz.runUnderlying36 rfl) (L9 rfl (Pn9 rfl rfl rfl (run_leq _ _ _ _ _ _)) (N9 (X9 ?_)))))))
  refine C9 rfl (fun hc30=>?_) (fun hc30=>?_)
  ·
   have hle:N≤128:=by have:=of_decide_eq_true hc30; omega
   refine R9 (M9 rfl rfl (M9 rfl rfl (L9 rfl (Pu_sliceK (a:=0) (b:=N) rfl Tryz.runUnderlying36 Tryz.sizeOf5 rfl (.inl ⟨rfl,rfl⟩) (.inr ⟨_,_,_,rfl,rfl,rfl⟩) (Nat.zero_le _) (by omega) (by omega)) (G9 rfl rfl (N9 ?_)))))
   refine X_turn (P':=blk g102 216 (bs (zs8 N)++bs (zs8 (128 - N)))) 102 rfl (fun h hp=>by rw [← bs_app,show zs8 N++zs8 (128 - N)=zs8 128 by unfold zs8; rw [List.replicate_append_replicate,show N + (128 - N)=128 by omega]]; exact hp) ?_
   refine X_ren 102 150 rfl ?_
   exact X_cut (g102,216,bs (zs8 (128 - N))) trivial ⟨rfl,rfl,rfl,rfl,lookV_eq rfl (by rw [bs_length,zs8_length,show N + (128 - N)=128 by omega]; rfl),trivial⟩ ⟨rfl,rfl,rfl,trivial⟩
  ·
   refine R9 (M9 rfl rfl (Lc9 rfl rfl (by decide) (OpT_make (r:=103) (m:=N) rfl Tryz.underlying36 TI.hi5 TI.hz5 TI.hs5 rfl rfl (by rw [TI.hby5]; omega) (by unfold maxLen; omega) ((made_one _ _).trans (made_bytes N)) (fun v35=>?_))))
   skip
   refine (G9 rfl rfl (N9 ?_))
   refine X_openRow 103 rfl (by omega) (fun g cap cs hv hmc _ hcl hct=>?_)
   rw [Nat.mul_one] at hcl hct
   refine X_turn (P':=blk g 5 (bs (zs8 N)++cs.drop N)) 103 rfl (fun h hp=>by rw [show bs (zs8 N)++cs.drop N=cs by rw [show bs (zs8 N)=cs.take N from hct.symm,List.take_append_drop]]; exact hp) ?_
   refine X_ren 103 150 rfl ?_
   exact X_cut (g,5,cs.drop N) trivial ⟨rfl,rfl,rfl,rfl,lookV_eq rfl (by rw [hv,List.length_drop,hcl,show N + (cap - N)=cap by omega]),trivial⟩ ⟨rfl,rfl,rfl,trivial⟩
 ·
  obtain ⟨g,T,rest⟩:=z
  have hnN:n + 9≤N:=by omega
  obtain ⟨cap,hcap⟩:∃ c,N + rest.length=c:=⟨_,rfl⟩
  refine J9 [(0,va),(1,vb),(4,.pointer (some ⟨g101,0,none⟩)),(5,.int .i64 (n:Int)),(7,.slice (some ⟨g,0,none⟩) N cap)] [(0,F),(101,blk g101 29 (bs zeroId)),(150,blk g T (bs (zs8 N)++rest))] ?_ ⟨rfl,rfl,rfl,rfl,lookV_eq rfl (by rw [← hcap]),trivial⟩ ⟨rfl,rfl,rfl,trivial⟩
  refine Q9 (R9 (M9 rfl rfl (M9 rfl rfl (M9 rfl rfl (Lc9 rfl rfl (by decide) (OpT_copyB (r:=150) (r2:=0) (cs':=bs ([]++a++zs8 (N - a.length))++rest) rfl Tryz.underlying36 TI.hsm5 rfl rfl rfl rfl hFa (bs_one _) (by simp [bs_length,zs8_length]; omega) (copy_front (p:=[]) rfl (by omega) (by omega)) ?_))))))
  rw [Nat.min_eq_left (show a.length≤N by omega)]
  refine (L9 rfl (Pu_sliceK (a:=a.length) (b:=N) rfl Tryz.runUnderlying36 Tryz.sizeOf5 rfl (.inr ⟨_,_,_,rfl,rfl,rfl⟩) (.inl ⟨rfl,rfl⟩) (by omega) (by omega) (by omega)) (M9 rfl rfl (Lc9 rfl rfl (by decide) (OpT_copyB (r:=150) (r2:=0) (cs':=bs (([]++a)++b++zs8 (N - a.length - b.length))++rest) rfl Tryz.underlying36 TI.hsm5 rfl rfl rfl rfl hFb (bs_one _) (by simp [bs_length,zs8_length]; omega) (copy_front (p:=[]++a) (by simp) (by omega) (by omega)) ?_))))
  refine (N9 (X9 ?_))
  refine Q9 ?_
  obtain ⟨d,hd⟩:∃ d,a++b=d:=⟨_,rfl⟩
  have hdn:d.length=n:=by rw [← hd,List.length_append]; exact hn
  refine Wt9 (P':=blk g T (bs (d++zs8 (N - n))++rest)) 150 rfl (fun h hp=>by rw [← hd,show N - n=N - a.length - b.length by omega]; exact hp) ?_
  obtain ⟨hpad,hpl⟩:=pad_eq hdn hN
  refine R9 (M9 rfl rfl (M9 rfl rfl (L9 rfl (Pu_idxK (r:=150) rfl Tryz.runUnderlying36 Tryz.sizeOf5 rfl rfl rfl (by simp [bs_length,zs8_length]; omega) (by omega) (by omega)) (Lc09 rfl rfl (OpT_storeB1 (r:=150) rfl Tryz.sizeOf5 rfl rfl rfl rfl (by simp [bs_length,zs8_length]; omega) (set_zero (x:=128) (by rw [hdn]; omega) (by omega)) ?_)))))
  refine (N9 (X9 ?_))
  refine Q9 (Q9 (R9 (M9 rfl rfl (N9 (X9 ?_)))))
  refine W_block ?_
  refine Wt9 (P':=blk g T (bs (d++[128]++tailB n (N - n - 1) 0)++rest)) 150 rfl (fun h hp=>by rw [tailB_zero]; exact hp) ?_
  refine W_loop (α:=Nat) (fun x=>[(4,.pointer (some ⟨g101,0,none⟩)),(5,.int .i64 (n:Int)),(7,.slice (some ⟨g,0,none⟩) N cap),(46,.int .i64 (x:Int))]) (fun x=>[(0,F),(101,blk g101 29 (bs zeroId)),(150,blk g T (bs (d++[128]++tailB n (N - n - 1) x)++rest))]) (fun x=>x≤8) (fun x=>8 - x) (0) (by omega) (a9 rfl) (a9 rfl) (fun x hx=>?_)
  have htl:=tailB_length (n:=n) (zc:=N - n - 1) hx (by omega)
  refine Q9 (R9 (L9 rfl (Pn9 rfl rfl rfl (run_lss _ _ _ _ _ _)) (N9 (X9 (Q9 ?_)))))
  refine C9 rfl (fun hc47=>?_) (fun hc47=>?_)
  ·
   have hlt:x < 8:=by have:=of_decide_eq_true hc47; omega
   refine K9 (X9 ?_)
   refine Q9 ?_
   refine W_block ?_
   refine Q9 (R9 (M9 rfl rfl (G9 rfl rfl (N9 (X9 (R9 (M9 rfl rfl (M9 rfl rfl (L9 rfl (Pu_lenK rfl Tryz.runUnderlying36 rfl) (L9 rfl (Pn9 rfl rfl rfl (run_sub _ _ _ _ _ (by omega))) (M9 rfl rfl (L9 rfl (Pn9 rfl rfl rfl (run_sub _ _ _ _ _ (by omega))) (M9 rfl rfl (L9 rfl (Pu_conv rfl rfl (conv_u64 n Tryz.runUnderlying3 Tryz.runUnderlying109 (by omega))) (L9 rfl (Pn9 rfl rfl rfl (run_mulU n 8 _ _ _ (by omega))) (M9 rfl rfl (L9 rfl (Pn9 rfl rfl rfl (run_mul _ _ _ _ _ (by omega))) ?_)))))))))))))))))
   rw [show (8 * (x:Int))=((8 * x:Nat):Int) by omega]
   refine (L9 rfl (Pn9 rfl rfl rfl (run_shrU (n * 8) (8 * x) _ _ _ (by omega))) (L9 rfl (Pu_conv rfl rfl (conv_byte _ _ Tryz.runUnderlying109 Tryz.runUnderlying5)) (L9 rfl (Pu_idxK (r:=150) rfl Tryz.runUnderlying36 Tryz.sizeOf5 rfl rfl rfl (by rw [List.length_append,bs_length,List.length_append,List.length_append,htl,hdn]; simp; omega) (by omega) (by omega)) (Lc09 rfl rfl (OpT_storeB1 (r:=150) rfl Tryz.sizeOf5 rfl rfl rfl rfl (by rw [List.length_append,bs_length,List.length_append,List.length_append,htl,hdn]; simp; omega) (tailB_step hlt (by omega) (by rw [List.length_append,hdn]; simp; omega)) ?_)))))
   refine (N9 (X_block (X9 ?_)))
   refine R9 (L9 rfl (Pn9 rfl rfl rfl (run_add _ _ _ _ _ (by omega))) (M9 rfl rfl (N9 ?_)))
   exact Xr9 (x + 1) (by omega) (by omega) (a9 rfl) (a9 rfl)
  ·
   obtain rfl:x=8:=by have:=of_decide_eq_false hc47; omega
   rw [hpad]
   refine W_exit (X_then_exit (X_then_exit (X_block_exit (X9 ?_))))
   refine Q9 (R9 (Lc9 rfl rfl (by decide) (Oc9 200 [0,101,150] [] rfl Tryz.call144 rfl rfl rfl (by decide) (by decide) (begin_spec _) (fun v64 Ps64 hR64=>?_))))
   obtain ⟨rfl,rfl⟩:=hR64
   refine (Lc9 rfl rfl (by decide) (OpT_alloc (r:=201) (cs:=(ws [0,0,0,0,0,0,0,0])) rfl (zero_run (by kernel_rfl:(Tryz.prog.info? 108).bind (·.zero)=some (.agg (ws [0,0,0,0,0,0,0,0]).toArray))) rfl (fun g201=>(Lc09 rfl rfl (OpT_storeAll (r:=201) rfl Tryz.sizeOf108 rfl rfl rfl rfl rfl (ws_one _) ?_)))))
   refine (N9 (X9 ?_))
   refine Q9 (Q9 (R9 (G9 rfl rfl (N9 (X9 ?_)))))
   refine W_block ?_
   refine W_loop (α:=Nat) (fun x=>[(4,.pointer (some ⟨g101,0,none⟩)),(7,.slice (some ⟨g,0,none⟩) N cap),(10,.pointer (some ⟨g201,0,none⟩)),(11,.int .i64 ((64 * x:Nat):Int))]) (fun x=>[(0,F),(101,blk g101 29 (bs zeroId)),(150,blk g T (bs (padB d)++rest)),(201,blk g201 108 (ws (mixes (padB d) (S8.of HS) x).list))]) (fun x=>64 * x≤N) (fun x=>N - 64 * x) (0) (by omega) (a9 rfl) (a9 rfl) (fun x hx=>?_)
   refine Q9 (Q9 (R9 (M9 rfl rfl (M9 rfl rfl (L9 rfl (Pu_lenK rfl Tryz.runUnderlying36 rfl) (L9 rfl (Pn9 rfl rfl rfl (run_lss _ _ _ _ _ _)) (N9 (X9 ?_))))))))
   refine C9 rfl (fun hc68=>?_) (fun hc68=>?_)
   ·
    have hlt:64 * x + 64≤N:=by have:=of_decide_eq_true hc68; omega
    obtain ⟨hp1,hp2⟩:=piece (d:=padB d) (p:=64 * x) (s:=mixes (padB d) (S8.of HS) x) (by omega)
    refine K9 (X9 ?_)
    refine Q9 ?_
    refine W_block ?_
    refine W_draw (N:=8) (by kernel_rfl) rfl [(0,_),(101,_),(150,_)] ⟨rfl,rfl,rfl,trivial⟩ ?_
    refine (T9 1 rfl rfl (Pm9 rfl rfl) (T9 2 rfl rfl (Pm9 rfl rfl) (T9 3 rfl rfl (Pm9 rfl rfl) (T9 4 rfl rfl (Pn9 rfl rfl rfl (run_add _ _ _ _ _ (by omega))) (T9 5 rfl rfl (Pu_sliceK (a:=64 * x) (b:=64 * x + 64) rfl Tryz.runUnderlying36 Tryz.sizeOf5 rfl (.inr ⟨_,_,_,rfl,rfl,rfl⟩) (.inr ⟨_,_,_,rfl,rfl,(by omega)⟩) (by omega) (by omega) (by omega)) (Y9 [0] ?_))))))
    refine Z9 rfl rfl (Or9 (Px9 (r:=201) rfl Tryz.isAgg108 Tryz.sizeOf108 rfl rfl rfl (load_all rfl)) ⟨⟨rfl,rfl,rfl,trivial⟩,?_⟩) ?_
    ·
     refine (Y9 [6] ?_)
     refine Z9 rfl rfl (Oc9 300 [0,101,150,201] [] rfl Tryz.call145 rfl rfl rfl (by decide) (by decide) (mix_spec (mixes (padB d) (S8.of HS) x) _ (((padB d).drop (64 * x)).take 64) hp2 _ (rs9 2 rfl (fun h hp=>piece_rd hp (by omega) (by omega)))) (fun v77 Ps77 hR77=>?_)) ?_
     ·
      obtain ⟨rfl,rfl⟩:=hR77
      refine ⟨⟨rfl,rfl,rfl,trivial⟩,?_⟩
      rw [hp1]
      refine (Y9 [7] ?_)
      refine Ac09 rfl rfl rfl (OpT_storeAll (r:=201) rfl Tryz.sizeOf108 rfl rfl rfl rfl rfl (ws_one _) ?_) ?_
      ·
       refine ⟨⟨rfl,rfl,rfl,trivial⟩,?_⟩
       refine (Ad9 (by kernel_rfl) (X_block (X9 ?_)))
       refine R9 (M9 rfl rfl (L9 rfl (Pn9 rfl rfl rfl (run_add _ _ _ _ _ (by omega))) (G9 rfl rfl (N9 ?_))))
       exact Xr9 (x + 1) (by omega) (by omega) ⟨rfl,rfl,rfl,lookV_eq rfl (int_eq (by omega)),trivial⟩ ⟨rfl,rfl,rfl,rfl,trivial⟩
      exact An9
     exact An9
    exact An9
   ·
    have hxe:x=(padB d).length / 64:=by have:=of_decide_eq_false hc68; omega
    obtain ⟨S,hS⟩:∃ S,mixes (padB d) (S8.of HS) x=S:=⟨_,rfl⟩
    rw [hS]
    have hsha:sha d=outB S:=by unfold sha; rw [← hxe,hS]
    refine W_exit (X_then_exit (X_then_exit (X_block_exit (X9 ?_))))
    refine Q9 (R9 (Lc9 rfl rfl (by decide) (OpT_alloc (r:=202) (cs:=(bs zeroId)) rfl (zero_run (by kernel_rfl:(Tryz.prog.info? 29).bind (·.zero)=some (.agg (bs zeroId).toArray))) rfl (fun g202=>(N9 (X9 (Q9 (Q9 (R9 (L9 rfl (Px9 (r:=201) rfl Tryz.isAgg108 Tryz.sizeOf108 rfl rfl rfl (load_all rfl)) (M9 rfl rfl (N9 (X9 ?_)))))))))))))
    refine W_block ?_
    refine W_loop (α:=Nat) (fun x=>[(4,.pointer (some ⟨g101,0,none⟩)),(12,.pointer (some ⟨g202,0,none⟩)),(78,.agg (ws S.list).toArray),(79,.int .i64 (x:Int))]) (fun x=>[(0,F),(101,blk g101 29 (bs zeroId)),(202,blk g202 29 (bs (outZ S (4 * x))))]) (fun x=>x≤8) (fun x=>8 - x) (0) (by omega) (a9 rfl) (a9 rfl) (fun x hx=>?_)
    refine Q9 (R9 (L9 rfl (Pn9 rfl rfl rfl (run_lss _ _ _ _ _ _)) (N9 (X9 (Q9 ?_)))))
    refine C9 rfl (fun hc80=>?_) (fun hc80=>?_)
    ·
     have hlx:x < 8:=by have:=of_decide_eq_true hc80; omega
     refine K9 (X9 ?_)
     refine Q9 ?_
     refine W_block ?_
     refine Q9 (R9 (M9 rfl rfl (L9 rfl (Pu_index rfl Tryz.runUnderlying108 Tryz.sizeOf105 Tryz.isAgg105 rfl rfl (by omega) (ws_atI (k:=x) (by omega) (by rw [S8.list_length]; omega))) (G9 rfl rfl (G9 rfl rfl (N9 (X9 (Q9 (R9 (M9 rfl rfl (N9 (X9 ?_))))))))))))
     refine W_block ?_
     refine W_loop (α:=Nat) (fun y=>[(4,.pointer (some ⟨g101,0,none⟩)),(12,.pointer (some ⟨g202,0,none⟩)),(13,.int .i64 (x:Int)),(14,wv (S.list.getD x 0)),(78,.agg (ws S.list).toArray),(79,.int .i64 (x:Int)),(83,.int .i64 (y:Int))]) (fun y=>[(0,F),(101,blk g101 29 (bs zeroId)),(202,blk g202 29 (bs (outZ S (4 * x + y))))]) (fun y=>y≤4) (fun y=>4 - y) (0) (by omega) (a9 rfl) (a9 rfl) (fun y hy=>?_)
     have hzl:=outZ_length (s:=S) (q:=4 * x + y) (by omega)
     refine Q9 (R9 (L9 rfl (Pn9 rfl rfl rfl (run_lss _ _ _ _ _ _)) (N9 (X9 (Q9 ?_)))))
     refine C9 rfl (fun hc84=>?_) (fun hc84=>?_)
     ·
      have hly:y < 4:=by have:=of_decide_eq_true hc84; omega
      refine K9 (X9 ?_)
      refine Q9 ?_
      refine W_block ?_
      refine Q9 (R9 (M9 rfl rfl (G9 rfl rfl (N9 (X9 (R9 (M9 rfl rfl (L9 rfl (Pn9 rfl rfl rfl (run_mul _ _ _ _ _ (by omega))) (M9 rfl rfl (L9 rfl (Pn9 rfl rfl rfl (run_add _ _ _ _ _ (by omega))) (M9 rfl rfl (M9 rfl rfl (L9 rfl (Pn9 rfl rfl rfl (run_mul _ _ _ _ _ (by omega))) (L9 rfl (Pn9 rfl rfl rfl (run_sub _ _ _ _ _ (by omega))) ?_))))))))))))))
      rw [show 24 - 8 * (y:Int)=((24 - 8 * y:Nat):Int) by omega]
      refine (L9 rfl (Pn9 rfl rfl rfl (run_shrW _ (24 - 8 * y) (by omega) _ _ _)) (L9 rfl (Pu_conv rfl rfl (conv_byteW _ Tryz.runUnderlying105 Tryz.runUnderlying5)) (L9 rfl (Pu_idxA rfl Tryz.runUnderlying29 Tryz.sizeOf5 rfl rfl (by omega)) (Lc09 rfl rfl (OpT_storeB1 (r:=202) rfl Tryz.sizeOf5 rfl rfl rfl rfl (by rw [bs_length,hzl]; omega) (outZ_set hlx hly (by omega)) ?_)))))
      refine (N9 (X_block (X9 ?_)))
      refine R9 (L9 rfl (Pn9 rfl rfl rfl (run_add _ _ _ _ _ (by omega))) (M9 rfl rfl (N9 ?_)))
      exact Xr9 (y + 1) (by omega) (by omega) (a9 rfl) (a9 rfl)
     ·
      obtain rfl:y=4:=by have:=of_decide_eq_false hc84; omega
      refine W_exit (X_then_exit (X_then_exit (X_block_exit (X_block (X9 ?_)))))
      refine R9 (L9 rfl (Pn9 rfl rfl rfl (run_add _ _ _ _ _ (by omega))) (M9 rfl rfl (N9 ?_)))
      exact Xr9 (x + 1) (by omega) (by omega) ⟨rfl,rfl,rfl,rfl,trivial⟩ ⟨rfl,rfl,look_eq rfl (by rw [show 4 * (x + 1)=4 * x + 4 by omega]),trivial⟩
    ·
     obtain rfl:x=8:=by have:=of_decide_eq_false hc80; omega
     rw [show 4 * 8=32 from rfl,outZ_full]
     refine W_exit (X_then_exit (X_then_exit (X_block_exit (X9 ?_))))
     refine Q9 (R9 (L9 rfl (Px9 (r:=202) rfl Tryz.isAgg29 Tryz.sizeOf29 rfl rfl rfl (load_all rfl)) (Lc09 rfl rfl (OpT_storeAll (r:=101) rfl Tryz.sizeOf29 rfl rfl rfl rfl rfl (bs_one _) ?_))))
     refine (N9 (X9 ?_))
     refine W_ret ?_
     exact Xq9 [] (Ps:=[]) (resC1 (r:=101) Tryz.results109 rfl Tryz.isAgg29 Tryz.sizeOf29 rfl rfl) rfl (by decide) ⟨by rw [hd,hsha]; rfl,rfl⟩
theorem sum_spec (va:Value) (a:List UInt8) (hla:a.length≤1000000000) (F:HP) (hFa:∀ h,F h→rdB va a h):CallsS Tryz.prog 72 #[va] F [] (fun r Ps=>r=idV (sha a)∧Ps=[]):=by
 refine callsS_enter Tryz.func72 rfl Tryz.ntmps72 (by simp) (fun E=>?_)
 refine Q9 (R9 (Lc9 rfl rfl (by decide) (OpT_alloc (r:=101) (cs:=(bs zeroId)) rfl (zero_run (by kernel_rfl:(Tryz.prog.info? 29).bind (·.zero)=some (.agg (bs zeroId).toArray))) rfl (fun g101=>(N9 (X9 (Q9 (R9 (M9 rfl rfl (Lc9 rfl rfl (by decide) (Oc9 200 [0,101] [] rfl Tryz.call109 rfl rfl rfl (by decide) (by decide) (pair_spec va (.slice none 0 0) a [] hla (by simp) _ (rs9 0 rfl hFa) (fun h _=>rd_const 0 1 h)) (fun v4 Ps4 hR4=>?_))))))))))))
 obtain ⟨rfl,rfl⟩:=hR4
 rw [List.append_nil]
 refine (Lc09 rfl rfl (OpT_storeAll (r:=101) rfl Tryz.sizeOf29 rfl rfl rfl rfl ((bs_length _).trans (sha_length a)) (bs_one _) ?_))
 refine (N9 (X9 ?_))
 refine W_ret ?_
 exact Xq9 [] (Ps:=[]) (resC1 (r:=101) Tryz.results72 rfl Tryz.isAgg29 Tryz.sizeOf29 rfl ((bs_length _).trans (sha_length a))) rfl (by decide) ⟨rfl,rfl⟩
open Go.RowKit
def schW (w:List UInt32) (b:List UInt8) (p t:Nat):List UInt32:=sch b p t++w.drop t
section
variable {w:List UInt32} {b:List UInt8} {p t:Nat}
theorem schW_length (hw:w.length=64) (h:t≤64):(schW w b p t).length=64:=by unfold schW; rw [List.length_append,sch_length,List.length_drop]; omega
theorem schW_full (hw:w.length=64):schW w b p 64=sch b p 64:=by unfold schW; rw [List.drop_of_length_le (by omega),List.append_nil]
theorem schW_get {k:Nat} (h:k < t):(schW w b p t).getD k 0=(sch b p t).getD k 0:=by
  unfold schW
  rw [List.getD_eq_getElem?_getD,List.getD_eq_getElem?_getD,List.getElem?_append_left (by rw [sch_length]; exact h)]
theorem schW_set {z:Int} {x:UInt32} (hw:w.length=64) (hz:z.toNat=t) (ht:t < 64) (hx:x=if t < 16 then word b (p + 4 * t) else nextW (sch b p t) t):(schW w b p t).set (0 + z.toNat) x=schW w b p (t + 1):=by
  rw [hz,Nat.zero_add]
  have hs:sch b p (t + 1)=sch b p t++[x]:=by rw [hx]; rfl
  unfold schW
  rw [hs,List.set_append_right _ _ (by rw [sch_length]; omega),sch_length,Nat.sub_self,List.drop_eq_getElem_cons (by omega),List.set_cons_zero,List.append_assoc]
  rfl
theorem schW_next (h1:16≤t):sm1 ((schW w b p t).getD (t - 2) 0) + (schW w b p t).getD (t - 7) 0 + sm0 ((schW w b p t).getD (t - 15) 0) + (schW w b p t).getD (t - 16) 0=if t < 16 then word b (p + 4 * t) else nextW (sch b p t) t:=by
  rw [if_neg (by omega),schW_get (by omega),schW_get (by omega),schW_get (by omega),schW_get (by omega)]
  rfl
end
def addK (s a:List UInt32) (i:Nat):List UInt32:=(List.zipWith (· + ·) s a).take i++s.drop i
theorem addK_length {s a:List UInt32} {i:Nat} (hs:s.length=8) (ha:a.length=8) (hi:i≤8):(addK s a i).length=8:=by
  unfold addK
  rw [List.length_append,List.length_take,List.length_zipWith,List.length_drop]
  omega
theorem addK_get {s a:List UInt32} {i:Nat} (hs:s.length=8) (ha:a.length=8) (hi:i < 8):(addK s a i).getD i 0=s.getD i 0:=by
  unfold addK
  have hl:((List.zipWith (· + ·) s a).take i).length=i:=by rw [List.length_take,List.length_zipWith]; omega
  rw [List.getD_eq_getElem?_getD,List.getD_eq_getElem?_getD,List.getElem?_append_right (by omega),hl,Nat.sub_self,List.getElem?_drop]
  rfl
theorem addK_set {s a:List UInt32} {i:Nat} {z:Int} (hs:s.length=8) (ha:a.length=8) (hz:z.toNat=i) (hi:i < 8):(addK s a i).set (0 + z.toNat) ((addK s a i).getD i 0 + a.getD i 0)=addK s a (i + 1):=by
  rw [addK_get hs ha hi,hz,Nat.zero_add]
  have hl:((List.zipWith (· + ·) s a).take i).length=i:=by rw [List.length_take,List.length_zipWith]; omega
  have hz2:i < (List.zipWith (· + ·) s a).length:=by rw [List.length_zipWith]; omega
  unfold addK
  rw [List.set_append_right _ _ (by omega),hl,Nat.sub_self,List.drop_eq_getElem_cons (by omega),List.set_cons_zero,List.take_succ_eq_append_getElem hz2,List.append_assoc]
  congr 1
  rw [List.getElem_zipWith,List.getD_eq_getElem?_getD,List.getD_eq_getElem?_getD,List.getElem?_eq_getElem (by omega),List.getElem?_eq_getElem (by omega)]
  rfl
theorem addK_full (s a:S8):addK s.list a.list 8=(addS s a).list:=rfl
theorem padZ_stop (n:Nat):(n + 1 + padZ n) % 64=56:=by unfold padZ; omega
theorem padZ_goes {n x:Nat} (h:x < padZ n):(n + 1 + x) % 64≠56:=by unfold padZ at h; omega
theorem padZ_last {n x:Nat} (h:x≤padZ n) (he:(n + 1 + x) % 64=56):x=padZ n:=by
  rcases Nat.lt_or_ge x (padZ n) with h1 | h1
  · exact absurd he (padZ_goes h1)
  · omega
theorem lenB_next {n j:Nat} (hj:j < 8):(lenB n).take (j + 1)=(lenB n).take j++[lenAt n j]:=by
  have hl:j < (lenB n).length:=by rw [lenB_length]; exact hj
  rw [List.take_succ_eq_append_getElem hl]
  have:=lenB_at (n:=n) hj
  rw [List.getElem?_eq_getElem hl] at this
  injection this with this
  rw [this]
theorem outZ_set3 {s:S8} {i off:Nat} (hi:i < 8) (ho:off=4 * i + 3):(bs (outZ s (4 * i + 3))).set off (bv (s.list.getD i 0).toUInt8)=bs (outZ s (4 * i + 3 + 1)):=by
  have h:=outZ_set (s:=s) (i:=i) (k:=3) (off:=off) hi (by decide) ho
  have h0:(s.list.getD i 0) >>> UInt32.ofNat (24 - 8 * 3)=s.list.getD i 0:=by simp
  rw [h0] at h
  exact h
open Go.RowKit
set_option maxRecDepth 8000
theorem rowB_zero {t:TypeId} (v:Value) (d:List UInt8):rowP t 1 v (0 + d.length) (bs []++bs d)=rowB t v d:=by
  unfold rowB
  rw [Nat.zero_add]
  rfl
theorem rowB_app1 {t:TypeId} {v:Value} {d:List UInt8} {h:Hlt} (hp:rowP t 1 v (d.length + 1) (bs d++bs [128]) h):rowB t v (d++[128]++zs8 0) h:=by
  unfold rowB
  rw [show d++[128]++zs8 0=d++[128] from List.append_nil _,List.length_append]
  simpa [bs] using hp
theorem rowB_app0 {t:TypeId} {v:Value} {d:List UInt8} {k:Nat} {h:Hlt} (hp:rowP t 1 v ((d++zs8 k).length + 1) (bs (d++zs8 k)++bs [0]) h):rowB t v (d++zs8 (k + 1)) h:=by
  have e:d++zs8 (k + 1)=(d++zs8 k)++[0]:=by unfold zs8; rw [List.replicate_succ',List.append_assoc]
  unfold rowB
  rw [e,show ((d++zs8 k)++[(0:UInt8)]).length=(d++zs8 k).length + 1 from List.length_append,bs_app]
  exact hp
theorem rowB_appL {t:TypeId} {v:Value} {d m:List UInt8} {x:UInt8} {h:Hlt} (hp:rowP t 1 v ((d++m).length + 1) (bs (d++m)++bs [x]) h):rowB t v (d++(m++[x])) h:=by
  unfold rowB
  rw [← List.append_assoc,show ((d++m)++[x]).length=(d++m).length + 1 from List.length_append,bs_app]
  exact hp
theorem rot_spec (x:UInt32) (r:Nat) (hr:0 < r∧r < 32) (F:HP):CallsS Tryz.prog 49 #[wv x,.int .u64 (r:Int)] F [] (fun v Ps=>v=wv (rotr x r)∧Ps=[]):=by
 refine callsS_enter Tryz.func49 rfl Tryz.ntmps49 (by simp) (fun E=>?_)
 refine Q9 (R9 (G9 rfl rfl (N9 (X9 (Q9 (R9 (M9 rfl rfl (M9 rfl rfl (L9 rfl (Pn9 rfl rfl rfl (run_shrW _ (r) hr.2 _ _ _)) (M9 rfl rfl (M9 rfl rfl (L9 rfl (Pn9 rfl rfl rfl (run_subU 32 r _ _ _ (by omega))) (L9 rfl (Pn9 rfl rfl rfl (run_shlW _ (32 - r) (by omega) _ _ _)) (L9 rfl (Pn9 rfl rfl rfl (run_orW _ _ _ _ _)) (G9 rfl rfl (N9 (X9 ?_)))))))))))))))))
 refine W_ret ?_
 exact Xq9 [] (Ps:=[]) (res1 Tryz.results49 rfl) rfl (by decide) ⟨rfl,rfl⟩
set_option maxHeartbeats 4000000 in
theorem refSum_spec (vd:Value) (d:List UInt8) (hld:d.length≤1000000000) (F:HP) (hF:∀ h,F h→rdB vd d h):CallsS Tryz.prog 26 #[vd] F [] (fun r Ps=>r=idV (sha d)∧Ps=[]):=by
 refine callsS_enter Tryz.func26 rfl Tryz.ntmps26 (by simp) (fun E=>?_)
 refine Q9 (R9 (Lc9 rfl rfl (by decide) (OpT_alloc (r:=101) (cs:=(bs zeroId)) rfl (zero_run (by kernel_rfl:(Tryz.prog.info? 29).bind (·.zero)=some (.agg (bs zeroId).toArray))) rfl (fun g101=>(N9 (X9 (Q9 (R9 (Lc9 rfl rfl (by decide) (Oc9 200 [0,101] [] rfl Tryz.call48 rfl rfl rfl (by decide) (by decide) (words_spec _) (fun v23 Ps23 hR23=>?_)))))))))))
 obtain ⟨rfl,rfl⟩:=hR23
 refine (Lc9 rfl rfl (by decide) (OpT_alloc (r:=201) (cs:=(ws (List.replicate 64 0))) rfl (zero_run (by kernel_rfl:(Tryz.prog.info? 106).bind (·.zero)=some (.agg (ws (List.replicate 64 0)).toArray))) rfl (fun g201=>(Lc09 rfl rfl (OpT_storeAll (r:=201) rfl Tryz.sizeOf106 rfl rfl rfl rfl rfl (ws_one _) ?_)))))
 refine (N9 (X9 ?_))
 refine Q9 (R9 (L9 rfl (Pu_built (cells:=ws HS) rfl rfl (by kernel_rfl)) (Lc9 rfl rfl (by decide) (OpT_alloc (r:=202) (cs:=(ws [0,0,0,0,0,0,0,0])) rfl (zero_run (by kernel_rfl:(Tryz.prog.info? 108).bind (·.zero)=some (.agg (ws [0,0,0,0,0,0,0,0]).toArray))) rfl (fun g202=>(Lc09 rfl rfl (OpT_storeAll (r:=202) rfl Tryz.sizeOf108 rfl rfl rfl rfl rfl (ws_one _) ?_)))))))
 refine (N9 (X9 ?_))
 refine Q9 (R9 (Lc9 rfl rfl (by decide) (OpT_buildOnes (r:=203) (bs []) rfl rfl Tryz.runUnderlying36 Tryz.sizeOf5 Tryz.zeroValue5 rfl rfl (by decide) rfl (bs_cells _) (fun v25=>(M9 rfl rfl (Lc9 rfl rfl (by decide) (Oa9 (r:=203) (r2:=0) rfl Tryz.underlying36 TI.hi5 TI.hz5 TI.hs5 TI.hby5 TI.hzs5 (by decide) rfl rfl rfl rfl hF (bs_one _) (by unfold maxLen; omega) (by omega) (fun v27=>?_))))))))
 skip
 refine (G9 rfl rfl (N9 (X9 ?_)))
 refine Q9 ?_
 refine Wt9 (P':=rowB 5 v27 d) 203 rfl (fun h hp=>(congrFun (rowB_zero _ _) h).mp hp) ?_
 refine R9 (M9 rfl rfl (Lc9 rfl rfl (by decide) (OpT_buildOnes (r:=204) (bs [128]) rfl rfl Tryz.runUnderlying36 Tryz.sizeOf5 Tryz.zeroValue5 rfl rfl (by decide) rfl (bs_cells _) (fun v29=>(Lc9 rfl rfl (by decide) (Oa9 (r:=203) (r2:=204) rfl Tryz.underlying36 TI.hi5 TI.hz5 TI.hs5 TI.hby5 TI.hzs5 (by decide) rfl rfl rfl rfl (fun _ h=>rp9 h) (bs_one _) (by unfold maxLen; omega) (by omega) (fun v30=>?_)))))))
 refine (G9 rfl rfl (N9 (X9 ?_)))
 refine Q9 ?_
 refine W_block ?_
 refine Wt9 (P':=rowB 5 v30 (d++[128]++zs8 0)) 203 rfl (fun h hp=>rowB_app1 hp) ?_
 refine W_loop (α:=Value × Nat) (fun x=>[(0,vd),(2,.pointer (some ⟨g101,0,none⟩)),(3,.pointer (some ⟨g201,0,none⟩)),(4,.pointer (some ⟨g202,0,none⟩)),(5,x.1)]) (fun x=>[(0,F),(101,blk g101 29 (bs zeroId)),(201,blk g201 106 (ws KS)),(202,blk g202 108 (ws HS)),(203,rowB 5 x.1 (d++[128]++zs8 x.2))]) (fun x=>x.2≤padZ d.length) (fun x=>padZ d.length - x.2) ((v30,0)) (Nat.zero_le _) (a9 rfl) (a9 rfl) (fun x hx=>?_)
 have hzl:(d++[128]++zs8 x.2).length=d.length + 1 + x.2:=by simp [zs8_length]; omega
 have hpz:padZ d.length < 64:=by unfold padZ; omega
 refine Q9 (Q9 (R9 (M9 rfl rfl (L9 rfl (Pl9 (r:=203) rfl Tryz.runUnderlying36 rfl rfl (fun _ h=>rp9 h)) (L9 rfl (Pn9 rfl rfl rfl (run_rem _ _ _ _ _ (by omega))) (L9 rfl (Pn9 rfl rfl rfl (run_neq _ _ _ _ _ _)) (N9 (X9 ?_))))))))
 refine C9 rfl (fun hc34=>?_) (fun hc34=>?_)
 ·
  have hlt:x.2 < padZ d.length:=by
   have h1:¬ (d.length + 1 + x.2) % 64=56:=by rw [hzl] at hc34; intro e; simp at hc34; omega
   have:=padZ_stop d.length
   rcases Nat.lt_or_ge x.2 (padZ d.length) with h | h
   ·exact h
   ·exfalso; apply h1; rw [show x.2=padZ d.length by omega]; exact this
  refine K9 (X9 ?_)
  refine W_block ?_
  refine R9 (M9 rfl rfl (Lc9 rfl rfl (by decide) (OpT_buildOnes (r:=205) (bs [0]) rfl rfl Tryz.runUnderlying36 Tryz.sizeOf5 Tryz.zeroValue5 rfl rfl (by decide) rfl (bs_cells _) (fun v36=>(Lc9 rfl rfl (by decide) (Oa9 (r:=203) (r2:=205) rfl Tryz.underlying36 TI.hi5 TI.hz5 TI.hs5 TI.hby5 TI.hzs5 (by decide) rfl rfl rfl rfl (fun _ h=>rp9 h) (bs_one _) (by unfold maxLen; omega) (by omega) (fun v37=>?_)))))))
  refine (G9 rfl rfl (N9 (X_block ?_)))
  refine X_turn (P':=rowB 5 v37 (d++[128]++zs8 (x.2 + 1))) 203 rfl (fun h hp=>rowB_app0 hp) ?_
  exact Xr9 (v37,x.2 + 1) (by dsimp only; omega) (by show padZ d.length - (x.2 + 1) < padZ d.length - x.2; omega) (a9 rfl) (a9 rfl)
 ·
  have hxe:x.2=padZ d.length:=padZ_last hx (by rw [hzl] at hc34; simp at hc34; omega)
  rw [hxe] at hzl ⊢
  refine W_exit (X_then_exit (X_then_exit (X_block_exit (X9 ?_))))
  refine Q9 (R9 (M9 rfl rfl (L9 rfl (Pl9 (r:=0) rfl Tryz.runUnderlying36 rfl rfl hF) (L9 rfl (Pu_conv rfl rfl (conv_u64 d.length Tryz.runUnderlying3 Tryz.runUnderlying109 (by omega))) (L9 rfl (Pn9 rfl rfl rfl (run_mulU d.length 8 _ _ _ (by omega))) (G9 rfl rfl (N9 (X9 (Q9 (Q9 (R9 (G9 rfl rfl (N9 (X9 ?_))))))))))))))
  refine W_block ?_
  refine W_loop (α:=Value × Nat) (fun y=>[(0,vd),(2,.pointer (some ⟨g101,0,none⟩)),(3,.pointer (some ⟨g201,0,none⟩)),(4,.pointer (some ⟨g202,0,none⟩)),(5,y.1),(6,.int .u64 ((d.length * 8:Nat):Int)),(7,.int .i64 (7 - (y.2:Int)))]) (fun y=>[(0,F),(101,blk g101 29 (bs zeroId)),(201,blk g201 106 (ws KS)),(202,blk g202 108 (ws HS)),(203,rowB 5 y.1 (d++[128]++zs8 (padZ d.length)++(lenB d.length).take y.2))]) (fun y=>y.2≤8) (fun y=>8 - y.2) ((x.1,0)) (by dsimp only; omega) ⟨rfl,rfl,rfl,rfl,rfl,rfl,rfl,trivial⟩ ⟨rfl,rfl,rfl,rfl,look_eq rfl (by rw [List.take_zero,List.append_nil]),trivial⟩ (fun y hy=>?_)
  have hyl:(d++[128]++zs8 (padZ d.length)++(lenB d.length).take y.2).length=d.length + 1 + padZ d.length + y.2:=by rw [List.length_append,hzl,List.length_take,lenB_length]; omega
  refine Q9 (Q9 (R9 (M9 rfl rfl (L9 rfl (Pn9 rfl rfl rfl (run_geq _ _ _ _ _ _)) (N9 (X9 ?_))))))
  refine C9 rfl (fun hc43=>?_) (fun hc43=>?_)
  ·
   have hly:y.2 < 8:=by have:=of_decide_eq_true hc43; omega
   refine K9 (X9 ?_)
   refine Q9 ?_
   refine W_block ?_
   refine R9 (M9 rfl rfl (M9 rfl rfl (M9 rfl rfl ?_)))
   rw [show 7 - (y.2:Int)=((7 - y.2:Nat):Int) by omega]
   refine (L9 rfl (Pu_conv rfl rfl (conv_u64 (7 - y.2) Tryz.runUnderlying3 Tryz.runUnderlying110 (by omega))) (L9 rfl (Pn9 rfl rfl rfl (run_mulU 8 (7 - y.2) _ _ _ (by omega))) (L9 rfl (Pn9 rfl rfl rfl (run_shrU (d.length * 8) (8 * (7 - y.2)) _ _ _ (by omega))) (L9 rfl (Pu_conv rfl rfl (conv_byte _ _ Tryz.runUnderlying109 Tryz.runUnderlying5)) (Lc9 rfl rfl (by decide) (OpT_buildOnes (r:=205) (bs [lenAt d.length y.2]) rfl rfl Tryz.runUnderlying36 Tryz.sizeOf5 Tryz.zeroValue5 rfl rfl (by decide) rfl (bs_cells _) (fun v53=>(Lc9 rfl rfl (by decide) (Oa9 (r:=203) (r2:=205) rfl Tryz.underlying36 TI.hi5 TI.hz5 TI.hs5 TI.hby5 TI.hzs5 (by decide) rfl rfl rfl rfl (fun _ h=>rp9 h) (bs_one _) (by unfold maxLen; omega) (by omega) (fun v54=>?_))))))))))
   refine (G9 rfl rfl (N9 (X_block (X9 ?_))))
   refine R9 (M9 rfl rfl (L9 rfl (Pn9 rfl rfl rfl (run_sub _ _ _ _ _ (by omega))) (G9 rfl rfl (N9 ?_))))
   refine X_turn (P':=rowB 5 v54 (d++[128]++zs8 (padZ d.length)++(lenB d.length).take (y.2 + 1))) 203 rfl (fun h hp=>by rw [lenB_next hly]; exact rowB_appL hp) ?_
   exact Xr9 (v54,y.2 + 1) (by dsimp only; omega) (by show 8 - (y.2 + 1) < 8 - y.2; omega) ⟨rfl,rfl,rfl,rfl,rfl,rfl,lookV_eq rfl (int_eq (by dsimp only; omega)),trivial⟩ ⟨rfl,rfl,rfl,rfl,rfl,trivial⟩
  ·
   have hye:y.2=8:=by have:=of_decide_eq_false hc43; omega
   have hpe:d++[128]++zs8 (padZ d.length)++(lenB d.length).take 8=padB d:=by rw [List.take_of_length_le (by rw [lenB_length]; exact Nat.le_refl _)]; rfl
   have hpl:=padB_length d
   rw [hye,hpe]
   refine W_exit (X_then_exit (X_then_exit (X_block_exit (X9 ?_))))
   refine Q9 (R9 (Lc9 rfl rfl (by decide) (OpT_alloc (r:=205) (cs:=(ws (List.replicate 64 0))) rfl (zero_run (by kernel_rfl:(Tryz.prog.info? 106).bind (·.zero)=some (.agg (ws (List.replicate 64 0)).toArray))) rfl (fun g205=>(N9 (X9 (Q9 (Q9 (R9 (G9 rfl rfl (N9 (X9 ?_))))))))))))
   refine W_block ?_
   refine W_loop (α:=Nat × List UInt32) (fun p=>[(2,.pointer (some ⟨g101,0,none⟩)),(3,.pointer (some ⟨g201,0,none⟩)),(4,.pointer (some ⟨g202,0,none⟩)),(5,y.1),(8,.pointer (some ⟨g205,0,none⟩)),(9,.int .i64 ((64 * p.1:Nat):Int))]) (fun p=>[(0,F),(101,blk g101 29 (bs zeroId)),(201,blk g201 106 (ws KS)),(202,blk g202 108 (ws (mixes (padB d) (S8.of HS) p.1).list)),(203,rowB 5 y.1 (padB d)),(205,blk g205 106 (ws p.2))]) (fun p=>64 * p.1≤(padB d).length∧p.2.length=64) (fun p=>(padB d).length - 64 * p.1) ((0,List.replicate 64 0)) ⟨by dsimp only; omega,rfl⟩ (a9 rfl) (a9 rfl) (fun p hp=>?_)
   obtain ⟨hp1,hp2⟩:=hp
   refine Q9 (Q9 (R9 (M9 rfl rfl (M9 rfl rfl (L9 rfl (Pl9 (r:=203) rfl Tryz.runUnderlying36 rfl rfl (fun _ h=>rp9 h)) (L9 rfl (Pn9 rfl rfl rfl (run_lss _ _ _ _ _ _)) (N9 (X9 ?_))))))))
   refine C9 rfl (fun hc58=>?_) (fun hc58=>?_)
   ·
    have hlp:64 * p.1 + 64≤(padB d).length:=by have:=of_decide_eq_true hc58; omega
    obtain ⟨s,hs⟩:∃ s,(mixes (padB d) (S8.of HS) p.1)=s:=⟨_,rfl⟩
    rw [hs]
    refine K9 (X9 ?_)
    refine Q9 ?_
    refine W_block ?_
    refine Q9 (Q9 (R9 (G9 rfl rfl (N9 (X9 ?_)))))
    refine W_block ?_
    refine W_loop (α:=Nat) (fun x=>[(2,.pointer (some ⟨g101,0,none⟩)),(3,.pointer (some ⟨g201,0,none⟩)),(4,.pointer (some ⟨g202,0,none⟩)),(5,y.1),(8,.pointer (some ⟨g205,0,none⟩)),(9,.int .i64 ((64 * p.1:Nat):Int)),(10,.int .i64 (x:Int))]) (fun x=>[(0,F),(101,blk g101 29 (bs zeroId)),(201,blk g201 106 (ws KS)),(202,blk g202 108 (ws s.list)),(203,rowB 5 y.1 (padB d)),(205,blk g205 106 (ws (schW p.2 (padB d) (64 * p.1) x)))]) (fun x=>x≤16) (fun x=>16 - x) (0) (by omega) (a9 rfl) (a9 rfl) (fun x hx=>?_)
    have hzl:=schW_length (b:=padB d) (p:=64 * p.1) (t:=x) hp2 (by omega)
    refine Q9 (Q9 (R9 (M9 rfl rfl (L9 rfl (Pn9 rfl rfl rfl (run_lss _ _ _ _ _ _)) (N9 (X9 ?_))))))
    refine C9 rfl (fun hc62=>?_) (fun hc62=>?_)
    ·
     have hlt:x < 16:=by have:=of_decide_eq_true hc62; omega
     refine K9 (X9 ?_)
     refine Q9 ?_
     refine W_block ?_
     refine Q9 (R9 (M9 rfl rfl (M9 rfl rfl (L9 rfl (Pn9 rfl rfl rfl (run_mul _ _ _ _ _ (by omega))) (L9 rfl (Pn9 rfl rfl rfl (run_add _ _ _ _ _ (by omega))) (G9 rfl rfl (N9 (X9 ?_))))))))
     refine W_draw (N:=32) (by kernel_rfl) rfl [(0,_),(101,_),(201,_),(202,_),(203,_)] ⟨rfl,rfl,rfl,rfl,rfl,trivial⟩ ?_
     refine (T9 0 rfl rfl (Pm9 rfl rfl) (T9 1 rfl rfl (Pm9 rfl rfl) (T9 2 rfl rfl (Pm9 rfl rfl) (T9 3 rfl rfl (Pu_idxS1 (r:=203) rfl Tryz.runUnderlying36 Tryz.sizeOf5 rfl rfl rfl (fun _ h=>rp9 h) (by omega)) (T9 4 rfl rfl (Py9 (r:=203) rfl Tryz.isAgg5 rfl rfl (fun _ h=>rp9 h) (bs_atZ0 (k:=64 * p.1 + 4 * x) (by omega) (by omega))) (T9 5 rfl rfl (Pu_conv rfl rfl (conv_u8W _ Tryz.runUnderlying5 Tryz.runUnderlying105)) (T9 6 rfl rfl (Pn9 rfl rfl rfl (run_shlW _ (24) (by decide) _ _ _)) (T9 7 rfl rfl (Pm9 rfl rfl) (T9 8 rfl rfl (Pm9 rfl rfl) (T9 9 rfl rfl (Pn9 rfl rfl rfl (run_add _ _ _ _ _ (by omega))) (T9 10 rfl rfl (Pu_idxS1 (r:=203) rfl Tryz.runUnderlying36 Tryz.sizeOf5 rfl rfl rfl (fun _ h=>rp9 h) (by omega)) (T9 11 rfl rfl (Py9 (r:=203) rfl Tryz.isAgg5 rfl rfl (fun _ h=>rp9 h) (bs_atZ0 (k:=64 * p.1 + 4 * x + 1) (by omega) (by omega))) (T9 12 rfl rfl (Pu_conv rfl rfl (conv_u8W _ Tryz.runUnderlying5 Tryz.runUnderlying105)) (T9 13 rfl rfl (Pn9 rfl rfl rfl (run_shlW _ (16) (by decide) _ _ _)) (T9 14 rfl rfl (Pn9 rfl rfl rfl (run_orW _ _ _ _ _)) (T9 15 rfl rfl (Pm9 rfl rfl) (T9 16 rfl rfl (Pm9 rfl rfl) (T9 17 rfl rfl (Pn9 rfl rfl rfl (run_add _ _ _ _ _ (by omega))) (T9 18 rfl rfl (Pu_idxS1 (r:=203) rfl Tryz.runUnderlying36 Tryz.sizeOf5 rfl rfl rfl (fun _ h=>rp9 h) (by omega)) (T9 19 rfl rfl (Py9 (r:=203) rfl Tryz.isAgg5 rfl rfl (fun _ h=>rp9 h) (bs_atZ0 (k:=64 * p.1 + 4 * x + 2) (by omega) (by omega))) (T9 20 rfl rfl (Pu_conv rfl rfl (conv_u8W _ Tryz.runUnderlying5 Tryz.runUnderlying105)) (T9 21 rfl rfl (Pn9 rfl rfl rfl (run_shlW _ (8) (by decide) _ _ _)) (T9 22 rfl rfl (Pn9 rfl rfl rfl (run_orW _ _ _ _ _)) (T9 23 rfl rfl (Pm9 rfl rfl) (T9 24 rfl rfl (Pm9 rfl rfl) (T9 25 rfl rfl (Pn9 rfl rfl rfl (run_add _ _ _ _ _ (by omega))) (T9 26 rfl rfl (Pu_idxS1 (r:=203) rfl Tryz.runUnderlying36 Tryz.sizeOf5 rfl rfl rfl (fun _ h=>rp9 h) (by omega)) (T9 27 rfl rfl (Py9 (r:=203) rfl Tryz.isAgg5 rfl rfl (fun _ h=>rp9 h) (bs_atZ0 (k:=64 * p.1 + 4 * x + 3) (by omega) (by omega))) (T9 28 rfl rfl (Pu_conv rfl rfl (conv_u8W _ Tryz.runUnderlying5 Tryz.runUnderlying105)) (T9 29 rfl rfl (Pn9 rfl rfl rfl (run_orW _ _ _ _ _)) (T9 30 rfl rfl (Pu_idxA rfl Tryz.runUnderlying106 Tryz.sizeOf105 rfl rfl (by omega)) (Y9 [31] ?_))))))))))))))))))))))))))))))))
     refine Ac09 rfl rfl rfl (OpT_storeB1 (r:=205) rfl Tryz.sizeOf105 rfl rfl rfl rfl (by rw [ws_length,hzl]; omega) (ws_set _ _ _) ?_) ?_
     ·
      refine ⟨⟨rfl,rfl,rfl,rfl,rfl,trivial⟩,?_⟩
      refine (Ad9 (by kernel_rfl) (X_block (X9 ?_)))
      refine R9 (M9 rfl rfl (L9 rfl (Pn9 rfl rfl rfl (run_add _ _ _ _ _ (by omega))) (G9 rfl rfl (N9 ?_))))
      refine X_turn (P':=blk g205 106 (ws (schW p.2 (padB d) (64 * p.1) (x + 1)))) 205 rfl (fun h hp=>by rw [← schW_set (t:=x) (z:=(x:Int)) (w:=p.2) (x:=word (padB d) (64 * p.1 + 4 * x)) hp2 (by omega) (by omega) (by rw [if_pos hlt])]; exact hp) ?_
      exact Xr9 (x + 1) (by omega) (by omega) (a9 rfl) (a9 rfl)
     exact An9
    ·
     obtain rfl:x=16:=by have:=of_decide_eq_false hc62; omega
     refine W_exit (X_then_exit (X_then_exit (X_block_exit (X9 ?_))))
     refine Q9 (Q9 (R9 (G9 rfl rfl (N9 (X9 ?_)))))
     refine W_block ?_
     refine W_loop (α:=Nat) (fun x=>[(2,.pointer (some ⟨g101,0,none⟩)),(3,.pointer (some ⟨g201,0,none⟩)),(4,.pointer (some ⟨g202,0,none⟩)),(5,y.1),(8,.pointer (some ⟨g205,0,none⟩)),(9,.int .i64 ((64 * p.1:Nat):Int)),(12,.int .i64 (x:Int))]) (fun x=>[(0,F),(101,blk g101 29 (bs zeroId)),(201,blk g201 106 (ws KS)),(202,blk g202 108 (ws s.list)),(203,rowB 5 y.1 (padB d)),(205,blk g205 106 (ws (schW p.2 (padB d) (64 * p.1) x)))]) (fun x=>16≤x∧x≤64) (fun x=>64 - x) (16) (by omega) (a9 rfl) (a9 rfl) (fun x hx=>?_)
     obtain ⟨h16,h64⟩:=hx
     have hzl:=schW_length (b:=padB d) (p:=64 * p.1) (t:=x) hp2 h64
     refine Q9 (Q9 (R9 (M9 rfl rfl (L9 rfl (Pn9 rfl rfl rfl (run_lss _ _ _ _ _ _)) (N9 (X9 ?_))))))
     refine C9 rfl (fun hc101=>?_) (fun hc101=>?_)
     ·
      have hlt:x < 64:=by have:=of_decide_eq_true hc101; omega
      refine K9 (X9 ?_)
      refine Q9 ?_
      refine W_block ?_
      refine Q9 ?_
      refine W_draw (N:=10) (by kernel_rfl) rfl [(0,_),(101,_),(201,_),(202,_),(205,_)] ⟨rfl,rfl,rfl,rfl,rfl,trivial⟩ ?_
      refine (T9 0 rfl rfl (Pm9 rfl rfl) (T9 1 rfl rfl (Pn9 rfl rfl rfl (run_sub _ _ _ _ _ (by omega))) (T9 2 rfl rfl (Pu_idxA rfl Tryz.runUnderlying106 Tryz.sizeOf105 rfl rfl (by omega)) (T9 3 rfl rfl (Pb9 (r:=205) rfl Tryz.isAgg105 rfl rfl (ws_at0 (l:=(schW p.2 (padB d) (64 * p.1) x)) (k:=x - 15) (by omega) (by omega))) (T9 4 rfl rfl (Pm9 rfl rfl) (T9 5 rfl rfl (Pn9 rfl rfl rfl (run_sub _ _ _ _ _ (by omega))) (T9 6 rfl rfl (Pu_idxA rfl Tryz.runUnderlying106 Tryz.sizeOf105 rfl rfl (by omega)) (T9 7 rfl rfl (Pb9 (r:=205) rfl Tryz.isAgg105 rfl rfl (ws_at0 (l:=(schW p.2 (padB d) (64 * p.1) x)) (k:=x - 2) (by omega) (by omega))) (T9 8 rfl rfl (Pg9 rfl rfl) (T9 9 rfl rfl (Pg9 rfl rfl) (Ad9 (by kernel_rfl) (X9 ?_))))))))))))
      refine W_drawI (N:=30) (by kernel_rfl) rfl [(0,_),(101,_),(201,_),(202,_),(205,frontW g205 106 (schW p.2 (padB d) (64 * p.1) x) x)] ⟨⟨_,rfl,fun h hp=>hp⟩,⟨⟨_,rfl,fun h hp=>hp⟩,⟨⟨_,rfl,fun h hp=>hp⟩,⟨⟨_,rfl,fun h hp=>hp⟩,⟨⟨_,rfl,by first | exact front_a (by omega) | exact front_b (by omega) (by omega)⟩,trivial⟩⟩⟩⟩⟩ ?_
      refine (T9 0 rfl rfl (Pm9 rfl rfl) (T9 1 rfl rfl (Pm9 rfl rfl) (T9 3 rfl rfl (Pm9 rfl rfl) (T9 6 rfl rfl (Pm9 rfl rfl) (T9 7 rfl rfl (Pn9 rfl rfl rfl (run_shrW _ (10) (by decide) _ _ _)) (T9 9 rfl rfl (Pm9 rfl rfl) (T9 10 rfl rfl (Pn9 rfl rfl rfl (run_sub _ _ _ _ _ (by omega))) (T9 11 rfl rfl (Pu_idxA rfl Tryz.runUnderlying106 Tryz.sizeOf105 rfl rfl (by omega)) (T9 12 rfl rfl (Pu_load1 (r:=205) rfl Tryz.isAgg105 rfl rfl (fun h hp=>front_get hp (k:=x - 7) (by omega) (by omega))) (T9 14 rfl rfl (Pm9 rfl rfl) (T9 16 rfl rfl (Pm9 rfl rfl) (T9 19 rfl rfl (Pm9 rfl rfl) (T9 20 rfl rfl (Pn9 rfl rfl rfl (run_shrW _ (3) (by decide) _ _ _)) (T9 23 rfl rfl (Pm9 rfl rfl) (T9 24 rfl rfl (Pn9 rfl rfl rfl (run_sub _ _ _ _ _ (by omega))) (T9 25 rfl rfl (Pu_idxA rfl Tryz.runUnderlying106 Tryz.sizeOf105 rfl rfl (by omega)) (T9 26 rfl rfl (Pu_load1 (r:=205) rfl Tryz.isAgg105 rfl rfl (fun h hp=>front_get hp (k:=x - 16) (by omega) (by omega))) (Y9 [2] ?_))))))))))))))))))
      refine AHs_consI rfl rfl rfl (by decide) (Oc9 300 [0,101,201,202,203,205] [] rfl Tryz.call49 rfl rfl rfl (by decide) (by decide) (rot_spec _ 17 (by decide) _) (fun v114 Ps114 hR114=>?_)) ?_
      ·
       obtain ⟨rfl,rfl⟩:=hR114
       refine ⟨⟨⟨_,rfl,fun h hp=>hp⟩,⟨⟨_,rfl,fun h hp=>hp⟩,⟨⟨_,rfl,fun h hp=>hp⟩,⟨⟨_,rfl,fun h hp=>hp⟩,⟨⟨_,rfl,by first | exact front_a (by omega) | exact front_b (by omega) (by omega)⟩,trivial⟩⟩⟩⟩⟩,?_⟩
       refine (Y9 [4] ?_)
       refine AHs_consI rfl rfl rfl (by decide) (Oc9 400 [0,101,201,202,203,205] [] rfl Tryz.call49 rfl rfl rfl (by decide) (by decide) (rot_spec _ 19 (by decide) _) (fun v116 Ps116 hR116=>?_)) ?_
       ·
        obtain ⟨rfl,rfl⟩:=hR116
        refine ⟨⟨⟨_,rfl,fun h hp=>hp⟩,⟨⟨_,rfl,fun h hp=>hp⟩,⟨⟨_,rfl,fun h hp=>hp⟩,⟨⟨_,rfl,fun h hp=>hp⟩,⟨⟨_,rfl,by first | exact front_a (by omega) | exact front_b (by omega) (by omega)⟩,trivial⟩⟩⟩⟩⟩,?_⟩
        refine (T9 5 rfl rfl (Pn9 rfl rfl rfl (run_xorW _ _ _ _ _)) (T9 8 rfl rfl (Pn9 rfl rfl rfl (run_xorW _ _ _ _ _)) (T9 13 rfl rfl (Pn9 rfl rfl rfl (run_addW _ _ _ _ _)) (Y9 [15] ?_))))
        refine AHs_consI rfl rfl rfl (by decide) (Oc9 500 [0,101,201,202,203,205] [] rfl Tryz.call49 rfl rfl rfl (by decide) (by decide) (rot_spec _ 7 (by decide) _) (fun v127 Ps127 hR127=>?_)) ?_
        ·
         obtain ⟨rfl,rfl⟩:=hR127
         refine ⟨⟨⟨_,rfl,fun h hp=>hp⟩,⟨⟨_,rfl,fun h hp=>hp⟩,⟨⟨_,rfl,fun h hp=>hp⟩,⟨⟨_,rfl,fun h hp=>hp⟩,⟨⟨_,rfl,by first | exact front_a (by omega) | exact front_b (by omega) (by omega)⟩,trivial⟩⟩⟩⟩⟩,?_⟩
         refine (Y9 [17] ?_)
         refine AHs_consI rfl rfl rfl (by decide) (Oc9 600 [0,101,201,202,203,205] [] rfl Tryz.call49 rfl rfl rfl (by decide) (by decide) (rot_spec _ 18 (by decide) _) (fun v129 Ps129 hR129=>?_)) ?_
         ·
          obtain ⟨rfl,rfl⟩:=hR129
          refine ⟨⟨⟨_,rfl,fun h hp=>hp⟩,⟨⟨_,rfl,fun h hp=>hp⟩,⟨⟨_,rfl,fun h hp=>hp⟩,⟨⟨_,rfl,fun h hp=>hp⟩,⟨⟨_,rfl,by first | exact front_a (by omega) | exact front_b (by omega) (by omega)⟩,trivial⟩⟩⟩⟩⟩,?_⟩
          refine (T9 18 rfl rfl (Pn9 rfl rfl rfl (run_xorW _ _ _ _ _)) (T9 21 rfl rfl (Pn9 rfl rfl rfl (run_xorW _ _ _ _ _)) (T9 22 rfl rfl (Pn9 rfl rfl rfl (run_addW _ _ _ _ _)) (T9 27 rfl rfl (Pn9 rfl rfl rfl (run_addW _ _ _ _ _)) (T9 28 rfl rfl (Pu_idxA rfl Tryz.runUnderlying106 Tryz.sizeOf105 rfl rfl (by omega)) (Y9 [29] ?_))))))
          refine AHs_cons0I rfl rfl rfl (OpT_storeB1 (r:=205) rfl Tryz.sizeOf105 rfl rfl rfl rfl (by rw [ws_length,hzl]; omega) (ws_set _ _ _) ?_) ?_
          ·
           refine ⟨⟨⟨_,rfl,fun h hp=>hp⟩,⟨⟨_,rfl,fun h hp=>hp⟩,⟨⟨_,rfl,fun h hp=>hp⟩,⟨⟨_,rfl,fun h hp=>hp⟩,⟨⟨_,rfl,by first | exact front_a (by omega) | exact front_b (by omega) (by omega)⟩,trivial⟩⟩⟩⟩⟩,?_⟩
           refine (Ad9 (by kernel_rfl) (X_block (X9 ?_)))
           refine R9 (M9 rfl rfl (L9 rfl (Pn9 rfl rfl rfl (run_add _ _ _ _ _ (by omega))) (G9 rfl rfl (N9 ?_))))
           refine X_turn (P':=blk g205 106 (ws (schW p.2 (padB d) (64 * p.1) (x + 1)))) 205 rfl (fun h hp=>by rw [← schW_set (t:=x) (z:=(x:Int)) hp2 (by omega) (by omega) (schW_next h16)]; exact hp) ?_
           exact Xr9 (x + 1) (by omega) (by omega) (a9 rfl) (a9 rfl)
          exact An9
         exact An9
        exact An9
       exact An9
      exact An9
     ·
      obtain rfl:x=64:=by have:=of_decide_eq_false hc101; omega
      rw [schW_full hp2]
      obtain ⟨ww,hW⟩:∃ ww,sch (padB d) (64 * p.1) 64=ww:=⟨_,rfl⟩
      have hWl:ww.length=64:=by rw [← hW]; exact sch_length _ _ _
      rw [hW]
      refine W_exit (X_then_exit (X_then_exit (X_block_exit (X9 ?_))))
      refine Q9 (R9 (L9 rfl (Px9 (r:=202) rfl Tryz.isAgg108 Tryz.sizeOf108 rfl rfl rfl (load_all rfl)) (Lc9 rfl rfl (by decide) (OpT_alloc (r:=206) (cs:=(ws [0,0,0,0,0,0,0,0])) rfl (zero_run (by kernel_rfl:(Tryz.prog.info? 108).bind (·.zero)=some (.agg (ws [0,0,0,0,0,0,0,0]).toArray))) rfl (fun g206=>(Lc09 rfl rfl (OpT_storeAll (r:=206) rfl Tryz.sizeOf108 rfl rfl rfl rfl rfl (ws_one _) ?_)))))))
      refine (N9 (X9 ?_))
      refine Q9 (Q9 (R9 (G9 rfl rfl (N9 (X9 ?_)))))
      refine W_block ?_
      refine W_loop (α:=Nat) (fun x=>[(2,.pointer (some ⟨g101,0,none⟩)),(3,.pointer (some ⟨g201,0,none⟩)),(4,.pointer (some ⟨g202,0,none⟩)),(5,y.1),(8,.pointer (some ⟨g205,0,none⟩)),(9,.int .i64 ((64 * p.1:Nat):Int)),(15,.pointer (some ⟨g206,0,none⟩)),(16,.int .i64 (x:Int))]) (fun x=>[(0,F),(101,blk g101 29 (bs zeroId)),(201,blk g201 106 (ws KS)),(202,blk g202 108 (ws s.list)),(203,rowB 5 y.1 (padB d)),(205,blk g205 106 (ws ww)),(206,blk g206 108 (ws (rnds ww s x).list))]) (fun x=>x≤64) (fun x=>64 - x) (0) (by omega) (a9 rfl) (a9 rfl) (fun x hx=>?_)
      refine Q9 (Q9 (R9 (M9 rfl rfl (L9 rfl (Pn9 rfl rfl rfl (run_lss _ _ _ _ _ _)) (N9 (X9 ?_))))))
      refine C9 rfl (fun hc143=>?_) (fun hc143=>?_)
      ·
       have hlt:x < 64:=by have:=of_decide_eq_true hc143; omega
       obtain ⟨A,hA⟩:∃ A,rnds ww s x=A:=⟨_,rfl⟩
       have hA1:rnds ww s (x + 1)=rnd (KS.getD x 0) (ww.getD x 0) A:=by rw [← hA]; rfl
       rw [hA]
       refine K9 (X9 ?_)
       refine Q9 ?_
       refine W_block ?_
       refine Q9 (R9 (L9 rfl (Pu_idxA rfl Tryz.runUnderlying108 Tryz.sizeOf105 rfl rfl (by omega)) (L9 rfl (Pb9 (r:=206) rfl Tryz.isAgg105 rfl rfl rfl) (G9 rfl rfl (N9 (X9 (Q9 ?_)))))))
       refine W_draw (N:=31) (by kernel_rfl) rfl [(0,_),(101,_),(201,_),(202,_),(205,_),(206,_)] ⟨rfl,rfl,rfl,rfl,rfl,rfl,trivial⟩ ?_
       refine (T9 0 rfl rfl (Pu_idxA rfl Tryz.runUnderlying108 Tryz.sizeOf105 rfl rfl (by omega)) (T9 1 rfl rfl (Pb9 (r:=206) rfl Tryz.isAgg105 rfl rfl rfl) (T9 2 rfl rfl (Pm9 rfl rfl) (T9 4 rfl rfl (Pm9 rfl rfl) (T9 7 rfl rfl (Pm9 rfl rfl) (T9 11 rfl rfl (Pm9 rfl rfl) (T9 12 rfl rfl (Pu_idxA rfl Tryz.runUnderlying108 Tryz.sizeOf105 rfl rfl (by omega)) (T9 13 rfl rfl (Pb9 (r:=206) rfl Tryz.isAgg105 rfl rfl rfl) (T9 14 rfl rfl (Pn9 rfl rfl rfl (run_andW _ _ _ _ _)) (T9 15 rfl rfl (Pm9 rfl rfl) (T9 16 rfl rfl (Pu_un rfl rfl (run_notW _)) (T9 17 rfl rfl (Pu_idxA rfl Tryz.runUnderlying108 Tryz.sizeOf105 rfl rfl (by omega)) (T9 18 rfl rfl (Pb9 (r:=206) rfl Tryz.isAgg105 rfl rfl rfl) (T9 19 rfl rfl (Pn9 rfl rfl rfl (run_andW _ _ _ _ _)) (T9 20 rfl rfl (Pn9 rfl rfl rfl (run_xorW _ _ _ _ _)) (T9 22 rfl rfl (Pm9 rfl rfl) (T9 23 rfl rfl (Pu_idxA rfl Tryz.runUnderlying106 Tryz.sizeOf105 rfl rfl (by omega)) (T9 24 rfl rfl (Pb9 (r:=201) rfl Tryz.isAgg105 rfl rfl (ws_at0 (k:=x) (by omega) (by rw [KS_length]; omega))) (T9 26 rfl rfl (Pm9 rfl rfl) (T9 27 rfl rfl (Pu_idxA rfl Tryz.runUnderlying106 Tryz.sizeOf105 rfl rfl (by omega)) (T9 28 rfl rfl (Pb9 (r:=205) rfl Tryz.isAgg105 rfl rfl (ws_at0 (l:=ww) (k:=x) (by omega) (by omega))) (Y9 [3] ?_))))))))))))))))))))))
       refine Z9 rfl rfl (Oc9 300 [0,101,201,202,203,205,206] [] rfl Tryz.call49 rfl rfl rfl (by decide) (by decide) (rot_spec _ 6 (by decide) _) (fun v151 Ps151 hR151=>?_)) ?_
       ·
        obtain ⟨rfl,rfl⟩:=hR151
        refine ⟨⟨rfl,rfl,rfl,rfl,rfl,rfl,trivial⟩,?_⟩
        refine (Y9 [5] ?_)
        refine Z9 rfl rfl (Oc9 400 [0,101,201,202,203,205,206] [] rfl Tryz.call49 rfl rfl rfl (by decide) (by decide) (rot_spec _ 11 (by decide) _) (fun v153 Ps153 hR153=>?_)) ?_
        ·
         obtain ⟨rfl,rfl⟩:=hR153
         refine ⟨⟨rfl,rfl,rfl,rfl,rfl,rfl,trivial⟩,?_⟩
         refine (T9 6 rfl rfl (Pn9 rfl rfl rfl (run_xorW _ _ _ _ _)) (Y9 [8] ?_))
         refine Z9 rfl rfl (Oc9 500 [0,101,201,202,203,205,206] [] rfl Tryz.call49 rfl rfl rfl (by decide) (by decide) (rot_spec _ 25 (by decide) _) (fun v156 Ps156 hR156=>?_)) ?_
         ·
          obtain ⟨rfl,rfl⟩:=hR156
          refine ⟨⟨rfl,rfl,rfl,rfl,rfl,rfl,trivial⟩,?_⟩
          refine (T9 9 rfl rfl (Pn9 rfl rfl rfl (run_xorW _ _ _ _ _)) (T9 10 rfl rfl (Pn9 rfl rfl rfl (run_addW _ _ _ _ _)) (T9 21 rfl rfl (Pn9 rfl rfl rfl (run_addW _ _ _ _ _)) (T9 25 rfl rfl (Pn9 rfl rfl rfl (run_addW _ _ _ _ _)) (T9 29 rfl rfl (Pn9 rfl rfl rfl (run_addW _ _ _ _ _)) (T9 30 rfl rfl (Pg9 rfl rfl) (Ad9 (by kernel_rfl) (X9 ?_))))))))
          refine Q9 ?_
          refine W_draw (N:=30) (by kernel_rfl) rfl [(0,_),(101,_),(201,_),(202,_),(205,_),(206,_)] ⟨rfl,rfl,rfl,rfl,rfl,rfl,trivial⟩ ?_
          refine (T9 0 rfl rfl (Pu_idxA rfl Tryz.runUnderlying108 Tryz.sizeOf105 rfl rfl (by omega)) (T9 1 rfl rfl (Pb9 (r:=206) rfl Tryz.isAgg105 rfl rfl rfl) (T9 3 rfl rfl (Pu_idxA rfl Tryz.runUnderlying108 Tryz.sizeOf105 rfl rfl (by omega)) (T9 4 rfl rfl (Pb9 (r:=206) rfl Tryz.isAgg105 rfl rfl rfl) (T9 7 rfl rfl (Pu_idxA rfl Tryz.runUnderlying108 Tryz.sizeOf105 rfl rfl (by omega)) (T9 8 rfl rfl (Pb9 (r:=206) rfl Tryz.isAgg105 rfl rfl rfl) (T9 11 rfl rfl (Pu_idxA rfl Tryz.runUnderlying108 Tryz.sizeOf105 rfl rfl (by omega)) (T9 12 rfl rfl (Pb9 (r:=206) rfl Tryz.isAgg105 rfl rfl rfl) (T9 13 rfl rfl (Pu_idxA rfl Tryz.runUnderlying108 Tryz.sizeOf105 rfl rfl (by omega)) (T9 14 rfl rfl (Pb9 (r:=206) rfl Tryz.isAgg105 rfl rfl rfl) (T9 15 rfl rfl (Pn9 rfl rfl rfl (run_andW _ _ _ _ _)) (T9 16 rfl rfl (Pu_idxA rfl Tryz.runUnderlying108 Tryz.sizeOf105 rfl rfl (by omega)) (T9 17 rfl rfl (Pb9 (r:=206) rfl Tryz.isAgg105 rfl rfl rfl) (T9 18 rfl rfl (Pu_idxA rfl Tryz.runUnderlying108 Tryz.sizeOf105 rfl rfl (by omega)) (T9 19 rfl rfl (Pb9 (r:=206) rfl Tryz.isAgg105 rfl rfl rfl) (T9 20 rfl rfl (Pn9 rfl rfl rfl (run_andW _ _ _ _ _)) (T9 21 rfl rfl (Pn9 rfl rfl rfl (run_xorW _ _ _ _ _)) (T9 22 rfl rfl (Pu_idxA rfl Tryz.runUnderlying108 Tryz.sizeOf105 rfl rfl (by omega)) (T9 23 rfl rfl (Pb9 (r:=206) rfl Tryz.isAgg105 rfl rfl rfl) (T9 24 rfl rfl (Pu_idxA rfl Tryz.runUnderlying108 Tryz.sizeOf105 rfl rfl (by omega)) (T9 25 rfl rfl (Pb9 (r:=206) rfl Tryz.isAgg105 rfl rfl rfl) (T9 26 rfl rfl (Pn9 rfl rfl rfl (run_andW _ _ _ _ _)) (T9 27 rfl rfl (Pn9 rfl rfl rfl (run_xorW _ _ _ _ _)) (Y9 [2] ?_))))))))))))))))))))))))
          refine Z9 rfl rfl (Oc9 600 [0,101,201,202,203,205,206] [] rfl Tryz.call49 rfl rfl rfl (by decide) (by decide) (rot_spec _ 2 (by decide) _) (fun v180 Ps180 hR180=>?_)) ?_
          ·
           obtain ⟨rfl,rfl⟩:=hR180
           refine ⟨⟨rfl,rfl,rfl,rfl,rfl,rfl,trivial⟩,?_⟩
           refine (Y9 [5] ?_)
           refine Z9 rfl rfl (Oc9 700 [0,101,201,202,203,205,206] [] rfl Tryz.call49 rfl rfl rfl (by decide) (by decide) (rot_spec _ 13 (by decide) _) (fun v183 Ps183 hR183=>?_)) ?_
           ·
            obtain ⟨rfl,rfl⟩:=hR183
            refine ⟨⟨rfl,rfl,rfl,rfl,rfl,rfl,trivial⟩,?_⟩
            refine (T9 6 rfl rfl (Pn9 rfl rfl rfl (run_xorW _ _ _ _ _)) (Y9 [9] ?_))
            refine Z9 rfl rfl (Oc9 800 [0,101,201,202,203,205,206] [] rfl Tryz.call49 rfl rfl rfl (by decide) (by decide) (rot_spec _ 22 (by decide) _) (fun v187 Ps187 hR187=>?_)) ?_
            ·
             obtain ⟨rfl,rfl⟩:=hR187
             refine ⟨⟨rfl,rfl,rfl,rfl,rfl,rfl,trivial⟩,?_⟩
             refine (T9 10 rfl rfl (Pn9 rfl rfl rfl (run_xorW _ _ _ _ _)) (T9 28 rfl rfl (Pn9 rfl rfl rfl (run_addW _ _ _ _ _)) (T9 29 rfl rfl (Pg9 rfl rfl) (Ad9 (by kernel_rfl) (X9 ?_)))))
             refine R9 (M9 rfl rfl (M9 rfl rfl (L9 rfl (Pn9 rfl rfl rfl (run_addW _ _ _ _ _)) (L9 rfl (Pu_idxA rfl Tryz.runUnderlying108 Tryz.sizeOf105 rfl rfl (by omega)) (L9 rfl (Pb9 (r:=206) rfl Tryz.isAgg105 rfl rfl rfl) (L9 rfl (Pu_idxA rfl Tryz.runUnderlying108 Tryz.sizeOf105 rfl rfl (by omega)) (L9 rfl (Pb9 (r:=206) rfl Tryz.isAgg105 rfl rfl rfl) (L9 rfl (Pu_idxA rfl Tryz.runUnderlying108 Tryz.sizeOf105 rfl rfl (by omega)) (L9 rfl (Pb9 (r:=206) rfl Tryz.isAgg105 rfl rfl rfl) (L9 rfl (Pu_idxA rfl Tryz.runUnderlying108 Tryz.sizeOf105 rfl rfl (by omega)) (L9 rfl (Pb9 (r:=206) rfl Tryz.isAgg105 rfl rfl rfl) (M9 rfl rfl (L9 rfl (Pn9 rfl rfl rfl (run_addW _ _ _ _ _)) (L9 rfl (Pu_idxA rfl Tryz.runUnderlying108 Tryz.sizeOf105 rfl rfl (by omega)) (L9 rfl (Pb9 (r:=206) rfl Tryz.isAgg105 rfl rfl rfl) (L9 rfl (Pu_idxA rfl Tryz.runUnderlying108 Tryz.sizeOf105 rfl rfl (by omega)) (L9 rfl (Pb9 (r:=206) rfl Tryz.isAgg105 rfl rfl rfl) (L9 rfl (Pu_idxA rfl Tryz.runUnderlying108 Tryz.sizeOf105 rfl rfl (by omega)) (L9 rfl (Pb9 (r:=206) rfl Tryz.isAgg105 rfl rfl rfl) (L9 rfl (Pu_built (cells:=ws (rnd (KS.getD x 0) (ww.getD x 0) A).list) rfl rfl (built8 Tryz.underlying108 (by kernel_rfl) (by kernel_rfl) _ _ _ _ _ _ _ _)) (Lc09 rfl rfl (OpT_storeAll (r:=206) rfl Tryz.sizeOf108 rfl rfl rfl rfl rfl (ws_one _) ?_))))))))))))))))))))))
             rw [← hA1]
             refine (N9 (X_block (X9 ?_)))
             refine R9 (M9 rfl rfl (L9 rfl (Pn9 rfl rfl rfl (run_add _ _ _ _ _ (by omega))) (G9 rfl rfl (N9 ?_))))
             exact Xr9 (x + 1) (by omega) (by omega) (a9 rfl) (a9 rfl)
            exact An9
           exact An9
          exact An9
         exact An9
        exact An9
       exact An9
      ·
       obtain rfl:x=64:=by have:=of_decide_eq_false hc143; omega
       obtain ⟨A,hA⟩:∃ A,rnds ww s 64=A:=⟨_,rfl⟩
       rw [hA]
       have hmix:(mixes (padB d) (S8.of HS) (p.1 + 1))=addS s A:=by show mixS (padB d) (64 * p.1) (mixes (padB d) (S8.of HS) p.1)=_; rw [hs]; unfold mixS; rw [hW,hA]
       refine W_exit (X_then_exit (X_then_exit (X_block_exit (X9 ?_))))
       refine Q9 (R9 (G9 rfl rfl (N9 (X9 ?_))))
       refine W_block ?_
       refine W_loop (α:=Nat) (fun x=>[(2,.pointer (some ⟨g101,0,none⟩)),(3,.pointer (some ⟨g201,0,none⟩)),(4,.pointer (some ⟨g202,0,none⟩)),(5,y.1),(8,.pointer (some ⟨g205,0,none⟩)),(9,.int .i64 ((64 * p.1:Nat):Int)),(15,.pointer (some ⟨g206,0,none⟩)),(20,.int .i64 (x:Int))]) (fun x=>[(0,F),(101,blk g101 29 (bs zeroId)),(201,blk g201 106 (ws KS)),(202,blk g202 108 (ws (addK s.list A.list x))),(203,rowB 5 y.1 (padB d)),(205,blk g205 106 (ws ww)),(206,blk g206 108 (ws A.list))]) (fun x=>x≤8) (fun x=>8 - x) (0) (by omega) (a9 rfl) (a9 rfl) (fun x hx=>?_)
       have hal:=addK_length (s:=s.list) (a:=A.list) rfl rfl hx
       refine Q9 (Q9 (R9 (M9 rfl rfl (L9 rfl (Pn9 rfl rfl rfl (run_lss _ _ _ _ _ _)) (N9 (X9 ?_))))))
       refine C9 rfl (fun hc228=>?_) (fun hc228=>?_)
       ·
        have hlt:x < 8:=by have:=of_decide_eq_true hc228; omega
        refine K9 (X9 ?_)
        refine Q9 ?_
        refine W_block ?_
        refine W_draw (N:=9) (by kernel_rfl) rfl [(0,_),(101,_),(201,_),(205,_),(206,_)] ⟨rfl,rfl,rfl,rfl,rfl,trivial⟩ ?_
        refine (T9 0 rfl rfl (Pm9 rfl rfl) (T9 1 rfl rfl (Pu_idxA rfl Tryz.runUnderlying108 Tryz.sizeOf105 rfl rfl (by omega)) (T9 3 rfl rfl (Pm9 rfl rfl) (T9 4 rfl rfl (Pu_idxA rfl Tryz.runUnderlying108 Tryz.sizeOf105 rfl rfl (by omega)) (T9 5 rfl rfl (Pb9 (r:=206) rfl Tryz.isAgg105 rfl rfl (ws_at0 (l:=A.list) (k:=x) (by omega) (by rw [S8.list_length]; omega))) (Y9 [2] ?_))))))
        refine Z9 rfl rfl (Or9 (Pb9 (r:=202) rfl Tryz.isAgg105 rfl rfl (ws_at0 (l:=addK s.list A.list x) (k:=x) (by omega) (by omega))) ⟨⟨rfl,rfl,rfl,rfl,rfl,trivial⟩,?_⟩) ?_
        ·
         refine (T9 6 rfl rfl (Pn9 rfl rfl rfl (run_addW _ _ _ _ _)) (T9 7 rfl rfl (Pu_idxA rfl Tryz.runUnderlying108 Tryz.sizeOf105 rfl rfl (by omega)) (Y9 [8] ?_)))
         refine Ac09 rfl rfl rfl (OpT_storeB1 (r:=202) rfl Tryz.sizeOf105 rfl rfl rfl rfl (by rw [ws_length,hal]; omega) (ws_set _ _ _) ?_) ?_
         ·
          refine ⟨⟨rfl,rfl,rfl,rfl,rfl,trivial⟩,?_⟩
          refine (Ad9 (by kernel_rfl) (X_block (X9 ?_)))
          refine R9 (M9 rfl rfl (L9 rfl (Pn9 rfl rfl rfl (run_add _ _ _ _ _ (by omega))) (G9 rfl rfl (N9 ?_))))
          refine X_turn (P':=blk g202 108 (ws (addK s.list A.list (x + 1)))) 202 rfl (fun h hp=>by rw [← addK_set (z:=(x:Int)) rfl rfl (by omega) hlt]; exact hp) ?_
          exact Xr9 (x + 1) (by omega) (by omega) (a9 rfl) (a9 rfl)
         exact An9
        exact An9
       ·
        obtain rfl:x=8:=by have:=of_decide_eq_false hc228; omega
        rw [addK_full,← hmix,← hW]
        refine W_exit (X_then_exit (X_then_exit (X_block_exit (X_block (X9 ?_)))))
        refine R9 (M9 rfl rfl (L9 rfl (Pn9 rfl rfl rfl (run_add _ _ _ _ _ (by omega))) (G9 rfl rfl (N9 ?_))))
        exact Xr9 (p.1 + 1,sch (padB d) (64 * p.1) 64) ⟨by dsimp only; omega,sch_length _ _ _⟩ (by show (padB d).length - 64 * (p.1 + 1) < (padB d).length - 64 * p.1; omega) ⟨rfl,rfl,rfl,rfl,rfl,lookV_eq rfl (int_eq (by dsimp only; omega)),trivial⟩ ⟨rfl,rfl,rfl,rfl,rfl,rfl,trivial⟩
   ·
    have hpe2:p.1=(padB d).length / 64:=by have:=of_decide_eq_false hc58; omega
    obtain ⟨S,hS⟩:∃ S,(mixes (padB d) (S8.of HS) p.1)=S:=⟨_,rfl⟩
    rw [hS]
    have hsha:sha d=outB S:=by unfold sha; rw [← hpe2,hS]
    refine W_exit (X_then_exit (X_then_exit (X_block_exit (X9 ?_))))
    refine Q9 (R9 (Lc9 rfl rfl (by decide) (OpT_alloc (r:=206) (cs:=(bs zeroId)) rfl (zero_run (by kernel_rfl:(Tryz.prog.info? 29).bind (·.zero)=some (.agg (bs zeroId).toArray))) rfl (fun g206=>(N9 (X9 (Q9 (Q9 (R9 (G9 rfl rfl (N9 (X9 ?_))))))))))))
    refine W_block ?_
    refine W_loop (α:=Nat) (fun x=>[(2,.pointer (some ⟨g101,0,none⟩)),(4,.pointer (some ⟨g202,0,none⟩)),(21,.pointer (some ⟨g206,0,none⟩)),(22,.int .i64 (x:Int))]) (fun x=>[(0,F),(101,blk g101 29 (bs zeroId)),(202,blk g202 108 (ws S.list)),(206,blk g206 29 (bs (outZ S (4 * x))))]) (fun x=>x≤8) (fun x=>8 - x) (0) (by omega) (a9 rfl) (a9 rfl) (fun x hx=>?_)
    refine Q9 (Q9 (R9 (M9 rfl rfl (L9 rfl (Pn9 rfl rfl rfl (run_lss _ _ _ _ _ _)) (N9 (X9 ?_))))))
    refine C9 rfl (fun hc240=>?_) (fun hc240=>?_)
    ·
     have hlt:x < 8:=by have:=of_decide_eq_true hc240; omega
     have hz0:=outZ_length (s:=S) (q:=4 * x) (by omega)
     have hz1:=outZ_length (s:=S) (q:=4 * x + 1) (by omega)
     have hz2:=outZ_length (s:=S) (q:=4 * x + 2) (by omega)
     have hz3:=outZ_length (s:=S) (q:=4 * x + 3) (by omega)
     refine K9 (X9 ?_)
     refine Q9 ?_
     refine W_block ?_
     refine W_draw (N:=38) (by kernel_rfl) rfl [(0,_),(101,_),(202,_)] ⟨rfl,rfl,rfl,trivial⟩ ?_
     refine (T9 0 rfl rfl (Pm9 rfl rfl) (T9 1 rfl rfl (Pn9 rfl rfl rfl (run_mul _ _ _ _ _ (by omega))) (T9 2 rfl rfl (Pm9 rfl rfl) (T9 3 rfl rfl (Pn9 rfl rfl rfl (run_mul _ _ _ _ _ (by omega))) (T9 4 rfl rfl (Pn9 rfl rfl rfl (run_add _ _ _ _ _ (by omega))) (T9 5 rfl rfl (Pm9 rfl rfl) (T9 6 rfl rfl (Pn9 rfl rfl rfl (run_mul _ _ _ _ _ (by omega))) (T9 7 rfl rfl (Pn9 rfl rfl rfl (run_add _ _ _ _ _ (by omega))) (T9 8 rfl rfl (Pm9 rfl rfl) (T9 9 rfl rfl (Pn9 rfl rfl rfl (run_mul _ _ _ _ _ (by omega))) (T9 10 rfl rfl (Pn9 rfl rfl rfl (run_add _ _ _ _ _ (by omega))) (T9 11 rfl rfl (Pm9 rfl rfl) (T9 12 rfl rfl (Pu_idxA rfl Tryz.runUnderlying108 Tryz.sizeOf105 rfl rfl (by omega)) (T9 13 rfl rfl (Pb9 (r:=202) rfl Tryz.isAgg105 rfl rfl (ws_at0 (l:=S.list) (k:=x) (by omega) (by rw [S8.list_length]; omega))) (T9 14 rfl rfl (Pn9 rfl rfl rfl (run_shrW _ (24) (by decide) _ _ _)) (T9 15 rfl rfl (Pu_conv rfl rfl (conv_byteW _ Tryz.runUnderlying105 Tryz.runUnderlying5)) (T9 16 rfl rfl (Pm9 rfl rfl) (T9 17 rfl rfl (Pu_idxA rfl Tryz.runUnderlying108 Tryz.sizeOf105 rfl rfl (by omega)) (T9 18 rfl rfl (Pb9 (r:=202) rfl Tryz.isAgg105 rfl rfl (ws_at0 (l:=S.list) (k:=x) (by omega) (by rw [S8.list_length]; omega))) (T9 19 rfl rfl (Pn9 rfl rfl rfl (run_shrW _ (16) (by decide) _ _ _)) (T9 20 rfl rfl (Pu_conv rfl rfl (conv_byteW _ Tryz.runUnderlying105 Tryz.runUnderlying5)) (T9 21 rfl rfl (Pm9 rfl rfl) (T9 22 rfl rfl (Pu_idxA rfl Tryz.runUnderlying108 Tryz.sizeOf105 rfl rfl (by omega)) (T9 23 rfl rfl (Pb9 (r:=202) rfl Tryz.isAgg105 rfl rfl (ws_at0 (l:=S.list) (k:=x) (by omega) (by rw [S8.list_length]; omega))) (T9 24 rfl rfl (Pn9 rfl rfl rfl (run_shrW _ (8) (by decide) _ _ _)) (T9 25 rfl rfl (Pu_conv rfl rfl (conv_byteW _ Tryz.runUnderlying105 Tryz.runUnderlying5)) (T9 26 rfl rfl (Pm9 rfl rfl) (T9 27 rfl rfl (Pu_idxA rfl Tryz.runUnderlying108 Tryz.sizeOf105 rfl rfl (by omega)) (T9 28 rfl rfl (Pb9 (r:=202) rfl Tryz.isAgg105 rfl rfl (ws_at0 (l:=S.list) (k:=x) (by omega) (by rw [S8.list_length]; omega))) (T9 29 rfl rfl (Pu_conv rfl rfl (conv_byteW _ Tryz.runUnderlying105 Tryz.runUnderlying5)) (T9 30 rfl rfl (Pu_idxA rfl Tryz.runUnderlying29 Tryz.sizeOf5 rfl rfl (by omega)) (Y9 [31] ?_))))))))))))))))))))))))))))))))
     refine Ac09 rfl rfl rfl (OpT_storeB1 (r:=206) rfl Tryz.sizeOf5 rfl rfl rfl rfl (by rw [bs_length,hz0]; omega) (outZ_set (k:=0) hlt (by decide) (by omega)) ?_) ?_
     ·
      refine ⟨⟨rfl,rfl,rfl,trivial⟩,?_⟩
      refine (T9 32 rfl rfl (Pu_idxA rfl Tryz.runUnderlying29 Tryz.sizeOf5 rfl rfl (by omega)) (Y9 [33] ?_))
      refine Ac09 rfl rfl rfl (OpT_storeB1 (r:=206) rfl Tryz.sizeOf5 rfl rfl rfl rfl (by rw [bs_length,hz1]; omega) (outZ_set (k:=1) hlt (by decide) (by omega)) ?_) ?_
      ·
       refine ⟨⟨rfl,rfl,rfl,trivial⟩,?_⟩
       refine (T9 34 rfl rfl (Pu_idxA rfl Tryz.runUnderlying29 Tryz.sizeOf5 rfl rfl (by omega)) (Y9 [35] ?_))
       refine Ac09 rfl rfl rfl (OpT_storeB1 (r:=206) rfl Tryz.sizeOf5 rfl rfl rfl rfl (by rw [bs_length,hz2]; omega) (outZ_set (k:=2) hlt (by decide) (by omega)) ?_) ?_
       ·
        refine ⟨⟨rfl,rfl,rfl,trivial⟩,?_⟩
        refine (T9 36 rfl rfl (Pu_idxA rfl Tryz.runUnderlying29 Tryz.sizeOf5 rfl rfl (by omega)) (Y9 [37] ?_))
        refine Ac09 rfl rfl rfl (OpT_storeB1 (r:=206) rfl Tryz.sizeOf5 rfl rfl rfl rfl (by rw [bs_length,hz3]; omega) (outZ_set3 hlt (by omega)) ?_) ?_
        ·
         refine ⟨⟨rfl,rfl,rfl,trivial⟩,?_⟩
         refine (Ad9 (by kernel_rfl) (X_block (X9 ?_)))
         refine R9 (M9 rfl rfl (L9 rfl (Pn9 rfl rfl rfl (run_add _ _ _ _ _ (by omega))) (G9 rfl rfl (N9 ?_))))
         exact Xr9 (x + 1) (by omega) (by omega) ⟨rfl,rfl,rfl,rfl,trivial⟩ ⟨rfl,rfl,rfl,look_eq rfl (by rw [show 4 * (x + 1)=4 * x + 3 + 1 by omega]),trivial⟩
        exact An9
       exact An9
      exact An9
     exact An9
    ·
     obtain rfl:x=8:=by have:=of_decide_eq_false hc240; omega
     rw [show 4 * 8=32 from rfl,outZ_full]
     refine W_exit (X_then_exit (X_then_exit (X_block_exit (X9 ?_))))
     refine Q9 (R9 (L9 rfl (Px9 (r:=206) rfl Tryz.isAgg29 Tryz.sizeOf29 rfl rfl rfl (load_all rfl)) (Lc09 rfl rfl (OpT_storeAll (r:=101) rfl Tryz.sizeOf29 rfl rfl rfl rfl rfl (bs_one _) ?_))))
     refine (N9 (X9 ?_))
     refine W_ret ?_
     exact Xq9 [] (Ps:=[]) (resC1 (r:=101) Tryz.results26 rfl Tryz.isAgg29 Tryz.sizeOf29 rfl rfl) rfl (by decide) ⟨by rw [hsha]; rfl,rfl⟩
end Go.Proofs.YthkdkmaacjpneaaGreatDoor
namespace Go.Proofs.YthkdkmaacjpneaaGreatDoor
open Go.RowKit Go.Shelf
def ren:Ren:={
  f:=fun n=>match n with
    | 99=>60
    | 100=>61
    | 138=>123
    | 143=>124
    | 146=>62
    | 195=>153
    | 197=>125
    | 206=>87
    | 207=>88
    | 217=>166
    | 218=>154
    | 219=>155
    | 221=>89
    | 224=>168
    | 225=>167
    | 260=>156
    | 266=>172
    | 267=>169
    | 268=>122
    | 314=>173
    | n=>n,
  t:=fun n=>match n with
    | 0=>0
    | 3=>3
    | 4=>4
    | 5=>5
    | 9=>9
    | 21=>21
    | 31=>63
    | 46=>110
    | 51=>105
    | 105=>152
    | 119=>232
    | 138=>234
    | 139=>235
    | 146=>238
    | n=>n,
  g:=fun n=>match n with
    | 1=>0
    | 3=>1
    | 4=>2
    | n=>n }
theorem lays197:Lays.n197 Tryz.prog ren where
  mixed:=by kernel_rfl
  f197:=by kernel_rfl
  f260:=by kernel_rfl
  t0:=Tryz.underlying0
  a0:=Tryz.isAgg0
  z0:=Tryz.sizeOf0
  v0:=Tryz.zeroValue0
  t3:=Tryz.underlying3
  a3:=Tryz.isAgg3
  z3:=Tryz.sizeOf3
  v3:=Tryz.zeroValue3
  t4:=Tryz.underlying4
  a4:=Tryz.isAgg4
  z4:=Tryz.sizeOf4
  v4:=Tryz.zeroValue4
  t5:=Tryz.underlying5
  a5:=Tryz.isAgg5
  z5:=Tryz.sizeOf5
  v5:=Tryz.zeroValue5
  t9:=Tryz.underlying9
  a9:=Tryz.isAgg9
  z9:=Tryz.sizeOf9
  v9:=Tryz.zeroValue9
  t21:=Tryz.underlying21
  a21:=Tryz.isAgg21
  z21:=Tryz.sizeOf21
  v21:=Tryz.zeroValue21
  t46:=Tryz.underlying110
  a46:=Tryz.isAgg110
  z46:=Tryz.sizeOf110
  v46:=Tryz.zeroValue110
  t105:=Tryz.underlying152
  a105:=Tryz.isAgg152
  z105:=Tryz.sizeOf152
  v105:=Tryz.zeroValue152
  t119:=Tryz.underlying232
  a119:=Tryz.isAgg232
  z119:=Tryz.sizeOf232
  t138:=Tryz.underlying234
  a138:=Tryz.isAgg234
  z138:=Tryz.sizeOf234
  v138:=Tryz.zeroValue234
  t139:=Tryz.underlying235
  a139:=Tryz.isAgg235
  z139:=Tryz.sizeOf235
  v139:=Tryz.zeroValue235
  g3:=by kernel_rfl
  g4:=by kernel_rfl
theorem lays260:Lays.n260 Tryz.prog ren where
  mixed:=by kernel_rfl
  f260:=by kernel_rfl
  t0:=Tryz.underlying0
  a0:=Tryz.isAgg0
  z0:=Tryz.sizeOf0
  v0:=Tryz.zeroValue0
  t3:=Tryz.underlying3
  a3:=Tryz.isAgg3
  z3:=Tryz.sizeOf3
  v3:=Tryz.zeroValue3
  t4:=Tryz.underlying4
  a4:=Tryz.isAgg4
  z4:=Tryz.sizeOf4
  v4:=Tryz.zeroValue4
  t5:=Tryz.underlying5
  a5:=Tryz.isAgg5
  z5:=Tryz.sizeOf5
  v5:=Tryz.zeroValue5
  t9:=Tryz.underlying9
  a9:=Tryz.isAgg9
  z9:=Tryz.sizeOf9
  v9:=Tryz.zeroValue9
  t21:=Tryz.underlying21
  a21:=Tryz.isAgg21
  z21:=Tryz.sizeOf21
  v21:=Tryz.zeroValue21
  t46:=Tryz.underlying110
  a46:=Tryz.isAgg110
  z46:=Tryz.sizeOf110
  v46:=Tryz.zeroValue110
  t119:=Tryz.underlying232
  a119:=Tryz.isAgg232
  z119:=Tryz.sizeOf232
  t138:=Tryz.underlying234
  a138:=Tryz.isAgg234
  z138:=Tryz.sizeOf234
  v138:=Tryz.zeroValue234
  t139:=Tryz.underlying235
  a139:=Tryz.isAgg235
  z139:=Tryz.sizeOf235
  v139:=Tryz.zeroValue235
  g3:=by kernel_rfl
  g4:=by kernel_rfl
theorem lays146:Lays.n146 Tryz.prog ren where
  mixed:=by kernel_rfl
  f138:=by kernel_rfl
  f143:=by kernel_rfl
  f146:=by kernel_rfl
  f195:=by kernel_rfl
  f197:=by kernel_rfl
  f217:=by kernel_rfl
  f218:=by kernel_rfl
  f219:=by kernel_rfl
  f221:=by kernel_rfl
  f224:=by kernel_rfl
  f225:=by kernel_rfl
  f260:=by kernel_rfl
  f266:=by kernel_rfl
  f267:=by kernel_rfl
  f268:=by kernel_rfl
  f314:=by kernel_rfl
  t0:=Tryz.underlying0
  a0:=Tryz.isAgg0
  z0:=Tryz.sizeOf0
  v0:=Tryz.zeroValue0
  t3:=Tryz.underlying3
  a3:=Tryz.isAgg3
  z3:=Tryz.sizeOf3
  v3:=Tryz.zeroValue3
  t4:=Tryz.underlying4
  a4:=Tryz.isAgg4
  z4:=Tryz.sizeOf4
  v4:=Tryz.zeroValue4
  t5:=Tryz.underlying5
  a5:=Tryz.isAgg5
  z5:=Tryz.sizeOf5
  v5:=Tryz.zeroValue5
  t9:=Tryz.underlying9
  a9:=Tryz.isAgg9
  z9:=Tryz.sizeOf9
  v9:=Tryz.zeroValue9
  t21:=Tryz.underlying21
  a21:=Tryz.isAgg21
  z21:=Tryz.sizeOf21
  v21:=Tryz.zeroValue21
  t31:=Tryz.underlying63
  a31:=Tryz.isAgg63
  z31:=Tryz.sizeOf63
  v31:=Tryz.zeroValue63
  t46:=Tryz.underlying110
  a46:=Tryz.isAgg110
  z46:=Tryz.sizeOf110
  v46:=Tryz.zeroValue110
  t51:=Tryz.underlying105
  a51:=Tryz.isAgg105
  z51:=Tryz.sizeOf105
  v51:=Tryz.zeroValue105
  t105:=Tryz.underlying152
  a105:=Tryz.isAgg152
  z105:=Tryz.sizeOf152
  v105:=Tryz.zeroValue152
  t119:=Tryz.underlying232
  a119:=Tryz.isAgg232
  z119:=Tryz.sizeOf232
  t138:=Tryz.underlying234
  a138:=Tryz.isAgg234
  z138:=Tryz.sizeOf234
  v138:=Tryz.zeroValue234
  t139:=Tryz.underlying235
  a139:=Tryz.isAgg235
  z139:=Tryz.sizeOf235
  v139:=Tryz.zeroValue235
  t146:=Tryz.underlying238
  a146:=Tryz.isAgg238
  z146:=Tryz.sizeOf238
  v146:=Tryz.zeroValue238
  g1:=by kernel_rfl
  g3:=by kernel_rfl
  g4:=by kernel_rfl
theorem lays99:Lays.n99 Tryz.prog ren where
  mixed:=by kernel_rfl
  f99:=by kernel_rfl
  f206:=by kernel_rfl
  t3:=Tryz.underlying3
  a3:=Tryz.isAgg3
  z3:=Tryz.sizeOf3
  v3:=Tryz.zeroValue3
  t4:=Tryz.underlying4
  a4:=Tryz.isAgg4
  z4:=Tryz.sizeOf4
  v4:=Tryz.zeroValue4
  t9:=Tryz.underlying9
  a9:=Tryz.isAgg9
  z9:=Tryz.sizeOf9
  v9:=Tryz.zeroValue9
theorem lays100:Lays.n100 Tryz.prog ren where
  mixed:=by kernel_rfl
  f100:=by kernel_rfl
  f207:=by kernel_rfl
  t3:=Tryz.underlying3
  a3:=Tryz.isAgg3
  z3:=Tryz.sizeOf3
  v3:=Tryz.zeroValue3
  t4:=Tryz.underlying4
  a4:=Tryz.isAgg4
  z4:=Tryz.sizeOf4
  v4:=Tryz.zeroValue4
  t9:=Tryz.underlying9
  a9:=Tryz.isAgg9
  z9:=Tryz.sizeOf9
  v9:=Tryz.zeroValue9
theorem laysU:U8Extra Tryz.prog ren where
  n3:=by kernel_rfl
  n4:=by kernel_rfl
  y3:=by kernel_rfl
  y4:=by kernel_rfl
  c5:=by kernel_rfl
  c119:=by kernel_rfl
  c138:=by kernel_rfl
theorem cell_keep {W w:World} (h:∀ (g:Nat) (o:Obj),W.heap[g]?=some o→w.heap[g]?=some o) {a:Addr} {v:Value} (hc:W.cell? a=some v):w.cell? a=some v:=by
  unfold World.cell? at hc ⊢
  cases hb:W.heap[a.block]? with
  | none=>simp [hb] at hc
  | some o=>rw [h _ _ hb]; rw [hb] at hc; exact hc
def extraV (w:World):Prop:=∃ m,w.cell? ⟨ren.g 1,0,none⟩=some (.int .i64 m)
theorem extra_keep {W w:World} (h:∀ (g:Nat) (o:Obj),W.heap[g]?=some o→w.heap[g]?=some o) (hx:extraV W):extraV w:=by
  obtain ⟨m,hm⟩:=hx
  exact ⟨m,cell_keep h hm⟩
end Go.Proofs.YthkdkmaacjpneaaGreatDoor
namespace Go.Proofs.YthkdkmaacjpneaaGreatDoor
open Go.Lib
def wrongR (r:Nat):Bool:=r < 32 || r == 127 || r == 47
def noRune (l:List UInt8):Bool:=(decodeL l).1 == 65533 && decide ((decodeL l).2≤1)
def finC (n:Nat) (bad:Bool):Nat:=if bad then 10 else if 12 < n then 5 else 0
def chkF:Nat→List UInt8→Nat→Bool→Nat
  | 0,_,n,bad=>finC n bad
  | f + 1,l,n,bad=>if l=[] then finC n bad else if noRune l then 11 else chkF f (l.drop (decodeL l).2) (n + 1) (bad || wrongR (decodeL l).1)
theorem chkF_nil (f n:Nat) (bad:Bool):chkF f [] n bad=finC n bad:=by cases f <;> simp [chkF]
theorem chkF_fuel:∀ (f g:Nat) (l:List UInt8) (n:Nat) (bad:Bool),l.length≤f→l.length≤g→chkF f l n bad=chkF g l n bad
  | 0,g,l,n,bad,h,_=>by
    have:l=[]:=List.eq_nil_of_length_eq_zero (by omega)
    subst this; rw [chkF_nil,chkF_nil]
  | f + 1,0,l,n,bad,_,h=>by
    have:l=[]:=List.eq_nil_of_length_eq_zero (by omega)
    subst this; rw [chkF_nil,chkF_nil]
  | f + 1,g + 1,l,n,bad,h1,h2=>by
    simp only [chkF]
    split
    · rfl
    · split
      · rfl
      · have:=decodeL_width l
        exact chkF_fuel f g _ _ _ (by simp; omega) (by simp; omega)
def chk (l:List UInt8) (n:Nat) (bad:Bool):Nat:=chkF l.length l n bad
theorem chk_nil (n:Nat) (bad:Bool):chk [] n bad=finC n bad:=chkF_nil _ _ _
theorem chk_none {l:List UInt8} (hl:l≠[]) (h:noRune l=true) (n:Nat) (bad:Bool):chk l n bad=11:=by
  unfold chk
  cases l with
  | nil=>exact absurd rfl hl
  | cons x l=>rw [List.length_cons,chkF,if_neg hl,if_pos h]
theorem chk_some {l:List UInt8} (hl:l≠[]) (h:noRune l=false) (n:Nat) (bad:Bool):chk l n bad=chk (l.drop (decodeL l).2) (n + 1) (bad || wrongR (decodeL l).1):=by
  have hw:=decodeL_width l
  unfold chk
  cases l with
  | nil=>exact absurd rfl hl
  | cons x l =>
    rw [List.length_cons,chkF,if_neg hl,if_neg (by simp [h])]
    exact chkF_fuel _ _ _ _ _ (by simp at hw ⊢; omega) (Nat.le_refl _)
def bad0 (l:List UInt8):Bool:=l == [] || l == [46] || l == [46,46]
def checkN (l:List UInt8):Nat:=chk l 0 (bad0 l)
def oneR (l:List UInt8):Nat × Nat:=if noRune l then (0,0) else decodeL l
def lead (b:Nat):Nat × Nat:=if 192≤b∧b < 224 then (2,b % 32) else if 224≤b∧b < 240 then (3,b % 16) else if 240≤b∧b < 248 then (4,b % 8) else (0,0)
def restF (l:List UInt8) (n:Nat):Nat→Nat→Nat→Option Nat
  | 0,_,v=>some v
  | f + 1,k,v=>if n≤k then some v else if (l.getD k 0).toNat / 64=2 then restF l n f (k + 1) (v * 64 + (l.getD k 0).toNat % 64) else none
def finO (n v:Nat):Nat × Nat:=if 1114111 < v∨(55296≤v∧v≤57343)∨(n=2∧v < 128)∨(n=3∧v < 2048)∨(n=4∧v < 65536) then (0,0) else (v,n)
def oneM (l:List UInt8):Nat × Nat :=
  if (l.getD 0 0).toNat < 128 then ((l.getD 0 0).toNat,1)
  else if (lead (l.getD 0 0).toNat).1=0∨l.length < (lead (l.getD 0 0).toNat).1 then (0,0)
  else match restF l (lead (l.getD 0 0).toNat).1 4 1 (lead (l.getD 0 0).toNat).2 with
    | none=>(0,0)
    | some v=>finO (lead (l.getD 0 0).toNat).1 v
theorem restF_end {l:List UInt8} {n k v:Nat} (h:n≤k) (f:Nat):restF l n f k v=some v:=by cases f <;> simp [restF,h]
theorem restF_bad {l:List UInt8} {n k v f:Nat} (h:k < n) (hb:¬ (l.getD k 0).toNat / 64=2):restF l n (f + 1) k v=none:=by rw [restF,if_neg (by omega),if_neg hb]
theorem restF_ok {l:List UInt8} {n k v f:Nat} (h:k < n) (hb:(l.getD k 0).toNat / 64=2):restF l n (f + 1) k v=restF l n f (k + 1) (v * 64 + (l.getD k 0).toNat % 64):=by rw [restF,if_neg (by omega),if_pos hb]
theorem oneM_ascii {l:List UInt8} (h:(l.getD 0 0).toNat < 128):oneM l=((l.getD 0 0).toNat,1):=by unfold oneM; rw [if_pos h]
theorem oneM_short {l:List UInt8} {n v:Nat} (h:¬ (l.getD 0 0).toNat < 128) (hl:lead (l.getD 0 0).toNat=(n,v)) (hn:n=0∨l.length < n):oneM l=(0,0):=by
  unfold oneM; rw [if_neg h,hl,if_pos hn]
theorem oneM_none {l:List UInt8} {n v:Nat} (h:¬ (l.getD 0 0).toNat < 128) (hl:lead (l.getD 0 0).toNat=(n,v)) (hn:¬ (n=0∨l.length < n)) (hr:restF l n 4 1 v=none):oneM l=(0,0):=by
  unfold oneM; rw [if_neg h,hl,if_neg hn]; dsimp only; rw [hr]
theorem oneM_some {l:List UInt8} {n v u:Nat} (h:¬ (l.getD 0 0).toNat < 128) (hl:lead (l.getD 0 0).toNat=(n,v)) (hn:¬ (n=0∨l.length < n)) (hr:restF l n 4 1 v=some u):oneM l=finO n u:=by
  unfold oneM; rw [if_neg h,hl,if_neg hn]; dsimp only; rw [hr]
theorem oneR_bad {l:List UInt8} (h:decodeN l.length (l.getD 0 0).toNat (l.getD 1 0).toNat (l.getD 2 0).toNat (l.getD 3 0).toNat=(65533,1)):oneR l=(0,0):=by
  unfold oneR noRune
  rw [decodeL_N,h]
  rfl
theorem oneR_ok {l:List UInt8} {r k:Nat} (h:decodeN l.length (l.getD 0 0).toNat (l.getD 1 0).toNat (l.getD 2 0).toNat (l.getD 3 0).toNat=(r,k)) (hr:r≠65533∨2≤k):oneR l=(r,k):=by
  unfold oneR noRune
  rw [decodeL_N,h]
  rw [if_neg]
  intro hc
  simp at hc
  omega
set_option maxRecDepth 10000 in
set_option maxHeartbeats 4000000 in
theorem oneM_eq (l:List UInt8) (hl:l≠[]):oneM l=oneR l:=by
  have hn:1≤l.length:=List.length_pos_iff.2 hl
  have hbad:=@oneR_bad l
  have hok:=@oneR_ok l
  have k0:=(l.getD 0 0).toNat_lt
  have k1:=(l.getD 1 0).toNat_lt
  have k2:=(l.getD 2 0).toNat_lt
  have k3:=(l.getD 3 0).toNat_lt
  unfold oneM
  generalize (l.getD 0 0).toNat=b0 at *
  have hb:b0 < 128∨(128≤b0∧b0 < 192)∨(192≤b0∧b0 < 224)∨(224≤b0∧b0 < 240)∨(240≤b0∧b0 < 248)∨(248≤b0∧b0 < 256):=by omega
  rcases hb with h | h | h | h | h | h
  · rw [if_pos h]
    exact (hok (by unfold decodeN; (repeat' split) <;> first | rfl | (exfalso; omega)) (.inl (by omega))).symm
  · rw [if_neg (by omega),if_pos (.inl (by unfold lead; rw [if_neg (by omega),if_neg (by omega),if_neg (by omega)]))]
    exact (hbad (by unfold decodeN; (repeat' split) <;> first | rfl | (exfalso; omega))).symm
  · rw [if_neg (by omega)]
    have hlead:lead b0=(2,b0 % 32):=by unfold lead; rw [if_pos h]
    rw [hlead]
    dsimp only
    simp only [restF]
    generalize (l.getD 1 0).toNat=b1 at *
    generalize (l.getD 2 0).toNat=b2 at *
    generalize (l.getD 3 0).toNat=b3 at *
    by_cases h1:l.length < 2
    · rw [if_pos (.inr h1)]; exact (hbad (by unfold decodeN; (repeat' split) <;> first | rfl | (exfalso; omega))).symm
    · rw [if_neg (by omega),if_neg (by omega)]
      by_cases h2:b1 / 64=2
      · rw [if_pos h2,if_pos (by omega)]
        dsimp only
        unfold finO
        by_cases h3:b0 % 32 * 64 + b1 % 64 < 128
        · rw [if_pos (by omega)]; exact (hbad (by unfold decodeN; (repeat' split) <;> first | rfl | (exfalso; omega))).symm
        · rw [if_neg (by omega)]; exact (hok (by unfold decodeN; (repeat' split) <;> first | rfl | (exfalso; omega)) (.inr (by omega))).symm
      · rw [if_neg h2]; exact (hbad (by unfold decodeN; (repeat' split) <;> first | rfl | (exfalso; omega))).symm
  · rw [if_neg (by omega)]
    have hlead:lead b0=(3,b0 % 16):=by unfold lead; rw [if_neg (by omega),if_pos h]
    rw [hlead]
    dsimp only
    simp only [restF]
    generalize (l.getD 1 0).toNat=b1 at *
    generalize (l.getD 2 0).toNat=b2 at *
    generalize (l.getD 3 0).toNat=b3 at *
    by_cases h1:l.length < 3
    · rw [if_pos (.inr h1)]; exact (hbad (by unfold decodeN; (repeat' split) <;> first | rfl | (exfalso; omega))).symm
    · rw [if_neg (by omega),if_neg (by omega)]
      by_cases h2:b1 / 64=2
      · rw [if_pos h2,if_neg (by omega)]
        by_cases h3:b2 / 64=2
        · rw [if_pos h3,if_pos (by omega)]
          dsimp only
          unfold finO
          rw [show (b0 % 16 * 64 + b1 % 64) * 64 + b2 % 64=b0 % 16 * 4096 + b1 % 64 * 64 + b2 % 64 by omega]
          by_cases h4:b0 % 16 * 4096 + b1 % 64 * 64 + b2 % 64 < 2048∨(55296≤b0 % 16 * 4096 + b1 % 64 * 64 + b2 % 64∧b0 % 16 * 4096 + b1 % 64 * 64 + b2 % 64≤57343)
          · rw [if_pos (by omega)]; exact (hbad (by unfold decodeN; (repeat' split) <;> first | rfl | (exfalso; omega))).symm
          · rw [if_neg (by omega)]; exact (hok (by unfold decodeN; (repeat' split) <;> first | rfl | (exfalso; omega)) (.inr (by omega))).symm
        · rw [if_neg h3]; exact (hbad (by unfold decodeN; (repeat' split) <;> first | rfl | (exfalso; omega))).symm
      · rw [if_neg h2]; exact (hbad (by unfold decodeN; (repeat' split) <;> first | rfl | (exfalso; omega))).symm
  · rw [if_neg (by omega)]
    have hlead:lead b0=(4,b0 % 8):=by unfold lead; rw [if_neg (by omega),if_neg (by omega),if_pos h]
    rw [hlead]
    dsimp only
    simp only [restF]
    generalize (l.getD 1 0).toNat=b1 at *
    generalize (l.getD 2 0).toNat=b2 at *
    generalize (l.getD 3 0).toNat=b3 at *
    by_cases h1:l.length < 4
    · rw [if_pos (.inr h1)]; exact (hbad (by unfold decodeN; (repeat' split) <;> first | rfl | (exfalso; omega))).symm
    · rw [if_neg (by omega),if_neg (by omega)]
      by_cases h2:b1 / 64=2
      · rw [if_pos h2,if_neg (by omega)]
        by_cases h3:b2 / 64=2
        · rw [if_pos h3,if_neg (by omega)]
          by_cases h5:b3 / 64=2
          · rw [if_pos h5,if_pos (by omega)]
            dsimp only
            unfold finO
            rw [show ((b0 % 8 * 64 + b1 % 64) * 64 + b2 % 64) * 64 + b3 % 64=b0 % 8 * 262144 + b1 % 64 * 4096 + b2 % 64 * 64 + b3 % 64 by omega]
            by_cases h4:b0 % 8 * 262144 + b1 % 64 * 4096 + b2 % 64 * 64 + b3 % 64 < 65536∨1114111 < b0 % 8 * 262144 + b1 % 64 * 4096 + b2 % 64 * 64 + b3 % 64
            · rw [if_pos (by omega)]; exact (hbad (by unfold decodeN; (repeat' split) <;> first | rfl | (exfalso; omega))).symm
            · rw [if_neg (by omega)]; exact (hok (by unfold decodeN; (repeat' split) <;> first | rfl | (exfalso; omega)) (.inr (by omega))).symm
          · rw [if_neg h5]; exact (hbad (by unfold decodeN; (repeat' split) <;> first | rfl | (exfalso; omega))).symm
        · rw [if_neg h3]; exact (hbad (by unfold decodeN; (repeat' split) <;> first | rfl | (exfalso; omega))).symm
      · rw [if_neg h2]; exact (hbad (by unfold decodeN; (repeat' split) <;> first | rfl | (exfalso; omega))).symm
  · rw [if_neg (by omega),if_pos (.inl (by unfold lead; rw [if_neg (by omega),if_neg (by omega),if_neg (by omega)]))]
    exact (hbad (by unfold decodeN; (repeat' split) <;> first | rfl | (exfalso; omega))).symm
def splitL:List UInt8→List (List UInt8)
  | []=>[[]]
  | c::l=>if c=47 then []::splitL l else match splitL l with
    | p::ps=>(c::p)::ps
    | []=>[[c]]
theorem splitL_ne (l:List UInt8):splitL l≠[]:=by
  cases l with
  | nil=>simp [splitL]
  | cons c l =>
    unfold splitL
    split
    · simp
    · split <;> simp
theorem splitL_len (l:List UInt8):(splitL l).length≤l.length + 1:=by
  induction l with
  | nil=>simp [splitL]
  | cons c l ih =>
    unfold splitL
    split
    · simp; omega
    · split
      · rename_i p ps h; rw [h] at ih; simp at ih ⊢; omega
      · simp
def joinL:List (List UInt8)→List UInt8
  | []=>[]
  | [x]=>x
  | x::y::r=>x++47::joinL (y::r)
end Go.Proofs.YthkdkmaacjpneaaGreatDoor
namespace Go.Proofs.YthkdkmaacjpneaaGreatDoor
open Go.RowKit Go.Lib
def tabsP:HP:=fun h=>∀ w,In h w→Lib.Utf8Tabs (ren.g 3) (ren.g 4) w∧extraV w
theorem tabs_le {h h':Hlt} (hl:∀ g o,h' g=some o→h g=some o) (ht:tabsP h'):tabsP h:=fun w hi=>ht w fun g o hg=>hi g o (hl g o hg)
theorem ts9 {Js:List HP} {P:HP} (k:Nat) (hk:Js[k]?=some P) (hp:∀ h,P h→tabsP h):∀ h,starL Js h→tabsP h:=fun h ⟨hs,h1,_,h3⟩ =>
  tabs_le (h3 k) (hp _ (h1 k P hk))
theorem orig_tabs {W:World} (h1:Lib.Utf8Tabs (ren.g 3) (ren.g 4) W) (h2:extraV W):∀ h,orig W h→tabsP h:=fun h ho w hi=>by
  have hk:∀ (g:Nat) (o:Obj),W.heap[g]?=some o→w.heap[g]?=some o:=fun g o hg=>hi g o (ho g o hg)
  exact ⟨⟨fun c hc=>cell_keep hk (h1.1 c hc),fun i hi=>⟨cell_keep hk (h1.2 i hi).1,cell_keep hk (h1.2 i hi).2⟩⟩,extra_keep hk h2⟩
theorem callsS_below {P:Program} {f:FuncId} {args:Array Value} {F:HP} {r:Value} (h:∀ w,(∃ h,F h∧In h w)→Calls P f args w fun e w'=>e = .returned r∧Below w.heap.size w w'):CallsS P f args F [] (fun v Ps=>v=r∧Ps=[]):=fun E w hS=>by
  have hr:look (En 0 [F]) 0=some F:=rfl
  refine (h w (hS.read hr)).mono fun e w' ⟨he,hb⟩=>⟨r,[],he,⟨rfl,rfl⟩,hS.same ⟨hb.os,hb.tape,hb.output,hb.size,fun k hk _=>hb.block k hk⟩⟩
theorem callsS_same {P:Program} {f:FuncId} {args:Array Value} {F:HP} {r:Value} (h:∀ w,Calls P f args w fun e w'=>e = .returned r∧w'=w):CallsS P f args F [] (fun v Ps=>v=r∧Ps=[]) :=
  callsS_below fun w _=>(h w).mono fun e w' ⟨he,hw⟩=>⟨he,hw ▸ Below.refl _ _⟩
theorem strB_dataL (l:List UInt8):(strB l).data.toList=l:=by simp [strB]
theorem decode_spec (l:List UInt8) (hl:l≠[]) (F:HP) (hF:∀ h,F h→tabsP h):CallsS Tryz.prog 125 #[sV l] F [] (fun v Ps=>v = .tuple #[.int .i32 ((decodeL l).1:Int),.int .i64 ((decodeL l).2:Int)]∧Ps=[]) :=
  callsS_below fun w ⟨h,hp,hi⟩=>by
    have:=Any.utf8_DecodeRuneInString lays197 (strB l) w (hF h hp w hi).1
    have hn:¬ (strB l).size=0:=by rw [strB_size]; intro hc; exact hl (List.eq_nil_of_length_eq_zero hc)
    have hd:decodeGo (strB l)=decodeL l:=by unfold decodeGo decodeL; rw [if_neg hn]; rfl
    rw [hd] at this
    exact this
end Go.Proofs.YthkdkmaacjpneaaGreatDoor
namespace Go.Proofs.YthkdkmaacjpneaaGreatDoor.TI
end Go.Proofs.YthkdkmaacjpneaaGreatDoor.TI
namespace Go.Proofs.YthkdkmaacjpneaaGreatDoor
open Go.RowKit Go.Lib
set_option maxRecDepth 8000

theorem bool_val {a b:Bool} (h:a=b):Value.bool a=Value.bool b:=by rw [h]
theorem int_val {k:IntKind} {a b:Int} (h:a=b):Value.int k a=Value.int k b:=by rw [h]
theorem wrongR_eq (r:Nat):((decide ((r:Int) < 32) || decide ((r:Int)=127)) || decide ((r:Int)=47))=wrongR r:=by
  have h1:decide ((r:Int) < 32)=decide (r < 32):=decide_eq_decide.2 (by omega)
  have h2:decide ((r:Int)=127)=(r == 127):=Bool.eq_iff_iff.2 (by simp; omega)
  have h3:decide ((r:Int)=47)=(r == 47):=Bool.eq_iff_iff.2 (by simp; omega)
  rw [h1,h2,h3]; rfl
theorem noRune_eq (l:List UInt8):(decide (((decodeL l).1:Int)=65533) && decide (((decodeL l).2:Int)≤1))=noRune l:=by
  have h1:decide (((decodeL l).1:Int)=65533)=((decodeL l).1 == 65533):=Bool.eq_iff_iff.2 (by simp; omega)
  have h2:decide (((decodeL l).2:Int)≤1)=decide ((decodeL l).2≤1):=decide_eq_decide.2 (by omega)
  rw [h1,h2]; rfl
theorem wrong_nspec (r:Nat) (F:HP):CallsS Tryz.prog 126 #[.int .i32 (r:Int)] F [] (fun v Ps=>v = .bool (wrongR r)∧Ps=[]):=by
 refine callsS_enter Tryz.func126 rfl Tryz.ntmps126 (by simp) (fun E=>?_)
 refine Q9 (R9 (G9 rfl rfl (N9 (X9 (Q9 (R9 (M9 rfl rfl (L9 rfl (Pn9 rfl rfl rfl (run_lss _ _ _ _ _ _)) (M9 rfl rfl (Lg9 rfl rfl rfl rfl (by decide) (fun hb=>(Pm9 rfl rfl)) (Lg9 rfl rfl rfl rfl (by decide) (fun hb=>(Pn9 rfl (ev_gv rfl hb) rfl (run_eql _ _ _ _ _ _))) (L9 rfl (Pu_or rfl rfl rfl) (M9 rfl rfl (Lg9 rfl rfl rfl rfl (by decide) (fun hb=>(Pm9 rfl rfl)) (Lg9 rfl rfl rfl rfl (by decide) (fun hb=>(Pn9 rfl (ev_gv rfl hb) rfl (run_eql _ _ _ _ _ _))) (L9 rfl (Pu_or rfl rfl rfl) (G9 rfl rfl (N9 (X9 ?_)))))))))))))))))))
 refine W_ret ?_
 exact Xq9 [] (Ps:=[]) (res1 Tryz.results126 rfl) rfl (by decide) ⟨bool_val (wrongR_eq r),rfl⟩
theorem check_spec (l:List UInt8) (hl:l.length≤140737488355328) (F:HP) (hF:∀ h,F h→tabsP h):CallsS Tryz.prog 90 #[sV l] F [] (fun v Ps=>v = .int .i64 (checkN l:Int)∧Ps=[]):=by
 refine callsS_enter Tryz.func90 rfl Tryz.ntmps90 (by simp) (fun E=>?_)
 refine Q9 (R9 (G9 rfl rfl (N9 (X9 (Q9 (R9 (M9 rfl rfl (L9 rfl (Pn9 rfl rfl rfl (run_strEq _ _ _ _ _)) (M9 rfl rfl (Lg9 rfl rfl rfl rfl (by decide) (fun hb=>(Pm9 rfl rfl)) (Lg9 rfl rfl rfl rfl (by decide) (fun hb=>(Pn9 rfl (ev_gv rfl hb) rfl (run_strEq _ _ _ _ _))) (L9 rfl (Pu_or rfl rfl rfl) (M9 rfl rfl (Lg9 rfl rfl rfl rfl (by decide) (fun hb=>(Pm9 rfl rfl)) (Lg9 rfl rfl rfl rfl (by decide) (fun hb=>(Pn9 rfl (ev_gv rfl hb) rfl (run_strEq _ _ _ _ _))) (L9 rfl (Pu_or rfl rfl rfl) (G9 rfl rfl (G9 rfl rfl (N9 (X9 (Q9 (Q9 (R9 (M9 rfl rfl (Lc9 rfl rfl (by decide) (OpT_range (r:=101) rfl Tryz.underlying9 rfl (fun g101=>(N9 (X9 ?_)))))))))))))))))))))))))))))
 refine W_block ?_
 refine W_loop (α:=Nat × Nat × Bool) (fun x=>[(0,sV l),(3,.int .i64 (x.2.1:Int)),(4,.bool x.2.2),(20,.pointer (some ⟨g101,0,none⟩))]) (fun x=>[(0,F),(101,iterP g101 (strB l) x.1)]) (fun x=>chk (l.drop x.1) x.2.1 x.2.2=checkN l∧x.2.1≤x.1∧x.1≤l.length) (fun x=>l.length - x.1) ((0,0,bad0 l)) ⟨rfl,Nat.le_refl _,Nat.zero_le _⟩ (a9 rfl) (a9 rfl) (fun x hx=>?_)
 obtain ⟨hchk,hnp,hpl⟩:=hx
 refine Q9 ?_
 rcases Nat.lt_or_ge (x.1) (l.length) with hnx3 | hnx3
 ·
  have hne:l.drop x.1≠[]:=by intro hc; have:=congrArg List.length hc; simp at this; omega
  have hw:=decodeL_width (l.drop x.1)
  have hle:=decodeL_le (l.drop x.1) hne
  rw [List.length_drop] at hle
  refine R9 (Lc9 rfl rfl (by decide) (OpT_nextL (r:=101) rfl rfl rfl hnx3 ?_))
  refine (L9 rfl (Pe9 rfl rfl rfl) (N9 (X9 ?_)))
  refine Q9 ?_
  refine W_true rfl (rfl) ?_
  refine K9 (X9 ?_)
  refine W_block ?_
  refine Q9 (R9 (L9 rfl (Pe9 rfl rfl rfl) (L9 rfl (Pe9 rfl rfl rfl) (G9 rfl rfl (G9 rfl rfl (N9 (X9 (Q9 (Q9 (R9 (M9 rfl rfl (M9 rfl rfl (L9 rfl (Pu_sliceStrE (a:=x.1) rfl Tryz.underlying9 rfl (.inr ⟨_,_,_,rfl,rfl,rfl⟩) (.inl ⟨rfl,rfl⟩) (by omega) (Nat.le_refl _) (take_rest _ _)) (Lc9 rfl rfl (by decide) (Oc9 200 [0,101] [] rfl Tryz.call125 rfl rfl rfl (by decide) (by decide) (decode_spec (l.drop x.1) hne _ (ts9 0 rfl hF)) (fun v29 Ps29 hR29=>?_))))))))))))))))
  obtain ⟨rfl,rfl⟩:=hR29
  refine (M9 rfl rfl (L9 rfl (Pe9 rfl rfl rfl) (L9 rfl (Pe9 rfl rfl rfl) (G9 rfl rfl (G9 rfl rfl (N9 (X9 ?_)))))))
  refine Q9 (R9 (M9 rfl rfl (L9 rfl (Pn9 rfl rfl rfl (run_eql _ _ _ _ _ _)) (M9 rfl rfl (Lg9 rfl rfl rfl rfl (by decide) (fun hb=>(Pm9 rfl rfl)) (Lg9 rfl rfl rfl rfl (by decide) (fun hb=>(Pn9 rfl (ev_gv rfl hb) rfl (run_leq _ _ _ _ _ _))) (L9 rfl (Pu_and rfl rfl rfl) (N9 (X9 ?_)))))))))
  refine C9 rfl (fun hc37=>?_) (fun hc37=>?_)
  ·
   rw [noRune_eq] at hc37
   refine Q9 (R9 (G9 rfl rfl (N9 (X9 ?_))))
   refine W_ret (X_then_ret (X_block_ret (X_then_ret (X_block_ret (X_then_ret ?_)))))
   exact Xq9 [] (Ps:=[]) (res1 Tryz.results90 rfl) rfl (by decide) ⟨by rw [← hchk,chk_none hne hc37]; rfl,rfl⟩
  ·
   rw [noRune_eq] at hc37
   have hno:=hc37
   refine K9 (X9 ?_)
   refine Q9 (R9 (M9 rfl rfl (L9 rfl (Pn9 rfl rfl rfl (run_add _ _ _ _ _ (by omega))) (G9 rfl rfl (N9 (X9 ?_))))))
   rcases Bool.eq_false_or_eq_true (x.2.2) with hsp9 | hsp9
   ·
    refine R9 (M9 rfl rfl (M9 rfl rfl (WL_gF rfl rfl rfl (by rw [hsp9]; rfl) rfl (by decide) (WL_gF rfl rfl rfl (by rw [hsp9]; rfl) rfl (by decide) (L9 rfl (Pu_pickT rfl rfl hsp9 rfl) (G9 rfl rfl (N9 (X_block ?_))))))))
    exact Xr9 (x.1 + (decodeL (l.drop x.1)).2,x.2.1 + 1,(x.2.2 || wrongR (decodeL (l.drop x.1)).1)) ⟨by rw [← hchk,chk_some hne hno,List.drop_drop],by show x.2.1 + 1≤x.1 + _; omega,by show x.1 + _≤l.length; omega⟩ (by show l.length - (x.1 + _) < l.length - x.1; omega) ⟨rfl,rfl,congrArg some (show Value.bool true=Value.bool (x.2.2 || wrongR (decodeL (l.drop x.1)).1) by rw [hsp9]; rfl),rfl,trivial⟩ (a9 rfl)
   ·
    refine R9 (M9 rfl rfl (M9 rfl rfl (WL_gPT rfl rfl rfl (by rw [hsp9]; rfl) rfl (by decide) (Pm9 rfl rfl) (WL_gT rfl rfl rfl (by rw [hsp9]; rfl) rfl (by decide) (Oc9 300 [0,101] [] rfl Tryz.call126 rfl rfl rfl (by decide) (by decide) (wrong_nspec (decodeL (l.drop x.1)).1 _) (fun v43 Ps43 hR43=>?_))))))
    obtain ⟨rfl,rfl⟩:=hR43
    refine (L9 rfl (Pu_pickF rfl rfl hsp9 rfl) (G9 rfl rfl (N9 (X_block ?_))))
    exact Xr9 (x.1 + (decodeL (l.drop x.1)).2,x.2.1 + 1,(x.2.2 || wrongR (decodeL (l.drop x.1)).1)) ⟨by rw [← hchk,chk_some hne hno,List.drop_drop],by show x.2.1 + 1≤x.1 + _; omega,by show x.1 + _≤l.length; omega⟩ (by show l.length - (x.1 + _) < l.length - x.1; omega) ⟨rfl,rfl,congrArg some (show Value.bool (wrongR (decodeL (l.drop x.1)).1)=Value.bool (x.2.2 || wrongR (decodeL (l.drop x.1)).1) by rw [hsp9]; rfl),rfl,trivial⟩ (a9 rfl)
 ·
  have hend:l.drop x.1=[]:=List.drop_of_length_le hnx3
  rw [hend,chk_nil] at hchk
  refine R9 (Lc9 rfl rfl (by decide) (OpT_nextLE (r:=101) rfl rfl rfl hnx3 ?_))
  refine (L9 rfl (Pe9 rfl rfl rfl) (N9 (X9 ?_)))
  refine Q9 ?_
  refine W_false rfl (rfl) ?_
  refine W_exit (X_then_exit (X_then_exit (X_block_exit (X9 ?_))))
  refine Q9 ?_
  refine W_block ?_
  refine Q9 (R9 (M9 rfl rfl (G9 rfl rfl (N9 (X9 ?_)))))
  refine C9 rfl (fun hc45=>?_) (fun hc45=>?_)
  ·
   have hb:=hc45
   refine Q9 (R9 (G9 rfl rfl (N9 (X9 ?_))))
   refine W_ret (X_block_ret (X_then_ret ?_))
   exact Xq9 [] (Ps:=[]) (res1 Tryz.results90 rfl) rfl (by decide) ⟨by rw [← hchk,finC,hb]; rfl,rfl⟩
  ·
   have hb:=hc45
   refine Q9 (R9 (M9 rfl rfl (L9 rfl (Pn9 rfl rfl rfl (run_gtr _ _ _ _ _ _)) (G9 rfl rfl (N9 (X9 ?_))))))
   refine C9 rfl (fun hc47=>?_) (fun hc47=>?_)
   ·
    have hb2:=of_decide_eq_true hc47
    refine Q9 (R9 (G9 rfl rfl (N9 (X9 ?_))))
    refine W_ret (X_block_ret (X_then_ret ?_))
    exact Xq9 [] (Ps:=[]) (res1 Tryz.results90 rfl) rfl (by decide) ⟨by rw [← hchk,finC,hb,if_neg (by decide),if_pos (by omega)]; rfl,rfl⟩
   ·
    have hb2:=of_decide_eq_false hc47
    refine K9 (X_block (X9 ?_))
    refine Q9 (R9 (G9 rfl rfl (N9 (X9 ?_))))
    refine W_ret ?_
    exact Xq9 [] (Ps:=[]) (res1 Tryz.results90 rfl) rfl (by decide) ⟨by rw [← hchk,finC,hb,if_neg (by decide),if_neg (by omega)]; rfl,rfl⟩
end Go.Proofs.YthkdkmaacjpneaaGreatDoor
namespace Go.Proofs.YthkdkmaacjpneaaGreatDoor
open Go.RowKit Go.Lib
def firstBad:List (List UInt8)→Nat
  | []=>0
  | x::r=>if checkN x≠0 then checkN x else firstBad r
def allN (ls:List (List UInt8)):Nat:=if 5 < ls.length then 4 else firstBad ls
theorem firstBad_at {ls:List (List UInt8)} {k:Nat} (h:k < ls.length):firstBad (ls.drop k)=if checkN (ls.getD k [])≠0 then checkN (ls.getD k []) else firstBad (ls.drop (k + 1)):=by
  rw [List.drop_eq_getElem_cons h,firstBad]
  simp [List.getElem?_eq_getElem h]
theorem firstBad_bad {ls:List (List UInt8)} {k:Nat} (h:k < ls.length) (hc:¬ (checkN (ls.getD k []):Int)=0):firstBad (ls.drop k)=checkN (ls.getD k []):=by
  rw [firstBad_at h,if_pos (by omega)]
theorem firstBad_good {ls:List (List UInt8)} {k:Nat} (h:k < ls.length) (hc:(checkN (ls.getD k []):Int)=0):firstBad (ls.drop k)=firstBad (ls.drop (k + 1)):=by
  rw [firstBad_at h,if_neg (by omega)]
theorem firstBad_end {ls:List (List UInt8)} {k:Nat} (h:ls.length≤k):firstBad (ls.drop k)=0:=by rw [List.drop_of_length_le h]; rfl
def noPath (l:List UInt8):Bool:=!(([47]:List UInt8).isPrefixOf l) || ([47]:List UInt8).isSuffixOf l
def splitN (l:List UInt8):List (List UInt8) × Nat :=
  if l=[47] then ([],0) else if noPath l then ([],10) else if allN (splitL (l.drop 1))≠0 then ([],allN (splitL (l.drop 1))) else (splitL (l.drop 1),0)
def joinN (ls:List (List UInt8)):List UInt8 × Nat:=if allN ls≠0 then ([],allN ls) else (47::joinL ls,0)
theorem splitL_mem {l x:List UInt8} (h:x ∈ splitL l):x.length≤l.length:=by
  induction l generalizing x with
  | nil=>simp [splitL] at h; subst h; simp
  | cons c l ih =>
    unfold splitL at h
    split at h
    · rcases List.mem_cons.1 h with h | h
      · subst h; simp
      · have:=ih h; simp; omega
    · split at h
      · rename_i p ps hp
        rcases List.mem_cons.1 h with h | h
        · subst h
          have:=ih (x:=p) (by rw [hp]; simp)
          simp; omega
        · have:=ih (x:=x) (by rw [hp]; simp [h])
          simp; omega
      · simp at h; subst h; simp
def splitG:List UInt8→List UInt8→List (List UInt8)
  | cur,[]=>[cur]
  | cur,c::r=>if c=47 then cur::splitG [] r else splitG (cur++[c]) r
theorem splitG_eq (l:List UInt8):∀ cur,splitG cur l=match splitL l with | p::ps=>(cur++p)::ps | []=>[]:=by
  induction l with
  | nil=>intro cur; simp [splitG,splitL]
  | cons c l ih =>
    intro cur
    unfold splitG splitL
    split
    · rw [ih]
      have:=splitL_ne l
      split <;> simp_all
    · rw [ih]
      have:=splitL_ne l
      split <;> simp_all
theorem splitG_nil (l:List UInt8):splitG [] l=splitL l:=by
  rw [splitG_eq]
  have:=splitL_ne l
  split <;> simp_all
theorem drop_cons {l:List UInt8} {k:Nat} (h:k < l.length):l.drop k=at0 l k::l.drop (k + 1):=by
  rw [List.drop_eq_getElem_cons h]
  simp [at0,List.getElem?_eq_getElem h]
theorem take_more {l:List UInt8} {a k:Nat} (ha:a≤k) (h:k < l.length):(l.drop a).take (k + 1 - a)=(l.drop a).take (k - a)++[at0 l k]:=by
  rw [show k + 1 - a=(k - a) + 1 by omega,List.take_add_one,List.getElem?_drop,show a + (k - a)=k by omega,List.getElem?_eq_getElem h]
  simp [at0,List.getElem?_eq_getElem h]
theorem splitG_stroke {l:List UInt8} {k:Nat} (h:k < l.length) (hc:at0 l k=47) (cur:List UInt8):splitG cur (l.drop k)=cur::splitG [] (l.drop (k + 1)):=by
  rw [drop_cons h,splitG,if_pos hc]
theorem splitG_more {l:List UInt8} {k:Nat} (h:k < l.length) (hc:at0 l k≠47) (cur:List UInt8):splitG cur (l.drop k)=splitG (cur++[at0 l k]) (l.drop (k + 1)):=by
  rw [drop_cons h,splitG,if_neg hc]
theorem splitG_end {l:List UInt8} {k:Nat} (h:l.length≤k) (cur:List UInt8):splitG cur (l.drop k)=[cur]:=by
  rw [List.drop_of_length_le h]; rfl
theorem noPath_eq {l:List UInt8} (hl:0 < l.length):noPath l=(!(at0 l 0 == 47) || at0 l (l.length - 1) == 47):=by
  unfold noPath
  congr 1
  · cases l with
    | nil=>simp at hl
    | cons c l=>simp [List.isPrefixOf,at0]; rw [Bool.beq_comm]
  · rw [List.isSuffixOf,List.reverse_cons,List.reverse_nil,List.nil_append]
    have hr:l.reverse=at0 l (l.length - 1)::(l.reverse.drop 1):=by
      have h1:0 < l.reverse.length:=by simpa using hl
      have:=List.drop_eq_getElem_cons h1
      rw [List.drop_zero] at this
      rw [this]
      congr 1
      simp [at0,List.getElem_reverse]
      rw [List.getElem?_eq_getElem (by omega)]
      rfl
    rw [hr,List.isPrefixOf]
    simp
    rw [Bool.beq_comm]
theorem noPath_nil:noPath []=true:=rfl
def jn (ls:List (List UInt8)):List UInt8:=(ls.map (47::·)).flatten
theorem jn_join {ls:List (List UInt8)} (h:ls≠[]):jn ls=47::joinL ls:=by
  induction ls with
  | nil=>exact absurd rfl h
  | cons x r ih =>
    cases r with
    | nil=>simp [jn,joinL]
    | cons y r =>
      have:=ih (by simp)
      simp only [jn,List.map_cons,List.flatten_cons,joinL] at this ⊢
      rw [this]
      simp
theorem jn_succ {ls:List (List UInt8)} {k:Nat} (h:k < ls.length):jn (ls.take (k + 1))=(jn (ls.take k)++[47])++ls.getD k []:=by
  unfold jn
  rw [List.take_add_one,List.map_append,List.flatten_append]
  simp [List.getElem?_eq_getElem h]
theorem jn_le (ls:List (List UInt8)) (k:Nat):(jn (ls.take k)).length≤(jn ls).length:=by
  unfold jn
  conv=>rhs; rw [← List.take_append_drop k ls]
  rw [List.map_append,List.flatten_append,List.length_append]
  omega
theorem jn_nil {ls:List (List UInt8)}:jn ls=[] ↔ ls=[]:=by
  cases ls <;> simp [jn]
theorem jn_mem {ls:List (List UInt8)} {x:List UInt8} (h:x ∈ ls):x.length≤(jn ls).length:=by
  induction ls with
  | nil=>cases h
  | cons y r ih =>
    simp only [jn,List.map_cons,List.flatten_cons,List.length_append,List.length_cons]
    rcases List.mem_cons.1 h with h | h
    · subst h; omega
    · have:=ih h; unfold jn at this; omega
theorem getD_mem {ls:List (List UInt8)} {k:Nat} (h:k < ls.length):ls.getD k [] ∈ ls:=by simp [List.getElem?_eq_getElem h]
theorem joinN_eq (ls:List (List UInt8)):joinN ls=if allN ls≠0 then ([],allN ls) else if jn ls=[] then ([47],0) else (jn ls,0):=by
  unfold joinN
  by_cases h:ls=[]
  · subst h; rfl
  · have:¬ jn ls=[]:=fun hc=>h (jn_nil.1 hc)
    rw [if_neg this,jn_join h]
end Go.Proofs.YthkdkmaacjpneaaGreatDoor
namespace Go.Proofs.YthkdkmaacjpneaaGreatDoor
open Go.RowKit Go.Lib
set_option maxRecDepth 8000

end Go.Proofs.YthkdkmaacjpneaaGreatDoor
namespace Go.Proofs.YthkdkmaacjpneaaGreatDoor
open Go.RowKit Go.Lib
theorem splitL_none {x:List UInt8} (h:(47:UInt8) ∉ x):splitL x=[x]:=by
  induction x with
  | nil=>rfl
  | cons c x ih =>
    rw [splitL,if_neg (fun hc=>h (by simp [hc])),ih (fun hc=>h (by simp [hc]))]
theorem splitL_app {x:List UInt8} (h:(47:UInt8) ∉ x) (t:List UInt8):splitL (x++47::t)=x::splitL t:=by
  induction x with
  | nil=>simp [splitL]
  | cons c x ih =>
    rw [List.cons_append,splitL,if_neg (fun hc=>h (by simp [hc])),ih (fun hc=>h (by simp [hc]))]
theorem splitL_join {ls:List (List UInt8)} (hne:ls≠[]) (h:∀ x ∈ ls,(47:UInt8) ∉ x):splitL (joinL ls)=ls:=by
  induction ls with
  | nil=>exact absurd rfl hne
  | cons x r ih =>
    cases r with
    | nil=>exact splitL_none (h x (by simp))
    | cons y r =>
      rw [joinL,splitL_app (h x (by simp)),ih (by simp) fun z hz=>h z (List.mem_cons_of_mem _ hz)]
theorem noPath_join {ls:List (List UInt8)} (hne:ls≠[]) (h:∀ x ∈ ls,(47:UInt8) ∉ x∧x≠[]):noPath (47::joinL ls)=false∧joinL ls≠[]:=by
  have key:∀ ls:List (List UInt8),ls≠[]→(∀ x ∈ ls,(47:UInt8) ∉ x∧x≠[])→∃ t c,joinL ls=t++[c]∧c≠47:=by
    intro ls
    induction ls with
    | nil=>intro h; exact absurd rfl h
    | cons x r ih =>
      intro _ h
      cases r with
      | nil =>
        obtain ⟨h1,h2⟩:=h x (by simp)
        refine ⟨x.dropLast,x.getLast h2,(List.dropLast_concat_getLast h2).symm,fun hc=>h1 (hc ▸ List.getLast_mem h2)⟩
      | cons y r =>
        obtain ⟨t,c,ht,hc⟩:=ih (by simp) fun z hz=>h z (List.mem_cons_of_mem _ hz)
        exact ⟨x++47::t,c,by rw [joinL,ht]; simp,hc⟩
  obtain ⟨t,c,ht,hc⟩:=key ls hne h
  constructor
  · rw [ht]
    unfold noPath
    simp [List.isPrefixOf,List.isSuffixOf]
    exact fun h=>hc h.symm
  · rw [ht]; simp
theorem split_join {ls:List (List UInt8)} (hne:ls≠[]) (h:∀ x ∈ ls,(47:UInt8) ∉ x∧x≠[]):splitN (47::joinL ls)=if allN ls≠0 then ([],allN ls) else (ls,0):=by
  obtain ⟨h1,h2⟩:=noPath_join hne h
  unfold splitN
  rw [if_neg (by simp [h2]),if_neg (by simp [h1]),List.drop_succ_cons,List.drop_zero,splitL_join hne fun x hx=>(h x hx).1]
end Go.Proofs.YthkdkmaacjpneaaGreatDoor
namespace Go.Proofs.YthkdkmaacjpneaaGreatDoor
def all8:Nat→Int
  | 0=>64
  | n + 1=>all8 n * 8
theorem all8_succ (n:Nat):all8 n * 8=all8 (n + 1):=rfl
theorem all8_pos (n:Nat):0 < all8 n:=by
  induction n with
  | zero=>decide
  | succ n ih=>simp only [all8]; omega
theorem all8_mono (n:Nat):∀ k,all8 n≤all8 (n + k)
  | 0=>Int.le_refl _
  | k + 1=>by have:=all8_mono n k; have h0:=all8_pos (n + k); show _≤all8 (n + k) * 8; omega
theorem all8_le {n:Nat} (h:n≤7):all8 n≤134217728:=by
  have:=all8_mono n (7 - n)
  rw [show n + (7 - n)=7 by omega] at this
  exact this
def lev (size:Int):Nat :=
  if size≤64 then 0 else if size≤512 then 1 else if size≤4096 then 2 else if size≤32768 then 3 else if size≤262144 then 4 else if size≤2097152 then 5 else if size≤16777216 then 6 else 7
theorem lev_of {size:Int} {n:Nat} (h7:n≤7) (hlo:n=0∨all8 (n - 1) < size) (hhi:(decide (all8 n < size) && decide ((n:Int) < 7))=false):lev size=n:=by
  have h:size≤all8 n∨n=7:=by simp at hhi; omega
  clear hhi
  have:n=0∨n=1∨n=2∨n=3∨n=4∨n=5∨n=6∨n=7:=by omega
  unfold lev
  rcases this with rfl | rfl | rfl | rfl | rfl | rfl | rfl | rfl <;> simp [all8] at hlo h <;> (repeat' split) <;> omega
def numB (n:Int) (sz:Nat):List UInt8:=(List.range sz).map fun j=>byte (n.fdiv (2 ^ (8 * (sz - 1 - j))))
def numTo (n:Int) (sz k:Nat):List UInt8:=(List.range sz).map fun j=>if sz - k≤j then byte (n.fdiv (2 ^ (8 * (sz - 1 - j)))) else 0
theorem numB_length (n:Int) (sz:Nat):(numB n sz).length=sz:=by simp [numB]
theorem numTo_length (n:Int) (sz k:Nat):(numTo n sz k).length=sz:=by simp [numTo]
theorem numTo_zero (n:Int) (sz:Nat):bs (numTo n sz 0)=List.replicate sz (.int .u8 0):=by
  apply List.ext_getElem?
  intro j
  simp only [bs,numTo,List.map_map]
  rw [List.getElem?_map]
  by_cases hj:j < sz
  · rw [List.getElem?_range hj,List.getElem?_replicate]
    simp only [Option.map_some,hj,if_true,Nat.sub_zero]
    show some (bv (if sz≤j then _ else 0))=_
    rw [if_neg (by omega)]
    rfl
  · rw [List.getElem?_eq_none (by simpa using hj),List.getElem?_eq_none (by simpa using hj)]
    rfl
theorem numTo_all (n:Int) (sz k:Nat) (hk:k≤sz) (h:¬ (k:Int) < (sz:Int)):numTo n sz k=numB n sz:=by
  unfold numTo numB
  apply List.map_congr_left
  intro j _
  rw [if_pos (by omega)]
theorem numTo_set (n:Int) (sz k:Nat) (h:k < sz):(bs (numTo n sz k)).set ((sz:Int) - 1 - (k:Int)).toNat (bv (byte (n.fdiv (2 ^ (8 * k)))))=bs (numTo n sz (k + 1)):=by
  have e:((sz:Int) - 1 - (k:Int)).toNat=sz - 1 - k:=by omega
  rw [e]
  apply List.ext_getElem?
  intro j
  rw [List.getElem?_set,bs_get,bs_get]
  unfold numTo
  rw [List.getElem?_map,List.getElem?_map]
  by_cases hj:j < sz
  · rw [List.getElem?_range hj]
    by_cases h1:sz - 1 - k=j
    · subst h1
      simp only [Option.map_some,if_true]
      rw [if_pos (by rw [bs_length,List.length_map,List.length_range]; omega),if_pos (by omega),show sz - 1 - (sz - 1 - k)=k by omega]
    · rw [if_neg h1]
      simp only [Option.map_some]
      by_cases h2:sz - k≤j
      · rw [if_pos h2,if_pos (by omega)]
      · rw [if_neg h2,if_neg (by omega)]
  · rw [List.getElem?_eq_none (by simpa using hj)]
    simp
    omega
theorem of_and_l {p q:Prop} [Decidable p] [Decidable q] (h:(decide p && decide q)=true):p:=by simp at h; exact h.1
theorem of_and_r {p q:Prop} [Decidable p] [Decidable q] (h:(decide p && decide q)=true):q:=by simp at h; exact h.2
def nodeC (k s l:Int) (top:List UInt8):List Value:=[.int .i64 k,.int .i64 s,.int .i64 l]++bs top
def nodeV (k s l:Int) (top:List UInt8):Value:=.agg (nodeC k s l top).toArray
def wrongB (s l:Int) (top:List UInt8):Bool:=decide (s < 0) || decide (1048576 < s) || !decide (l=(lev s:Int)) || decide (s=0) && !(top == zeroId)
def wrongN (k s l:Int) (top:List UInt8):Int:=if k≠1∧k≠2 then 3 else if wrongB s l top then 1 else 0
theorem wrongN_kind {k s l:Int} {top:List UInt8} (h:(!decide (k=1) && !decide (k=2))=true):3=wrongN k s l top:=by
  simp at h; unfold wrongN; rw [if_pos h]
theorem wrongN_bad {k s l:Int} {top:List UInt8} (h:(!decide (k=1) && !decide (k=2))=false) (h2:wrongB s l top=true):1=wrongN k s l top:=by
  unfold wrongN
  rw [if_neg (by simp at h; omega),if_pos h2]
theorem wrongN_ok {k s l:Int} {top:List UInt8} (h:(!decide (k=1) && !decide (k=2))=false) (h2:wrongB s l top=false):0=wrongN k s l top:=by
  unfold wrongN
  rw [if_neg (by simp at h; omega),if_neg (by simp [h2])]
def inodeB (k s l:Int) (top:List UInt8):List UInt8:=[105,byte k]++numB s 4++[byte l]++top
theorem take_top {k s l:Int} {top:List UInt8} (ht:top.length=32):((nodeC k s l top).drop 3).take 32=bs top:=by
  show (bs top).take 32=_
  rw [List.take_of_length_le (by rw [bs_length,ht]; omega)]
theorem one_node (k s l:Int) (top:List UInt8):∀ x ∈ nodeC k s l top,x.oneCell'=true:=by
  intro x hx
  simp only [nodeC,List.mem_append] at hx
  rcases hx with hx | hx
  · simp at hx; rcases hx with rfl | rfl | rfl <;> rfl
  · exact bs_one _ x hx
theorem node_over {k s l:Int} {z top:List UInt8} (hz:z.length=32) (ht:top.length=32):over (nodeC k s l z) 3 (bs top)=nodeC k s l top:=by
  have:=over_mid [Value.int .i64 k,.int .i64 s,.int .i64 l] (bs z) (bs top) [] (by rw [bs_length,bs_length,hz,ht])
  simpa [nodeC] using this
def val (l:List UInt8):Nat→Nat
  | 0=>0
  | k + 1=>val l k * 2 ^ 8 + (at0 l k).toNat
theorem val_lt (l:List UInt8):∀ k,val l k < 2 ^ (8 * k)
  | 0=>by simp [val]
  | k + 1=>by
    have:=val_lt l k
    have h:=(at0 l k).toNat_lt
    have e:2 ^ (8 * (k + 1))=2 ^ (8 * k) * 256:=by rw [Nat.mul_add,Nat.pow_add]
    rw [val,e]
    omega
theorem val_small (l:List UInt8) {k:Nat} (h:k≤7):val l k < 72057594037927936:=by
  have:=val_lt l k
  have h2:2 ^ (8 * k)≤2 ^ (8 * 7):=Nat.pow_le_pow_right (by omega) (by omega)
  omega
theorem val_take (l:List UInt8) (n:Nat):∀ k,k≤n→val (l.take n) k=val l k
  | 0,_=>rfl
  | k + 1,h=>by
    rw [val,val,val_take l n k (by omega)]
    congr 2
    simp [at0,List.getElem?_take,show k < n by omega]
def parsed (b:List UInt8):Int × Int × Int × List UInt8:=((at0 b 1).toNat,val (b.drop 2) 4,(at0 b 6).toNat,(b.drop 7).take 32)
def parseI (b:List UInt8):(Int × Int × Int × List UInt8) × Int :=
  if b.length < 39 then ((0,0,0,zeroId),8)
  else if at0 b 0≠105∨wrongN (parsed b).1 (parsed b).2.1 (parsed b).2.2.1 (parsed b).2.2.2≠0 then ((0,0,0,zeroId),11)
  else if 39 < b.length then ((0,0,0,zeroId),9)
  else (parsed b,0)
theorem node_copy {k s l:Int} {z top:List UInt8} (hz:z.length=32) (ht:top.length=32):over (nodeC k s l z) 3 ((bs top).take (min top.length 32))=nodeC k s l top:=by
  rw [List.take_of_length_le (by rw [bs_length]; omega)]
  exact node_over hz ht
theorem parsed_top {b:List UInt8} (h:39≤b.length):((b.drop 7).take 32).length=32:=by simp; omega
theorem val_lt6 (l:List UInt8) {k:Nat} (h:k≤6):val l k < 281474976710656:=by
  have:=val_lt l k
  have h2:2 ^ (8 * k)≤2 ^ (8 * 6):=Nat.pow_le_pow_right (by omega) (by omega)
  omega
theorem parseI_cut {b:List UInt8} (h:(b.length:Int) < 39):parseI b=((0,0,0,zeroId),8):=by unfold parseI; rw [if_pos (by omega)]
theorem parseI_bad {b:List UInt8} (h:39≤b.length) (h2:(!decide (((at0 b 0).toNat:Int)=105) || !decide (wrongN (parsed b).1 (parsed b).2.1 (parsed b).2.2.1 (parsed b).2.2.2=0))=true):parseI b=((0,0,0,zeroId),11):=by
  unfold parseI
  rw [if_neg (by omega),if_pos]
  simp at h2
  rcases h2 with h2 | h2
  · left; intro e; rw [e] at h2; exact h2 rfl
  · exact .inr h2
theorem parseI_good {b:List UInt8} (h2:(!decide (((at0 b 0).toNat:Int)=105) || !decide (wrongN (parsed b).1 (parsed b).2.1 (parsed b).2.2.1 (parsed b).2.2.2=0))=false):¬ (at0 b 0≠105∨wrongN (parsed b).1 (parsed b).2.1 (parsed b).2.2.1 (parsed b).2.2.2≠0):=by
  simp at h2
  intro h
  rcases h with h | h
  · exact h (UInt8.toNat_inj.1 (by have:=h2.1; simp; omega))
  · exact h h2.2
theorem parseI_more {b:List UInt8} (h:39≤b.length) (h2:(!decide (((at0 b 0).toNat:Int)=105) || !decide (wrongN (parsed b).1 (parsed b).2.1 (parsed b).2.2.1 (parsed b).2.2.2=0))=false) (h3:decide ((39:Int) < (b.length:Int))=true):parseI b=((0,0,0,zeroId),9):=by
  have:=of_decide_eq_true h3
  unfold parseI
  rw [if_neg (by omega),if_neg (parseI_good h2),if_pos (by omega)]
theorem parseI_ok {b:List UInt8} (h:39≤b.length) (h2:(!decide (((at0 b 0).toNat:Int)=105) || !decide (wrongN (parsed b).1 (parsed b).2.1 (parsed b).2.2.1 (parsed b).2.2.2=0))=false) (h3:decide ((39:Int) < (b.length:Int))=false):parseI b=(parsed b,0):=by
  have:=of_decide_eq_false h3
  unfold parseI
  rw [if_neg (by omega),if_neg (parseI_good h2),if_neg (by omega)]
def inodeR (k s l:Int) (top:List UInt8):List UInt8:=if wrongN k s l top=0 then inodeB k s l top else []
open Go.RowKit

theorem levels_spec (size:Int) (F:HP):CallsS Tryz.prog 152 #[.int .i64 size] F [] (fun v Ps=>v = .int .i64 (lev size:Int)∧Ps=[]):=by
 refine callsS_enter Tryz.func152 rfl Tryz.ntmps152 (by simp) (fun E=>?_)
 refine Q9 (R9 (G9 rfl rfl (N9 (X9 (Q9 (R9 (G9 rfl rfl (N9 (X9 (Q9 (Q9 (R9 (G9 rfl rfl (N9 (X9 ?_)))))))))))))))
 refine W_block ?_
 refine W_loop (α:=Nat) (fun n=>[(0,.int .i64 size),(3,.int .i64 (n:Int)),(4,.int .i64 (all8 n))]) (fun n=>[(0,F)]) (fun n=>n≤7∧(n=0∨all8 (n - 1) < size)) (fun n=>7 - n) (0) ⟨by omega,.inl rfl⟩ (a9 rfl) ⟨rfl,trivial⟩ (fun x hx=>?_)
 obtain ⟨h7,hlo⟩:=hx
 have hb:=all8_le h7
 have h0:=all8_pos x
 refine Q9 (Q9 (R9 (M9 rfl rfl (M9 rfl rfl (L9 rfl (Pn9 rfl rfl rfl (run_lss _ _ _ _ _ _)) (M9 rfl rfl (Lg9 rfl rfl rfl rfl (by decide) (fun hb=>(Pm9 rfl rfl)) (Lg9 rfl rfl rfl rfl (by decide) (fun hb=>(Pn9 rfl (ev_gv rfl hb) rfl (run_lss _ _ _ _ _ _))) (L9 rfl (Pu_and rfl rfl rfl) (N9 (X9 ?_)))))))))))
 refine C9 rfl (fun hc11=>?_) (fun hc11=>?_)
 ·
  refine K9 (X9 ?_)
  refine Q9 ?_
  refine W_block ?_
  refine R9 (M9 rfl rfl (L9 rfl (Pn9 rfl rfl rfl (run_add _ _ _ _ _ (by omega))) (G9 rfl rfl (N9 (X_block (X9 (R9 (M9 rfl rfl (L9 rfl (Pn9 rfl rfl rfl (run_mul _ _ _ _ _ (by omega))) (G9 rfl rfl (N9 ?_)))))))))))
  rw [all8_succ]
  exact Xr9 (x + 1) ⟨by have h8:=of_and_r hc11; omega,.inr (by simpa using of_and_l hc11)⟩ (by have h8:=of_and_r hc11; omega) (a9 rfl) ⟨rfl,trivial⟩
 ·
  refine W_exit (X_then_exit (X_then_exit (X_block_exit (X9 ?_))))
  refine Q9 (R9 (M9 rfl rfl (G9 rfl rfl (N9 (X9 ?_)))))
  refine W_ret ?_
  exact Xq9 [] (Ps:=[]) (res1 Tryz.results152 rfl) rfl (by decide) ⟨by rw [lev_of h7 hlo hc11],rfl⟩
open Go.RowKit
set_option maxRecDepth 8000

theorem number_spec (n:Int) (sz:Nat) (hsz:sz≤8) (F:HP):CallsS Tryz.prog 129 #[.int .i64 n,.int .i64 (sz:Int)] F [] (fun v Ps=>Ps=[rowP 5 1 v sz (bs (numB n sz))]):=by
 refine callsS_enter Tryz.func129 rfl Tryz.ntmps129 (by simp) (fun E=>?_)
 refine Q9 (R9 (G9 rfl rfl (N9 (X9 (Q9 (R9 (M9 rfl rfl (Lc9 rfl rfl (by decide) (OpT_make (r:=101) (m:=sz) rfl Tryz.underlying36 TI.hi5 TI.hz5 TI.hs5 rfl rfl (by rw [TI.hby5]; omega) (by unfold maxLen; omega) (made_one _ _) (fun v8=>?_))))))))))
 refine (G9 rfl rfl (N9 (X9 ?_)))
 refine Q9 (Q9 (R9 (M9 rfl rfl (L9 rfl (Pl9 (r:=101) rfl Tryz.runUnderlying36 rfl rfl (fun _ h=>rp9 h)) (M9 rfl rfl (N9 (X9 ?_)))))))
 refine W_block ?_
 refine W_loop (α:=Nat) (fun k=>[(0,.int .i64 n),(1,.int .i64 (sz:Int)),(5,v8),(10,.int .i64 (sz:Int)),(11,.int .i64 (k:Int))]) (fun k=>[(0,F),(101,rowP 5 1 v8 sz (bs (numTo n sz k)))]) (fun k=>k≤sz) (fun k=>sz - k) (0) (by omega) (a9 rfl) ⟨rfl,by rw [numTo_zero]; rfl,trivial⟩ (fun x hx=>?_)
 have hlen:=numTo_length n sz x
 refine Q9 (R9 (L9 rfl (Pn9 rfl rfl rfl (run_lss _ _ _ _ _ _)) (N9 (X9 (Q9 ?_)))))
 refine C9 rfl (fun hc12=>?_) (fun hc12=>?_)
 ·
  have hlt:=of_decide_eq_true hc12
  refine K9 (X9 ?_)
  refine Q9 ?_
  refine W_block ?_
  refine Q9 (R9 (M9 rfl rfl (G9 rfl rfl (N9 (X9 (R9 (M9 rfl rfl (M9 rfl rfl (L9 rfl (Pn9 rfl rfl rfl (run_sub _ _ _ _ _ (by omega))) (M9 rfl rfl (L9 rfl (Pn9 rfl rfl rfl (run_sub _ _ _ _ _ (by omega))) (M9 rfl rfl (M9 rfl rfl (L9 rfl (Pn9 rfl rfl rfl (run_mul _ _ _ _ _ (by omega))) (L9 rfl (Pn9 rfl rfl rfl (run_shr _ (8 * x) _ _ _ (by omega))) (L9 rfl (Pu_conv rfl rfl (conv_byte _ _ Tryz.runUnderlying3 Tryz.runUnderlying5)) (L9 rfl (Pu_idxS1 (r:=101) rfl Tryz.runUnderlying36 Tryz.sizeOf5 rfl rfl rfl (fun _ h=>rp9 h) (by omega)) (Lc09 rfl rfl (OpT_storeS1 (r:=101) rfl Tryz.sizeOf5 rfl rfl rfl rfl (by rw [bs_length]; omega) (numTo_set n sz x (by omega)) ?_)))))))))))))))))))
  refine (N9 (X_block (X9 ?_)))
  refine R9 (L9 rfl (Pn9 rfl rfl rfl (run_add _ _ _ _ _ (by omega))) (M9 rfl rfl (N9 ?_)))
  exact Xr9 (x + 1) (by have:=of_decide_eq_true hc12; omega) (by have:=of_decide_eq_true hc12; omega) (a9 rfl) (a9 rfl)
 ·
  refine W_exit (X_then_exit (X_then_exit (X_block_exit (X9 ?_))))
  refine Q9 (R9 (M9 rfl rfl (G9 rfl rfl (N9 (X9 ?_)))))
  refine W_ret ?_
  exact Xq9 [101] (Ps:=[_]) (res1 Tryz.results129 rfl) rfl (by decide) (by rw [numTo_all n sz x hx (by have:=of_decide_eq_false hc12; omega)])
open Go.RowKit
set_option maxRecDepth 8000

theorem run_idEq (xs ys:List UInt8) (hx:xs.length=32) (hy:ys.length=32) (x y:Operand) (w:World):((do eqGuard .eql 29 x y (.agg (bs xs).toArray) (.agg (bs ys).toArray); binOp .eql 29 (.agg (bs xs).toArray) (.agg (bs ys).toArray):Sem Value)).run Tryz.prog w = .ok (.bool (xs == ys)) w:=by
  have h:=run_equalIn_bytes w 9998 29 5 32 Tryz.underlying29 Tryz.underlying5 (fun w=>by kernel_rfl) xs ys hx hy
  have hg:Tryz.prog.eqGuardType Tryz.prog.depth 29=false:=Tryz.eqGuardType29
  rw [show List.map Extern.Stop.cell xs=bs xs from rfl,show List.map Extern.Stop.cell ys=bs ys from rfl] at h
  simp only [Nat.reduceAdd] at h
  simp [eqGuard,binOp,Op.equal,Op.maxDepth,h,hg,program,Sem.run]
theorem run_idNe (xs ys:List UInt8) (hx:xs.length=32) (hy:ys.length=32) (x y:Operand) (w:World):((do eqGuard .neq 29 x y (.agg (bs xs).toArray) (.agg (bs ys).toArray); binOp .neq 29 (.agg (bs xs).toArray) (.agg (bs ys).toArray):Sem Value)).run Tryz.prog w = .ok (.bool (!(xs == ys))) w:=by
  have h:=run_equalIn_bytes w 9998 29 5 32 Tryz.underlying29 Tryz.underlying5 (fun w=>by kernel_rfl) xs ys hx hy
  have hg:Tryz.prog.eqGuardType Tryz.prog.depth 29=false:=Tryz.eqGuardType29
  rw [show List.map Extern.Stop.cell xs=bs xs from rfl,show List.map Extern.Stop.cell ys=bs ys from rfl] at h
  simp only [Nat.reduceAdd] at h
  simp [eqGuard,binOp,Op.equal,Op.maxDepth,h,hg,program,Sem.run]
theorem nodeC_length {k s l:Int} {top:List UInt8} (ht:top.length=32):(nodeC k s l top).length=35:=by simp [nodeC,bs_length,ht]
section
variable {E:Env} {n:Nat} {K:Slots} {L:Res} {o:Oper}
theorem Pu_idZero (ho:o.op = .build 29 #[]):Pure Tryz.prog E n o K L (.agg (bs zeroId).toArray):=fun a w hA hS=>by
  have h:=run_build (P:=Tryz.prog) w 29 #[] (bs zeroId).toArray (by kernel_rfl)
  simp [execOp,ho,h]
end

theorem wrong_spec (k s l:Int) (top:List UInt8) (ht:top.length=32) (F:HP):CallsS Tryz.prog 121 #[nodeV k s l top] F [] (fun v Ps=>v = .int .i64 (wrongN k s l top)∧Ps=[]):=by
 refine callsS_enter Tryz.func121 rfl Tryz.ntmps121 (by simp) (fun E=>?_)
 refine Q9 ?_
 refine J9 [(0,_)] [(0,_)] ?_ ⟨rfl,trivial⟩ ⟨rfl,trivial⟩
 refine R9 (Lc9 rfl rfl (by decide) (OpT_box (r:=101) rfl rfl rfl (fun g101=>(G9 rfl rfl (N9 (X9 (Q9 ?_)))))))
 refine W_block ?_
 refine Q9 ?_
 refine J9 [(0,_),(1,_),(2,_)] [(0,_),(101,_)] ?_ ⟨rfl,rfl,rfl,trivial⟩ ⟨rfl,rfl,trivial⟩
 refine R9 (L9 rfl (F9 0 rfl rfl) (L9 rfl (Pb9 (r:=101) rfl Tryz.isAgg3 rfl rfl rfl) (L9 rfl (Pn9 rfl rfl rfl (run_neq _ _ _ _ _ _)) (M9 rfl rfl (Lg9 rfl rfl rfl rfl (by decide) (fun hb=>(F9 0 rfl rfl)) (Lg9 rfl rfl rfl rfl (by decide) (fun hb=>(Pb9 (r:=101) rfl Tryz.isAgg3 (ev_gv rfl hb) rfl rfl)) (Lg9 rfl rfl rfl rfl (by decide) (fun hb=>(Pn9 rfl (ev_gv rfl hb) rfl (run_neq _ _ _ _ _ _))) (L9 rfl (Pu_and rfl rfl rfl) (G9 rfl rfl (N9 (X9 ?_)))))))))))
 refine C9 rfl (fun hc3=>?_) (fun hc3=>?_)
 ·
  refine Q9 ?_
  refine J9 [(0,_),(1,_),(2,_),(3,_)] [(0,_),(101,_)] ?_ ⟨rfl,rfl,rfl,rfl,trivial⟩ ⟨rfl,rfl,trivial⟩
  refine R9 (G9 rfl rfl (N9 (X9 ?_)))
  refine W_ret (X_block_ret (X_then_ret ?_))
  exact Xq9 [] (Ps:=[]) (res1 Tryz.results121 rfl) rfl (by decide) ⟨int_val (wrongN_kind hc3),rfl⟩
 ·
  refine Q9 ?_
  refine J9 [(0,_),(1,_),(2,_),(3,_)] [(0,_),(101,_)] ?_ ⟨rfl,rfl,rfl,rfl,trivial⟩ ⟨rfl,rfl,trivial⟩
  refine W_draw (N:=28) (by kernel_rfl) rfl [(0,_),(101,_)] ⟨rfl,rfl,trivial⟩ ?_
  refine (T9 0 rfl rfl (F9 1 rfl rfl) (T9 1 rfl rfl (Pb9 (r:=101) rfl Tryz.isAgg3 rfl rfl rfl) (T9 2 rfl rfl (Pn9 rfl rfl rfl (run_lss _ _ _ _ _ _)) (T9 3 rfl rfl (Pm9 rfl rfl) (AH_takeG 4 rfl (by kernel_rfl) (by kernel_rfl) (by kernel_rfl) rfl rfl rfl rfl (by decide) (fun hb=>(F9 1 rfl rfl)) (AH_takeG 5 rfl (by kernel_rfl) (by kernel_rfl) (by kernel_rfl) rfl rfl rfl rfl (by decide) (fun hb=>(Pb9 (r:=101) rfl Tryz.isAgg3 (ev_gv rfl hb) rfl rfl)) (AH_takeG 6 rfl (by kernel_rfl) (by kernel_rfl) (by kernel_rfl) rfl rfl rfl rfl (by decide) (fun hb=>(Pn9 rfl (ev_gv rfl hb) rfl (run_gtr _ _ _ _ _ _))) (T9 7 rfl rfl (Pu_or rfl rfl rfl) (T9 8 rfl rfl (Pm9 rfl rfl) (AH_takeG 9 rfl (by kernel_rfl) (by kernel_rfl) (by kernel_rfl) rfl rfl rfl rfl (by decide) (fun hb=>(F9 2 rfl rfl)) (AH_takeG 10 rfl (by kernel_rfl) (by kernel_rfl) (by kernel_rfl) rfl rfl rfl rfl (by decide) (fun hb=>(Pb9 (r:=101) rfl Tryz.isAgg3 (ev_gv rfl hb) rfl rfl)) (AH_takeG 11 rfl (by kernel_rfl) (by kernel_rfl) (by kernel_rfl) rfl rfl rfl rfl (by decide) (fun hb=>(F9 1 rfl rfl)) (AH_takeG 12 rfl (by kernel_rfl) (by kernel_rfl) (by kernel_rfl) rfl rfl rfl rfl (by decide) (fun hb=>(Pb9 (r:=101) rfl Tryz.isAgg3 (ev_gv rfl hb) rfl rfl)) (Y9 [13] ?_))))))))))))))
  refine AHs_consG (V:=.int .i64 (lev s:Int)) rfl rfl rfl rfl rfl (by decide) (fun hb=>(Oc9 200 [0,101] [] rfl Tryz.call152 (evL_cons (ev_gv rfl hb) evL_nil) rfl rfl (by decide) (by decide) (levels_spec s _) (fun v26 Ps26 hR26=>⟨hR26.1,fun w hw=>by rw [hR26.2] at hw; exact hw.sub (AllIn.look ⟨rfl,rfl,trivial⟩)⟩))) ⟨rfl,rfl,trivial⟩ ?_ ?_
  ·
   refine (AH_takeG 14 rfl (by kernel_rfl) (by kernel_rfl) (by kernel_rfl) rfl rfl rfl rfl (by decide) (fun hb=>(Pn9 rfl (ev_gv rfl hb) (ev_gv rfl hb) (run_neq _ _ _ _ _ _))) (T9 15 rfl rfl (Pu_or rfl rfl rfl) (T9 16 rfl rfl (Pm9 rfl rfl) (AH_takeG 17 rfl (by kernel_rfl) (by kernel_rfl) (by kernel_rfl) rfl rfl rfl rfl (by decide) (fun hb=>(F9 1 rfl rfl)) (AH_takeG 18 rfl (by kernel_rfl) (by kernel_rfl) (by kernel_rfl) rfl rfl rfl rfl (by decide) (fun hb=>(Pb9 (r:=101) rfl Tryz.isAgg3 (ev_gv rfl hb) rfl rfl)) (AH_takeG 19 rfl (by kernel_rfl) (by kernel_rfl) (by kernel_rfl) rfl rfl rfl rfl (by decide) (fun hb=>(Pn9 rfl (ev_gv rfl hb) rfl (run_eql _ _ _ _ _ _))) (AH_takeG 20 rfl (by kernel_rfl) (by kernel_rfl) (by kernel_rfl) rfl rfl rfl rfl (by decide) (fun hb=>(Pm9 rfl (ev_gv rfl hb))) (AH_takeG2 21 rfl (by kernel_rfl) (by kernel_rfl) (by kernel_rfl) rfl rfl rfl rfl (by decide) (fun hb=>(F9 3 rfl rfl)) (AH_takeG2 22 rfl (by kernel_rfl) (by kernel_rfl) (by kernel_rfl) rfl rfl rfl rfl (by decide) (fun hb=>(Px9 (r:=101) rfl Tryz.isAgg29 Tryz.sizeOf29 (ev_gv rfl hb) rfl (by rw [bs_length,ht]) (by show (bs top).take 32=_; rw [List.take_of_length_le (by rw [bs_length,ht]; omega)]))) (AH_takeG2 23 rfl (by kernel_rfl) (by kernel_rfl) (by kernel_rfl) rfl rfl rfl rfl (by decide) (fun hb=>(Pu_idZero rfl)) (AH_takeG2 24 rfl (by kernel_rfl) (by kernel_rfl) (by kernel_rfl) rfl rfl rfl rfl (by decide) (fun hb=>(Pn9 rfl (ev_gv rfl hb) (ev_gv rfl hb) (run_idNe _ _ ht zeroId_length _ _))) (AH_takeG 25 rfl (by kernel_rfl) (by kernel_rfl) (by kernel_rfl) rfl rfl rfl rfl (by decide) (fun hb=>(Pu_and2 hb rfl (ev_gv rfl hb) rfl)) (T9 26 rfl rfl (Pu_or rfl rfl rfl) (T9 27 rfl rfl (Pg9 rfl rfl) (Ad9 (by kernel_rfl) (X9 ?_))))))))))))))))
   refine C9 rfl (fun hc12=>?_) (fun hc12=>?_)
   ·
    refine Q9 ?_
    refine J9 [(0,_),(1,_),(2,_),(3,_),(12,_)] [(0,_),(101,_)] ?_ ⟨rfl,rfl,rfl,rfl,rfl,trivial⟩ ⟨rfl,rfl,trivial⟩
    refine R9 (G9 rfl rfl (N9 (X9 ?_)))
    refine W_ret (X_block_ret (X_then_ret ?_))
    exact Xq9 [] (Ps:=[]) (res1 Tryz.results121 rfl) rfl (by decide) ⟨int_val (wrongN_bad hc3 hc12),rfl⟩
   ·
    refine K9 (X_block (X9 ?_))
    refine Q9 ?_
    refine J9 [(0,_),(1,_),(2,_),(3,_),(12,_)] [(0,_),(101,_)] ?_ ⟨rfl,rfl,rfl,rfl,rfl,trivial⟩ ⟨rfl,rfl,trivial⟩
    refine R9 (G9 rfl rfl (N9 (X9 ?_)))
    refine W_ret ?_
    exact Xq9 [] (Ps:=[]) (res1 Tryz.results121 rfl) rfl (by decide) ⟨int_val (wrongN_ok hc3 hc12),rfl⟩
  exact An9
theorem inode_spec (k s l:Int) (top:List UInt8) (ht:top.length=32) (F:HP):CallsS Tryz.prog 95 #[nodeV k s l top] F [] (fun v Ps=>∃ v',v = .tuple #[v',.int .i64 (wrongN k s l top)]∧Ps=[rowB 5 v' (inodeR k s l top)]):=by
 refine callsS_enter Tryz.func95 rfl Tryz.ntmps95 (by simp) (fun E=>?_)
 refine Q9 (R9 (Lc9 rfl rfl (by decide) (OpT_box (r:=101) rfl rfl rfl (fun g101=>(G9 rfl rfl (G9 rfl rfl (N9 (X9 (Q9 (Q9 (R9 (L9 rfl (Px9 (r:=101) rfl Tryz.isAgg42 Tryz.sizeOf42 rfl rfl (nodeC_length ht) (load_all (nodeC_length ht))) (Lc9 rfl rfl (by decide) (Oc9 200 [0,101] [] rfl Tryz.call121 rfl rfl rfl (by decide) (by decide) (wrong_spec k s l top ht _) (fun v7 Ps7 hR7=>?_)))))))))))))))
 obtain ⟨rfl,rfl⟩:=hR7
 refine (G9 rfl rfl (N9 (X9 ?_)))
 refine Q9 (R9 (M9 rfl rfl (L9 rfl (Pn9 rfl rfl rfl (run_neq _ _ _ _ _ _)) (N9 (X9 ?_)))))
 refine C9 rfl (fun hc9=>?_) (fun hc9=>?_)
 ·
  refine Q9 (R9 (M9 rfl rfl (G9 rfl rfl (G9 rfl rfl (N9 (X9 ?_))))))
  refine W_ret (X_then_ret ?_)
  refine X_nilRow 900 5 1 ?_
  exact Xq9 [900] (Ps:=[_]) (res2 Tryz.results95 rfl rfl) rfl (by decide) ⟨_,rfl,by rw [inodeR,if_neg (by simpa using hc9)]; rfl⟩
 ·
  refine K9 (X9 ?_)
  refine Q9 ?_
  refine W_draw (N:=9) (by kernel_rfl) rfl [(0,_),(101,_)] ⟨rfl,rfl,trivial⟩ ?_
  refine (T9 0 rfl rfl (F9 0 rfl rfl) (T9 1 rfl rfl (Pb9 (r:=101) rfl Tryz.isAgg3 rfl rfl rfl) (T9 2 rfl rfl (Pu_conv rfl rfl (conv_byte _ _ Tryz.runUnderlying3 Tryz.runUnderlying5)) (T9 4 rfl rfl (F9 1 rfl rfl) (T9 5 rfl rfl (Pb9 (r:=101) rfl Tryz.isAgg3 rfl rfl rfl) (Y9 [3,6] ?_))))))
  refine Z9 rfl rfl (OpT_buildOnes (r:=201) (bs [105,byte k]) rfl rfl Tryz.runUnderlying36 Tryz.sizeOf5 Tryz.zeroValue5 rfl rfl (by decide) rfl (bs_cells _) (fun v14=>⟨⟨rfl,rfl,trivial⟩,?_⟩)) ?_
  ·
   refine (Y9 [6] ?_)
   refine Z9 rfl rfl (Oc9 300 [0,101,201] [] rfl Tryz.call129 rfl rfl rfl (by decide) (by decide) (number_spec s 4 (by omega) _) (fun v17 Ps17 hR17=>?_)) ?_
   ·
    subst hR17
    refine ⟨⟨rfl,rfl,trivial⟩,?_⟩
    refine (Y9 [7] ?_)
    refine Z9 rfl rfl (Oa9 (r:=201) (r2:=300) rfl Tryz.underlying36 TI.hi5 TI.hz5 TI.hs5 TI.hby5 TI.hzs5 (by decide) rfl rfl rfl rfl (fun _ h=>rp9 h) (bs_one _) (by unfold maxLen; omega) (by omega) (fun v18=>?_)) ?_
    ·
     refine ⟨⟨rfl,rfl,trivial⟩,?_⟩
     refine (T9 8 rfl rfl (Pg9 rfl rfl) (Ad9 (by kernel_rfl) (X9 ?_)))
     refine Q9 ?_
     refine W_draw (N:=11) (by kernel_rfl) rfl [(0,_),(101,_)] ⟨rfl,rfl,trivial⟩ ?_
     refine (T9 0 rfl rfl (Pm9 rfl rfl) (T9 1 rfl rfl (F9 2 rfl rfl) (T9 2 rfl rfl (Pb9 (r:=101) rfl Tryz.isAgg3 rfl rfl rfl) (T9 3 rfl rfl (Pu_conv rfl rfl (conv_byte _ _ Tryz.runUnderlying3 Tryz.runUnderlying5)) (T9 6 rfl rfl (F9 3 rfl rfl) (T9 7 rfl rfl (Pu_sliceArr rfl Tryz.runUnderlying29 Tryz.sizeOf5 rfl) (Y9 [4] ?_)))))))
     refine Z9 rfl rfl (OpT_buildOnes (r:=301) (bs [byte l]) rfl rfl Tryz.runUnderlying36 Tryz.sizeOf5 Tryz.zeroValue5 rfl rfl (by decide) rfl (bs_cells _) (fun v23=>⟨⟨rfl,rfl,trivial⟩,?_⟩)) ?_
     ·
      refine (Y9 [5] ?_)
      refine Z9 rfl rfl (Oa9 (r:=201) (r2:=301) rfl Tryz.underlying36 TI.hi5 TI.hz5 TI.hs5 TI.hby5 TI.hzs5 (by decide) rfl rfl rfl rfl (fun _ h=>rp9 h) (bs_one _) (by unfold maxLen; omega) (by omega) (fun v24=>?_)) ?_
      ·
       refine ⟨⟨rfl,rfl,trivial⟩,?_⟩
       refine (Y9 [8] ?_)
       refine Z9 rfl rfl (Oa9 (r:=201) (r2:=101) rfl Tryz.underlying36 TI.hi5 TI.hz5 TI.hs5 TI.hby5 TI.hzs5 (by decide) rfl rfl rfl rfl (fun _ h=>blk_rd (xs:=bs top) h (take_top ht) (by rw [bs_length,ht]) (by omega)) (bs_one _) (by unfold maxLen; omega) (by omega) (fun v27=>?_)) ?_
       ·
        refine ⟨⟨rfl,rfl,trivial⟩,?_⟩
        refine (T9 9 rfl rfl (Pg9 rfl rfl) (T9 10 rfl rfl (Pg9 rfl rfl) (Ad9 (by kernel_rfl) (X9 ?_))))
        refine W_ret ?_
        exact Xq9 [201] (Ps:=[_]) (res2 Tryz.results95 rfl rfl) rfl (by decide) ⟨_,by simp at hc9; rw [hc9],by rw [inodeR,if_pos (by simpa using hc9)]; exact congrArg (·::[]) (rowB_of _ (by simp [inodeB,numB_length,ht]) (by unfold inodeB; simp only [bs_append]))⟩
       exact An9
      exact An9
     exact An9
    exact An9
   exact An9
  refine Z9 rfl rfl (Oc9 300 [0,101] [] rfl Tryz.call129 rfl rfl rfl (by decide) (by decide) (number_spec s 4 (by omega) _) (fun v17 Ps17 hR17=>?_)) ?_
  ·
   subst hR17
   refine ⟨⟨rfl,rfl,trivial⟩,?_⟩
   refine (Y9 [3] ?_)
   refine Z9 rfl rfl (OpT_buildOnes (r:=301) (bs [105,byte k]) rfl rfl Tryz.runUnderlying36 Tryz.sizeOf5 Tryz.zeroValue5 rfl rfl (by decide) rfl (bs_cells _) (fun v14=>⟨⟨rfl,rfl,trivial⟩,?_⟩)) ?_
   ·
    refine (Y9 [7] ?_)
    refine Z9 rfl rfl (Oa9 (r:=301) (r2:=300) rfl Tryz.underlying36 TI.hi5 TI.hz5 TI.hs5 TI.hby5 TI.hzs5 (by decide) rfl rfl rfl rfl (fun _ h=>rp9 h) (bs_one _) (by unfold maxLen; omega) (by omega) (fun v18=>?_)) ?_
    ·
     refine ⟨⟨rfl,rfl,trivial⟩,?_⟩
     refine (T9 8 rfl rfl (Pg9 rfl rfl) (Ad9 (by kernel_rfl) (X9 ?_)))
     refine Q9 ?_
     refine W_draw (N:=11) (by kernel_rfl) rfl [(0,_),(101,_)] ⟨rfl,rfl,trivial⟩ ?_
     refine (T9 0 rfl rfl (Pm9 rfl rfl) (T9 1 rfl rfl (F9 2 rfl rfl) (T9 2 rfl rfl (Pb9 (r:=101) rfl Tryz.isAgg3 rfl rfl rfl) (T9 3 rfl rfl (Pu_conv rfl rfl (conv_byte _ _ Tryz.runUnderlying3 Tryz.runUnderlying5)) (T9 6 rfl rfl (F9 3 rfl rfl) (T9 7 rfl rfl (Pu_sliceArr rfl Tryz.runUnderlying29 Tryz.sizeOf5 rfl) (Y9 [4] ?_)))))))
     refine Z9 rfl rfl (OpT_buildOnes (r:=302) (bs [byte l]) rfl rfl Tryz.runUnderlying36 Tryz.sizeOf5 Tryz.zeroValue5 rfl rfl (by decide) rfl (bs_cells _) (fun v23=>⟨⟨rfl,rfl,trivial⟩,?_⟩)) ?_
     ·
      refine (Y9 [5] ?_)
      refine Z9 rfl rfl (Oa9 (r:=301) (r2:=302) rfl Tryz.underlying36 TI.hi5 TI.hz5 TI.hs5 TI.hby5 TI.hzs5 (by decide) rfl rfl rfl rfl (fun _ h=>rp9 h) (bs_one _) (by unfold maxLen; omega) (by omega) (fun v24=>?_)) ?_
      ·
       refine ⟨⟨rfl,rfl,trivial⟩,?_⟩
       refine (Y9 [8] ?_)
       refine Z9 rfl rfl (Oa9 (r:=301) (r2:=101) rfl Tryz.underlying36 TI.hi5 TI.hz5 TI.hs5 TI.hby5 TI.hzs5 (by decide) rfl rfl rfl rfl (fun _ h=>blk_rd (xs:=bs top) h (take_top ht) (by rw [bs_length,ht]) (by omega)) (bs_one _) (by unfold maxLen; omega) (by omega) (fun v27=>?_)) ?_
       ·
        refine ⟨⟨rfl,rfl,trivial⟩,?_⟩
        refine (T9 9 rfl rfl (Pg9 rfl rfl) (T9 10 rfl rfl (Pg9 rfl rfl) (Ad9 (by kernel_rfl) (X9 ?_))))
        refine W_ret ?_
        exact Xq9 [301] (Ps:=[_]) (res2 Tryz.results95 rfl rfl) rfl (by decide) ⟨_,by simp at hc9; rw [hc9],by rw [inodeR,if_pos (by simpa using hc9)]; exact congrArg (·::[]) (rowB_of _ (by simp [inodeB,numB_length,ht]) (by unfold inodeB; simp only [bs_append]))⟩
       exact An9
      exact An9
     exact An9
    exact An9
   exact An9
  exact An9
end Go.Proofs.YthkdkmaacjpneaaGreatDoor
namespace Go.Proofs.YthkdkmaacjpneaaGreatDoor
theorem numB_four (n:Int):numB n 4=[byte (n.fdiv (2 ^ 24)),byte (n.fdiv (2 ^ 16)),byte (n.fdiv (2 ^ 8)),byte n]:=by
  have:n.fdiv 1=n:=by simp
  simp [numB,List.range_succ,this]
theorem val_four (l:List UInt8):val l 4=(at0 l 0).toNat * 2 ^ 24 + (at0 l 1).toNat * 2 ^ 16 + (at0 l 2).toNat * 2 ^ 8 + (at0 l 3).toNat:=by
  simp only [val]; omega
def innerTo (l:List (List UInt8)) (k:Nat):List UInt8:=[110,byte l.length]++(l.take k).flatten
def innerE (l:List (List UInt8)):Int:=if l.length=0 then 1 else if 8 < l.length then 4 else 0
def innerR (l:List (List UInt8)):List UInt8:=if innerE l=0 then innerTo l l.length else []
theorem innerTo_succ {l:List (List UInt8)} {k:Nat} (h:k < l.length):innerTo l (k + 1)=innerTo l k++l.getD k []:=by
  unfold innerTo
  rw [List.take_succ_eq_append_getElem h,List.flatten_append,← List.append_assoc]
  congr 1
  simp [h]
theorem flat_ids {l:List (List UInt8)} (h:Ids l):l.flatten.length=l.length * 32:=by
  induction l with
  | nil=>rfl
  | cons x l ih =>
    rw [List.flatten_cons,List.length_append,ih (fun y hy=>h y (by simp [hy])),h x (by simp),List.length_cons]
    omega
theorem innerTo_length {l:List (List UInt8)} (h:Ids l) {k:Nat} (hk:k≤l.length):(innerTo l k).length=2 + k * 32:=by
  unfold innerTo
  rw [List.length_append,flat_ids (h.take k),List.length_take,Nat.min_eq_left hk]
  rfl
def idsOf (b:List UInt8) (n:Nat):List (List UInt8):=(List.range n).map fun i=>(b.drop (2 + i * 32)).take 32
theorem idsOf_length (b:List UInt8) (n:Nat):(idsOf b n).length=n:=by simp [idsOf]
theorem idsOf_ids {b:List UInt8} {n:Nat} (h:2 + n * 32≤b.length):Ids (idsOf b n):=by
  intro x hx
  simp only [idsOf,List.mem_map,List.mem_range] at hx
  obtain ⟨i,hi,rfl⟩:=hx
  simp
  omega
theorem idsOf_succ (b:List UInt8) (n:Nat):idsOf b (n + 1)=idsOf b n++[(b.drop (2 + n * 32)).take 32]:=by simp [idsOf,List.range_succ]
def idsTo (b:List UInt8) (n k:Nat):List (List UInt8):=idsOf b k++List.replicate (n - k) zeroId
theorem idsTo_zero (b:List UInt8) (n:Nat):idsTo b n 0=List.replicate n zeroId:=by simp [idsTo,idsOf]
theorem idsTo_all (b:List UInt8) (n:Nat):idsTo b n n=idsOf b n:=by simp [idsTo]
theorem idsTo_length (b:List UInt8) {n k:Nat} (h:k≤n):(idsTo b n k).length=n:=by simp [idsTo,idsOf_length]; omega
theorem idsTo_ids {b:List UInt8} {n k:Nat} (h:2 + k * 32≤b.length):Ids (idsTo b n k):=by
  intro x hx
  simp only [idsTo,List.mem_append] at hx
  rcases hx with hx | hx
  · exact idsOf_ids h x hx
  · rw [List.eq_of_mem_replicate hx]; rfl
theorem idsTo_set {b:List UInt8} {n k:Nat} (hk:k < n):(idsTo b n k).set k ((b.drop (2 + k * 32)).take 32)=idsTo b n (k + 1):=by
  unfold idsTo
  rw [List.set_append_right _ _ (by rw [idsOf_length]; omega),idsOf_length,Nat.sub_self,idsOf_succ,List.append_assoc]
  congr 1
  rw [show n - k=(n - (k + 1)) + 1 by omega,List.replicate_succ]
  rfl
theorem idsC_step {l:List (List UInt8)} (h:Ids l) {k:Nat} (hk:k < l.length) {y:List UInt8} (hy:32≤y.length):over (idsC l) (k * 32) ((bs y).take (min y.length 32))=idsC (l.set k (y.take 32)):=by
  rw [Nat.min_eq_right hy,← bs_take]
  exact idsC_set h hk (by simp; omega)
def parseNE (b:List UInt8):Int :=
  if b.length < 2 then 8
  else if at0 b 0≠110∨(at0 b 1).toNat < 1∨8 < (at0 b 1).toNat then 11
  else if b.length < 2 + (at0 b 1).toNat * 32 then 8
  else if 2 + (at0 b 1).toNat * 32 < b.length then 9 else 0
def parseNL (b:List UInt8):List (List UInt8):=if parseNE b=0 then idsOf b (at0 b 1).toNat else []
theorem parseNE_cut {b:List UInt8} (h:decide ((b.length:Int) < 2)=true):parseNE b=8:=by have:=of_decide_eq_true h; unfold parseNE; rw [if_pos (by omega)]
theorem parseNE_bad {b:List UInt8} (h:decide ((b.length:Int) < 2)=false) (h2:(!decide (((at0 b 0).toNat:Int)=110) || decide (((at0 b 1).toNat:Int) < 1) || decide (8 < ((at0 b 1).toNat:Int)))=true):parseNE b=11:=by
  have:=of_decide_eq_false h
  unfold parseNE
  rw [if_neg (by omega),if_pos]
  simp at h2
  rcases h2 with (h2 | h2) | h2
  · left; intro e; rw [e] at h2; exact h2 rfl
  · right; left; omega
  · right; right; omega
theorem parseN_good {b:List UInt8} (h2:(!decide (((at0 b 0).toNat:Int)=110) || decide (((at0 b 1).toNat:Int) < 1) || decide (8 < ((at0 b 1).toNat:Int)))=false):at0 b 0=110∧1≤(at0 b 1).toNat∧(at0 b 1).toNat≤8:=by
  simp at h2
  exact ⟨UInt8.toNat_inj.1 (by have:=h2.1.1; simp; omega),by omega,by omega⟩
theorem parseNE_later {b:List UInt8} (h:decide ((b.length:Int) < 2)=false) (h2:(!decide (((at0 b 0).toNat:Int)=110) || decide (((at0 b 1).toNat:Int) < 1) || decide (8 < ((at0 b 1).toNat:Int)))=false) :
    parseNE b=if b.length < 2 + (at0 b 1).toNat * 32 then 8 else if 2 + (at0 b 1).toNat * 32 < b.length then 9 else 0:=by
  have:=of_decide_eq_false h
  obtain ⟨q1,q2,q3⟩:=parseN_good h2
  unfold parseNE
  rw [if_neg (by omega),if_neg]
  rintro (h | h | h)
  · exact h q1
  · omega
  · omega
theorem parseNL_err {b:List UInt8} {e:Int} (h:parseNE b=e) (he:e≠0):parseNL b=[]:=by unfold parseNL; rw [h,if_neg he]
section
variable {a b:List (List UInt8)} {k:Nat}
end
open Go.RowKit
set_option maxRecDepth 8000

theorem refLevels_spec (size:Int) (hs:size≤134217728) (F:HP):CallsS Tryz.prog 110 #[.int .i64 size] F [] (fun v Ps=>v = .int .i64 (lev size:Int)∧Ps=[]):=by
 refine callsS_enter Tryz.func110 rfl Tryz.ntmps110 (by simp) (fun E=>?_)
 refine Q9 (R9 (G9 rfl rfl (N9 (X9 (Q9 (R9 (G9 rfl rfl (G9 rfl rfl (N9 (X9 (Q9 ?_)))))))))))
 refine W_block ?_
 refine W_loop (α:=Nat) (fun n=>[(0,.int .i64 size),(3,.int .i64 (n:Int)),(4,.int .i64 (all8 n))]) (fun n=>[(0,F)]) (fun n=>n≤7∧(n=0∨all8 (n - 1) < size)) (fun n=>7 - n) (0) ⟨by omega,.inl rfl⟩ (a9 rfl) ⟨rfl,trivial⟩ (fun x hx=>?_)
 obtain ⟨h7,hlo⟩:=hx
 have hb:=all8_le h7
 have h0:=all8_pos x
 refine Q9 (Q9 (R9 (M9 rfl rfl (M9 rfl rfl (L9 rfl (Pn9 rfl rfl rfl (run_lss _ _ _ _ _ _)) (N9 (X9 ?_)))))))
 refine C9 rfl (fun hc7=>?_) (fun hc7=>?_)
 ·
  have hx6:x + 1≤7:=by
   have hlt:=of_decide_eq_true hc7
   rcases Nat.lt_or_ge x 7 with h | h
   ·omega
   ·obtain rfl:x=7:=by omega
    have:all8 7=134217728:=rfl
    omega
  refine K9 (X9 ?_)
  refine W_block ?_
  refine Q9 (R9 (M9 rfl rfl (L9 rfl (Pn9 rfl rfl rfl (run_add _ _ _ _ _ (by omega))) (G9 rfl rfl (N9 (X9 (R9 (M9 rfl rfl (L9 rfl (Pn9 rfl rfl rfl (run_mul _ _ _ _ _ (by omega))) (G9 rfl rfl (N9 (X_block ?_))))))))))))
  rw [all8_succ]
  exact Xr9 (x + 1) ⟨hx6,.inr (by simpa using of_decide_eq_true hc7)⟩ (by omega) (a9 rfl) ⟨rfl,trivial⟩
 ·
  have hge:=of_decide_eq_false hc7
  refine W_exit (X_then_exit (X_then_exit (X_block_exit (X9 ?_))))
  refine Q9 (R9 (M9 rfl rfl (G9 rfl rfl (N9 (X9 ?_)))))
  refine W_ret ?_
  exact Xq9 [] (Ps:=[]) (res1 Tryz.results110 rfl) rfl (by decide) ⟨by rw [lev_of h7 hlo (by simp; omega)],rfl⟩
theorem refWrong_spec (k s l:Int) (top:List UInt8) (ht:top.length=32) (F:HP):CallsS Tryz.prog 147 #[nodeV k s l top] F [] (fun v Ps=>v = .int .i64 (wrongN k s l top)∧Ps=[]):=by
 refine callsS_enter Tryz.func147 rfl Tryz.ntmps147 (by simp) (fun E=>?_)
 refine Q9 ?_
 refine J9 [(0,_)] [(0,_)] ?_ ⟨rfl,trivial⟩ ⟨rfl,trivial⟩
 refine R9 (Lc9 rfl rfl (by decide) (OpT_box (r:=101) rfl rfl rfl (fun g101=>(G9 rfl rfl (N9 (X9 (Q9 (Q9 ?_))))))))
 refine J9 [(0,_),(1,_),(2,_)] [(0,_),(101,_)] ?_ ⟨rfl,rfl,rfl,trivial⟩ ⟨rfl,rfl,trivial⟩
 refine R9 (L9 rfl (F9 0 rfl rfl) (L9 rfl (Pb9 (r:=101) rfl Tryz.isAgg3 rfl rfl rfl) (L9 rfl (Pn9 rfl rfl rfl (run_neq _ _ _ _ _ _)) (M9 rfl rfl (Lg9 rfl rfl rfl rfl (by decide) (fun hb=>(F9 0 rfl rfl)) (Lg9 rfl rfl rfl rfl (by decide) (fun hb=>(Pb9 (r:=101) rfl Tryz.isAgg3 (ev_gv rfl hb) rfl rfl)) (Lg9 rfl rfl rfl rfl (by decide) (fun hb=>(Pn9 rfl (ev_gv rfl hb) rfl (run_neq _ _ _ _ _ _))) (L9 rfl (Pu_and rfl rfl rfl) (N9 (X9 ?_))))))))))
 refine C9 rfl (fun hc10=>?_) (fun hc10=>?_)
 ·
  refine Q9 ?_
  refine J9 [(0,_),(1,_),(2,_),(10,_)] [(0,_),(101,_)] ?_ ⟨rfl,rfl,rfl,rfl,trivial⟩ ⟨rfl,rfl,trivial⟩
  refine R9 (G9 rfl rfl (N9 (X9 ?_)))
  refine W_ret (X_then_ret ?_)
  exact Xq9 [] (Ps:=[]) (res1 Tryz.results147 rfl) rfl (by decide) ⟨int_val (wrongN_kind hc10),rfl⟩
 ·
  refine K9 (X9 ?_)
  refine Q9 (Q9 ?_)
  refine J9 [(0,_),(1,_),(2,_),(10,_)] [(0,_),(101,_)] ?_ ⟨rfl,rfl,rfl,rfl,trivial⟩ ⟨rfl,rfl,trivial⟩
  refine W_draw (N:=27) (by kernel_rfl) rfl [(0,_),(101,_)] ⟨rfl,rfl,trivial⟩ ?_
  refine (T9 0 rfl rfl (F9 1 rfl rfl) (T9 1 rfl rfl (Pb9 (r:=101) rfl Tryz.isAgg3 rfl rfl rfl) (T9 2 rfl rfl (Pn9 rfl rfl rfl (run_lss _ _ _ _ _ _)) (T9 3 rfl rfl (Pm9 rfl rfl) (AH_takeG 4 rfl (by kernel_rfl) (by kernel_rfl) (by kernel_rfl) rfl rfl rfl rfl (by decide) (fun hb=>(F9 1 rfl rfl)) (AH_takeG 5 rfl (by kernel_rfl) (by kernel_rfl) (by kernel_rfl) rfl rfl rfl rfl (by decide) (fun hb=>(Pb9 (r:=101) rfl Tryz.isAgg3 (ev_gv rfl hb) rfl rfl)) (AH_takeG 6 rfl (by kernel_rfl) (by kernel_rfl) (by kernel_rfl) rfl rfl rfl rfl (by decide) (fun hb=>(Pn9 rfl (ev_gv rfl hb) rfl (run_gtr _ _ _ _ _ _))) (T9 7 rfl rfl (Pu_or rfl rfl rfl) (T9 8 rfl rfl (Pm9 rfl rfl) (AH_takeG 9 rfl (by kernel_rfl) (by kernel_rfl) (by kernel_rfl) rfl rfl rfl rfl (by decide) (fun hb=>(F9 2 rfl rfl)) (AH_takeG 10 rfl (by kernel_rfl) (by kernel_rfl) (by kernel_rfl) rfl rfl rfl rfl (by decide) (fun hb=>(Pb9 (r:=101) rfl Tryz.isAgg3 (ev_gv rfl hb) rfl rfl)) (AH_takeG 11 rfl (by kernel_rfl) (by kernel_rfl) (by kernel_rfl) rfl rfl rfl rfl (by decide) (fun hb=>(F9 1 rfl rfl)) (AH_takeG 12 rfl (by kernel_rfl) (by kernel_rfl) (by kernel_rfl) rfl rfl rfl rfl (by decide) (fun hb=>(Pb9 (r:=101) rfl Tryz.isAgg3 (ev_gv rfl hb) rfl rfl)) (Y9 [13] ?_))))))))))))))
  refine AHs_consG (V:=.int .i64 (lev s:Int)) rfl rfl rfl rfl rfl (by decide) (fun hb=>(Oc9 200 [0,101] [] rfl Tryz.call110 (evL_cons (ev_gv rfl hb) evL_nil) rfl rfl (by decide) (by decide) (refLevels_spec s (by simp at hb; omega) _) (fun v24 Ps24 hR24=>⟨hR24.1,fun w hw=>by rw [hR24.2] at hw; exact hw.sub (AllIn.look ⟨rfl,rfl,trivial⟩)⟩))) ⟨rfl,rfl,trivial⟩ ?_ ?_
  ·
   refine (AH_takeG 14 rfl (by kernel_rfl) (by kernel_rfl) (by kernel_rfl) rfl rfl rfl rfl (by decide) (fun hb=>(Pn9 rfl (ev_gv rfl hb) (ev_gv rfl hb) (run_neq _ _ _ _ _ _))) (T9 15 rfl rfl (Pu_or rfl rfl rfl) (T9 16 rfl rfl (Pm9 rfl rfl) (AH_takeG 17 rfl (by kernel_rfl) (by kernel_rfl) (by kernel_rfl) rfl rfl rfl rfl (by decide) (fun hb=>(F9 1 rfl rfl)) (AH_takeG 18 rfl (by kernel_rfl) (by kernel_rfl) (by kernel_rfl) rfl rfl rfl rfl (by decide) (fun hb=>(Pb9 (r:=101) rfl Tryz.isAgg3 (ev_gv rfl hb) rfl rfl)) (AH_takeG 19 rfl (by kernel_rfl) (by kernel_rfl) (by kernel_rfl) rfl rfl rfl rfl (by decide) (fun hb=>(Pn9 rfl (ev_gv rfl hb) rfl (run_eql _ _ _ _ _ _))) (AH_takeG 20 rfl (by kernel_rfl) (by kernel_rfl) (by kernel_rfl) rfl rfl rfl rfl (by decide) (fun hb=>(Pm9 rfl (ev_gv rfl hb))) (AH_takeG2 21 rfl (by kernel_rfl) (by kernel_rfl) (by kernel_rfl) rfl rfl rfl rfl (by decide) (fun hb=>(F9 3 rfl rfl)) (AH_takeG2 22 rfl (by kernel_rfl) (by kernel_rfl) (by kernel_rfl) rfl rfl rfl rfl (by decide) (fun hb=>(Px9 (r:=101) rfl Tryz.isAgg29 Tryz.sizeOf29 (ev_gv rfl hb) rfl (by rw [bs_length,ht]) (by show (bs top).take 32=_; rw [List.take_of_length_le (by rw [bs_length,ht]; omega)]))) (AH_takeG2 23 rfl (by kernel_rfl) (by kernel_rfl) (by kernel_rfl) rfl rfl rfl rfl (by decide) (fun hb=>(Pu_idZero rfl)) (AH_takeG2 24 rfl (by kernel_rfl) (by kernel_rfl) (by kernel_rfl) rfl rfl rfl rfl (by decide) (fun hb=>(Pn9 rfl (ev_gv rfl hb) (ev_gv rfl hb) (run_idNe _ _ ht zeroId_length _ _))) (AH_takeG 25 rfl (by kernel_rfl) (by kernel_rfl) (by kernel_rfl) rfl rfl rfl rfl (by decide) (fun hb=>(Pu_and2 hb rfl (ev_gv rfl hb) rfl)) (T9 26 rfl rfl (Pu_or rfl rfl rfl) (Ad9 (by kernel_rfl) (X9 ?_)))))))))))))))
   refine C9 rfl (fun hc37=>?_) (fun hc37=>?_)
   ·
    refine Q9 ?_
    refine J9 [(0,_),(1,_),(2,_),(10,_),(37,_)] [(0,_),(101,_)] ?_ ⟨rfl,rfl,rfl,rfl,rfl,trivial⟩ ⟨rfl,rfl,trivial⟩
    refine R9 (G9 rfl rfl (N9 (X9 ?_)))
    refine W_ret (X_then_ret ?_)
    exact Xq9 [] (Ps:=[]) (res1 Tryz.results147 rfl) rfl (by decide) ⟨int_val (wrongN_bad hc10 hc37),rfl⟩
   ·
    refine K9 (X9 ?_)
    refine Q9 ?_
    refine J9 [(0,_),(1,_),(2,_),(10,_),(37,_)] [(0,_),(101,_)] ?_ ⟨rfl,rfl,rfl,rfl,rfl,trivial⟩ ⟨rfl,rfl,trivial⟩
    refine R9 (G9 rfl rfl (N9 (X9 ?_)))
    refine W_ret ?_
    exact Xq9 [] (Ps:=[]) (res1 Tryz.results147 rfl) rfl (by decide) ⟨int_val (wrongN_ok hc10 hc37),rfl⟩
  exact An9
theorem refFour_spec (e:TypeId) (he:e=5) (v:Value) (l:List UInt8) (n:Int) (hl:l.length≤100000000) (F:HP):CallsS Tryz.prog 148 #[v,.int .i64 n] F [rowB e v l] (fun r Ps=>Ps=[rowB e r (l++numB n 4)]):=by
 subst he
 unfold rowB
 refine callsS_enter Tryz.func148 rfl Tryz.ntmps148 (by simp) (fun E=>?_)
 refine Q9 (R9 (G9 rfl rfl (N9 (X9 (Q9 (R9 (M9 rfl rfl (M9 rfl rfl (L9 rfl (Pn9 rfl rfl rfl (run_shr _ 24 _ _ _ (by omega))) (L9 rfl (Pu_conv rfl rfl (conv_byte _ _ Tryz.runUnderlying3 Tryz.runUnderlying5)) (M9 rfl rfl (L9 rfl (Pn9 rfl rfl rfl (run_shr _ 16 _ _ _ (by omega))) (L9 rfl (Pu_conv rfl rfl (conv_byte _ _ Tryz.runUnderlying3 Tryz.runUnderlying5)) (M9 rfl rfl (L9 rfl (Pn9 rfl rfl rfl (run_shr _ 8 _ _ _ (by omega))) (L9 rfl (Pu_conv rfl rfl (conv_byte _ _ Tryz.runUnderlying3 Tryz.runUnderlying5)) (M9 rfl rfl (L9 rfl (Pu_conv rfl rfl (conv_byte _ _ Tryz.runUnderlying3 Tryz.runUnderlying5)) (Lc9 rfl rfl (by decide) (OpT_buildOnes (r:=101) (bs (numB n 4)) rfl rfl Tryz.runUnderlying36 Tryz.sizeOf5 Tryz.zeroValue5 rfl rfl (by decide) (by rw [numB_four]; rfl) (bs_cells _) (fun v17=>(Lc9 rfl rfl (by decide) (Oa9 (r:=1) (r2:=101) rfl Tryz.underlying36 TI.hi5 TI.hz5 TI.hs5 TI.hby5 TI.hzs5 (by decide) rfl rfl rfl rfl (fun _ h=>rp9 h) (bs_one _) (by unfold maxLen; omega) (by omega) (fun v18=>?_))))))))))))))))))))))))
 refine (G9 rfl rfl (N9 (X9 ?_)))
 refine W_ret ?_
 exact Xq9 [1] (Ps:=[_]) (res1 Tryz.results148 rfl) rfl (by decide) (congrArg (·::[]) (rowB_of _ (by simp [numB_length]) (by rw [bs_append])))
open Go.RowKit
set_option maxRecDepth 8000

theorem refInode_spec (k s l:Int) (top:List UInt8) (ht:top.length=32) (F:HP):CallsS Tryz.prog 113 #[nodeV k s l top] F [] (fun v Ps=>∃ v',v = .tuple #[v',.int .i64 (wrongN k s l top)]∧Ps=[rowB 5 v' (inodeR k s l top)]):=by
 have h6:([105,byte k]++numB s 4).length=6:=by simp [numB_length]
 refine callsS_enter Tryz.func113 rfl Tryz.ntmps113 (by simp) (fun E=>?_)
 refine Q9 (R9 (Lc9 rfl rfl (by decide) (OpT_box (r:=101) rfl rfl rfl (fun g101=>(G9 rfl rfl (G9 rfl rfl (N9 (X9 (Q9 (Q9 (R9 (L9 rfl (Px9 (r:=101) rfl Tryz.isAgg42 Tryz.sizeOf42 rfl rfl (nodeC_length ht) (load_all (nodeC_length ht))) (Lc9 rfl rfl (by decide) (Oc9 200 [0,101] [] rfl Tryz.call147 rfl rfl rfl (by decide) (by decide) (refWrong_spec k s l top ht _) (fun v6 Ps6 hR6=>?_)))))))))))))))
 obtain ⟨rfl,rfl⟩:=hR6
 refine (L9 rfl (Pn9 rfl rfl rfl (run_neq _ _ _ _ _ _)) (N9 (X9 ?_)))
 refine C9 rfl (fun hc7=>?_) (fun hc7=>?_)
 ·
  refine Q9 (R9 (L9 rfl (Px9 (r:=101) rfl Tryz.isAgg42 Tryz.sizeOf42 rfl rfl (nodeC_length ht) (load_all (nodeC_length ht))) (Lc9 rfl rfl (by decide) (Oc9 300 [0,101] [] rfl Tryz.call147 rfl rfl rfl (by decide) (by decide) (refWrong_spec k s l top ht _) (fun v9 Ps9 hR9=>?_)))))
  obtain ⟨rfl,rfl⟩:=hR9
  refine (G9 rfl rfl (G9 rfl rfl (N9 (X9 ?_))))
  refine W_ret (X_then_ret ?_)
  refine X_nilRow 9900 5 1 ?_
  exact Xq9 [9900] (Ps:=[_]) (res2 Tryz.results113 rfl rfl) rfl (by decide) ⟨_,rfl,by rw [inodeR,if_neg (by simpa using hc7)]; rfl⟩
 ·
  refine K9 (X9 ?_)
  refine Q9 ?_
  refine W_draw (N:=13) (by kernel_rfl) rfl [(0,_),(101,_)] ⟨rfl,rfl,trivial⟩ ?_
  refine (T9 0 rfl rfl (F9 0 rfl rfl) (T9 1 rfl rfl (Pb9 (r:=101) rfl Tryz.isAgg3 rfl rfl rfl) (T9 2 rfl rfl (Pu_conv rfl rfl (conv_byte _ _ Tryz.runUnderlying3 Tryz.runUnderlying5)) (T9 4 rfl rfl (F9 1 rfl rfl) (T9 5 rfl rfl (Pb9 (r:=101) rfl Tryz.isAgg3 rfl rfl rfl) (T9 7 rfl rfl (F9 2 rfl rfl) (T9 8 rfl rfl (Pb9 (r:=101) rfl Tryz.isAgg3 rfl rfl rfl) (T9 9 rfl rfl (Pu_conv rfl rfl (conv_byte _ _ Tryz.runUnderlying3 Tryz.runUnderlying5)) (Y9 [3,10] ?_)))))))))
  refine Z9 rfl rfl (OpT_buildOnes (r:=201) (bs [105,byte k]) rfl rfl Tryz.runUnderlying36 Tryz.sizeOf5 Tryz.zeroValue5 rfl rfl (by decide) rfl (bs_cells _) (fun v13=>⟨⟨rfl,rfl,trivial⟩,?_⟩)) ?_
  ·
   refine (Y9 [6,10] ?_)
   refine Z9 rfl rfl (Oc9 300 [0,101] [201] rfl Tryz.call148 rfl rfl rfl (by decide) (by decide) (refFour_spec 5 rfl _ [105,byte k] s (by simp) _) (fun v16 Ps16 hR16=>?_)) ?_
   ·
    subst hR16
    refine ⟨⟨rfl,rfl,trivial⟩,?_⟩
    refine (Y9 [10] ?_)
    refine Z9 rfl rfl (OpT_buildOnes (r:=301) (bs [byte l]) rfl rfl Tryz.runUnderlying36 Tryz.sizeOf5 Tryz.zeroValue5 rfl rfl (by decide) rfl (bs_cells _) (fun v20=>⟨⟨rfl,rfl,trivial⟩,?_⟩)) ?_
    ·
     refine (Y9 [11] ?_)
     refine Z9 rfl rfl (Oa9 (r:=300) (r2:=301) rfl Tryz.underlying36 TI.hi5 TI.hz5 TI.hs5 TI.hby5 TI.hzs5 (by decide) rfl rfl rfl rfl (fun _ h=>rp9 h) (bs_one _) (by unfold maxLen; omega) (by omega) (fun v21=>?_)) ?_
     ·
      refine ⟨⟨rfl,rfl,trivial⟩,?_⟩
      refine (T9 12 rfl rfl (Pg9 rfl rfl) (Ad9 (by kernel_rfl) (X9 ?_)))
      refine Q9 (R9 (M9 rfl rfl (L9 rfl (F9 3 rfl rfl) (L9 rfl (Pu_sliceArr rfl Tryz.runUnderlying29 Tryz.sizeOf5 rfl) (Lc9 rfl rfl (by decide) (Oa9 (r:=300) (r2:=101) rfl Tryz.underlying36 TI.hi5 TI.hz5 TI.hs5 TI.hby5 TI.hzs5 (by decide) rfl rfl rfl rfl (fun _ h=>blk_rd (xs:=bs top) h (take_top ht) (by rw [bs_length,ht]) (by omega)) (bs_one _) (by unfold maxLen; omega) (by omega) (fun v25=>?_)))))))
      refine (G9 rfl rfl (G9 rfl rfl (N9 (X9 ?_))))
      refine W_ret ?_
      exact Xq9 [300] (Ps:=[_]) (res2 Tryz.results113 rfl rfl) rfl (by decide) ⟨_,by simp at hc7; rw [hc7],by rw [inodeR,if_pos (by simpa using hc7)]; exact congrArg (·::[]) (rowB_of _ (by simp [inodeB,numB_length,ht]) (by unfold inodeB; simp only [bs_append]))⟩
     exact An9
    exact An9
   refine Z9 rfl rfl (OpT_buildOnes (r:=202) (bs [byte l]) rfl rfl Tryz.runUnderlying36 Tryz.sizeOf5 Tryz.zeroValue5 rfl rfl (by decide) rfl (bs_cells _) (fun v20=>⟨⟨rfl,rfl,trivial⟩,?_⟩)) ?_
   ·
    refine (Y9 [6] ?_)
    refine Z9 rfl rfl (Oc9 300 [0,101,202] [201] rfl Tryz.call148 rfl rfl rfl (by decide) (by decide) (refFour_spec 5 rfl _ [105,byte k] s (by simp) _) (fun v16 Ps16 hR16=>?_)) ?_
    ·
     subst hR16
     refine ⟨⟨rfl,rfl,trivial⟩,?_⟩
     refine (Y9 [11] ?_)
     refine Z9 rfl rfl (Oa9 (r:=300) (r2:=202) rfl Tryz.underlying36 TI.hi5 TI.hz5 TI.hs5 TI.hby5 TI.hzs5 (by decide) rfl rfl rfl rfl (fun _ h=>rp9 h) (bs_one _) (by unfold maxLen; omega) (by omega) (fun v21=>?_)) ?_
     ·
      refine ⟨⟨rfl,rfl,trivial⟩,?_⟩
      refine (T9 12 rfl rfl (Pg9 rfl rfl) (Ad9 (by kernel_rfl) (X9 ?_)))
      refine Q9 (R9 (M9 rfl rfl (L9 rfl (F9 3 rfl rfl) (L9 rfl (Pu_sliceArr rfl Tryz.runUnderlying29 Tryz.sizeOf5 rfl) (Lc9 rfl rfl (by decide) (Oa9 (r:=300) (r2:=101) rfl Tryz.underlying36 TI.hi5 TI.hz5 TI.hs5 TI.hby5 TI.hzs5 (by decide) rfl rfl rfl rfl (fun _ h=>blk_rd (xs:=bs top) h (take_top ht) (by rw [bs_length,ht]) (by omega)) (bs_one _) (by unfold maxLen; omega) (by omega) (fun v25=>?_)))))))
      refine (G9 rfl rfl (G9 rfl rfl (N9 (X9 ?_))))
      refine W_ret ?_
      exact Xq9 [300] (Ps:=[_]) (res2 Tryz.results113 rfl rfl) rfl (by decide) ⟨_,by simp at hc7; rw [hc7],by rw [inodeR,if_pos (by simpa using hc7)]; exact congrArg (·::[]) (rowB_of _ (by simp [inodeB,numB_length,ht]) (by unfold inodeB; simp only [bs_append]))⟩
     exact An9
    exact An9
   exact An9
  refine Z9 rfl rfl (OpT_buildOnes (r:=201) (bs [byte l]) rfl rfl Tryz.runUnderlying36 Tryz.sizeOf5 Tryz.zeroValue5 rfl rfl (by decide) rfl (bs_cells _) (fun v20=>⟨⟨rfl,rfl,trivial⟩,?_⟩)) ?_
  ·
   refine (Y9 [3] ?_)
   refine Z9 rfl rfl (OpT_buildOnes (r:=202) (bs [105,byte k]) rfl rfl Tryz.runUnderlying36 Tryz.sizeOf5 Tryz.zeroValue5 rfl rfl (by decide) rfl (bs_cells _) (fun v13=>⟨⟨rfl,rfl,trivial⟩,?_⟩)) ?_
   ·
    refine (Y9 [6] ?_)
    refine Z9 rfl rfl (Oc9 300 [0,101,201] [202] rfl Tryz.call148 rfl rfl rfl (by decide) (by decide) (refFour_spec 5 rfl _ [105,byte k] s (by simp) _) (fun v16 Ps16 hR16=>?_)) ?_
    ·
     subst hR16
     refine ⟨⟨rfl,rfl,trivial⟩,?_⟩
     refine (Y9 [11] ?_)
     refine Z9 rfl rfl (Oa9 (r:=300) (r2:=201) rfl Tryz.underlying36 TI.hi5 TI.hz5 TI.hs5 TI.hby5 TI.hzs5 (by decide) rfl rfl rfl rfl (fun _ h=>rp9 h) (bs_one _) (by unfold maxLen; omega) (by omega) (fun v21=>?_)) ?_
     ·
      refine ⟨⟨rfl,rfl,trivial⟩,?_⟩
      refine (T9 12 rfl rfl (Pg9 rfl rfl) (Ad9 (by kernel_rfl) (X9 ?_)))
      refine Q9 (R9 (M9 rfl rfl (L9 rfl (F9 3 rfl rfl) (L9 rfl (Pu_sliceArr rfl Tryz.runUnderlying29 Tryz.sizeOf5 rfl) (Lc9 rfl rfl (by decide) (Oa9 (r:=300) (r2:=101) rfl Tryz.underlying36 TI.hi5 TI.hz5 TI.hs5 TI.hby5 TI.hzs5 (by decide) rfl rfl rfl rfl (fun _ h=>blk_rd (xs:=bs top) h (take_top ht) (by rw [bs_length,ht]) (by omega)) (bs_one _) (by unfold maxLen; omega) (by omega) (fun v25=>?_)))))))
      refine (G9 rfl rfl (G9 rfl rfl (N9 (X9 ?_))))
      refine W_ret ?_
      exact Xq9 [300] (Ps:=[_]) (res2 Tryz.results113 rfl rfl) rfl (by decide) ⟨_,by simp at hc7; rw [hc7],by rw [inodeR,if_pos (by simpa using hc7)]; exact congrArg (·::[]) (rowB_of _ (by simp [inodeB,numB_length,ht]) (by unfold inodeB; simp only [bs_append]))⟩
     exact An9
    exact An9
   exact An9
  exact An9
open Go.RowKit
set_option maxRecDepth 8000

theorem inner_spec (v:Value) (l:List (List UInt8)) (hl:Ids l) (F:HP) (hF:∀ h,F h→rdI v l h):CallsS Tryz.prog 94 #[v] F [] (fun r Ps=>∃ v',r = .tuple #[v',.int .i64 (innerE l)]∧Ps=[rowB 5 v' (innerR l)]):=by
 refine callsS_enter Tryz.func94 rfl Tryz.ntmps94 (by simp) (fun E=>?_)
 refine Q9 (R9 (G9 rfl rfl (G9 rfl rfl (N9 (X9 (Q9 ?_))))))
 refine W_block ?_
 refine Q9 (R9 (M9 rfl rfl (L9 rfl (Pl9 (r:=0) rfl Tryz.runUnderlying165 rfl rfl hF) (L9 rfl (Pn9 rfl rfl rfl (run_eql _ _ _ _ _ _)) (G9 rfl rfl (N9 (X9 ?_)))))))
 refine C9 rfl (fun hc7=>?_) (fun hc7=>?_)
 ·
  have h0:=of_decide_eq_true hc7
  refine Q9 (R9 (G9 rfl rfl (G9 rfl rfl (N9 (X9 ?_)))))
  refine W_ret (X_block_ret (X_then_ret ?_))
  refine X_nilRow 9900 5 1 ?_
  have hE:innerE l=1:=by unfold innerE; rw [if_pos (by omega)]
  exact Xq9 [9900] (Ps:=[_]) (res2 Tryz.results94 rfl rfl) rfl (by decide) ⟨_,by rw [hE],by rw [innerR,if_neg (by rw [hE]; decide)]; rfl⟩
 ·
  have h0:=of_decide_eq_false hc7
  refine Q9 (R9 (M9 rfl rfl (L9 rfl (Pl9 (r:=0) rfl Tryz.runUnderlying165 rfl rfl hF) (L9 rfl (Pn9 rfl rfl rfl (run_gtr _ _ _ _ _ _)) (G9 rfl rfl (N9 (X9 ?_)))))))
  refine C9 rfl (fun hc11=>?_) (fun hc11=>?_)
  ·
   have h8:=of_decide_eq_true hc11
   refine Q9 (R9 (G9 rfl rfl (G9 rfl rfl (N9 (X9 ?_)))))
   refine W_ret (X_block_ret (X_then_ret ?_))
   refine X_nilRow 9900 5 1 ?_
   have hE:innerE l=4:=by unfold innerE; rw [if_neg (by omega),if_pos (by omega)]
   exact Xq9 [9900] (Ps:=[_]) (res2 Tryz.results94 rfl rfl) rfl (by decide) ⟨_,by rw [hE],by rw [innerR,if_neg (by rw [hE]; decide)]; rfl⟩
  ·
   have h8:=of_decide_eq_false hc11
   refine K9 (X_block (X9 ?_))
   refine Q9 (R9 (M9 rfl rfl (L9 rfl (Pl9 (r:=0) rfl Tryz.runUnderlying165 rfl rfl hF) (L9 rfl (Pu_conv rfl rfl (conv_byte _ _ Tryz.runUnderlying3 Tryz.runUnderlying5)) (Lc9 rfl rfl (by decide) (OpT_buildOnes (r:=101) (bs [110,byte l.length]) rfl rfl Tryz.runUnderlying36 Tryz.sizeOf5 Tryz.zeroValue5 rfl rfl (by decide) rfl (bs_cells _) (fun v18=>(G9 rfl rfl (N9 (X9 (Q9 (Q9 (R9 (M9 rfl rfl (L9 rfl (Pl9 (r:=0) rfl Tryz.runUnderlying165 rfl rfl hF) (M9 rfl rfl (N9 (X9 ?_))))))))))))))))))
   refine W_block ?_
   refine W_loop (α:=Nat × Value) (fun k=>[(0,v),(4,k.2),(19,v),(20,.int .i64 (l.length:Int)),(21,.int .i64 (k.1:Int))]) (fun k=>[(0,F),(101,rowB 5 k.2 (innerTo l k.1))]) (fun k=>k.1≤l.length) (fun k=>l.length - k.1) ((0,v18)) (Nat.zero_le _) (a9 rfl) (a9 rfl) (fun x hx=>?_)
   unfold rowB
   refine Q9 (R9 (L9 rfl (Pn9 rfl rfl rfl (run_lss _ _ _ _ _ _)) (N9 (X9 (Q9 ?_)))))
   refine C9 rfl (fun hc22=>?_) (fun hc22=>?_)
   ·
    have hlt:x.1 < l.length:=by have:=of_decide_eq_true hc22; omega
    have hid:=hl.get hlt
    refine K9 (X9 ?_)
    refine Q9 ?_
    refine W_block ?_
    refine Q9 (R9 (L9 rfl (Pi9 (r:=0) rfl Tryz.runUnderlying165 Tryz.sizeOf29 rfl rfl rfl hF (by omega)) (L9 rfl (Pz9 (r:=0) rfl Tryz.isAgg29 Tryz.sizeOf29 rfl rfl hF ((bs_length _).trans hid) (by decide) (idsC_get (k:=x.1) hl hlt)) (Lc9 rfl rfl (by decide) (OpT_alloc (r:=102) (cs:=(bs zeroId)) rfl (zero_run (by kernel_rfl:(Tryz.prog.info? 29).bind (·.zero)=some (.agg (bs zeroId).toArray))) rfl (fun g102=>(Lc09 rfl rfl (OpT_storeAll (r:=102) rfl Tryz.sizeOf29 rfl rfl rfl rfl ((bs_length _).trans hid) (bs_one _) ?_))))))))
    refine (N9 (X9 ?_))
    refine R9 (M9 rfl rfl (L9 rfl (Pu_sliceArr rfl Tryz.runUnderlying29 Tryz.sizeOf5 rfl) (Lc9 rfl rfl (by decide) (Oa9 (r:=101) (r2:=102) rfl Tryz.underlying36 TI.hi5 TI.hz5 TI.hs5 TI.hby5 TI.hzs5 (by decide) rfl rfl rfl rfl (fun _ h=>id_rd hid h) (bs_one _) (by rw [innerTo_length hl hx]; unfold maxLen; omega) (by rw [innerTo_length hl hx]; omega) (fun v27=>?_)))))
    refine (G9 rfl rfl (N9 (X_block (X9 ?_))))
    refine R9 (L9 rfl (Pn9 rfl rfl rfl (run_add _ _ _ _ _ (by omega))) (M9 rfl rfl (N9 ?_)))
    exact Xr9 (x.1 + 1,v27) (by show x.1 + 1≤l.length; omega) (by show l.length - (x.1 + 1) < _; omega) ⟨rfl,rfl,rfl,rfl,rfl,trivial⟩ ⟨rfl,look_eq rfl (rowB_of (innerTo l (x.1 + 1)) (by rw [innerTo_succ hlt,List.length_append,hid]) (by rw [innerTo_succ hlt,bs_append])),trivial⟩
   ·
    have hfin:x.1=l.length:=by have:=of_decide_eq_false hc22; omega
    refine W_exit (X_then_exit (X_then_exit (X_block_exit (X9 ?_))))
    refine Q9 (R9 (M9 rfl rfl (G9 rfl rfl (G9 rfl rfl (N9 (X9 ?_))))))
    refine W_ret ?_
    have hE:innerE l=0:=by unfold innerE; rw [if_neg (by omega),if_neg (by omega)]
    exact Xq9 [101] (Ps:=[_]) (res2 Tryz.results94 rfl rfl) rfl (by decide) ⟨_,by rw [hE],by rw [innerR,if_pos hE,← hfin]⟩
theorem refInner_spec (v:Value) (l:List (List UInt8)) (hl:Ids l) (F:HP) (hF:∀ h,F h→rdI v l h):CallsS Tryz.prog 112 #[v] F [] (fun r Ps=>∃ v',r = .tuple #[v',.int .i64 (innerE l)]∧Ps=[rowB 5 v' (innerR l)]):=by
 refine callsS_enter Tryz.func112 rfl Tryz.ntmps112 (by simp) (fun E=>?_)
 refine Q9 (R9 (G9 rfl rfl (G9 rfl rfl (N9 (X9 (Q9 (Q9 (R9 (M9 rfl rfl (L9 rfl (Pl9 (r:=0) rfl Tryz.runUnderlying165 rfl rfl hF) (L9 rfl (Pn9 rfl rfl rfl (run_eql _ _ _ _ _ _)) (N9 (X9 ?_)))))))))))))
 refine C9 rfl (fun hc8=>?_) (fun hc8=>?_)
 ·
  have h0:=of_decide_eq_true hc8
  refine Q9 (R9 (G9 rfl rfl (G9 rfl rfl (N9 (X9 ?_)))))
  refine W_ret (X_then_ret ?_)
  refine X_nilRow 9900 5 1 ?_
  have hE:innerE l=1:=by unfold innerE; rw [if_pos (by omega)]
  exact Xq9 [9900] (Ps:=[_]) (res2 Tryz.results112 rfl rfl) rfl (by decide) ⟨_,by rw [hE],by rw [innerR,if_neg (by rw [hE]; decide)]; rfl⟩
 ·
  have h0:=of_decide_eq_false hc8
  refine K9 (X9 ?_)
  refine Q9 (Q9 (R9 (M9 rfl rfl (L9 rfl (Pl9 (r:=0) rfl Tryz.runUnderlying165 rfl rfl hF) (L9 rfl (Pn9 rfl rfl rfl (run_gtr _ _ _ _ _ _)) (N9 (X9 ?_)))))))
  refine C9 rfl (fun hc11=>?_) (fun hc11=>?_)
  ·
   have h8:=of_decide_eq_true hc11
   refine Q9 (R9 (G9 rfl rfl (G9 rfl rfl (N9 (X9 ?_)))))
   refine W_ret (X_then_ret ?_)
   refine X_nilRow 9900 5 1 ?_
   have hE:innerE l=4:=by unfold innerE; rw [if_neg (by omega),if_pos (by omega)]
   exact Xq9 [9900] (Ps:=[_]) (res2 Tryz.results112 rfl rfl) rfl (by decide) ⟨_,by rw [hE],by rw [innerR,if_neg (by rw [hE]; decide)]; rfl⟩
  ·
   have h8:=of_decide_eq_false hc11
   refine K9 (X9 ?_)
   refine Q9 (R9 (M9 rfl rfl (L9 rfl (Pl9 (r:=0) rfl Tryz.runUnderlying165 rfl rfl hF) (L9 rfl (Pu_conv rfl rfl (conv_byte _ _ Tryz.runUnderlying3 Tryz.runUnderlying5)) (Lc9 rfl rfl (by decide) (OpT_buildOnes (r:=101) (bs [110,byte l.length]) rfl rfl Tryz.runUnderlying36 Tryz.sizeOf5 Tryz.zeroValue5 rfl rfl (by decide) rfl (bs_cells _) (fun v15=>(G9 rfl rfl (N9 (X9 (Q9 (Q9 (R9 (G9 rfl rfl (N9 (X9 ?_))))))))))))))))
   refine W_block ?_
   refine W_loop (α:=Nat × Value) (fun k=>[(0,v),(4,k.2),(5,.int .i64 (k.1:Int))]) (fun k=>[(0,F),(101,rowB 5 k.2 (innerTo l k.1))]) (fun k=>k.1≤l.length) (fun k=>l.length - k.1) ((0,v15)) (Nat.zero_le _) (a9 rfl) (a9 rfl) (fun x hx=>?_)
   unfold rowB
   refine Q9 (Q9 (R9 (M9 rfl rfl (M9 rfl rfl (L9 rfl (Pl9 (r:=0) rfl Tryz.runUnderlying165 rfl rfl hF) (L9 rfl (Pn9 rfl rfl rfl (run_lss _ _ _ _ _ _)) (N9 (X9 ?_))))))))
   refine C9 rfl (fun hc19=>?_) (fun hc19=>?_)
   ·
    have hlt:x.1 < l.length:=by have:=of_decide_eq_true hc19; omega
    have hid:=hl.get hlt
    refine K9 (X9 ?_)
    refine Q9 ?_
    refine W_block ?_
    refine R9 (M9 rfl rfl (M9 rfl rfl (M9 rfl rfl (L9 rfl (Pi9 (r:=0) rfl Tryz.runUnderlying165 Tryz.sizeOf29 rfl rfl rfl hF (by omega)) (L9 rfl (Pu_sliceArrE rfl Tryz.runUnderlying29 Tryz.sizeOf5 rfl) (Lc9 rfl rfl (by decide) (Oa9 (r:=101) (r2:=0) rfl Tryz.underlying36 TI.hi5 TI.hz5 TI.hs5 TI.hby5 TI.hzs5 (by decide) rfl rfl rfl rfl (fun h hp=>rdP_cast (rd_id (k:=x.1) (hF h hp) hl hlt) rfl hid) (bs_one _) (by rw [innerTo_length hl hx]; unfold maxLen; omega) (by rw [innerTo_length hl hx]; omega) (fun v27=>?_))))))))
    refine (G9 rfl rfl (N9 (X_block (X9 ?_))))
    refine R9 (M9 rfl rfl (L9 rfl (Pn9 rfl rfl rfl (run_add _ _ _ _ _ (by omega))) (G9 rfl rfl (N9 ?_))))
    exact Xr9 (x.1 + 1,v27) (by show x.1 + 1≤l.length; omega) (by show l.length - (x.1 + 1) < _; omega) ⟨rfl,rfl,rfl,trivial⟩ ⟨rfl,look_eq rfl (rowB_of (innerTo l (x.1 + 1)) (by rw [innerTo_succ hlt,List.length_append,hid]) (by rw [innerTo_succ hlt,bs_append])),trivial⟩
   ·
    have hfin:x.1=l.length:=by have:=of_decide_eq_false hc19; omega
    refine W_exit (X_then_exit (X_then_exit (X_block_exit (X9 ?_))))
    refine Q9 (R9 (M9 rfl rfl (G9 rfl rfl (G9 rfl rfl (N9 (X9 ?_))))))
    refine W_ret ?_
    have hE:innerE l=0:=by unfold innerE; rw [if_neg (by omega),if_neg (by omega)]
    exact Xq9 [101] (Ps:=[_]) (res2 Tryz.results112 rfl rfl) rfl (by decide) ⟨_,by rw [hE],by rw [innerR,if_pos hE,← hfin]⟩
end Go.Proofs.YthkdkmaacjpneaaGreatDoor
