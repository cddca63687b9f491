/- Texts of this proof, one behind the other: MapE, TreeSa, TreeW, TreeX, TreeY, TreeZ, LibC, TreeAA, TreeSb, TreeSc, TreeSd. -/
import Derived.Test.YthkdkmaacjpneaaGreatDoorK3
import Derived.Test.YthkdkmaacjpneaaGreatDoorK5
import Derived.Test.YthkdkmaacjpneaaGreatDoorK2
import Derived.Test.YthkdkmaacjpneaaGreatDoorK4
import Derived.Test.YthkdkmaacjpneaaGreatDoorK1
import Derived.Test.YthkdkmaacjpneaaGreatDoorProg
set_option linter.unusedVariables false
set_option linter.unusedSimpArgs false
set_option linter.unusedSectionVars false
namespace Go.Proofs.YthkdkmaacjpneaaGreatDoor
open Go.RowKit
section
variable {P:Program} {E:Env} {n:Nat} {K:Slots} {L:Res} {o:Oper} {C:Value→Res→Prop}
section
variable {κ:Type} [DecidableEq κ] {kt mt et:TypeId} {enc:κ→Value} {ok:κ→Prop}
def mapEnt (enc:κ→Value) (ok:κ→Prop) (g:Nat) (es:List (κ × Value)) (j b:Nat):HP:=fun h=>(∀ p ∈ es,ok p.1)∧∃ a clk,h g=some (.map a clk)∧MapKept.Stamped a clk∧ekv a.toList=kvs enc es∧∃ e,a[j]?=some e∧e.born=b
theorem mapEnt_Q {g:Nat} {es:List (κ × Value)} {j b:Nat} {h:Hlt} (hp:mapEnt enc ok g es j b h):mapQ enc ok g es none h:=by
  obtain ⟨h1,a,clk,h2,h3,h4,_⟩:=hp
  exact ⟨h1,a,clk,h2,h3,h4,trivial⟩
structure EntAt (k:κ) (z:Value) (es es1:List (κ × Value)) (j:Nat):Prop where
  key:∃ u,es1[j]?=some (k,u)
  put:∀ v,es1.set j (k,v)=putQ k v es
  look:∀ q,(lookQ q es1).getD z=(lookQ q es).getD z
theorem OpT_mapEntryQ {r g:Nat} {x y:Operand} {k:κ} {es:List (κ × Value)} {z:Value} (T:KeyT P kt enc ok) (ho:o.op = .mapEntry mt x y) (hm:P.underlying mt=some (.map kt et)) (hz:∀ w,(zeroValue et).run P w = .ok z w)
    (hx:evK K x=some (.map (some g))) (hy:evK K y=some (enc k)) (hl:ok k) (hr:look L r=some (mapQ enc ok g es none)) (hc:∀ (es1:List (κ × Value)) (j b:Nat) (u:Value),EntAt k z es es1 j→C (.tuple #[u,.int .i64 (b:Int)]) ((r,mapEnt enc ok g es1 j b)::L)):OpT P E n o K L C:=fun a w Kc Q hA hS hK=>by
  obtain ⟨h,q1,q2⟩:=hS.read hr
  obtain ⟨h1,b,clk,h2,hst,h3,_⟩:=q1
  have hg:=q2 _ _ h2
  cases hf:findG k es 0 with
  | none =>
    have hlk:=(findG_none k es 0 hf).1
    have hx':=(findG_none k es 0 hf).2.2
    have hrun:(Instr.mapEntry mt (.map (some g)) (enc k)).run P w = .ok (.tuple #[z,.int .i64 (clk:Int)]) { w with heap:=w.heap.setIfInBounds g (.map (b.push { key:=enc k,val:=z,born:=clk }) (clk + 1)) }:=by
      unfold Instr.mapEntry
      simp only [Sem.run_bind,run_underlying hm,Result.andThen_ok,MapKept.run_getObj_map hg,Sem.run_pure,T.check _ k _ hl,T.find k w es b.toList hl h1 h3,hf,hz,MapKept.run_setObj_map _ hg]
      rfl
    unfold Oper.wp execOp
    simp only [ho,hA.eval hx,hA.eval hy,Sem.run_bind,hrun,Result.andThen_ok,Sem.run_pure]
    refine hK _ _ _ (hc (es++[(k,z)]) es.length clk z ⟨⟨z,by simp⟩,fun v=>by rw [show putQ k v es=es++[(k,v)] by unfold putQ; rw [hlk]; rfl]; simp,fun q=>?_⟩) (mapQ_step hS hr _ _ mapQ_dom hg fun h' hp' hin'=>?_)
    · rw [lookQ_app]
      cases hq:lookQ q es with
      | some u=>rfl
      | none =>
        by_cases hqk:q=k <;> simp [hqk]
    · have hne:∀ x ∈ b.toList,x.key≠enc k:=fun x hx hke=>by
        have:(x.key,x.val) ∈ kvs enc es:=by rw [← h3]; exact List.mem_map.2 ⟨x,hx,rfl⟩
        obtain ⟨p,hp,hpe⟩:=List.mem_map.1 this
        injection hpe with e1 e2
        exact hx' p hp (T.inj _ _ (by rw [e1,hke]))
      refine ⟨?_,b.push { key:=enc k,val:=z,born:=clk },clk + 1,if_pos rfl,MapKept.stamped_push hst hne,?_,{ key:=enc k,val:=z,born:=clk },?_,rfl⟩
      · intro p hp
        rcases List.mem_append.1 hp with hp | hp
        · exact h1 p hp
        · rw [List.mem_singleton.1 hp]; exact hl
      · simp only [ekv,kvs,Array.toList_push,List.map_append,List.map_cons,List.map_nil]
        exact congrArg (·++[(enc k,z)]) h3
      · rw [← ekv_len h3]; simp
  | some jv =>
    obtain ⟨j,u⟩:=jv
    obtain ⟨_,f2,f3,_,f5⟩:=findG_some k es 0 j u hf
    rw [Nat.sub_zero] at f3
    obtain ⟨e,he,hek,hev⟩:=ekv_get h3 f3
    have hrun:(Instr.mapEntry mt (.map (some g)) (enc k)).run P w = .ok (.tuple #[u,.int .i64 (e.born:Int)]) { w with heap:=w.heap.setIfInBounds g (.map (b.modify j fun e=>{ e with key:=enc k }) clk) }:=by
      unfold Instr.mapEntry
      simp only [Sem.run_bind,run_underlying hm,Result.andThen_ok,MapKept.run_getObj_map hg,Sem.run_pure,T.check _ k _ hl,T.find k w es b.toList hl h1 h3,hf,he,Option.map_some,Option.getD_some,hek,T.stays,MapKept.run_setObj_map _ hg]
      rfl
    unfold Oper.wp execOp
    simp only [ho,hA.eval hx,hA.eval hy,Sem.run_bind,hrun,Result.andThen_ok,Sem.run_pure]
    refine hK _ _ _ (hc es j e.born u ⟨⟨u,f3⟩,fun v=>?_,fun q=>rfl⟩) (mapQ_step hS hr _ _ mapQ_dom hg fun h' hp' hin'=>?_)
    · have:=f5 v
      rw [Nat.sub_zero] at this
      unfold putQ
      rw [f2,← this]
      rfl
    · refine ⟨h1,b.modify j fun e=>{ e with key:=enc k },clk,if_pos rfl,MapKept.stamped_modify hst j _ (fun _ _=>rfl) (fun x hx hj=>?_),?_,{ e with key:=enc k },?_,rfl⟩
      · rw [he] at hj; injection hj with hj; rw [← hj]; exact hek.symm
      · have h4:(b.modify j fun e=>{ e with key:=enc k }).toList.map (fun e:MapEntry=>(e.key,e.val))=b.toList.map (fun e:MapEntry=>(e.key,e.val)):=by
          apply List.ext_getElem?
          intro i
          simp only [List.getElem?_map,Array.getElem?_toList,Array.getElem?_modify]
          by_cases hij:j=i
          · subst hij
            simp [he,hek]
          · simp [hij]
        exact h4.trans h3
      · simp [Array.getElem?_modify,he]
theorem OpT_entryStoreQ {r g j b:Nat} {x y z:Operand} {k:κ} {v u:Value} {es1:List (κ × Value)} (ho:o.op = .entryStore mt x y z)
    (hx:evK K x=some (.map (some g))) (hy:evK K y=some (.int .i64 (b:Int))) (hz:evK K z=some v) (hr:look L r=some (mapEnt enc ok g es1 j b)) (hk:es1[j]?=some (k,u)) (hc:C undef ((r,mapQ enc ok g (es1.set j (k,v)) none)::L)):OpT P E n o K L C:=fun a w Kc Q hA hS hK=>by
  obtain ⟨h,q1,q2⟩:=hS.read hr
  obtain ⟨h1,bb,clk,h2,hst,h3,e,he,hb⟩:=q1
  have hg:=q2 _ _ h2
  have hj:j < bb.size:=(Array.getElem?_eq_some_iff.1 he).1
  have hje:bb[j]=e:=(Array.getElem?_eq_some_iff.1 he).2
  have hfi:bb.findIdx? (fun e=>(e.born:Int) == (b:Int))=some j:=by
    rw [Array.findIdx?_eq_some_iff_getElem]
    refine ⟨hj,by simp [hje,hb],fun i hi=>?_⟩
    have hne:bb[i].born≠bb[j].born:=by
      have hn:=hst.2.1
      rw [List.Nodup,List.pairwise_map,List.pairwise_iff_getElem] at hn
      have:=hn i j (by simp; omega) (by simpa using hj) hi
      simpa using this
    rw [hje,hb] at hne
    simp
    omega
  have hrun:(Instr.entryStore mt (.map (some g)) (.int .i64 (b:Int)) v).run P w = .ok () { w with heap:=w.heap.setIfInBounds g (.map (bb.modify j fun e=>{ e with val:=v }) clk) }:=by
    unfold Instr.entryStore
    simp only [Sem.run_bind,Result.andThen_ok,MapKept.run_getObj_map hg,Sem.run_pure,asInt,asIntOf]
    show (Sem.run P (match Array.findIdx? (fun e:MapEntry=>(e.born:Int) == (b:Int)) bb with | some i=>setObj g (Obj.map (bb.modify i fun e=>{ e with val:=v }) clk) | none=>unsupported (Unsupported.noEntry "instr/MapEntry.the entry is gone")) w)=_
    rw [hfi]
    exact MapKept.run_setObj_map _ hg
  unfold Oper.wp execOp
  simp only [ho,hA.eval hx,hA.eval hy,hA.eval hz,Sem.run_bind,hrun,Result.andThen_ok,Sem.run_pure]
  obtain ⟨e2,he2,hek,hev⟩:=ekv_get h3 hk
  refine hK _ _ _ hc (mapQ_step hS hr _ _ (fun h hp=>mapQ_dom h (mapEnt_Q hp)) hg fun h' hp' hin'=>?_)
  refine ⟨?_,bb.modify j fun e=>{ e with val:=v },clk,if_pos rfl,MapKept.stamped_modify hst j _ (fun _ _=>rfl) (fun x hx hj=>rfl),?_,trivial⟩
  · intro p hp
    rcases List.mem_or_eq_of_mem_set hp with hp | hp
    · exact h1 p hp
    · rw [hp]; exact h1 (k,u) (List.mem_of_getElem? hk)
  · have h4:(bb.modify j fun e=>{ e with val:=v }).toList.map (fun e:MapEntry=>(e.key,e.val))=(bb.toList.map (fun e:MapEntry=>(e.key,e.val))).set j (enc k,v):=by
      apply List.ext_getElem?
      intro i
      simp only [List.getElem?_map,Array.getElem?_toList,Array.getElem?_modify,List.getElem?_set,List.length_map,Array.length_toList]
      by_cases hij:j=i
      · subst hij
        simp only [he2,if_true,Option.map_some,if_pos hj,hek]
      · simp [hij]
    have h5:kvs enc (es1.set j (k,v))=(kvs enc es1).set j (enc k,v):=by unfold kvs; rw [List.map_set]
    rw [h5,← h3]
    exact h4
end
end
open Go.RowKit
set_option maxRecDepth 8000
abbrev PK:=List UInt8 × Int
def plC (p:PK):List Value:=bs p.1++[.int .i64 p.2]
def encP (p:PK):Value:=.agg (plC p).toArray
def okP (p:PK):Prop:=p.1.length=32
theorem plC_length {p:PK} (h:okP p):(plC p).length=33:=by unfold okP at h; simp [plC,bs_length,h]
theorem encP_inj (a b:PK) (h:encP a=encP b):a=b:=by
  unfold encP at h
  injection h with h
  have h:plC a=plC b:=by simpa using h
  unfold plC at h
  obtain ⟨h1,h2⟩:=List.append_inj' h rfl
  have e1:a.1=b.1:=idV_inj _ _ (by unfold idV; rw [h1])
  injection h2 with h2 _
  injection h2 with _ h2
  exact Prod.ext e1 h2
theorem pl_part0 {p:PK} (h:okP p) (w:World):(part 29 (plC p).toArray 0).run Tryz.prog w = .ok (.agg (bs p.1).toArray) w:=by
  unfold okP at h
  have e:(plC p).take 32=bs p.1:=by
    unfold plC
    rw [List.take_append_of_le_length (by rw [bs_length,h]; exact Nat.le_refl _),List.take_of_length_le (by rw [bs_length,h]; exact Nat.le_refl _)]
  simp [part,Tryz.isAgg29,Tryz.sizeOf29,e]
theorem pl_part1 {p:PK} (h:okP p) (w:World):(part 3 (plC p).toArray 32).run Tryz.prog w = .ok (.int .i64 p.2) w:=by
  unfold okP at h
  have e:(plC p)[32]?=some (.int .i64 p.2):=by
    unfold plC
    rw [List.getElem?_append_right (by rw [bs_length,h]; exact Nat.le_refl _),bs_length,h]
    rfl
  have hlt:32 < (plC p).length:=by rw [plC_length h]; decide
  rw [List.getElem?_eq_getElem hlt] at e
  injection e with e
  simp [part,Tryz.isAgg3,hlt,e]
theorem run_placeEq {a b:PK} (ha:okP a) (hb:okP b) (w:World):(Op.equal 131 (encP a) (encP b)).run Tryz.prog w = .ok (decide (a=b)) w:=by
  have hid:=run_equalIn_bytes w 9997 29 5 32 Tryz.underlying29 Tryz.underlying5 (fun w=>by kernel_rfl) a.1 b.1 ha hb
  rw [show List.map Extern.Stop.cell a.1=bs a.1 from rfl,show List.map Extern.Stop.cell b.1=bs b.1 from rfl] at hid
  simp only [Nat.reduceAdd] at hid
  have hi:(Op.equalIn 9999 3 (.int .i64 a.2) (.int .i64 b.2)).run Tryz.prog w = .ok (a.2 == b.2) w:=run_equalIn_int (P:=Tryz.prog) (w:=w) 9998 3 .i64 .i64 a.2 b.2 Tryz.underlying3
  have hE:EqF Tryz.prog 9999 (plC a).toArray (plC b).toArray w [("id",29,0),("deep",3,32)] (a.1 == b.1 && (a.2 == b.2 && true)) :=
    .cons (by decide) (pl_part0 ha w) (pl_part0 hb w) hid (.cons (by decide) (pl_part1 ha w) (pl_part1 hb w) hi .nil)
  have h1:=run_equalIn_struct (P:=Tryz.prog) w 9999 131 (plC a).toArray (plC b).toArray (by kernel_rfl) Tryz.stoodInHeld131
  rw [hE.run (by kernel_rfl)] at h1
  have e:(a.1 == b.1 && (a.2 == b.2 && true))=decide (a=b):=by
    by_cases h:a=b
    · subst h; simp
    · have:¬ (a.1=b.1∧a.2=b.2):=fun hc=>h (Prod.ext hc.1 hc.2)
      by_cases h1:a.1=b.1
      · have h2:¬ a.2=b.2:=fun h2=>this ⟨h1,h2⟩
        simp [h,h1,h2]
      · simp [h,h1]
  rw [e] at h1
  simpa [Op.equal,Op.maxDepth,encP] using h1
theorem run_findPl (k:PK) (hl:okP k) (w:World):∀ (es:List (PK × Value)) (a:List MapEntry) (i:Nat),(∀ p ∈ es,okP p.1)→a.map (fun e=>(e.key,e.val))=es.map (fun p=>(encP p.1,p.2))→(Instr.findAsking 131 (encP k) a i).run Tryz.prog w = .ok (findG k es i) w
  | [],a,i,_,ha=>by
    simp at ha
    subst ha
    rfl
  | p::es,[],i,_,ha=>by simp at ha
  | p::es,e::a,i,hi,ha=>by
    simp only [List.map_cons,List.cons.injEq,Prod.mk.injEq] at ha
    have ih:=run_findPl k hl w es a (i + 1) (fun q hq=>hi q (by simp [hq])) ha.2
    rw [Instr.findAsking,findG]
    simp only [Sem.run_bind,ha.1.1,run_placeEq hl (hi p (by simp)) w,Result.andThen_ok]
    by_cases hk:k=p.1
    · simp [hk,ha.1.2]
    · simp only [hk,decide_false,Bool.false_eq_true,if_false]
      exact ih
theorem keyP:KeyT Tryz.prog 131 encP okP where
  check em k w h:=by
    rw [show (10000:Nat)=9999 + 1 from rfl,Instr.checkKey]
    have hid:(Instr.checkKey em 9999 29 (idV k.1)).run Tryz.prog w = .ok () w:=by
      rw [show (9999:Nat)=9997 + 1 + 1 from rfl,Instr.checkKey]
      simp only [Sem.run_bind,run_underlying Tryz.underlying29,Result.andThen_ok,idV,Tryz.sizeOf5,Std.Legacy.Range.forIn_eq_forIn_range',Std.Legacy.Range.size,Nat.sub_zero,Nat.add_sub_cancel,Nat.div_one]
      have hl:∀ i ∈ List.range' 0 32 1,i < 32:=fun i hi=>by simpa using (List.mem_range'_1.1 hi).2
      generalize List.range' 0 32 1=l at hl ⊢
      induction l with
      | nil=>simp
      | cons i l ih =>
        have hi:i < 32:=hl i (by simp)
        have hk:k.1.length=32:=h
        have px:(part 5 (bs k.1).toArray (i * 1)).run Tryz.prog w = .ok (bv (at0 k.1 i)) w:=by
          have:(bs k.1)[i]?=some (bv (at0 k.1 i)):=by rw [bs_get]; simp [at0,List.getElem?_eq_getElem (show i < k.1.length by omega)]
          have h2:i < (bs k.1).length:=by rw [bs_length]; omega
          rw [List.getElem?_eq_getElem h2] at this
          injection this with this
          simp [part,isAgg,run_underlying Tryz.underlying5,h2,this]
        have pc:(Instr.checkKey em (9997 + 1) 5 (bv (at0 k.1 i))).run Tryz.prog w = .ok () w:=by
          rw [Instr.checkKey]
          simp [run_underlying Tryz.underlying5,bv]
        simp only [List.forIn_cons,Sem.run_bind,Tryz.sizeOf5,px,pc,Result.andThen_ok,Sem.run_pure]
        exact ih fun j hj=>hl j (by simp [hj])
    have hint:(Instr.checkKey em 9999 3 (.int .i64 k.2)).run Tryz.prog w = .ok () w:=by
      rw [show (9999:Nat)=9998 + 1 from rfl,Instr.checkKey]
      simp [run_underlying Tryz.underlying3]
    have h0:=pl_part0 h w
    have h1:=pl_part1 h w
    unfold idV at hid
    simp [run_underlying Tryz.underlying131,encP,h0,h1,hid,hint]
  find k w es a hl ho ha:=by
    unfold Instr.findKey
    simp only [Sem.run_bind,run_underlying Tryz.underlying131,Result.andThen_ok]
    cases a with
    | nil =>
      simp at ha
      subst ha
      rfl
    | cons e a' =>
      have h:=run_findPl k hl w es (e::a') 0 ho ha
      have hn:∀ fs,Instr.findNow (.struct fs) (encP k) (e::a') 0=none:=fun fs=>by
        rw [Instr.findNow]
        have:Instr.sameNow (.struct fs) (encP k) e.key=none:=by
          unfold Instr.sameNow
          split <;> simp_all
        rw [this]
      rw [hn]
      exact h
  inj:=encP_inj
  stays k w:=by
    have hz:∀ (l:List Value) (p:Value × Value),p ∈ l.zip l→p.1=p.2:=by
      intro l
      induction l with
      | nil=>intro p hp; simp at hp
      | cons u l ih =>
        intro p hp
        rw [List.zip_cons_cons] at hp
        rcases List.mem_cons.1 hp with rfl | hp
        · rfl
        · exact ih p hp
    have:Instr.sameBits 10000 (encP k) (encP k)=true:=by
      rw [show (10000:Nat)=9999 + 1 from rfl,encP,Instr.sameBits]
      simp only [beq_self_eq_true,Bool.true_and,List.all_eq_true]
      intro p hp
      obtain ⟨x,y⟩:=p
      have hxy:=List.of_mem_zip hp
      have:=hz _ _ hp
      simp only at this
      subst this
      have:x ∈ plC k:=by simpa using hxy.1
      unfold plC at this
      rcases List.mem_append.1 this with hx | hx
      · obtain ⟨u,hu,rfl⟩:=List.mem_map.1 hx
        simp [bv,Instr.sameBits]
      · rw [List.mem_singleton.1 hx]
        simp [Instr.sameBits]
    simp [Instr.keyThatStays,this]
open Go.RowKit
set_option maxRecDepth 8000
def putsT (s:List TB × Bool) (ds:List (List UInt8)):List TB × Bool:=ds.foldl (fun s d=>((putT d s.1).1,s.2 || (putT d s.1).2)) s
theorem putsT_app (s:List TB × Bool) (a b:List (List UInt8)):putsT s (a++b)=putsT (putsT s a) b:=List.foldl_append
theorem putsT_snoc (s:List TB × Bool) (a:List (List UInt8)) (d:List UInt8):putsT s (a++[d])=((putT d (putsT s a).1).1,(putsT s a).2 || (putT d (putsT s a).1).2):=by rw [putsT_app]; rfl
theorem putT_len (d:List UInt8):∀ l:List TB,(putT d l).1.length≤l.length + 1
  | []=>Nat.le_refl _
  | b::r=>by
    rw [putT]
    split
    · have:=putT_len d r; simp only [List.length_cons]; omega
    · split
      · simp
      · simp
theorem putsT_len (s:List TB × Bool):∀ ds:List (List UInt8),(putsT s ds).1.length≤s.1.length + ds.length
  | []=>Nat.le_refl _
  | d::ds=>by
    have h1:=putsT_len ((putT d s.1).1,s.2 || (putT d s.1).2) ds
    have h2:=putT_len d s.1
    show (putsT ((putT d s.1).1,s.2 || (putT d s.1).2) ds).1.length≤_
    simp only [List.length_cons] at *
    omega
def refS (g:Nat) (s:List TB × Bool) (id:List UInt8):HP:=refP g s.1 id s.2
def upL:Nat→Nat→Nat
  | 0,_=>0
  | f + 1,n=>if 1 < n then upL f ((n + 7) / 8) + 1 else 0
theorem above_up:∀ (f:Nat) (l:List (List UInt8)),(above f l).2.1=upL f l.length
  | 0,l=>rfl
  | f + 1,l=>by
    rw [upL]
    by_cases h:1 < l.length
    · rw [above_big h,if_pos h]
      show (above f ((rowsI l).map sha)).2.1 + 1=_
      rw [above_up f,List.length_map,rowsI_length]
    · rw [above_small h,if_neg h]
theorem upL_small (f n:Nat) (h:n≤1):upL f n=0:=by cases f with
  | zero=>rfl
  | succ f=>rw [upL,if_neg (by omega)]
theorem lev_eq {d:List UInt8} (h:d.length≤4096):(aboveD d).2.1=lev (d.length:Int):=by
  unfold aboveD
  rw [above_up,List.length_map,rowsD_length]
  have hl:lev (d.length:Int)=if d.length≤64 then 0 else if d.length≤512 then 1 else 2:=by
    unfold lev
    by_cases h1:d.length≤64
    · rw [if_pos (by omega),if_pos h1]
    · rw [if_neg (by omega),if_neg h1]
      by_cases h2:d.length≤512
      · rw [if_pos (by omega),if_pos h2]
      · rw [if_neg (by omega),if_neg h2,if_pos (by omega)]
  rw [hl]
  by_cases h1:d.length≤64
  · rw [if_pos h1,upL_small _ _ (by omega)]
  · rw [if_neg h1]
    obtain ⟨f,hf⟩:∃ f,d.length=f + 1:=⟨d.length - 1,by omega⟩
    rw [show d.length + 1=(f + 1) + 1 by omega,upL,if_pos (by omega)]
    by_cases h2:d.length≤512
    · rw [if_pos h2,upL_small _ _ (by omega)]
    · rw [if_neg h2,upL,if_pos (by omega),upL_small _ _ (by omega)]
def rowsK (d:List UInt8) (j:Nat):List (List UInt8):=(List.range j).map (blkD d)
def chunK (l:List (List UInt8)) (j:Nat):List (List UInt8):=(List.range j).map (blkI l)
theorem rowsK_succ (d:List UInt8) (j:Nat):rowsK d (j + 1)=rowsK d j++[blkD d j]:=by unfold rowsK; rw [List.range_succ,List.map_append]; rfl
theorem chunK_succ (l:List (List UInt8)) (j:Nat):chunK l (j + 1)=chunK l j++[blkI l j]:=by unfold chunK; rw [List.range_succ,List.map_append]; rfl
theorem rowsK_length (d:List UInt8) (j:Nat):(rowsK d j).length=j:=by unfold rowsK; rw [List.length_map,List.length_range]
theorem chunK_length (l:List (List UInt8)) (j:Nat):(chunK l j).length=j:=by unfold chunK; rw [List.length_map,List.length_range]
theorem rowsK_all (d:List UInt8):rowsK d ((d.length + 63) / 64)=rowsD d:=rfl
theorem chunK_all (l:List (List UInt8)):chunK l ((l.length + 7) / 8)=rowsI l:=rfl
theorem take_min {α:Type} (l:List α) (a k b:Nat) (h:b=min (a + k) l.length) (ha:a≤l.length):(l.drop a).take (b - a)=(l.drop a).take k:=by
  rw [List.take_eq_take_iff,List.length_drop]
  omega
theorem rdI_sub {v:Value} {l:List (List UInt8)} (hi:Ids l) {h:Hlt} (hr:rdI v l h) {a b:Nat} (hab:a≤b) (hb:b≤l.length) {l':List (List UInt8)} (hl:(l.drop a).take (b - a)=l'):rdI (subV 32 v a b) l' h:=by
  subst hl
  have h1:=rdP_sub hr hab hb
  have hd:Ids (l.drop a):=fun y hy=>hi y (List.mem_of_mem_drop hy)
  refine rdP_cast h1 ?_ ?_
  · rw [idsC_drop hi,idsC_take hd]
  · rw [List.length_take,List.length_drop]; omega
theorem ref_put {g:Nat} {s:List TB × Bool} {id:List UInt8} {ds:List (List UInt8)} {d:List UInt8} {h:Hlt} (hp:refP g (putT d (putsT s ds).1).1 id ((putsT s ds).2 || (putT d (putsT s ds).1).2) h):refS g (putsT s (ds++[d])) id h:=by rw [putsT_snoc]; exact hp
theorem refFile_spec (g:Nat) (s0:List TB × Bool) (hs0:s0.1.length≤1000000000000) (id:List UInt8) (hid:id.length=32) (kind:Int) (v:Value) (d:List UInt8) (hd:d.length≤4096) (F:HP) (hF:∀ h,F h→rdB v d h):CallsS Tryz.prog 76 #[.pointer (some ⟨g,0,none⟩),.int .i64 kind,v] F [refS g s0 id] (fun r Ps=>r=idV (idF kind d)∧Ps=[refS g (putsT s0 (blocksF kind d)) id]):=by
 refine callsS_enter Tryz.func76 rfl Tryz.ntmps76 (by simp) (fun E=>?_)
 refine Q9 (R9 (Lc9 rfl rfl (by decide) (OpT_alloc (r:=101) (cs:=(bs zeroId)) rfl (zero_run (by kernel_rfl:(Tryz.prog.info? 29).bind (·.zero)=some (.agg (bs zeroId).toArray))) rfl (fun g101=>(N9 (X9 (Q9 (R9 (M9 rfl rfl (M9 rfl rfl (L9 rfl (Pl9 (r:=0) rfl Tryz.runUnderlying36 rfl rfl hF) (M9 rfl rfl (L9 rfl (Pl9 (r:=0) rfl Tryz.runUnderlying36 rfl rfl hF) (Lc9 rfl rfl (by decide) (Oc9 200 [0,1,101] [] rfl Tryz.call110 rfl rfl rfl (by decide) (by decide) (refLevels_spec (d.length:Int) (by omega) _) (fun v21 Ps21 hR21=>?_))))))))))))))))
 obtain ⟨rfl,rfl⟩:=hR21
 refine (L9 rfl (Pu_build (V:=nodeV kind (d.length:Int) (lev (d.length:Int):Int) zeroId) [(0,1),(1,1),(2,1),(3,32)] (nodeC 0 0 0 zeroId) rfl rfl (by kernel_rfl) (by kernel_rfl) (.one rfl rfl (by simp [nodeC,bs_length,zeroId_length]) rfl (.one rfl rfl (by simp [nodeC,bs_length,zeroId_length]) rfl (.one rfl rfl (by simp [nodeC,bs_length,zeroId_length]) rfl (.nil _)))) rfl) (Lc9 rfl rfl (by decide) (OpT_alloc (r:=201) (cs:=(nodeC 0 0 0 zeroId)) rfl (zero_run (by kernel_rfl:(Tryz.prog.info? 42).bind (·.zero)=some (.agg (nodeC 0 0 0 zeroId).toArray))) rfl (fun g201=>(Lc09 rfl rfl (OpT_storeAll (r:=201) rfl Tryz.sizeOf42 rfl rfl rfl rfl rfl (one_node _ _ _ _) ?_))))))
 refine (N9 (X9 ?_))
 refine Q9 ?_
 refine W_nilRow 3 29 32 ?_
 refine Wt9 (P':=refS g (putsT s0 (rowsK d 0)) id) 1 rfl (fun h hp=>hp) ?_
 refine Wt9 (P':=rowI 29 (.slice none 0 0) ((rowsK d 0).map sha)) 3 rfl (fun h hp=>hp) ?_
 refine R9 (G9 rfl rfl (N9 (X9 (Q9 (Q9 (R9 (G9 rfl rfl (N9 (X9 ?_)))))))))
 refine W_block ?_
 refine W_loop (α:=Nat × Value) (fun x=>[(0,.pointer (some ⟨g,0,none⟩)),(2,v),(6,.pointer (some ⟨g101,0,none⟩)),(7,.pointer (some ⟨g201,0,none⟩)),(8,x.2),(9,.int .i64 ((x.1 * 64:Nat):Int))]) (fun x=>[(0,F),(1,refS g (putsT s0 (rowsK d x.1)) id),(3,rowI 29 x.2 ((rowsK d x.1).map sha)),(101,blk g101 29 (bs zeroId)),(201,blk g201 42 (nodeC kind (d.length:Int) (lev (d.length:Int):Int) zeroId))]) (fun x=>x.1≤(d.length + 63) / 64) (fun x=>(d.length + 63) / 64 - x.1) ((0,.slice none 0 0)) (Nat.zero_le _) (a9 rfl) (a9 rfl) (fun x hx=>?_)
 have hlenp:=putsT_len s0 (rowsK d x.1)
 rw [rowsK_length] at hlenp
 refine Q9 (Q9 (R9 (M9 rfl rfl (M9 rfl rfl (L9 rfl (Pl9 (r:=0) rfl Tryz.runUnderlying36 rfl rfl hF) (L9 rfl (Pn9 rfl rfl rfl (run_lss _ _ _ _ _ _)) (N9 (X9 ?_))))))))
 refine C9 rfl (fun hc26=>?_) (fun hc26=>?_)
 ·
  have hlt:x.1 * 64 < d.length:=by have:=of_decide_eq_true hc26; omega
  obtain ⟨bb,hbb⟩:∃ bb:Nat,bb=min (x.1 * 64 + 64) d.length:=⟨_,rfl⟩
  have hpc:=take_min d (x.1 * 64) 64 bb hbb (by omega)
  refine K9 (X9 ?_)
  refine Q9 ?_
  refine W_block ?_
  refine R9 (M9 rfl rfl (M9 rfl rfl (Lc9 rfl rfl (by decide) (OpT_buildOnes (r:=202) (bs [100]) rfl rfl Tryz.runUnderlying36 Tryz.sizeOf5 Tryz.zeroValue5 rfl rfl (by decide) rfl (bs_cells _) (fun v31=>?_)))))
  refine Lt9 (P':=rowB 5 v31 [100]) (r:=202) rfl (fun h hp=>hp) ?_
  refine (M9 rfl rfl (M9 rfl rfl (M9 rfl rfl (L9 rfl (Pn9 rfl rfl rfl (run_add _ _ _ _ _ (by omega))) ?_))))
  rw [show ((x.1 * 64:Nat):Int) + 64=((x.1 * 64 + 64:Nat):Int) by omega]
  refine (M9 rfl rfl (L9 rfl (Pl9 (r:=0) rfl Tryz.runUnderlying36 rfl rfl hF) (L9 rfl (Pu_min rfl rfl rfl) ?_)))
  rw [show min ((x.1 * 64 + 64:Nat):Int) ((d.length:Nat):Int)=(bb:Int) by omega]
  refine (L9 rfl (Pu_slice (r:=0) (a:=(x.1 * 64)) (b:=bb) rfl Tryz.runUnderlying36 Tryz.sizeOf5 rfl rfl hF (.inr ⟨_,_,_,rfl,rfl,rfl⟩) (.inr ⟨_,_,_,rfl,rfl,rfl⟩) (by omega) (by omega)) (Lc9 rfl rfl (by decide) (Oa9 (r:=202) (r2:=0) rfl Tryz.underlying36 TI.hi5 TI.hz5 TI.hs5 TI.hby5 TI.hzs5 (by decide) rfl rfl rfl rfl (fun h hp=>rdB_subE (hF h hp) (by omega) (by omega) hpc) (bs_one _) (by unfold maxLen; rw [List.length_take]; simp only [List.length_cons,List.length_nil]; omega) (by rw [List.length_take]; simp only [List.length_cons,List.length_nil]; omega) (fun v40=>?_))))
  refine Lt9 (P':=rowB 5 v40 (blkD d x.1)) (r:=202) rfl (fun h hp=>rowB_mk hp (by unfold blkD; rw [List.length_cons,Nat.add_comm]; rfl) (by unfold blkD; rfl)) ?_
  refine (Lc9 rfl rfl (by decide) (Oc9 300 [0,3,101,201] [1,202] rfl Tryz.call111 rfl rfl rfl (by decide) (by decide) (refPut_spec g (putsT s0 (rowsK d x.1)).1 id hid (putsT s0 (rowsK d x.1)).2 _ (blkD d x.1) (by have:=blkD_len d x.1; omega) (by omega) _) (fun v41 Ps41 hR41=>?_)))
  obtain ⟨rfl,rfl⟩:=hR41
  skip
  refine (Lc9 rfl rfl (by decide) (OpT_buildRows (r:=301) [bs (sha (blkD d x.1))] rfl rfl Tryz.runUnderlying165 Tryz.sizeOf29 Tryz.zeroValue29 rfl (by decide) rfl (by decide) (by intro r hr; simp at hr; rw [hr]; exact (bs_length _).trans (sha_length _)) rfl (fun v42=>(Lc9 rfl rfl (by decide) (Oa9 (r:=3) (r2:=301) rfl Tryz.underlying165 TI.hi29 TI.hz29 TI.hs29 TI.hby29 TI.hzs29 (by decide) rfl rfl rfl rfl (fun _ h=>rp9 h) (by intro u hu; simp at hu; exact bs_one _ u hu) (by unfold maxLen; rw [List.length_map,rowsK_length]; omega) (by rw [List.length_map,rowsK_length]; omega) (fun v43=>?_))))))
  refine (G9 rfl rfl (N9 (X_block (X9 ?_))))
  refine R9 (M9 rfl rfl (L9 rfl (Pn9 rfl rfl rfl (run_add _ _ _ _ _ (by omega))) ?_))
  rw [show ((x.1 * 64:Nat):Int) + 64=(((x.1 + 1) * 64:Nat):Int) by omega]
  refine (G9 rfl rfl (N9 ?_))
  refine X_turn (P':=refS g (putsT s0 (rowsK d (x.1 + 1))) id) 300 rfl (fun h hp=>by rw [rowsK_succ]; exact ref_put hp) ?_
  refine X_ren 300 1 rfl ?_
  refine X_turn (P':=rowI 29 v43 ((rowsK d (x.1 + 1)).map sha)) 3 rfl (fun h hp=>rowI_mk hp (by rw [rowsK_succ,List.map_append,List.length_append]; rfl) (by rw [rowsK_succ,List.map_append,idsC_append]; simp [idsC_one])) ?_
  exact Xr9 (x.1 + 1,v43) (by dsimp only; omega) (by dsimp only; omega) (a9 rfl) (a9 rfl)
 ·
  have hge:x.1=(d.length + 63) / 64:=by have:=of_decide_eq_false hc26; omega
  refine W_exit (X_then_exit (X_then_exit (X_block_exit (X9 ?_))))
  refine Q9 ?_
  refine W_block ?_
  refine Wt9 (P':=refS g (putsT s0 (rowsD d)) id) 1 rfl (fun h hp=>by rw [← rowsK_all,← hge]; exact hp) ?_
  refine Wt9 (P':=rowI 29 x.2 ((rowsD d).map sha)) 3 rfl (fun h hp=>by rw [← rowsK_all,← hge]; exact hp) ?_
  refine W_fact (r:=3) rfl (fun h hp=>rd_one (rp9 hp)) (fun (ho8:x.2.oneCell'=true)=>?_)
  refine W_loop (α:=Value × List (List UInt8) × Nat × Nat × List (List UInt8)) (fun y=>[(0,.pointer (some ⟨g,0,none⟩)),(6,.pointer (some ⟨g101,0,none⟩)),(7,.pointer (some ⟨g201,0,none⟩)),(8,y.1)]) (fun y=>[(0,F),(1,refS g (putsT s0 y.2.1) id),(3,rowI 29 y.1 y.2.2.2.2),(101,blk g101 29 (bs zeroId)),(201,blk g201 42 (nodeC kind (d.length:Int) (lev (d.length:Int):Int) zeroId))]) (fun y=>Up d y.2.1 y.2.2.1 y.2.2.2.1 y.2.2.2.2∧y.2.2.2.1≤d.length + 1∧y.2.1.length + y.2.2.2.2.length≤20000) (fun y=>y.2.2.2.1) ((x.2,rowsD d,0,d.length + 1,(rowsD d).map sha)) ⟨Up.start d,Nat.le_refl _,by dsimp only; rw [List.length_map,rowsD_length]; omega⟩ (a9 rfl) (a9 rfl) (fun y hy=>?_)
  obtain ⟨hu,hyf,hyl⟩:=hy
  have hids:=hu.ids
  have hfl:=hu.fuel
  have hlenq:=putsT_len s0 y.2.1
  refine Q9 (Q9 (R9 (M9 rfl rfl (L9 rfl (Pl9 (r:=3) rfl Tryz.runUnderlying165 rfl rfl (fun _ h=>rp9 h)) (L9 rfl (Pn9 rfl rfl rfl (run_gtr _ _ _ _ _ _)) (N9 (X9 ?_)))))))
  refine C9 rfl (fun hc46=>?_) (fun hc46=>?_)
  ·
   have hgt:1 < y.2.2.2.2.length:=by have:=of_decide_eq_true hc46; omega
   obtain ⟨f1,hf1⟩:∃ f1,y.2.2.2.1=f1 + 1:=⟨y.2.2.2.1 - 1,by omega⟩
   refine K9 (X9 ?_)
   refine W_block ?_
   refine Q9 ?_
   refine W_nilRow 4 29 32 ?_
   refine Wt9 (P':=refS g (putsT s0 (y.2.1++chunK y.2.2.2.2 0)) id) 1 rfl (fun h hp=>by rw [show chunK y.2.2.2.2 0=[] from rfl,List.append_nil]; exact hp) ?_
   refine Wt9 (P':=rowI 29 (.slice none 0 0) ((chunK y.2.2.2.2 0).map sha)) 4 rfl (fun h hp=>hp) ?_
   refine R9 (G9 rfl rfl (N9 (X9 (Q9 (Q9 (R9 (G9 rfl rfl (N9 (X9 ?_)))))))))
   refine W_block ?_
   refine W_loop (α:=Nat × Value) (fun z=>[(0,.pointer (some ⟨g,0,none⟩)),(6,.pointer (some ⟨g101,0,none⟩)),(7,.pointer (some ⟨g201,0,none⟩)),(8,y.1),(10,z.2),(11,.int .i64 ((z.1 * 8:Nat):Int))]) (fun z=>[(0,F),(1,refS g (putsT s0 (y.2.1++chunK y.2.2.2.2 z.1)) id),(3,rowI 29 y.1 y.2.2.2.2),(4,rowI 29 z.2 ((chunK y.2.2.2.2 z.1).map sha)),(101,blk g101 29 (bs zeroId)),(201,blk g201 42 (nodeC kind (d.length:Int) (lev (d.length:Int):Int) zeroId))]) (fun z=>z.1≤(y.2.2.2.2.length + 7) / 8) (fun z=>(y.2.2.2.2.length + 7) / 8 - z.1) ((0,.slice none 0 0)) (Nat.zero_le _) (a9 rfl) (a9 rfl) (fun z hz=>?_)
   have hlenr:=putsT_len s0 (y.2.1++chunK y.2.2.2.2 z.1)
   rw [List.length_append,chunK_length] at hlenr
   refine Q9 (Q9 (R9 (M9 rfl rfl (M9 rfl rfl (L9 rfl (Pl9 (r:=3) rfl Tryz.runUnderlying165 rfl rfl (fun _ h=>rp9 h)) (L9 rfl (Pn9 rfl rfl rfl (run_lss _ _ _ _ _ _)) (N9 (X9 ?_))))))))
   refine C9 rfl (fun hc50=>?_) (fun hc50=>?_)
   ·
    have hlt2:z.1 * 8 < y.2.2.2.2.length:=by have:=of_decide_eq_true hc50; omega
    obtain ⟨cc,hcc⟩:∃ cc:Nat,cc=min (z.1 * 8 + 8) y.2.2.2.2.length:=⟨_,rfl⟩
    have hpi:=take_min y.2.2.2.2 (z.1 * 8) 8 cc hcc (by omega)
    have hidp:Ids ((y.2.2.2.2.drop (z.1 * 8)).take 8):=fun q hq=>hids q (List.mem_of_mem_drop (List.mem_of_mem_take hq))
    refine K9 (X9 ?_)
    refine Q9 ?_
    refine W_block ?_
    refine Q9 (R9 (M9 rfl rfl (M9 rfl rfl (M9 rfl rfl (L9 rfl (Pn9 rfl rfl rfl (run_add _ _ _ _ _ (by omega))) ?_)))))
    rw [show ((z.1 * 8:Nat):Int) + 8=((z.1 * 8 + 8:Nat):Int) by omega]
    refine (M9 rfl rfl (L9 rfl (Pl9 (r:=3) rfl Tryz.runUnderlying165 rfl rfl (fun _ h=>rp9 h)) (L9 rfl (Pu_min rfl rfl rfl) ?_)))
    rw [show min ((z.1 * 8 + 8:Nat):Int) ((y.2.2.2.2.length:Nat):Int)=(cc:Int) by omega]
    refine (L9 rfl (Pu_slice (r:=3) (a:=(z.1 * 8)) (b:=cc) rfl Tryz.runUnderlying165 Tryz.sizeOf29 rfl rfl (fun _ h=>rp9 h) (.inr ⟨_,_,_,rfl,rfl,rfl⟩) (.inr ⟨_,_,_,rfl,rfl,rfl⟩) (by omega) (by omega)) (Lc9 rfl rfl (by decide) (Oc9 300 [0,1,3,4,101,201] [] rfl Tryz.call112 rfl rfl rfl (by decide) (by decide) (refInner_spec _ ((y.2.2.2.2.drop (z.1 * 8)).take 8) hidp _ (rs9 2 rfl (fun h hp=>rdI_sub hids (rp9 hp) (by omega) (by omega) hpi))) (fun v62 Ps62 hR62=>?_))))
    obtain ⟨w62,rfl,rfl⟩:=hR62
    skip
    refine (M9 rfl rfl (L9 rfl (Pe9 rfl rfl rfl) (L9 rfl (Pe9 rfl rfl rfl) (G9 rfl rfl (G9 rfl rfl (N9 (X9 ?_)))))))
    refine R9 (M9 rfl rfl (M9 rfl rfl (M9 rfl rfl (Lc9 rfl rfl (by decide) (Oc9 400 [0,3,4,101,201] [1,300] rfl Tryz.call111 rfl rfl rfl (by decide) (by decide) (refPut_spec g (putsT s0 (y.2.1++chunK y.2.2.2.2 z.1)).1 id hid (putsT s0 (y.2.1++chunK y.2.2.2.2 z.1)).2 _ (blkI y.2.2.2.2 z.1) (by have:=blkI_len hids z.1; omega) (by omega) _) (fun v68 Ps68 hR68=>?_))))))
    obtain ⟨rfl,rfl⟩:=hR68
    skip
    refine (Lc9 rfl rfl (by decide) (OpT_buildRows (r:=401) [bs (sha (blkI y.2.2.2.2 z.1))] rfl rfl Tryz.runUnderlying165 Tryz.sizeOf29 Tryz.zeroValue29 rfl (by decide) rfl (by decide) (by intro r hr; simp at hr; rw [hr]; exact (bs_length _).trans (sha_length _)) rfl (fun v69=>(Lc9 rfl rfl (by decide) (Oa9 (r:=4) (r2:=401) rfl Tryz.underlying165 TI.hi29 TI.hz29 TI.hs29 TI.hby29 TI.hzs29 (by decide) rfl rfl rfl rfl (fun _ h=>rp9 h) (by intro u hu; simp at hu; exact bs_one _ u hu) (by unfold maxLen; rw [List.length_map,chunK_length]; omega) (by rw [List.length_map,chunK_length]; omega) (fun v70=>?_))))))
    refine (G9 rfl rfl (N9 (X_block (X9 ?_))))
    refine R9 (M9 rfl rfl (L9 rfl (Pn9 rfl rfl rfl (run_add _ _ _ _ _ (by omega))) ?_))
    rw [show ((z.1 * 8:Nat):Int) + 8=(((z.1 + 1) * 8:Nat):Int) by omega]
    refine (G9 rfl rfl (N9 ?_))
    refine X_turn (P':=refS g (putsT s0 (y.2.1++chunK y.2.2.2.2 (z.1 + 1))) id) 400 rfl (fun h hp=>by rw [chunK_succ,← List.append_assoc]; exact ref_put hp) ?_
    refine X_ren 400 1 rfl ?_
    refine X_turn (P':=rowI 29 v70 ((chunK y.2.2.2.2 (z.1 + 1)).map sha)) 4 rfl (fun h hp=>rowI_mk hp (by rw [chunK_succ,List.map_append,List.length_append]; rfl) (by rw [chunK_succ,List.map_append,idsC_append]; simp [idsC_one])) ?_
    exact Xr9 (z.1 + 1,v70) (by dsimp only; omega) (by dsimp only; omega) (a9 rfl) (a9 rfl)
   ·
    have hge2:z.1=(y.2.2.2.2.length + 7) / 8:=by have:=of_decide_eq_false hc50; omega
    refine W_exit (X_then_exit (X_then_exit (X_block_exit (X9 ?_))))
    refine Wt9 (P':=refS g (putsT s0 (y.2.1++rowsI y.2.2.2.2)) id) 1 rfl (fun h hp=>by rw [← chunK_all,← hge2]; exact hp) ?_
    refine Wt9 (P':=rowI 29 z.2 ((rowsI y.2.2.2.2).map sha)) 4 rfl (fun h hp=>by rw [← chunK_all,← hge2]; exact hp) ?_
    refine W_ren 4 3 rfl ?_
    refine R9 (M9 rfl rfl (G9 rfl rfl (N9 (X_block ?_))))
    exact Xr9 (z.2,y.2.1++rowsI y.2.2.2.2,y.2.2.1 + 1,f1,(rowsI y.2.2.2.2).map sha) ⟨(show Up d y.2.1 y.2.2.1 (f1 + 1) y.2.2.2.2 from hf1 ▸ hu).step hgt,by dsimp only; omega,by dsimp only; rw [List.length_append,List.length_map,rowsI_length]; omega⟩ (by show f1 < y.2.2.2.1; omega) (a9 rfl) (a9 rfl)
  ·
   have hle:¬ 1 < y.2.2.2.2.length:=by have:=of_decide_eq_false hc46; omega
   obtain ⟨e1,e2,e3⟩:=hu.done hle
   refine W_exit (X_then_exit (X_then_exit (X_block_exit (X9 ?_))))
   refine Q9 (Q9 (R9 (M9 rfl rfl (L9 rfl (Pl9 (r:=3) rfl Tryz.runUnderlying165 rfl rfl (fun _ h=>rp9 h)) (L9 rfl (Pn9 rfl rfl rfl (run_eql _ _ _ _ _ _)) (N9 (X9 ?_)))))))
   refine C9 rfl (fun hc74=>?_) (fun hc74=>?_)
   ·
    have h1l:y.2.2.2.2.length=1:=by have:=of_decide_eq_true hc74; omega
    have hid0:=hids.get (show 0 < y.2.2.2.2.length by omega)
    refine R9 (M9 rfl rfl (L9 rfl (Pi9 (r:=3) rfl Tryz.runUnderlying165 Tryz.sizeOf29 rfl rfl rfl (fun _ h=>rp9 h) (by omega)) (L9 rfl (Pz9 (r:=3) rfl Tryz.isAgg29 Tryz.sizeOf29 rfl rfl (fun _ h=>rp9 h) ((bs_length _).trans hid0) (by decide) (idsC_get (k:=0) hids (by omega))) (L9 rfl (F9 3 rfl rfl) (Lc09 rfl rfl (OpT_storeF (r:=201) rfl Tryz.sizeOf29 rfl rfl rfl ((bs_length _).trans hid0) (by rw [nodeC_length zeroId_length]; decide) (bs_one _) (node_over zeroId_length hid0) ?_))))))
    refine (N9 (X9 ?_))
    refine Q9 ?_
    have htop:topF d=(y.2.2.2.2.getD 0 []):=by unfold topF; rw [← e3]; rw [getD_dflt (by omega)]
    have htl:((y.2.2.2.2.getD 0 [])).length=32:=hid0
    refine R9 (L9 rfl (Px9 (r:=201) rfl Tryz.isAgg42 Tryz.sizeOf42 rfl rfl (nodeC_length htl) (load_all (nodeC_length htl))) (Lc9 rfl rfl (by decide) (Oc9 300 [0,1,3,101,201] [] rfl Tryz.call113 rfl rfl rfl (by decide) (by decide) (refInode_spec kind (d.length:Int) (lev (d.length:Int):Int) (y.2.2.2.2.getD 0 []) htl _) (fun v81 Ps81 hR81=>?_))))
    obtain ⟨w81,rfl,rfl⟩:=hR81
    rw [← lev_eq hd,← htop]
    refine (M9 rfl rfl (L9 rfl (Pe9 rfl rfl rfl) (L9 rfl (Pe9 rfl rfl rfl) (G9 rfl rfl (G9 rfl rfl (N9 (X9 ?_)))))))
    refine Q9 (R9 (M9 rfl rfl (M9 rfl rfl (Lc9 rfl rfl (by decide) (Oc9 400 [0,3,101,201] [1,300] rfl Tryz.call111 rfl rfl rfl (by decide) (by decide) (refPut_spec g (putsT s0 (y.2.1)).1 id hid (putsT s0 (y.2.1)).2 _ (nodeF kind d) (by have:=inodeR_len kind (d.length:Int) ((aboveD d).2.1:Int) (topF d) (by rw [htop]; exact htl); unfold nodeF; omega) (by omega) _) (fun v86 Ps86 hR86=>?_))))))
    obtain ⟨rfl,rfl⟩:=hR86
    skip
    refine (Lc09 rfl rfl (OpT_storeAll (r:=101) rfl Tryz.sizeOf29 rfl rfl rfl (by first | rfl | (rw [bs_length,htop]; exact htl)) ((bs_length _).trans (sha_length _)) (bs_one _) ?_))
    refine (N9 (X9 ?_))
    refine W_ret ?_
    refine X_turn (P':=refS g (putsT s0 (blocksF kind d)) id) 400 rfl (fun h hp=>by unfold blocksF; rw [← e1]; exact ref_put hp) ?_
    exact Xq9 [400] (Ps:=[_]) (resC1 (r:=101) Tryz.results76 rfl Tryz.isAgg29 Tryz.sizeOf29 rfl ((bs_length _).trans (sha_length _))) rfl (by decide) ⟨rfl,rfl⟩
   ·
    have h0l:y.2.2.2.2.length=0:=by have:=of_decide_eq_false hc74; omega
    refine K9 (X9 ?_)
    refine Q9 ?_
    have htop:topF d=zeroId:=by unfold topF; rw [← e3]; rw [List.length_eq_zero_iff.1 h0l]; rfl
    have htl:(zeroId).length=32:=zeroId_length
    refine R9 (L9 rfl (Px9 (r:=201) rfl Tryz.isAgg42 Tryz.sizeOf42 rfl rfl (nodeC_length htl) (load_all (nodeC_length htl))) (Lc9 rfl rfl (by decide) (Oc9 300 [0,1,3,101,201] [] rfl Tryz.call113 rfl rfl rfl (by decide) (by decide) (refInode_spec kind (d.length:Int) (lev (d.length:Int):Int) zeroId htl _) (fun v81 Ps81 hR81=>?_))))
    obtain ⟨w81,rfl,rfl⟩:=hR81
    rw [← lev_eq hd,← htop]
    refine (M9 rfl rfl (L9 rfl (Pe9 rfl rfl rfl) (L9 rfl (Pe9 rfl rfl rfl) (G9 rfl rfl (G9 rfl rfl (N9 (X9 ?_)))))))
    refine Q9 (R9 (M9 rfl rfl (M9 rfl rfl (Lc9 rfl rfl (by decide) (Oc9 400 [0,3,101,201] [1,300] rfl Tryz.call111 rfl rfl rfl (by decide) (by decide) (refPut_spec g (putsT s0 (y.2.1)).1 id hid (putsT s0 (y.2.1)).2 _ (nodeF kind d) (by have:=inodeR_len kind (d.length:Int) ((aboveD d).2.1:Int) (topF d) (by rw [htop]; exact htl); unfold nodeF; omega) (by omega) _) (fun v86 Ps86 hR86=>?_))))))
    obtain ⟨rfl,rfl⟩:=hR86
    skip
    refine (Lc09 rfl rfl (OpT_storeAll (r:=101) rfl Tryz.sizeOf29 rfl rfl rfl (by first | rfl | (rw [bs_length,htop]; exact htl)) ((bs_length _).trans (sha_length _)) (bs_one _) ?_))
    refine (N9 (X9 ?_))
    refine W_ret ?_
    refine X_turn (P':=refS g (putsT s0 (blocksF kind d)) id) 400 rfl (fun h hp=>by unfold blocksF; rw [← e1]; exact ref_put hp) ?_
    exact Xq9 [400] (Ps:=[_]) (resC1 (r:=101) Tryz.results76 rfl Tryz.isAgg29 Tryz.sizeOf29 rfl ((bs_length _).trans (sha_length _))) rfl (by decide) ⟨rfl,rfl⟩
open Go.RowKit
set_option maxRecDepth 8000
def insU (s:List UInt8):List (List UInt8)→List (List UInt8)
  | []=>[s]
  | x::r=>if Op.bytesLess x s=true then x::insU s r else if x=s then x::r else s::x::r
theorem insU_app (s:List UInt8):∀ (a r:List (List UInt8)),(∀ x ∈ a,Op.bytesLess x s=true)→insU s (a++r)=a++insU s r
  | [],r,_=>rfl
  | x::a,r,h=>by
    rw [List.cons_append,insU,if_pos (h x (by simp)),insU_app s a r fun y hy=>h y (by simp [hy])]
    rfl
theorem insU_at {l:List (List UInt8)} {k:Nat} {s:List UInt8} (h:∀ x ∈ l.take k,Op.bytesLess x s=true):insU s l=l.take k++insU s (l.drop k):=by
  have:=insU_app s (l.take k) (l.drop k) h
  rwa [List.take_append_drop] at this
theorem insU_same {l:List (List UInt8)} {k:Nat} {s:List UInt8} (h:∀ x ∈ l.take k,Op.bytesLess x s=true) (hk:k < l.length) (hn:Op.bytesLess (l.getD k []) s=false) (he:(l.getD k [] == s)=true):insU s l=l:=by
  have he:l.getD k []=s:=by simpa using he
  have hg:l[k]=l.getD k []:=by simp [hk]
  rw [insU_at h,List.drop_eq_getElem_cons hk,insU,hg,if_neg (by rw [hn]; simp),if_pos he,← hg,← List.drop_eq_getElem_cons hk,List.take_append_drop]
theorem insU_new {l:List (List UInt8)} {k:Nat} {s:List UInt8} (h:∀ x ∈ l.take k,Op.bytesLess x s=true) (hn:k < l.length→Op.bytesLess (l.getD k []) s=false∧(l.getD k [] == s)=false):insU s l=l.take k++[s]++l.drop k:=by
  rw [insU_at h]
  by_cases hk:k < l.length
  · obtain ⟨h1,h2⟩:=hn hk
    have hg:l[k]=l.getD k []:=by simp [hk]
    rw [List.drop_eq_getElem_cons hk,insU,hg,if_neg (by rw [h1]; simp),if_neg (by intro e; rw [e] at h2; simp at h2),List.append_assoc]
    rfl
  · rw [List.drop_of_length_le (by omega),List.append_nil]
    rfl
theorem rdS_sub {v:Value} {l l':List (List UInt8)} {h:Hlt} (hr:rdS v l h) {a b:Nat} (hab:a≤b) (hb:b≤l.length) (hl:(l.drop a).take (b - a)=l'):rdS (subV 1 v a b) l' h:=by
  subst hl
  have h1:=rdP_sub hr hab hb
  refine rdP_cast h1 ?_ ?_
  · rw [Nat.mul_one,Nat.mul_one]
    unfold ss
    rw [← List.map_drop,← List.map_take]
  · rw [List.length_take,List.length_drop]; omega
theorem take_snocS {l:List (List UInt8)} {k:Nat} (h:k < l.length):l.take (k + 1)=l.take k++[l.getD k []]:=by rw [List.take_add_one]; simp [List.getElem?_eq_getElem h]
theorem insU_len (s:List UInt8):∀ l:List (List UInt8),(insU s l).length≤l.length + 1
  | []=>Nat.le_refl _
  | x::r=>by
    rw [insU]
    split
    · have:=insU_len s r; simp only [List.length_cons]; omega
    · split <;> simp
theorem insert_spec (lv:Value) (l:List (List UInt8)) (m:List UInt8) (hl:l.length≤1000000000) (F:HP):CallsS Tryz.prog 75 #[lv,sV m] F [rowS 9 lv l] (fun r Ps=>Ps=[rowS 9 r (insU m l)]):=by
 refine callsS_enter Tryz.func75 rfl Tryz.ntmps75 (by simp) (fun E=>?_)
 refine Q9 (R9 (G9 rfl rfl (N9 (X9 (Q9 (R9 (G9 rfl rfl (N9 (X9 (Q9 ?_))))))))))
 refine W_block ?_
 refine W_loop (α:=Nat) (fun x=>[(0,lv),(1,sV m),(5,.int .i64 (x:Int))]) (fun x=>[(0,F),(1,rowS 9 lv l)]) (fun x=>x≤l.length∧∀ q ∈ l.take x,Op.bytesLess q m=true) (fun x=>l.length - x) (0) ⟨Nat.zero_le _,fun q hq=>by simp at hq⟩ (a9 rfl) (a9 rfl) (fun x hx=>?_)
 obtain ⟨hx,hxl⟩:=hx
 refine Q9 (Q9 ?_)
 rcases Bool.eq_false_or_eq_true (decide ((x:Int) < (l.length:Int))) with hsp2 | hsp2
 ·
  have hlt:x < l.length:=by have:=of_decide_eq_true hsp2; omega
  refine R9 (M9 rfl rfl (M9 rfl rfl (L9 rfl (Pl9 (r:=1) rfl Tryz.runUnderlying63 rfl rfl (fun _ h=>rp9 h)) (L9 rfl (Pn9 rfl rfl rfl (run_lss _ _ _ _ _ _)) (M9 rfl rfl (WL_gPT rfl rfl rfl (by rw [hsp2]; rfl) rfl (by decide) (Pm9 rfl rfl) (WL_gPT rfl rfl rfl (by rw [hsp2]; rfl) rfl (by decide) (Pm9 rfl rfl) (WL_gPT rfl rfl rfl (by rw [hsp2]; rfl) rfl (by decide) (Pu_idxS1 (r:=1) rfl Tryz.runUnderlying63 Tryz.sizeOf9 rfl rfl rfl (fun _ h=>rp9 h) (by omega)) (WL_gPT rfl rfl rfl (by rw [hsp2]; rfl) rfl (by decide) (Py9 (r:=1) rfl Tryz.isAgg9 rfl rfl (fun _ h=>rp9 h) (ss_at (k:=x) hlt)) (WL_gPT rfl rfl rfl (by rw [hsp2]; rfl) rfl (by decide) (Pm9 rfl rfl) (WL_gPT rfl rfl rfl (by rw [hsp2]; rfl) rfl (by decide) (Pn9 rfl rfl rfl (run_lssStr _ _ _ _ _)) (L9 rfl (Pu_pickT rfl rfl hsp2 rfl) (N9 (X9 ?_))))))))))))))
  refine C9 rfl (fun hc18=>?_) (fun hc18=>?_)
  ·
   refine K9 (X9 ?_)
   refine W_block ?_
   refine R9 (M9 rfl rfl (L9 rfl (Pn9 rfl rfl rfl (run_add _ _ _ _ _ (by omega))) (G9 rfl rfl (N9 (X_block ?_)))))
   exact Xr9 (x + 1) ⟨by omega,fun q hq=>by rw [take_snocS hlt] at hq; exact (List.mem_append.1 hq).elim (hxl q) (fun h=>by rw [List.mem_singleton.1 h]; exact hc18)⟩ (by omega) (a9 rfl) (a9 rfl)
  ·
   refine W_exit (X_then_exit (X_then_exit (X_block_exit (X9 ?_))))
   refine Q9 (Q9 (R9 (M9 rfl rfl (M9 rfl rfl (L9 rfl (Pl9 (r:=1) rfl Tryz.runUnderlying63 rfl rfl (fun _ h=>rp9 h)) (L9 rfl (Pn9 rfl rfl rfl (run_lss _ _ _ _ _ _)) (M9 rfl rfl (WL_gPT rfl rfl rfl (by rw [hsp2]; rfl) rfl (by decide) (Pm9 rfl rfl) (WL_gPT rfl rfl rfl (by rw [hsp2]; rfl) rfl (by decide) (Pm9 rfl rfl) (WL_gPT rfl rfl rfl (by rw [hsp2]; rfl) rfl (by decide) (Pu_idxS1 (r:=1) rfl Tryz.runUnderlying63 Tryz.sizeOf9 rfl rfl rfl (fun _ h=>rp9 h) (by omega)) (WL_gPT rfl rfl rfl (by rw [hsp2]; rfl) rfl (by decide) (Py9 (r:=1) rfl Tryz.isAgg9 rfl rfl (fun _ h=>rp9 h) (ss_at (k:=x) hlt)) (WL_gPT rfl rfl rfl (by rw [hsp2]; rfl) rfl (by decide) (Pm9 rfl rfl) (WL_gPT rfl rfl rfl (by rw [hsp2]; rfl) rfl (by decide) (Pn9 rfl rfl rfl (run_strEq _ _ _ _ _)) (L9 rfl (Pu_pickT rfl rfl hsp2 rfl) (N9 (X9 ?_))))))))))))))))
   refine C9 rfl (fun hc32=>?_) (fun hc32=>?_)
   ·
    refine Q9 (R9 (M9 rfl rfl (G9 rfl rfl (N9 (X9 ?_)))))
    refine W_ret (X_then_ret ?_)
    exact Xq9 [1] (Ps:=[_]) (res1 Tryz.results75 rfl) rfl (by decide) (by rw [insU_same hxl hlt hc18 hc32] <;> rfl)
   ·
    refine K9 (X9 ?_)
    refine Q9 ?_
    have hnew:insU m l=l.take x++[m]++l.drop x:=insU_new hxl (fun hk=>⟨hc18,hc32⟩)
    refine W_nilRow 3 9 1 ?_
    refine R9 (G9 rfl rfl (N9 (X9 (Q9 (R9 (M9 rfl rfl (M9 rfl rfl (M9 rfl rfl (L9 rfl (Pu_slice (r:=1) (b:=x) rfl Tryz.runUnderlying63 Tryz.sizeOf9 rfl rfl (fun _ h=>rp9 h) (.inl ⟨rfl,rfl⟩) (.inr ⟨_,_,_,rfl,rfl,rfl⟩) (Nat.zero_le _) hx) (Lc9 rfl rfl (by decide) (Oa9 (r:=3) (r2:=1) rfl Tryz.underlying63 TI.hi9 TI.hz9 TI.hs9 TI.hby9 TI.hzs9 (by decide) rfl rfl rfl rfl (fun _ h=>rdS_sub (l':=l.take x) (rp9 h) (Nat.zero_le _) hx (by simp)) (ss_one _) (by unfold maxLen; rw [List.length_take]; omega) (by rw [List.length_take]; omega) (fun v38=>?_))))))))))))
    refine Lt9 (P':=rowS 9 v38 (l.take x)) (r:=3) rfl (fun h hp=>row_nm hp (Nat.zero_add _) (List.nil_append _)) ?_
    refine (G9 rfl rfl (N9 (X9 ?_)))
    refine Q9 (R9 (M9 rfl rfl (M9 rfl rfl (Lc9 rfl rfl (by decide) (OpT_buildOnes (r:=101) (ss [m]) rfl rfl Tryz.runUnderlying63 Tryz.sizeOf9 Tryz.zeroValue9 rfl rfl (by decide) rfl (ss_cells _) (fun v41=>(Lc9 rfl rfl (by decide) (Oa9 (r:=3) (r2:=101) rfl Tryz.underlying63 TI.hi9 TI.hz9 TI.hs9 TI.hby9 TI.hzs9 (by decide) rfl rfl rfl rfl (fun _ h=>rp9 h) (ss_one _) (by unfold maxLen; rw [List.length_take]; omega) (by rw [List.length_take]; omega) (fun v42=>?_)))))))))
    refine Lt9 (P':=rowS 9 v42 (l.take x++[m])) (r:=3) rfl (fun h hp=>row_nm hp (by rw [List.length_append]; rfl) (by rw [ss_append])) ?_
    refine (G9 rfl rfl (N9 (X9 ?_)))
    refine Q9 (R9 (M9 rfl rfl (M9 rfl rfl (M9 rfl rfl (L9 rfl (Pu_slice (r:=1) (a:=x) rfl Tryz.runUnderlying63 Tryz.sizeOf9 rfl rfl (fun _ h=>rp9 h) (.inr ⟨_,_,_,rfl,rfl,rfl⟩) (.inl ⟨rfl,rfl⟩) hx (by omega)) (Lc9 rfl rfl (by decide) (Oa9 (r:=3) (r2:=1) rfl Tryz.underlying63 TI.hi9 TI.hz9 TI.hs9 TI.hby9 TI.hzs9 (by decide) rfl rfl rfl rfl (fun _ h=>rdS_sub (l':=l.drop x) (rp9 h) hx (Nat.le_refl _) (List.take_of_length_le (by rw [List.length_drop]; omega))) (ss_one _) (by unfold maxLen; rw [List.length_append,List.length_take,List.length_drop,List.length_singleton]; omega) (by rw [List.length_append,List.length_take,List.length_drop,List.length_singleton]; omega) (fun v47=>?_))))))))
    refine Lt9 (P':=rowS 9 v47 (l.take x++[m]++l.drop x)) (r:=3) rfl (fun h hp=>row_nm hp (by rw [← List.length_append]) (by rw [← ss_append])) ?_
    refine (G9 rfl rfl (N9 (X9 ?_)))
    refine W_ret ?_
    exact Xq9 [3] (Ps:=[_]) (res1 Tryz.results75 rfl) rfl (by decide) (by rw [hnew] <;> rfl)
 ·
  have hge:l.length≤x:=by have:=of_decide_eq_false hsp2; omega
  refine R9 (M9 rfl rfl (M9 rfl rfl (L9 rfl (Pl9 (r:=1) rfl Tryz.runUnderlying63 rfl rfl (fun _ h=>rp9 h)) (L9 rfl (Pn9 rfl rfl rfl (run_lss _ _ _ _ _ _)) (M9 rfl rfl (WL_gF rfl rfl rfl (by rw [hsp2]; rfl) rfl (by decide) (WL_gF rfl rfl rfl (by rw [hsp2]; rfl) rfl (by decide) (WL_gF rfl rfl rfl (by rw [hsp2]; rfl) rfl (by decide) (WL_gF rfl rfl rfl (by rw [hsp2]; rfl) rfl (by decide) (WL_gF rfl rfl rfl (by rw [hsp2]; rfl) rfl (by decide) (WL_gF rfl rfl rfl (by rw [hsp2]; rfl) rfl (by decide) (L9 rfl (Pu_pickF rfl rfl hsp2 rfl) (N9 (X9 ?_))))))))))))))
  refine W_false rfl (rfl) ?_
  refine W_exit (X_then_exit (X_then_exit (X_block_exit (X9 ?_))))
  refine Q9 (Q9 (R9 (M9 rfl rfl (M9 rfl rfl (L9 rfl (Pl9 (r:=1) rfl Tryz.runUnderlying63 rfl rfl (fun _ h=>rp9 h)) (L9 rfl (Pn9 rfl rfl rfl (run_lss _ _ _ _ _ _)) (M9 rfl rfl (WL_gF rfl rfl rfl (by rw [hsp2]; rfl) rfl (by decide) (WL_gF rfl rfl rfl (by rw [hsp2]; rfl) rfl (by decide) (WL_gF rfl rfl rfl (by rw [hsp2]; rfl) rfl (by decide) (WL_gF rfl rfl rfl (by rw [hsp2]; rfl) rfl (by decide) (WL_gF rfl rfl rfl (by rw [hsp2]; rfl) rfl (by decide) (WL_gF rfl rfl rfl (by rw [hsp2]; rfl) rfl (by decide) (L9 rfl (Pu_pickF rfl rfl hsp2 rfl) (N9 (X9 ?_))))))))))))))))
  refine W_false rfl (rfl) ?_
  refine K9 (X9 ?_)
  refine Q9 ?_
  have hnew:insU m l=l.take x++[m]++l.drop x:=insU_new hxl (fun hk=>absurd hk (by omega))
  refine W_nilRow 3 9 1 ?_
  refine R9 (G9 rfl rfl (N9 (X9 (Q9 (R9 (M9 rfl rfl (M9 rfl rfl (M9 rfl rfl (L9 rfl (Pu_slice (r:=1) (b:=x) rfl Tryz.runUnderlying63 Tryz.sizeOf9 rfl rfl (fun _ h=>rp9 h) (.inl ⟨rfl,rfl⟩) (.inr ⟨_,_,_,rfl,rfl,rfl⟩) (Nat.zero_le _) hx) (Lc9 rfl rfl (by decide) (Oa9 (r:=3) (r2:=1) rfl Tryz.underlying63 TI.hi9 TI.hz9 TI.hs9 TI.hby9 TI.hzs9 (by decide) rfl rfl rfl rfl (fun _ h=>rdS_sub (l':=l.take x) (rp9 h) (Nat.zero_le _) hx (by simp)) (ss_one _) (by unfold maxLen; rw [List.length_take]; omega) (by rw [List.length_take]; omega) (fun v38=>?_))))))))))))
  refine Lt9 (P':=rowS 9 v38 (l.take x)) (r:=3) rfl (fun h hp=>row_nm hp (Nat.zero_add _) (List.nil_append _)) ?_
  refine (G9 rfl rfl (N9 (X9 ?_)))
  refine Q9 (R9 (M9 rfl rfl (M9 rfl rfl (Lc9 rfl rfl (by decide) (OpT_buildOnes (r:=101) (ss [m]) rfl rfl Tryz.runUnderlying63 Tryz.sizeOf9 Tryz.zeroValue9 rfl rfl (by decide) rfl (ss_cells _) (fun v41=>(Lc9 rfl rfl (by decide) (Oa9 (r:=3) (r2:=101) rfl Tryz.underlying63 TI.hi9 TI.hz9 TI.hs9 TI.hby9 TI.hzs9 (by decide) rfl rfl rfl rfl (fun _ h=>rp9 h) (ss_one _) (by unfold maxLen; rw [List.length_take]; omega) (by rw [List.length_take]; omega) (fun v42=>?_)))))))))
  refine Lt9 (P':=rowS 9 v42 (l.take x++[m])) (r:=3) rfl (fun h hp=>row_nm hp (by rw [List.length_append]; rfl) (by rw [ss_append])) ?_
  refine (G9 rfl rfl (N9 (X9 ?_)))
  refine Q9 (R9 (M9 rfl rfl (M9 rfl rfl (M9 rfl rfl (L9 rfl (Pu_slice (r:=1) (a:=x) rfl Tryz.runUnderlying63 Tryz.sizeOf9 rfl rfl (fun _ h=>rp9 h) (.inr ⟨_,_,_,rfl,rfl,rfl⟩) (.inl ⟨rfl,rfl⟩) hx (by omega)) (Lc9 rfl rfl (by decide) (Oa9 (r:=3) (r2:=1) rfl Tryz.underlying63 TI.hi9 TI.hz9 TI.hs9 TI.hby9 TI.hzs9 (by decide) rfl rfl rfl rfl (fun _ h=>rdS_sub (l':=l.drop x) (rp9 h) hx (Nat.le_refl _) (List.take_of_length_le (by rw [List.length_drop]; omega))) (ss_one _) (by unfold maxLen; rw [List.length_append,List.length_take,List.length_drop,List.length_singleton]; omega) (by rw [List.length_append,List.length_take,List.length_drop,List.length_singleton]; omega) (fun v47=>?_))))))))
  refine Lt9 (P':=rowS 9 v47 (l.take x++[m]++l.drop x)) (r:=3) rfl (fun h hp=>row_nm hp (by rw [← List.length_append]) (by rw [← ss_append])) ?_
  refine (G9 rfl rfl (N9 (X9 ?_)))
  refine W_ret ?_
  exact Xq9 [3] (Ps:=[_]) (res1 Tryz.results75 rfl) rfl (by decide) (by rw [hnew] <;> rfl)
open Go.RowKit
set_option maxRecDepth 8000
abbrev PN:=List (List UInt8) × List UInt8
abbrev PV:=List (List UInt8) × Value × Value × List UInt8
def pv0:PV:=([],.slice none 0 0,.slice none 0 0,[])
def partC (p:PV):List Value:=[p.2.1,p.2.2.1]
def pn (p:PV):PN:=(p.1,p.2.2.2)
abbrev rdPV (v:Value) (ps:List PV):HP:=rdR partC 2 v ps
def datPV (ps:List PV):HP:=fun h=>∀ p ∈ ps,rdS p.2.1 p.1 h∧rdB p.2.2.1 p.2.2.2 h
theorem pvs_len (ps:List PV):∀ p ∈ ps,(partC p).length=2:=fun _ _=>rfl
theorem pv_get {ps:List PV} {k j:Nat} (hk:k < ps.length) (hj:j < 2):(recC partC ps)[k * 2 + j]?=(partC (ps.getD k pv0))[j]?:=recC_at (d:=pv0) (pvs_len ps) hk hj
theorem pv_nv {ps:List PV} {k:Nat} (hk:k < ps.length):(recC partC ps)[k * 2 + 0]?=some (ps.getD k pv0).2.1:=pv_get hk (by decide)
theorem pv_dv {ps:List PV} {k:Nat} (hk:k < ps.length):(recC partC ps)[k * 2 + 1]?=some (ps.getD k pv0).2.2.1:=pv_get hk (by decide)
def headP (p:PN):List UInt8:=p.1.getD 0 []
def namesP (ps:List PN):List (List UInt8):=ps.foldl (fun l p=>insU (headP p) l) []
abbrev ScanT:=List UInt8 × List (List UInt8) × List PN
def scan1 (u:List UInt8) (st:ScanT) (p:PN):ScanT:=if ¬ headP p=u then st else if p.1.length=1 then (idF 1 p.2,st.2.1++blocksF 1 p.2,st.2.2) else (st.1,st.2.1,st.2.2++[(p.1.tail,p.2)])
def scanP (u:List UInt8) (ps:List PN):ScanT:=ps.foldl (scan1 u) (zeroId,[],[])
theorem scan1_len (u:List UInt8) (st:ScanT) (p:PN):st.2.1.length≤(scan1 u st p).2.1.length:=by
  unfold scan1
  split
  · exact Nat.le_refl _
  · split
    · simp
    · exact Nat.le_refl _
theorem scan_len (u:List UInt8):∀ (ps:List PN) (st:ScanT),st.2.1.length≤(ps.foldl (scan1 u) st).2.1.length
  | [],st=>Nat.le_refl _
  | p::ps,st=>Nat.le_trans (scan1_len u st p) (scan_len u ps (scan1 u st p))
theorem scan_take (u:List UInt8) (ps:List PN) (k:Nat):((ps.take k).foldl (scan1 u) (zeroId,[],[])).2.1.length≤(scanP u ps).2.1.length:=by
  unfold scanP
  have h:ps.foldl (scan1 u) (zeroId,[],[])=(ps.drop k).foldl (scan1 u) ((ps.take k).foldl (scan1 u) (zeroId,[],[])):=by rw [← List.foldl_append,List.take_append_drop]
  rw [h]
  exact scan_len _ _ _
theorem fold_next {α β:Type} (f:β→α→β) (b:β) {l:List α} {k:Nat} {x:α} (hx:l[k]?=some x):(l.take (k + 1)).foldl f b=f ((l.take k).foldl f b) x:=by
  rw [List.take_add_one,hx,List.foldl_append]
  rfl
mutual
def dirI:Nat→List PN→List UInt8 × List (List UInt8)
  | 0,_=>(zeroId,[])
  | f + 1,ps=>(idF 2 (dirR ((namesP ps).map fun u=>(u,if (scanP u ps).2.2.length=0 then (scanP u ps).1 else (dirI f (scanP u ps).2.2).1))),((namesP ps).map fun u=>(scanP u ps).2.1++(if (scanP u ps).2.2.length=0 then [] else (dirI f (scanP u ps).2.2).2)).flatten++blocksF 2 (dirR ((namesP ps).map fun u=>(u,if (scanP u ps).2.2.length=0 then (scanP u ps).1 else (dirI f (scanP u ps).2.2).1))))
end
def entU (f:Nat) (ps:List PN) (u:List UInt8):Ent:=(u,if (scanP u ps).2.2.length=0 then (scanP u ps).1 else (dirI f (scanP u ps).2.2).1)
def blkU (f:Nat) (ps:List PN) (u:List UInt8):List (List UInt8):=(scanP u ps).2.1++(if (scanP u ps).2.2.length=0 then [] else (dirI f (scanP u ps).2.2).2)
def entsU (f:Nat) (ps:List PN):List Ent:=(namesP ps).map (entU f ps)
def blksU (f:Nat) (ps:List PN):List (List UInt8):=((namesP ps).map (blkU f ps)).flatten
theorem dirI_succ (f:Nat) (ps:List PN):dirI (f + 1) ps=(idF 2 (dirR (entsU f ps)),blksU f ps++blocksF 2 (dirR (entsU f ps))):=by rw [dirI]; rfl
theorem dirI_id (f:Nat) (ps:List PN):(dirI f ps).1.length=32:=by
  cases f with
  | zero=>rw [dirI]; exact zeroId_length
  | succ f=>rw [dirI_succ]; exact sha_length _
theorem scan1_id (u:List UInt8) (st:ScanT) (p:PN) (h:st.1.length=32):(scan1 u st p).1.length=32:=by
  unfold scan1
  split
  · exact h
  · split
    · exact sha_length _
    · exact h
theorem scan_id (u:List UInt8):∀ (ps:List PN) (st:ScanT),st.1.length=32→(ps.foldl (scan1 u) st).1.length=32
  | [],st,h=>h
  | p::ps,st,h=>scan_id u ps _ (scan1_id u st p h)
theorem entsU_ok (f:Nat) (ps:List PN):Ents (entsU f ps):=fun e he=>by
  obtain ⟨u,_,rfl⟩:=List.mem_map.1 he
  unfold entU
  dsimp only
  split
  · exact scan_id u ps _ zeroId_length
  · exact dirI_id _ _
theorem insU_mem {s x:List UInt8}:∀ {l:List (List UInt8)},x ∈ insU s l→x=s∨x ∈ l
  | [],h=>by simpa [insU] using h
  | y::r,h=>by
    rw [insU] at h
    split at h
    · rcases List.mem_cons.1 h with rfl | h
      · exact .inr (by simp)
      · rcases insU_mem h with h | h
        · exact .inl h
        · exact .inr (by simp [h])
    · split at h
      · exact .inr h
      · rcases List.mem_cons.1 h with h | h
        · exact .inl h
        · exact .inr h
theorem names_fold {P:List UInt8→Prop}:∀ (ps:List PN) (l:List (List UInt8)),(∀ x ∈ l,P x)→(∀ p ∈ ps,P (headP p))→∀ x ∈ ps.foldl (fun l p=>insU (headP p) l) l,P x
  | [],l,h,_=>h
  | p::ps,l,h,h2=>names_fold ps _ (fun x hx=>by
      rcases insU_mem hx with rfl | hx
      · exact h2 p (by simp)
      · exact h x hx) fun q hq=>h2 q (by simp [hq])
theorem names_len:∀ (ps:List PN) (l:List (List UInt8)),(ps.foldl (fun l p=>insU (headP p) l) l).length≤l.length + ps.length
  | [],l=>Nat.le_refl _
  | p::ps,l=>by
    have h1:=names_len ps (insU (headP p) l)
    have h2:=insU_len (headP p) l
    simp only [List.length_cons,List.foldl_cons] at *
    omega
def PsOk (f:Nat) (ps:List PV):Prop:=∀ p ∈ ps,1≤p.1.length∧p.1.length≤f∧p.1.length≤1000000∧(∀ n ∈ p.1,n.length≤1000000)∧p.2.2.2.length≤4096
def tailP (p:PV):PV:=(p.1.tail,subV 1 p.2.1 1 p.1.length,p.2.2.1,p.2.2.2)
theorem flat_le {α:Type} (g:α→List (List UInt8)) {l:List α} {k:Nat} {u:α} (hu:l[k]?=some u):(((l.take k).map g).flatten).length + (g u).length≤((l.map g).flatten).length:=by
  obtain ⟨hk,he⟩:=List.getElem?_eq_some_iff.1 hu
  have e:l=l.take k++(u::l.drop (k + 1)):=by rw [← he,← List.drop_eq_getElem_cons,List.take_append_drop]
  have e2:(l.map g).flatten=((l.take k).map g).flatten++(g u++((l.drop (k + 1)).map g).flatten):=by
    conv=>lhs; rw [e]
    rw [List.map_append,List.map_cons,List.flatten_append,List.flatten_cons]
  rw [e2,List.length_append,List.length_append]
  omega
theorem ent_over {nm id z:List UInt8} (hz:z.length=32) (h:id.length=32):over (entC nm z) 1 (bs id)=entC nm id:=by
  have:=over_mid [sV nm] (bs z) (bs id) [] (by rw [bs_length,bs_length,hz,h])
  simpa [entC] using this
theorem row_pv {e:TypeId} {v:Value} {xs:List PV} {p:PV} {n:Nat} {ys:List Value} {h:Hlt} (hp:rowP e 2 v (n + 1) (ys++[partC p].flatten) h) (hn:n=xs.length) (hy:ys=recC partC xs):rowR partC 2 e v (xs++[p]) h:=by
  subst hn; subst hy
  unfold rowR
  rw [List.length_append,recC_append,recC_one]
  simpa using hp
theorem row_en {e:TypeId} {v:Value} {xs:List Ent} {p:Ent} {h:Hlt} (hp:rowP e 33 v (xs.length + 1) (recC entF xs++[entF p].flatten) h):rowE e v (xs++[p]) h:=by
  unfold rowE rowR
  rw [List.length_append,recC_append,recC_one]
  simpa using hp
theorem map_take_get {ps:List PV} {k:Nat} (hk:k < ps.length):(ps.map pn)[k]?=some (pn (ps.getD k pv0)):=by simp [hk]
theorem part_one {p:PV} (h1:p.2.1.oneCell'=true) (h2:p.2.2.1.oneCell'=true):∀ u ∈ partC p,u.oneCell'=true:=by
  intro u hu
  simp [partC] at hu
  rcases hu with rfl | rfl
  · exact h1
  · exact h2
theorem datPV_tail {p:PV} {h:Hlt} (hp:rdS p.2.1 p.1 h∧rdB p.2.2.1 p.2.2.2 h) (h1:1≤p.1.length):rdS (tailP p).2.1 (tailP p).1 h∧rdB (tailP p).2.2.1 (tailP p).2.2.2 h:=by
  refine ⟨?_,hp.2⟩
  cases hn:p.1 with
  | nil=>rw [hn] at h1; simp at h1
  | cons n tl=>exact rdS_tail (n:=n) hp.1 (by rw [hn]; unfold tailP; rw [hn]; rfl)
theorem scan_le (f:Nat) (ps:List PN) (u:List UInt8):(scanP u ps).2.1.length≤(blkU f ps u).length:=by
  unfold blkU
  rw [List.length_append]
  omega
theorem subV_one (s:Nat) (v:Value) (a b:Nat) (hv:v.oneCell'=true):(subV s v a b).oneCell'=true:=by
  unfold subV
  split
  · rfl
  · exact hv
theorem ps_snoc {n:Nat} {xs:List PV} {p:PV} (h:PsOk n xs) (hp:1≤p.1.length∧p.1.length≤n + 1∧p.1.length≤1000000∧(∀ m ∈ p.1,m.length≤1000000)∧p.2.2.2.length≤4096) (h1:¬ (pn p).1.length=1):PsOk n (xs++[tailP p]):=fun q hq=>by
  rcases List.mem_append.1 hq with hq | hq
  · exact h q hq
  · rw [List.mem_singleton.1 hq]
    have h1:¬ p.1.length=1:=h1
    have ht:(tailP p).1.length=p.1.length - 1:=by unfold tailP; simp
    exact ⟨by omega,by omega,by omega,fun m hm=>hp.2.2.2.1 m (List.mem_of_mem_tail hm),hp.2.2.2.2⟩
theorem datPV_snoc {xs:List PV} {p:PV} {h:Hlt} (hx:datPV xs h) (hp:rdS p.2.1 p.1 h∧rdB p.2.2.1 p.2.2.2 h):datPV (xs++[p]) h:=fun q hq=>by
  rcases List.mem_append.1 hq with hq | hq
  · exact hx q hq
  · rw [List.mem_singleton.1 hq]; exact hp
theorem datPV_star {Js:List HP} {P:HP} {ps:List PV} (k:Nat) (hk:Js[k]?=some P) (hp:∀ h,P h→datPV ps h):∀ h,starL Js h→datPV ps h:=fun h hs p hpm=>⟨rs9 k hk (fun h' hh=>(hp h' hh p hpm).1) h hs,rs9 k hk (fun h' hh=>(hp h' hh p hpm).2) h hs⟩
theorem names_short {n:Nat} {ps:List PV} (h:PsOk n ps) {f:Nat}:∀ e ∈ entsU f (ps.map pn),e.1.length≤140737488355328:=fun e he=>by
  obtain ⟨u,hu,rfl⟩:=List.mem_map.1 he
  have:u.length≤1000000:=names_fold (P:=fun x=>x.length≤1000000) (ps.map pn) [] (fun x hx=>by cases hx) (fun p hp=>by
    obtain ⟨q,hq,rfl⟩:=List.mem_map.1 hp
    have h1:=h q hq
    refine h1.2.2.2.1 _ ?_
    show q.1.getD 0 [] ∈ q.1
    exact getD_mem' (by omega)) u hu
  show u.length≤_
  omega
theorem refDir_walk (g n:Nat) (id:List UInt8) (hid:id.length=32) (ih:∀ (v:Value) (ps:List PV),0 < ps.length→PsOk n ps→ps.length≤1000000→∀ (s0:List TB × Bool),s0.1.length + (dirI n (ps.map pn)).2.length≤1000000000000→∀ (F:HP),(∀ h,F h→rdPV v ps h)→(∀ h,F h→datPV ps h)→CallsS Tryz.prog 46 #[.pointer (some ⟨g,0,none⟩),v] F [refS g s0 id] (fun r Ps=>r=idV (dirI n (ps.map pn)).1∧Ps=[refS g (putsT s0 (dirI n (ps.map pn)).2) id])) (v:Value) (ps:List PV) (hok:PsOk (n + 1) ps) (hpn:ps.length≤1000000) (s0:List TB × Bool) (htt:s0.1.length + (dirI (n + 1) (ps.map pn)).2.length≤1000000000000) (F:HP) (hF:∀ h,F h→rdPV v ps h) (hD:∀ h,F h→datPV ps h):CallsS Tryz.prog 46 #[.pointer (some ⟨g,0,none⟩),v] F [refS g s0 id] (fun r Ps=>r=idV (dirI (n + 1) (ps.map pn)).1∧Ps=[refS g (putsT s0 (dirI (n + 1) (ps.map pn)).2) id]):=by
 obtain ⟨U,hU⟩:∃ U,U=namesP (ps.map pn):=⟨_,rfl⟩
 have hUl:=names_len (ps.map pn) []
 rw [List.length_nil,List.length_map] at hUl
 have hUl2:U.length≤ps.length:=by rw [hU]; unfold namesP; omega
 have hel:(entsU n (ps.map pn)).length=U.length:=by unfold entsU; rw [List.length_map,hU]
 have hnm:=names_short hok (f:=n)
 rw [dirI_succ,List.length_append] at htt
 have hbU:(blksU n (ps.map pn)).length=((U.map (blkU n (ps.map pn))).flatten).length:=by unfold blksU; rw [hU]
 refine callsS_enter Tryz.func46 rfl Tryz.ntmps46 (by simp) (fun E=>?_)
 refine Q9 (R9 (Lc9 rfl rfl (by decide) (OpT_alloc (r:=101) (cs:=(bs zeroId)) rfl (zero_run (by kernel_rfl:(Tryz.prog.info? 29).bind (·.zero)=some (.agg (bs zeroId).toArray))) rfl (fun g101=>(N9 (X9 (Q9 ?_)))))))
 refine W_nilRow 3 122 33 ?_
 refine W_nilRow 4 9 1 ?_
 refine W_fact (r:=0) rfl (fun h hp p hpm=>⟨rd_one (hD h hp p hpm).1,rd_one (hD h hp p hpm).2⟩) (fun (hone:∀ p ∈ ps,p.2.1.oneCell'=true∧p.2.2.1.oneCell'=true)=>?_)
 refine Wt9 (P':=rowS 9 (.slice none 0 0) ((((ps.map pn).take 0).foldl (fun l p=>insU (headP p) l) []))) 4 rfl (fun h hp=>hp) ?_
 refine Wt9 (P':=rowE 122 (.slice none 0 0) []) 3 rfl (fun h hp=>hp) ?_
 refine R9 (G9 rfl rfl (N9 (X9 (Q9 (R9 (G9 rfl rfl (N9 (X9 (Q9 (Q9 (R9 (G9 rfl rfl (N9 (X9 ?_))))))))))))))
 refine W_block ?_
 refine W_loop (α:=Nat × Value) (fun x=>[(0,.pointer (some ⟨g,0,none⟩)),(1,v),(4,.pointer (some ⟨g101,0,none⟩)),(5,.slice none 0 0),(6,x.2),(7,.int .i64 (x.1:Int))]) (fun x=>[(0,F),(1,refS g s0 id),(3,rowE 122 (.slice none 0 0) []),(4,rowS 9 x.2 (((ps.map pn).take x.1).foldl (fun l p=>insU (headP p) l) [])),(101,blk g101 29 (bs zeroId))]) (fun x=>x.1≤ps.length) (fun x=>ps.length - x.1) ((0,.slice none 0 0)) (Nat.zero_le _) (a9 rfl) (a9 rfl) (fun x hx=>?_)
 refine Q9 (Q9 (R9 (M9 rfl rfl (M9 rfl rfl (L9 rfl (Pl9 (r:=0) rfl Tryz.runUnderlying98 rfl rfl hF) (L9 rfl (Pn9 rfl rfl rfl (run_lss _ _ _ _ _ _)) (N9 (X9 ?_))))))))
 refine C9 rfl (fun hc17=>?_) (fun hc17=>?_)
 ·
  have hlt:x.1 < ps.length:=by have:=of_decide_eq_true hc17; omega
  have hpm:(ps.getD x.1 pv0) ∈ ps:=getD_mem' hlt
  have hpo:=hok _ hpm
  have hpd:∀ h,F h→rdS (ps.getD x.1 pv0).2.1 (ps.getD x.1 pv0).1 h:=fun h hp=>(hD h hp _ hpm).1
  have hnl:=names_len ((ps.map pn).take x.1) []
  rw [List.length_nil,List.length_take,List.length_map] at hnl
  refine K9 (X9 ?_)
  refine Q9 ?_
  refine W_block ?_
  refine R9 (M9 rfl rfl (M9 rfl rfl (M9 rfl rfl (L9 rfl (Pi9 (r:=0) rfl Tryz.runUnderlying98 Tryz.sizeOf100 rfl rfl rfl hF (by omega)) (L9 rfl (Pu_fieldAddrE (off:=0) rfl rfl (by kernel_rfl)) (L9 rfl (Py9 (r:=0) rfl Tryz.isAgg63 rfl rfl hF (pv_nv (k:=x.1) hlt)) (L9 rfl (Pu_idxS1 (r:=0) rfl Tryz.runUnderlying63 Tryz.sizeOf9 rfl rfl rfl hpd (by omega)) (L9 rfl (Py9 (r:=0) rfl Tryz.isAgg9 rfl rfl hpd (ss_at (k:=0) (by omega))) (Lc9 rfl rfl (by decide) (Oc9 200 [0,1,3,101] [4] rfl Tryz.call75 rfl rfl rfl (by decide) (by decide) (insert_spec x.2 (((ps.map pn).take x.1).foldl (fun l p=>insU (headP p) l) []) (headP (pn (ps.getD x.1 pv0))) (by omega) _) (fun v28 Ps28 hR28=>?_)))))))))))
  obtain rfl:=hR28
  skip
  refine (G9 rfl rfl (N9 (X_block (X9 ?_))))
  refine R9 (M9 rfl rfl (L9 rfl (Pn9 rfl rfl rfl (run_add _ _ _ _ _ (by omega))) (G9 rfl rfl (N9 ?_))))
  refine X_turn (P':=rowS 9 v28 (((ps.map pn).take (x.1 + 1)).foldl (fun l p=>insU (headP p) l) [])) 200 rfl (fun h hp=>by rw [fold_next _ _ (map_take_get hlt)]; exact hp) ?_
  refine X_ren 200 4 rfl ?_
  exact Xr9 (x.1 + 1,v28) (by dsimp only; omega) (by dsimp only; omega) (a9 rfl) (a9 rfl)
 ·
  have hge:ps.length≤x.1:=by have:=of_decide_eq_false hc17; omega
  refine W_exit (X_then_exit (X_then_exit (X_block_exit (X9 ?_))))
  refine Q9 (Q9 ?_)
  refine Wt9 (P':=rowS 9 x.2 U) 4 rfl (fun h hp=>by rw [hU]; unfold namesP; rw [List.take_of_length_le (by rw [List.length_map]; exact hge)] at hp; exact hp) ?_
  refine R9 (G9 rfl rfl (N9 (X9 ?_)))
  refine W_block ?_
  refine Wt9 (P':=refS g (putsT s0 (((U.take 0).map (blkU n (ps.map pn))).flatten)) id) 1 rfl (fun h hp=>hp) ?_
  refine Wt9 (P':=rowE 122 (.slice none 0 0) ((U.take 0).map (entU n (ps.map pn)))) 3 rfl (fun h hp=>hp) ?_
  refine W_loop (α:=Nat × Value) (fun y=>[(0,.pointer (some ⟨g,0,none⟩)),(1,v),(4,.pointer (some ⟨g101,0,none⟩)),(5,y.2),(6,x.2),(8,.int .i64 (y.1:Int))]) (fun y=>[(0,F),(1,refS g (putsT s0 (((U.take y.1).map (blkU n (ps.map pn))).flatten)) id),(3,rowE 122 y.2 ((U.take y.1).map (entU n (ps.map pn)))),(4,rowS 9 x.2 U),(101,blk g101 29 (bs zeroId))]) (fun y=>y.1≤U.length) (fun y=>U.length - y.1) ((0,.slice none 0 0)) (Nat.zero_le _) (a9 rfl) (a9 rfl) (fun y hy=>?_)
  refine Q9 (Q9 (R9 (M9 rfl rfl (M9 rfl rfl (L9 rfl (Pl9 (r:=4) rfl Tryz.runUnderlying63 rfl rfl (fun _ h=>rp9 h)) (L9 rfl (Pn9 rfl rfl rfl (run_lss _ _ _ _ _ _)) (N9 (X9 ?_))))))))
  refine C9 rfl (fun hc32=>?_) (fun hc32=>?_)
  ·
   have hlty:y.1 < U.length:=by have:=of_decide_eq_true hc32; omega
   obtain ⟨u,hu⟩:∃ u,U[y.1]?=some u:=⟨_,List.getElem?_eq_getElem hlty⟩
   have hug:U.getD y.1 []=u:=by simp [hu]
   have htot:=flat_le (blkU n (ps.map pn)) hu
   have hbl1:=putsT_len s0 (((U.take y.1).map (blkU n (ps.map pn))).flatten)
   refine K9 (X9 ?_)
   refine Q9 ?_
   refine W_block ?_
   refine Q9 ?_
   refine W_nilRow 5 100 2 ?_
   refine Wt9 (P':=rowR partC 2 100 (.slice none 0 0) []) 5 rfl (fun h hp=>hp) ?_
   refine R9 (G9 rfl rfl (N9 (X9 (Q9 (R9 (M9 rfl rfl (M9 rfl rfl (L9 rfl (Pu_idxS1 (r:=4) rfl Tryz.runUnderlying63 Tryz.sizeOf9 rfl rfl rfl (fun _ h=>rp9 h) (by omega)) (L9 rfl (Py9 (r:=4) rfl Tryz.isAgg9 rfl rfl (fun _ h=>rp9 h) (ss_at (k:=y.1) hlty)) ?_)))))))))
   rw [hug]
   refine (L9 rfl (Pu_build (V:=.agg (entC u zeroId).toArray) [(0,1),(1,32)] (entC [] zeroId) rfl rfl (by kernel_rfl) (by kernel_rfl) (.one rfl rfl (by simp [entC,bs_length,zeroId_length]) rfl (.nil _)) rfl) (Lc9 rfl rfl (by decide) (OpT_alloc (r:=102) (cs:=(entC [] zeroId)) rfl (zero_run (by kernel_rfl:(Tryz.prog.info? 122).bind (·.zero)=some (.agg (entC [] zeroId).toArray))) rfl (fun g102=>(Lc09 rfl rfl (OpT_storeAll (r:=102) rfl Tryz.sizeOf122 rfl rfl rfl (entC_length zeroId_length) (entC_length zeroId_length) (entC_one _ _) ?_))))))
   refine (N9 (X9 ?_))
   refine Q9 (Q9 (R9 (G9 rfl rfl (N9 (X9 ?_)))))
   refine W_block ?_
   refine Wt9 (P':=refS g (putsT (putsT s0 (((U.take y.1).map (blkU n (ps.map pn))).flatten)) []) id) 1 rfl (fun h hp=>hp) ?_
   refine W_loop (α:=Nat × Value × List UInt8 × List (List UInt8) × List PV) (fun z=>[(0,.pointer (some ⟨g,0,none⟩)),(1,v),(4,.pointer (some ⟨g101,0,none⟩)),(5,y.2),(6,x.2),(8,.int .i64 (y.1:Int)),(9,z.2.1),(10,.pointer (some ⟨g102,0,none⟩)),(11,.int .i64 (z.1:Int))]) (fun z=>[(0,F),(1,refS g (putsT (putsT s0 (((U.take y.1).map (blkU n (ps.map pn))).flatten)) z.2.2.2.1) id),(3,rowE 122 y.2 ((U.take y.1).map (entU n (ps.map pn)))),(4,rowS 9 x.2 U),(5,rowR partC 2 100 z.2.1 z.2.2.2.2),(101,blk g101 29 (bs zeroId)),(102,blk g102 122 (entC u z.2.2.1))]) (fun z=>z.1≤ps.length∧(z.2.2.1,z.2.2.2.1,z.2.2.2.2.map pn)=(((ps.map pn).take z.1).foldl (scan1 u) (zeroId,[],[]))∧z.2.2.1.length=32∧z.2.2.2.2.length≤z.1∧PsOk n z.2.2.2.2∧(∀ h,F h→datPV z.2.2.2.2 h)) (fun z=>ps.length - z.1) ((0,.slice none 0 0,zeroId,[],[])) ⟨Nat.zero_le _,rfl,zeroId_length,Nat.le_refl _,fun p hp=>absurd hp (by simp),fun h _ p hp=>absurd hp (by simp)⟩ (a9 rfl) (a9 rfl) (fun z hz=>?_)
   obtain ⟨hz1,hz2,hz3,hz4,hz5,hz6⟩:=hz
   have hzb:=scan_take u (ps.map pn) z.1
   rw [← hz2] at hzb
   dsimp only at hzb
   have hsb:=scan_le n (ps.map pn) u
   have hbl2:=putsT_len (putsT s0 (((U.take y.1).map (blkU n (ps.map pn))).flatten)) z.2.2.2.1
   refine Q9 (Q9 (R9 (M9 rfl rfl (M9 rfl rfl (L9 rfl (Pl9 (r:=0) rfl Tryz.runUnderlying98 rfl rfl hF) (L9 rfl (Pn9 rfl rfl rfl (run_lss _ _ _ _ _ _)) (N9 (X9 ?_))))))))
   refine C9 rfl (fun hc43=>?_) (fun hc43=>?_)
   ·
    have hltz:z.1 < ps.length:=by have:=of_decide_eq_true hc43; omega
    have hqm:(ps.getD z.1 pv0) ∈ ps:=getD_mem' hltz
    have hqo:=hok _ hqm
    have hqd:∀ h,F h→rdS (ps.getD z.1 pv0).2.1 (ps.getD z.1 pv0).1 h:=fun h hp=>(hD h hp _ hqm).1
    have hqb:∀ h,F h→rdB (ps.getD z.1 pv0).2.2.1 (ps.getD z.1 pv0).2.2.2 h:=fun h hp=>(hD h hp _ hqm).2
    refine K9 (X9 ?_)
    refine Q9 ?_
    refine W_block ?_
    refine Q9 (Q9 ?_)
    refine W_draw (N:=12) (by kernel_rfl) rfl [(0,_),(101,_),(102,_),(4,_)] ⟨rfl,rfl,rfl,rfl,trivial⟩ ?_
    refine (T9 0 rfl rfl (Pm9 rfl rfl) (T9 1 rfl rfl (Pm9 rfl rfl) (T9 2 rfl rfl (Pi9 (r:=0) rfl Tryz.runUnderlying98 Tryz.sizeOf100 rfl rfl rfl hF (by omega)) (T9 3 rfl rfl (Pu_fieldAddrE (off:=0) rfl rfl (by kernel_rfl)) (T9 4 rfl rfl (Py9 (r:=0) rfl Tryz.isAgg63 rfl rfl hF (pv_nv (k:=z.1) hltz)) (T9 5 rfl rfl (Pu_idxS1 (r:=0) rfl Tryz.runUnderlying63 Tryz.sizeOf9 rfl rfl rfl hqd (by omega)) (T9 6 rfl rfl (Py9 (r:=0) rfl Tryz.isAgg9 rfl rfl hqd (ss_at (k:=0) (by omega))) (T9 7 rfl rfl (Pm9 rfl rfl) (T9 8 rfl rfl (Pm9 rfl rfl) (T9 9 rfl rfl (Pu_idxS1 (r:=4) rfl Tryz.runUnderlying63 Tryz.sizeOf9 rfl rfl rfl (fun _ h=>rp9 h) (by omega)) (T9 10 rfl rfl (Py9 (r:=4) rfl Tryz.isAgg9 rfl rfl (fun _ h=>rp9 h) (ss_at (k:=y.1) hlty)) (T9 11 rfl rfl (Pn9 rfl rfl rfl (run_strNe _ _ _ _ _)) (Ad9 (by kernel_rfl) (X9 ?_))))))))))))))
    refine C9 rfl (fun hc57=>?_) (fun hc57=>?_)
    ·
     have hne57:¬ headP (pn (ps.getD z.1 pv0))=u:=by rw [← hug]; unfold headP pn; simpa using hc57
     refine W_exit (X_then_exit (X_block_exit (X9 ?_)))
     refine R9 (M9 rfl rfl (L9 rfl (Pn9 rfl rfl rfl (run_add _ _ _ _ _ (by omega))) (G9 rfl rfl (N9 ?_))))
     exact Xr9 (z.1 + 1,z.2.1,z.2.2.1,z.2.2.2.1,z.2.2.2.2) ⟨by dsimp only; omega,by rw [fold_next _ _ (map_take_get hltz),← hz2]; unfold scan1; rw [if_pos hne57],hz3,by dsimp only; omega,hz5,hz6⟩ (by dsimp only; omega) (a9 rfl) (a9 rfl)
    ·
     have he57:headP (pn (ps.getD z.1 pv0))=u:=by rw [← hug]; unfold headP pn; simpa using hc57
     refine K9 (X9 ?_)
     refine Q9 (R9 (M9 rfl rfl (M9 rfl rfl (L9 rfl (Pi9 (r:=0) rfl Tryz.runUnderlying98 Tryz.sizeOf100 rfl rfl rfl hF (by omega)) (L9 rfl (Pu_fieldAddrE (off:=0) rfl rfl (by kernel_rfl)) (L9 rfl (Py9 (r:=0) rfl Tryz.isAgg63 rfl rfl hF (pv_nv (k:=z.1) hltz)) (L9 rfl (Pl9 (r:=0) rfl Tryz.runUnderlying63 rfl rfl hqd) (L9 rfl (Pn9 rfl rfl rfl (run_eql _ _ _ _ _ _)) (N9 (X9 ?_))))))))))
     refine C9 rfl (fun hc64=>?_) (fun hc64=>?_)
     ·
      have h64:(pn (ps.getD z.1 pv0)).1.length=1:=by have:=of_decide_eq_true hc64; show (ps.getD z.1 pv0).1.length=1; omega
      refine R9 (M9 rfl rfl (M9 rfl rfl (M9 rfl rfl (L9 rfl (Pi9 (r:=0) rfl Tryz.runUnderlying98 Tryz.sizeOf100 rfl rfl rfl hF (by omega)) (L9 rfl (Pu_fieldAddrE (off:=1) rfl rfl (by kernel_rfl)) (L9 rfl (Py9 (r:=0) rfl Tryz.isAgg36 rfl rfl hF (pv_dv (k:=z.1) hltz)) (Lc9 rfl rfl (by decide) (Oc9 200 [0,3,4,5,101,102] [1] rfl Tryz.call76 rfl rfl rfl (by decide) (by decide) (refFile_spec g (putsT (putsT s0 (((U.take y.1).map (blkU n (ps.map pn))).flatten)) z.2.2.2.1) (by omega) id hid 1 _ (ps.getD z.1 pv0).2.2.2 hqo.2.2.2.2 _ (rs9 0 rfl hqb)) (fun v71 Ps71 hR71=>?_)))))))))
      obtain ⟨rfl,rfl⟩:=hR71
      skip
      refine (L9 rfl (F9 1 rfl rfl) (Lc09 rfl rfl (OpT_storeF (r:=102) rfl Tryz.sizeOf29 rfl rfl rfl ((bs_length _).trans (sha_length _)) (by rw [entC_length hz3]; decide) (bs_one _) (ent_over hz3 (sha_length _)) ?_)))
      refine (N9 (X_block (X9 ?_)))
      refine R9 (M9 rfl rfl (L9 rfl (Pn9 rfl rfl rfl (run_add _ _ _ _ _ (by omega))) (G9 rfl rfl (N9 ?_))))
      refine X_turn (P':=refS g (putsT (putsT s0 (((U.take y.1).map (blkU n (ps.map pn))).flatten)) (z.2.2.2.1++blocksF 1 (ps.getD z.1 pv0).2.2.2)) id) 200 rfl (fun h hp=>by rw [putsT_app]; exact hp) ?_
      refine X_ren 200 1 rfl ?_
      exact Xr9 (z.1 + 1,z.2.1,idF 1 (ps.getD z.1 pv0).2.2.2,z.2.2.2.1++blocksF 1 (ps.getD z.1 pv0).2.2.2,z.2.2.2.2) ⟨by dsimp only; omega,by rw [fold_next _ _ (map_take_get hltz),← hz2]; unfold scan1; rw [if_neg (fun h=>h he57),if_pos h64]; rfl,sha_length _,by dsimp only; omega,hz5,hz6⟩ (by dsimp only; omega) (a9 rfl) (a9 rfl)
     ·
      have h64:¬ (pn (ps.getD z.1 pv0)).1.length=1:=by have:=of_decide_eq_false hc64; show ¬ (ps.getD z.1 pv0).1.length=1; omega
      refine W_draw (N:=16) (by kernel_rfl) rfl [(0,_),(101,_),(102,_)] ⟨rfl,rfl,rfl,trivial⟩ ?_
      refine (T9 1 rfl rfl (Pm9 rfl rfl) (T9 2 rfl rfl (Pm9 rfl rfl) (T9 3 rfl rfl (Pi9 (r:=0) rfl Tryz.runUnderlying98 Tryz.sizeOf100 rfl rfl rfl hF (by omega)) (T9 4 rfl rfl (Pu_fieldAddrE (off:=0) rfl rfl (by kernel_rfl)) (T9 5 rfl rfl (Py9 (r:=0) rfl Tryz.isAgg63 rfl rfl hF (pv_nv (k:=z.1) hltz)) (T9 6 rfl rfl (Pu_slice (r:=0) (a:=1) rfl Tryz.runUnderlying63 Tryz.sizeOf9 rfl rfl hqd (.inr ⟨_,_,_,rfl,rfl,rfl⟩) (.inl ⟨rfl,rfl⟩) (by omega) (by omega)) (T9 7 rfl rfl (Pm9 rfl rfl) (T9 8 rfl rfl (Pm9 rfl rfl) (T9 9 rfl rfl (Pi9 (r:=0) rfl Tryz.runUnderlying98 Tryz.sizeOf100 rfl rfl rfl hF (by omega)) (T9 10 rfl rfl (Pu_fieldAddrE (off:=1) rfl rfl (by kernel_rfl)) (T9 11 rfl rfl (Py9 (r:=0) rfl Tryz.isAgg36 rfl rfl hF (pv_dv (k:=z.1) hltz)) (T9 12 rfl rfl (Pu_build (V:=.agg (partC (tailP (ps.getD z.1 pv0))).toArray) [(0,1),(1,1)] ([.slice none 0 0,.slice none 0 0]) rfl rfl (by kernel_rfl) (by kernel_rfl) (.one rfl (subV_one _ _ _ _ (hone _ hqm).1) (by show 0 < 2; decide) rfl (.one rfl (hone _ hqm).2 (by show 1 < 2; decide) rfl (.nil _))) rfl) (Y9 [0,13] ?_)))))))))))))
      refine Z9 rfl rfl (Or9 (Pm9 rfl rfl) ⟨⟨rfl,rfl,rfl,trivial⟩,?_⟩) ?_
      ·
       refine (Y9 [13] ?_)
       refine Z9 rfl rfl (OpT_buildRows (r:=103) [partC (tailP (ps.getD z.1 pv0))] rfl rfl Tryz.runUnderlying98 Tryz.sizeOf100 Tryz.zeroValue100 rfl (by decide) rfl (by decide) (by intro r hr; simp at hr; rw [hr]; rfl) rfl (fun v86=>⟨⟨rfl,rfl,rfl,trivial⟩,?_⟩)) ?_
       ·
        refine (Y9 [14] ?_)
        refine Z9 rfl rfl (Oa9 (r:=5) (r2:=103) rfl Tryz.underlying98 TI.hi100 TI.hz100 TI.hs100 TI.hby100 TI.hzs100 (by decide) rfl rfl rfl rfl (fun _ h=>rp9 h) (by rw [List.flatten_cons,List.flatten_nil,List.append_nil]; exact part_one (subV_one _ _ _ _ (hone _ hqm).1) (hone _ hqm).2) (by unfold maxLen; omega) (by omega) (fun v87=>?_)) ?_
        ·
         refine ⟨⟨rfl,rfl,rfl,trivial⟩,?_⟩
         refine AH_turn (P':=rowR partC 2 100 v87 (z.2.2.2.2++[tailP (ps.getD z.1 pv0)])) 5 rfl (fun h hp=>row_pv hp rfl rfl) ?_
         refine (T9 15 rfl rfl (Pg9 rfl rfl) (Ad9 (by kernel_rfl) (X_block (X9 ?_))))
         refine R9 (M9 rfl rfl (L9 rfl (Pn9 rfl rfl rfl (run_add _ _ _ _ _ (by omega))) (G9 rfl rfl (N9 ?_))))
         exact Xr9 (z.1 + 1,v87,z.2.2.1,z.2.2.2.1,z.2.2.2.2++[tailP (ps.getD z.1 pv0)]) ⟨by dsimp only; omega,by rw [fold_next _ _ (map_take_get hltz),← hz2]; unfold scan1; rw [if_neg (fun h=>h he57),if_neg h64,List.map_append]; rfl,hz3,by dsimp only; rw [List.length_append,List.length_singleton]; omega,ps_snoc hz5 hqo h64,fun h hp=>datPV_snoc (hz6 h hp) (datPV_tail (hD h hp _ hqm) hqo.1)⟩ (by dsimp only; omega) (a9 rfl) (a9 rfl)
        exact An9
       exact An9
      refine Z9 rfl rfl (OpT_buildRows (r:=103) [partC (tailP (ps.getD z.1 pv0))] rfl rfl Tryz.runUnderlying98 Tryz.sizeOf100 Tryz.zeroValue100 rfl (by decide) rfl (by decide) (by intro r hr; simp at hr; rw [hr]; rfl) rfl (fun v86=>⟨⟨rfl,rfl,rfl,trivial⟩,?_⟩)) ?_
      ·
       refine (Y9 [0] ?_)
       refine Z9 rfl rfl (Or9 (Pm9 rfl rfl) ⟨⟨rfl,rfl,rfl,trivial⟩,?_⟩) ?_
       ·
        refine (Y9 [14] ?_)
        refine Z9 rfl rfl (Oa9 (r:=5) (r2:=103) rfl Tryz.underlying98 TI.hi100 TI.hz100 TI.hs100 TI.hby100 TI.hzs100 (by decide) rfl rfl rfl rfl (fun _ h=>rp9 h) (by rw [List.flatten_cons,List.flatten_nil,List.append_nil]; exact part_one (subV_one _ _ _ _ (hone _ hqm).1) (hone _ hqm).2) (by unfold maxLen; omega) (by omega) (fun v87=>?_)) ?_
        ·
         refine ⟨⟨rfl,rfl,rfl,trivial⟩,?_⟩
         refine AH_turn (P':=rowR partC 2 100 v87 (z.2.2.2.2++[tailP (ps.getD z.1 pv0)])) 5 rfl (fun h hp=>row_pv hp rfl rfl) ?_
         refine (T9 15 rfl rfl (Pg9 rfl rfl) (Ad9 (by kernel_rfl) (X_block (X9 ?_))))
         refine R9 (M9 rfl rfl (L9 rfl (Pn9 rfl rfl rfl (run_add _ _ _ _ _ (by omega))) (G9 rfl rfl (N9 ?_))))
         exact Xr9 (z.1 + 1,v87,z.2.2.1,z.2.2.2.1,z.2.2.2.2++[tailP (ps.getD z.1 pv0)]) ⟨by dsimp only; omega,by rw [fold_next _ _ (map_take_get hltz),← hz2]; unfold scan1; rw [if_neg (fun h=>h he57),if_neg h64,List.map_append]; rfl,hz3,by dsimp only; rw [List.length_append,List.length_singleton]; omega,ps_snoc hz5 hqo h64,fun h hp=>datPV_snoc (hz6 h hp) (datPV_tail (hD h hp _ hqm) hqo.1)⟩ (by dsimp only; omega) (a9 rfl) (a9 rfl)
        exact An9
       exact An9
      exact An9
   ·
    have hgez:ps.length≤z.1:=by have:=of_decide_eq_false hc43; omega
    have hscan:scanP u (ps.map pn)=(z.2.2.1,z.2.2.2.1,z.2.2.2.2.map pn):=by rw [hz2,List.take_of_length_le (by rw [List.length_map]; exact hgez)]; rfl
    refine W_exit (X_then_exit (X_then_exit (X_block_exit (X9 ?_))))
    refine Q9 (Q9 (R9 (M9 rfl rfl (L9 rfl (Pl9 (r:=5) rfl Tryz.runUnderlying98 rfl rfl rowR_rd) (L9 rfl (Pn9 rfl rfl rfl (run_gtr _ _ _ _ _ _)) (N9 (X9 ?_)))))))
    refine C9 rfl (fun hc90=>?_) (fun hc90=>?_)
    ·
     have hins:¬ (scanP u (ps.map pn)).2.2.length=0:=by rw [hscan]; have:=of_decide_eq_true hc90; rw [List.length_map]; omega
     have hblk:blkU n (ps.map pn) u=z.2.2.2.1++(dirI n (z.2.2.2.2.map pn)).2:=by unfold blkU; rw [if_neg hins,hscan]
     have hent:entU n (ps.map pn) u=(u,(dirI n (z.2.2.2.2.map pn)).1):=by unfold entU; rw [if_neg hins,hscan]
     have hbt:=congrArg List.length hblk
     rw [List.length_append] at hbt
     refine R9 (M9 rfl rfl (M9 rfl rfl (Lc9 rfl rfl (by decide) (Oc9 200 [0,3,4,5,101,102] [1] rfl Tryz.call46 rfl rfl rfl (by decide) (by decide) (ih z.2.1 z.2.2.2.2 (by have:=of_decide_eq_true hc90; omega) hz5 (by omega) (putsT (putsT s0 (((U.take y.1).map (blkU n (ps.map pn))).flatten)) z.2.2.2.1) (by omega) _ (rs9 3 rfl rowR_rd) (datPV_star 0 rfl hz6)) (fun v93 Ps93 hR93=>?_)))))
     obtain ⟨rfl,rfl⟩:=hR93
     skip
     refine (L9 rfl (F9 1 rfl rfl) (Lc09 rfl rfl (OpT_storeF (r:=102) rfl Tryz.sizeOf29 rfl rfl rfl ((bs_length _).trans (dirI_id _ _)) (by rw [entC_length hz3]; decide) (bs_one _) (ent_over hz3 (dirI_id _ _)) ?_)))
     refine (N9 (X9 ?_))
     refine Wt9 (P':=refS g (putsT (putsT s0 (((U.take y.1).map (blkU n (ps.map pn))).flatten)) (z.2.2.2.1++(dirI n (z.2.2.2.2.map pn)).2)) id) 200 rfl (fun h hp=>by rw [putsT_app]; exact hp) ?_
     refine R9 (M9 rfl rfl (L9 rfl (Px9 (r:=102) rfl Tryz.isAgg122 Tryz.sizeOf122 rfl rfl (entC_length (dirI_id _ _)) (load_all (entC_length (dirI_id _ _)))) (Lc9 rfl rfl (by decide) (OpT_buildRows (r:=201) [entF (u,(dirI n (z.2.2.2.2.map pn)).1)] rfl rfl Tryz.runUnderlying118 Tryz.sizeOf122 Tryz.zeroValue122 rfl (by decide) rfl (by decide) (by intro r hr; simp at hr; rw [hr]; exact entC_length (dirI_id _ _)) rfl (fun v97=>(Lc9 rfl rfl (by decide) (Oa9 (r:=3) (r2:=201) rfl Tryz.underlying118 TI.hi122 TI.hz122 TI.hs122 TI.hby122 TI.hzs122 (by decide) rfl rfl rfl rfl (fun _ h=>rp9 h) (by intro w hw; simp at hw; exact entC_one _ _ w hw) (by unfold maxLen; rw [List.length_map,List.length_take]; omega) (by rw [List.length_map,List.length_take]; omega) (fun v98=>?_))))))))
     refine (G9 rfl rfl (N9 (X_block (X9 ?_))))
     refine R9 (M9 rfl rfl (L9 rfl (Pn9 rfl rfl rfl (run_add _ _ _ _ _ (by omega))) (G9 rfl rfl (N9 ?_))))
     refine X_turn (P':=rowE 122 v98 ((U.take (y.1 + 1)).map (entU n (ps.map pn)))) 3 rfl (fun h hp=>by rw [List.take_add_one,hu,List.map_append]; exact row_en (p:=entU n (ps.map pn) u) (by rw [hent]; exact hp)) ?_
     refine X_turn (P':=refS g (putsT s0 (((U.take (y.1 + 1)).map (blkU n (ps.map pn))).flatten)) id) 200 rfl (fun h hp=>by rw [List.take_add_one,hu,List.map_append,List.flatten_append,show ((some u).toList.map (blkU n (ps.map pn))).flatten=blkU n (ps.map pn) u by simp,hblk,putsT_app]; exact hp) ?_
     refine X_ren 200 1 rfl ?_
     exact Xr9 (y.1 + 1,v98) (by dsimp only; omega) (by dsimp only; omega) (a9 rfl) (a9 rfl)
    ·
     have hins:(scanP u (ps.map pn)).2.2.length=0:=by rw [hscan]; have:=of_decide_eq_false hc90; rw [List.length_map]; omega
     have hblk:blkU n (ps.map pn) u=z.2.2.2.1:=by unfold blkU; rw [if_pos hins,hscan,List.append_nil]
     have hent:entU n (ps.map pn) u=(u,z.2.2.1):=by unfold entU; rw [if_pos hins,hscan]
     refine K9 (X9 ?_)
     refine Wt9 (P':=refS g (putsT (putsT s0 (((U.take y.1).map (blkU n (ps.map pn))).flatten)) (z.2.2.2.1)) id) 1 rfl (fun h hp=>hp) ?_
     refine R9 (M9 rfl rfl (L9 rfl (Px9 (r:=102) rfl Tryz.isAgg122 Tryz.sizeOf122 rfl rfl (entC_length hz3) (load_all (entC_length hz3))) (Lc9 rfl rfl (by decide) (OpT_buildRows (r:=103) [entF (u,z.2.2.1)] rfl rfl Tryz.runUnderlying118 Tryz.sizeOf122 Tryz.zeroValue122 rfl (by decide) rfl (by decide) (by intro r hr; simp at hr; rw [hr]; exact entC_length hz3) rfl (fun v97=>(Lc9 rfl rfl (by decide) (Oa9 (r:=3) (r2:=103) rfl Tryz.underlying118 TI.hi122 TI.hz122 TI.hs122 TI.hby122 TI.hzs122 (by decide) rfl rfl rfl rfl (fun _ h=>rp9 h) (by intro w hw; simp at hw; exact entC_one _ _ w hw) (by unfold maxLen; rw [List.length_map,List.length_take]; omega) (by rw [List.length_map,List.length_take]; omega) (fun v98=>?_))))))))
     refine (G9 rfl rfl (N9 (X_block (X9 ?_))))
     refine R9 (M9 rfl rfl (L9 rfl (Pn9 rfl rfl rfl (run_add _ _ _ _ _ (by omega))) (G9 rfl rfl (N9 ?_))))
     refine X_turn (P':=rowE 122 v98 ((U.take (y.1 + 1)).map (entU n (ps.map pn)))) 3 rfl (fun h hp=>by rw [List.take_add_one,hu,List.map_append]; exact row_en (p:=entU n (ps.map pn) u) (by rw [hent]; exact hp)) ?_
     refine X_turn (P':=refS g (putsT s0 (((U.take (y.1 + 1)).map (blkU n (ps.map pn))).flatten)) id) 1 rfl (fun h hp=>by rw [List.take_add_one,hu,List.map_append,List.flatten_append,show ((some u).toList.map (blkU n (ps.map pn))).flatten=blkU n (ps.map pn) u by simp,hblk,putsT_app]; exact hp) ?_
     exact Xr9 (y.1 + 1,v98) (by dsimp only; omega) (by dsimp only; omega) (a9 rfl) (a9 rfl)
  ·
   have hgey:U.length≤y.1:=by have:=of_decide_eq_false hc32; omega
   refine W_exit (X_then_exit (X_then_exit (X_block_exit (X9 ?_))))
   refine Q9 ?_
   refine Wt9 (P':=refS g (putsT s0 (blksU n (ps.map pn))) id) 1 rfl (fun h hp=>by unfold blksU; rw [← hU]; rw [List.take_of_length_le hgey] at hp; exact hp) ?_
   refine Wt9 (P':=rowE 122 y.2 (entsU n (ps.map pn))) 3 rfl (fun h hp=>by unfold entsU; rw [← hU]; rw [List.take_of_length_le hgey] at hp; exact hp) ?_
   have hE:=entsU_ok n (ps.map pn)
   refine R9 (M9 rfl rfl (Lc9 rfl rfl (by decide) (Oc9 200 [0,1,3,4,101] [] rfl Tryz.call77 rfl rfl rfl (by decide) (by decide) (refDir_spec y.2 (entsU n (ps.map pn)) hE (by rw [hel]; omega) hnm _ (rs9 2 rfl rowR_rd)) (fun v101 Ps101 hR101=>?_))))
   obtain ⟨w101,rfl,rfl⟩:=hR101
   skip
   refine (M9 rfl rfl (L9 rfl (Pe9 rfl rfl rfl) (L9 rfl (Pe9 rfl rfl rfl) (G9 rfl rfl (G9 rfl rfl (N9 (X9 ?_)))))))
   refine Q9 (R9 (M9 rfl rfl (M9 rfl rfl (Lc9 rfl rfl (by decide) (Oc9 300 [0,3,4,101,200] [1] rfl Tryz.call76 rfl rfl rfl (by decide) (by decide) (refFile_spec g (putsT s0 (blksU n (ps.map pn))) (by have:=putsT_len s0 (blksU n (ps.map pn)); omega) id hid 2 _ (dirR (entsU n (ps.map pn))) (by have:=dirR_len hE; omega) _ (rs9 4 rfl rowB_rd)) (fun v106 Ps106 hR106=>?_))))))
   obtain ⟨rfl,rfl⟩:=hR106
   skip
   refine (Lc09 rfl rfl (OpT_storeAll (r:=101) rfl Tryz.sizeOf29 rfl rfl rfl ((bs_length _).trans zeroId_length) ((bs_length _).trans (sha_length _)) (bs_one _) ?_))
   refine (N9 (X9 ?_))
   refine W_ret ?_
   refine X_turn (P':=refS g (putsT s0 (dirI (n + 1) (ps.map pn)).2) id) 300 rfl (fun h hp=>by rw [dirI_succ,putsT_app]; exact hp) ?_
   exact Xq9 [300] (Ps:=[_]) (resC1 (r:=101) Tryz.results46 rfl Tryz.isAgg29 Tryz.sizeOf29 rfl ((bs_length _).trans (sha_length _))) rfl (by decide) ⟨by rw [dirI_succ] <;> rfl,rfl⟩
open Go.RowKit
set_option maxRecDepth 8000
theorem WL_open {P:Program} {E:Env} {n:Nat} {K:Slots} {L:Res} {Q:Exit→Act→World→Prop} {ops:Array Oper} {lst:List Oper} {α:Type} {φ:α→Prop} {Ps:α→List HP} (r b:Nat) {Pr:HP} (hr:look L r=some Pr) (hp:∀ h,Pr h→∃ x,φ x∧starL (Ps x) h) (k:∀ x,φ x→WL P E n ops lst K (En b (Ps x)++(r,emp)::L) Q):WL P E n ops lst K L Q:=fun a w hA hS=>by
  obtain ⟨x,hS2⟩:=hS.ex hr (Q:=fun x h=>φ x∧starL (Ps x) h) hp
  have hx:=hS2.get (look_same _ _ _) fun h hp=>hp.1
  have hS3:=hS2.split (b:=b) (Ps:=Ps x) (look_same _ _ _) fun h hp=>hp.2
  refine k x hx a w hA (hS3.sub fun r' P' h=>?_)
  rw [look_append] at h ⊢
  cases hl:look (En b (Ps x)) r' with
  | some X=>rw [hl] at h; exact h
  | none =>
    rw [hl] at h
    simp only [Option.none_or] at h ⊢
    by_cases hrr:r=r'
    · subst hrr; rw [look_same] at h ⊢; exact h
    · rw [look_other hrr] at h; rw [look_other hrr,look_other hrr]; exact h
theorem WL_openRef {P:Program} {E:Env} {n:Nat} {K:Slots} {L:Res} {Q:Exit→Act→World→Prop} {ops:Array Oper} {lst:List Oper} (r b:Nat) {g:Nat} {s:List TB × Bool} {id:List UInt8} (hr:look L r=some (refS g s id))
    (k:∀ (v':Value) (es:List EB),v'.oneCell'=true→es.map toTB=s.1→WL P E n ops lst K (En b (refParts g v' es id s.2)++(r,emp)::L) Q):WL P E n ops lst K L Q :=
  WL_open (φ:=fun q:Value × List EB=>q.1.oneCell'=true∧q.2.map toTB=s.1) (Ps:=fun q:Value × List EB=>refParts g q.1 q.2 id s.2) r b hr (fun h hp=>by obtain ⟨q,h1,h2,h3⟩:=hp; exact ⟨q,⟨h1,h2⟩,h3⟩) (fun q hq=>k q.1 q.2 hq.1 hq.2)
theorem refDirT_spec (g:Nat) (id:List UInt8) (hid:id.length=32):∀ (n:Nat) (v:Value) (ps:List PV),PsOk (n + 1) ps→ps.length≤1000000→∀ (s0:List TB × Bool),s0.1.length + (dirI (n + 1) (ps.map pn)).2.length≤1000000000000→∀ (F:HP),(∀ h,F h→rdPV v ps h)→(∀ h,F h→datPV ps h)→CallsS Tryz.prog 46 #[.pointer (some ⟨g,0,none⟩),v] F [refS g s0 id] (fun r Ps=>r=idV (dirI (n + 1) (ps.map pn)).1∧Ps=[refS g (putsT s0 (dirI (n + 1) (ps.map pn)).2) id])
  | 0,v,ps,hok,hpn,s0,htt,F,hF,hD=>refDir_walk g 0 id hid (fun v ps h0 hok0=>by
      cases ps with
      | nil=>simp at h0
      | cons p q=>have:=hok0 p (by simp); omega) v ps hok hpn s0 htt F hF hD
  | n + 1,v,ps,hok,hpn,s0,htt,F,hF,hD=>refDir_walk g (n + 1) id hid (fun v ps h0 hok0 hpn0 s1 htt1 F1 hF1 hD1=>refDirT_spec g id hid n v ps hok0 hpn0 s1 htt1 F1 hF1 hD1) v ps hok hpn s0 htt F hF hD
def bnd:Nat→Nat
  | 0=>0
  | f + 1=>20 * (80000 + bnd f) + 4000
theorem flat_bound {α:Type} (g:α→List (List UInt8)) (b:Nat):∀ (l:List α),(∀ x ∈ l,(g x).length≤b)→((l.map g).flatten).length≤l.length * b
  | [],_=>by simp
  | x::l,h=>by
    have h1:=flat_bound g b l fun y hy=>h y (by simp [hy])
    have h2:=h x (by simp)
    rw [List.map_cons,List.flatten_cons,List.length_append,List.length_cons,Nat.succ_mul]
    omega
theorem scan_bound (u:List UInt8):∀ (ps:List PN) (st:ScanT),(∀ p ∈ ps,p.2.length≤4096)→(ps.foldl (scan1 u) st).2.1.length≤st.2.1.length + 4000 * ps.length∧(ps.foldl (scan1 u) st).2.2.length≤st.2.2.length + ps.length∧((∀ q ∈ st.2.2,q.2.length≤4096)→∀ q ∈ (ps.foldl (scan1 u) st).2.2,q.2.length≤4096)
  | [],st,_=>⟨Nat.le_refl _,Nat.le_refl _,id⟩
  | p::ps,st,h=>by
    have ih:=scan_bound u ps (scan1 u st p) fun q hq=>h q (by simp [hq])
    have hb:=blocksF_len 1 (d:=p.2) (by have:=h p (by simp); omega)
    have h1:(scan1 u st p).2.1.length≤st.2.1.length + 4000∧(scan1 u st p).2.2.length≤st.2.2.length + 1∧((∀ q ∈ st.2.2,q.2.length≤4096)→∀ q ∈ (scan1 u st p).2.2,q.2.length≤4096):=by
      unfold scan1
      split
      · exact ⟨by omega,by omega,id⟩
      · split
        · refine ⟨?_,by dsimp only; omega,id⟩
          dsimp only
          rw [List.length_append]
          omega
        · refine ⟨by dsimp only; omega,by simp,fun h0 q hq=>?_⟩
          rcases List.mem_append.1 hq with hq | hq
          · exact h0 q hq
          · rw [List.mem_singleton.1 hq]; exact h p (by simp)
    rw [List.foldl_cons,List.length_cons]
    exact ⟨by omega,by omega,fun h0=>ih.2.2 (h1.2.2 h0)⟩
theorem dirI_le:∀ (f:Nat) (ps:List PN),ps.length≤20→(∀ p ∈ ps,p.2.length≤4096)→(dirI f ps).2.length≤bnd f
  | 0,ps,_,_=>by rw [dirI]; simp
  | f + 1,ps,hl,hd=>by
    rw [dirI_succ,List.length_append,bnd]
    have hn:=names_len ps []
    rw [List.length_nil] at hn
    have hn:(namesP ps).length≤20:=by unfold namesP; omega
    have h1:=flat_bound (blkU f ps) (80000 + bnd f) (namesP ps) fun u hu=>by
      have hs:=scan_bound u ps (zeroId,[],[]) hd
      simp only [List.length_nil] at hs
      unfold blkU
      rw [List.length_append]
      have ha:(scanP u ps).2.1.length≤80000:=by unfold scanP; omega
      split
      · simp; omega
      · have:=dirI_le f (scanP u ps).2.2 (by unfold scanP; omega) (hs.2.2 (fun q hq=>by cases hq))
        omega
    have h2:(namesP ps).length * (80000 + bnd f)≤20 * (80000 + bnd f):=Nat.mul_le_mul_right _ hn
    have h3:=blocksF_len 2 (d:=dirR (entsU f ps)) (by have:=dirR_len (entsU_ok f ps); omega)
    unfold blksU
    omega
theorem fits_pairs:∀ (ps old:List (List (List UInt8))),fits old ps=true ↔ (∀ q ∈ old,∀ p ∈ ps,clash q p=false)∧ps.Pairwise fun q p=>clash q p=false
  | [],old=>by simp [fits]
  | p::ps,old=>by
    rw [fits,Bool.and_eq_true,fits_pairs ps (old++[p]),List.pairwise_cons]
    constructor
    · rintro ⟨h1,h2,h3⟩
      rw [List.all_eq_true] at h1
      refine ⟨fun q hq x hx=>?_,fun x hx=>h2 p (by simp) x hx,h3⟩
      rcases List.mem_cons.1 hx with rfl | hx
      · simpa using h1 q hq
      · exact h2 q (by simp [hq]) x hx
    · rintro ⟨h1,h2,h3⟩
      refine ⟨List.all_eq_true.2 fun q hq=>by simpa using h1 q hq p (by simp),fun q hq x hx=>?_,h3⟩
      rcases List.mem_append.1 hq with hq | hq
      · exact h1 q hq x (by simp [hx])
      · rw [List.mem_singleton.1 hq]; exact h2 x hx
theorem fits_bad {ps:List (List (List UInt8))} {i k:Nat} (hi:i < ps.length) (hk:k < ps.length) (hne:¬ i=k) (h:(ps.getD k []).isPrefixOf (ps.getD i [])=true):fits [] ps=false:=by
  rw [Bool.eq_false_iff]
  intro hf
  have hp:=((fits_pairs ps []).1 hf).2
  rw [List.pairwise_iff_getElem] at hp
  have gi:ps.getD i []=ps[i]:=by simp [hi]
  have gk:ps.getD k []=ps[k]:=by simp [hk]
  rw [gi,gk] at h
  rcases Nat.lt_or_gt_of_ne hne with hlt | hlt
  · have:=hp i k hi hk hlt
    unfold clash at this
    rw [h,Bool.or_true] at this
    cases this
  · have:=hp k i hk hi hlt
    unfold clash at this
    rw [h,Bool.true_or] at this
    cases this
theorem fits_good {ps:List (List (List UInt8))} (h:∀ i k,i < ps.length→k < ps.length→¬ i=k→(ps.getD k []).isPrefixOf (ps.getD i [])=false):fits [] ps=true:=by
  rw [fits_pairs]
  refine ⟨fun q hq=>(by cases hq),?_⟩
  rw [List.pairwise_iff_getElem]
  intro i j hi hj hij
  have h1:=h i j hi hj (by omega)
  have h2:=h j i hj hi (by omega)
  have gi:ps.getD i []=ps[i]:=by simp [hi]
  have gj:ps.getD j []=ps[j]:=by simp [hj]
  rw [gi,gj] at h1 h2
  unfold clash
  rw [h1,h2]
  rfl
theorem splitN_five {l:List UInt8} (h:(splitN l).2=0):(splitN l).1.length≤5:=by
  unfold splitN at h ⊢
  split
  · simp
  · rename_i h1
    rw [if_neg h1] at h
    split
    · simp
    · rename_i h2
      rw [if_neg h2] at h
      split
      · simp
      · rename_i h3
        show (splitL (l.drop 1)).length≤5
        have h4:allN (splitL (l.drop 1))=0:=by
          by_cases hc:allN (splitL (l.drop 1))=0
          · exact hc
          · exact absurd hc h3
        unfold allN at h4
        split at h4
        · cases h4
        · omega
def partsN (xs:List F3):List PN:=xs.map fun x=>(pathOf x,x.2.2)
theorem datPV_join {xs:List PV} {ls:List (List UInt8)} {nv dv:Value} {d:List UInt8} {h:Hlt} (hs:starL [datPV xs,rowS 9 nv ls,rowB 5 dv d] h):datPV (xs++[(ls,nv,dv,d)]) h:=fun q hq=>by
  rcases List.mem_append.1 hq with hq | hq
  · exact ⟨starL_le hs (φ:=rdS q.2.1 q.1) 0 rfl fun h' h1 h2=>rdP_le h2 (h1 q hq).1,starL_le hs (φ:=rdB q.2.2.1 q.2.2.2) 0 rfl fun h' h1 h2=>rdP_le h2 (h1 q hq).2⟩
  · rw [List.mem_singleton.1 hq]
    exact ⟨starL_le hs (φ:=rdS nv ls) 1 rfl fun h' h1 h2=>rdP_le h2 (rp9 h1),starL_le hs (φ:=rdB dv d) 2 rfl fun h' h1 h2=>rdP_le h2 (rp9 h1)⟩
theorem parts_next {xs:List F3} {k:Nat} (hk:k < xs.length) {pvs:List PV} (h:pvs.map pn=(partsN xs).take k) {nv dv:Value}:(pvs++[((splitN (xs.getD k it0).1).1,nv,dv,(xs.getD k it0).2.2)]).map pn=(partsN xs).take (k + 1):=by
  rw [List.map_append,h,List.take_add_one]
  congr 1
  unfold partsN
  simp [hk,pn,pathOf]
theorem ref_id {v:Value} {id:List UInt8} {m:Bool} (hz:id.length=32) {id2:List UInt8} (h2:id2.length=32):over (refC v id m) 1 (bs id2)=refC v id2 m:=by
  have:=over_mid [v] (bs id) (bs id2) [.bool m] (by rw [bs_length,bs_length,hz,h2])
  simpa [refC] using this
theorem its_get {xs:List F3} {k j:Nat} (hk:k < xs.length) (hj:j < 2):(recC itC xs)[k * 2 + j]?=(itC (xs.getD k it0))[j]?:=recC_at (d:=it0) (its_len xs) hk hj
theorem it_path {xs:List F3} {k:Nat} (hk:k < xs.length):(recC itC xs)[k * 2 + 0]?=some (sV (xs.getD k it0).1):=its_get hk (by decide)
theorem it_data {xs:List F3} {k:Nat} (hk:k < xs.length):(recC itC xs)[k * 2 + 1]?=some (xs.getD k it0).2.1:=its_get hk (by decide)
theorem ps_add {xs:List PV} (h:PsOk 5 xs) {ls:List (List UInt8)} {nv dv:Value} {d:List UInt8} (h1:ls.length≤5) (h2:ls.length≠0) (h3:d.length≤4096∧∀ m ∈ ls,m.length≤1000000):PsOk 5 (xs++[(ls,nv,dv,d)]):=fun q hq=>by
  rcases List.mem_append.1 hq with hq | hq
  · exact h q hq
  · rw [List.mem_singleton.1 hq]
    exact ⟨by dsimp only; omega,h1,by dsimp only; omega,h3.2,h3.1⟩
theorem refBuild_spec (v:Value) (xs:List F3) (hxn:xs.length≤1000000000000) (hb:∀ x ∈ xs,x.1.length≤900000∧x.2.2.length≤100000000000) (F:HP) (hF:∀ h,F h→rdIt v xs h) (hD:∀ h,F h→datI xs h):CallsS Tryz.prog 21 #[v] F [] (fun r Ps=>∃ (v':Value) (id:List UInt8) (met:Bool) (l:List TB),r = .tuple #[.agg (refC v' id met).toArray,.int .i64 (buildE xs:Int)]∧Ps=[treeP v' l]∧id.length=32∧v'.oneCell'=true∧(buildE xs=0→(l,met)=putsT ([],false) (dirI 5 (partsN xs)).2∧id=(dirI 5 (partsN xs)).1)∧(buildE xs≠0→l=[]∧met=false)):=by
 refine callsS_enter Tryz.func21 rfl Tryz.ntmps21 (by simp) (fun E=>?_)
 refine Q9 (R9 (Lc9 rfl rfl (by decide) (OpT_alloc (r:=101) (cs:=(refC (.slice none 0 0) zeroId false)) rfl (zero_run (by kernel_rfl:(Tryz.prog.info? 50).bind (·.zero)=some (.agg (refC (.slice none 0 0) zeroId false).toArray))) rfl (fun g101=>(G9 rfl rfl (N9 (X9 (Q9 (Q9 ?_)))))))))
 refine W_nilRow 3 59 35 ?_
 refine R9 (M9 rfl rfl (L9 rfl (Pl9 (r:=0) rfl Tryz.runUnderlying24 rfl rfl hF) (L9 rfl (Pn9 rfl rfl rfl (run_gtr _ _ _ _ _ _)) (N9 (X9 ?_)))))
 refine C9 rfl (fun hc13=>?_) (fun hc13=>?_)
 ·
  have hbe:buildE xs=4:=by unfold buildE; rw [if_pos (by have:=of_decide_eq_true hc13; omega)]
  have hne:buildE xs≠0:=by rw [hbe]; decide
  refine Q9 (R9 (L9 rfl (Pu_build (V:=.agg (refC (.slice none 0 0) zeroId false).toArray) [(0,1),(1,32),(33,1)] (refC (.slice none 0 0) zeroId false) rfl rfl (by kernel_rfl) (by kernel_rfl) (.nil _) rfl) (Lc09 rfl rfl (OpT_storeAll (r:=101) rfl Tryz.sizeOf50 rfl rfl rfl (refC_len zeroId_length) (refC_len zeroId_length) (refC_one rfl) ?_))))
  refine (G9 rfl rfl (N9 (X9 ?_)))
  refine W_ret (X_then_ret ?_)
  refine X_turn (P':=treeP (.slice none 0 0) []) 3 rfl (fun h hp=>treeP_nil hp) ?_
  exact Xq9 [3] (Ps:=[_]) (resC2 (r:=101) Tryz.results21 rfl rfl Tryz.isAgg50 Tryz.sizeOf50 rfl (refC_len zeroId_length)) rfl (by decide) ⟨.slice none 0 0,zeroId,false,[],by rw [hbe] <;> rfl,rfl,zeroId_length,rfl,fun h=>absurd h hne,fun _=>⟨rfl,rfl⟩⟩
 ·
  have hn20:xs.length≤20:=by have:=of_decide_eq_false hc13; omega
  refine K9 (X9 ?_)
  refine Q9 ?_
  refine W_nilRow 4 100 2 ?_
  refine W_nilRow 5 5 1 ?_
  refine Wt9 (P':=datPV []) 5 rfl (fun h _ p hp=>absurd hp (by simp)) ?_
  refine Wt9 (P':=rowR partC 2 100 (.slice none 0 0) []) 4 rfl (fun h hp=>hp) ?_
  refine W_fact (r:=0) rfl (fun h hp x hx=>rd_one (hD h hp x hx)) (fun (hone:∀ x ∈ xs,x.2.1.oneCell'=true)=>?_)
  refine R9 (G9 rfl rfl (N9 (X9 (Q9 (Q9 (R9 (G9 rfl rfl (N9 (X9 ?_)))))))))
  refine W_block ?_
  refine W_loop (α:=Nat × Value × List PV) (fun x=>[(0,v),(2,.pointer (some ⟨g101,0,none⟩)),(4,x.2.1),(5,.int .i64 (x.1:Int))]) (fun x=>[(0,F),(3,rowP 59 35 (.slice none 0 0) 0 []),(4,rowR partC 2 100 x.2.1 x.2.2),(5,datPV x.2.2),(101,blk g101 50 (refC (.slice none 0 0) zeroId false))]) (fun x=>x.1≤xs.length∧firstW (xs.drop x.1)=firstW xs∧x.2.2.map pn=(partsN xs).take x.1∧PsOk 5 x.2.2) (fun x=>xs.length - x.1) ((0,.slice none 0 0,[])) ⟨Nat.zero_le _,rfl,rfl,fun p hp=>absurd hp (by simp)⟩ (a9 rfl) (a9 rfl) (fun x hx=>?_)
  obtain ⟨hx,hfw,hpn,hok⟩:=hx
  have hpl:=congrArg List.length hpn
  rw [List.length_map,List.length_take,show (partsN xs).length=xs.length from List.length_map _] at hpl
  refine Q9 (Q9 (R9 (M9 rfl rfl (M9 rfl rfl (L9 rfl (Pl9 (r:=0) rfl Tryz.runUnderlying24 rfl rfl hF) (L9 rfl (Pn9 rfl rfl rfl (run_lss _ _ _ _ _ _)) (N9 (X9 ?_))))))))
  refine C9 rfl (fun hc18=>?_) (fun hc18=>?_)
  ·
   have hlt:x.1 < xs.length:=by have:=of_decide_eq_true hc18; omega
   have hxm:(xs.getD x.1 it0) ∈ xs:=getD_mem' hlt
   have hxb:=hb _ hxm
   have hxo:=hone _ hxm
   have hxd:∀ h,F h→rdB (xs.getD x.1 it0).2.1 (xs.getD x.1 it0).2.2 h:=fun h hp=>hD h hp _ hxm
   have hat:=firstW_at hlt
   have hsl:=splitN_len (xs.getD x.1 it0).1
   refine K9 (X9 ?_)
   refine Q9 ?_
   refine W_block ?_
   refine Q9 (R9 (M9 rfl rfl (M9 rfl rfl (L9 rfl (Pi9 (r:=0) rfl Tryz.runUnderlying24 Tryz.sizeOf38 rfl rfl rfl hF (by omega)) (L9 rfl (Pu_fieldAddrE (off:=0) rfl rfl (by kernel_rfl)) (L9 rfl (Py9 (r:=0) rfl Tryz.isAgg9 rfl rfl hF (it_path (k:=x.1) hlt)) (Lc9 rfl rfl (by decide) (Oc9 200 [0,3,4,5,101] [] rfl Tryz.call33 rfl rfl rfl (by decide) (by decide) (split_rspec (xs.getD x.1 it0).1 (by omega) _) (fun v27 Ps27 hR27=>?_)))))))))
   obtain ⟨vs27,rfl,rfl⟩:=hR27
   skip
   refine (M9 rfl rfl (L9 rfl (Pe9 rfl rfl rfl) (L9 rfl (Pe9 rfl rfl rfl) (G9 rfl rfl (G9 rfl rfl (N9 (X9 ?_)))))))
   refine Q9 (Q9 (R9 (M9 rfl rfl (L9 rfl (Pn9 rfl rfl rfl (run_neq _ _ _ _ _ _)) (N9 (X9 ?_))))))
   refine C9 rfl (fun hc31=>?_) (fun hc31=>?_)
   ·
    have hs0:(splitN (xs.getD x.1 it0).1).2≠0:=by simpa using hc31
    have hwe:wrongI (xs.getD x.1 it0).1 (xs.getD x.1 it0).2.2=(splitN (xs.getD x.1 it0).1).2:=by unfold wrongI; rw [if_pos hs0]
    have hne0:wrongI (xs.getD x.1 it0).1 (xs.getD x.1 it0).2.2≠0:=by rw [hwe]; exact hs0
    have hbe:buildE xs=(splitN (xs.getD x.1 it0).1).2:=by unfold buildE; rw [if_neg (by omega),← hfw,hat,if_pos hne0,if_pos hne0,hwe]
    have hne:buildE xs≠0:=by rw [hbe]; exact hs0
    refine Q9 (R9 (L9 rfl (Pu_build (V:=.agg (refC (.slice none 0 0) zeroId false).toArray) [(0,1),(1,32),(33,1)] (refC (.slice none 0 0) zeroId false) rfl rfl (by kernel_rfl) (by kernel_rfl) (.nil _) rfl) (M9 rfl rfl (Lc09 rfl rfl (OpT_storeAll (r:=101) rfl Tryz.sizeOf50 rfl rfl rfl (refC_len zeroId_length) (refC_len zeroId_length) (refC_one rfl) ?_)))))
    refine (G9 rfl rfl (N9 (X9 ?_)))
    refine W_ret (X_then_ret (X_block_ret (X_then_ret (X_then_ret (X_block_ret (X_then_ret ?_))))))
    refine X_turn (P':=treeP (.slice none 0 0) []) 3 rfl (fun h hp=>treeP_nil hp) ?_
    exact Xq9 [3] (Ps:=[_]) (resC2 (r:=101) Tryz.results21 rfl rfl Tryz.isAgg50 Tryz.sizeOf50 rfl (refC_len zeroId_length)) rfl (by decide) ⟨.slice none 0 0,zeroId,false,[],by rw [hbe] <;> rfl,rfl,zeroId_length,rfl,fun h=>absurd h hne,fun _=>⟨rfl,rfl⟩⟩
   ·
    have hs0:(splitN (xs.getD x.1 it0).1).2=0:=by simpa using hc31
    refine K9 (X9 ?_)
    refine Q9 (Q9 (R9 (M9 rfl rfl (L9 rfl (Pl9 (r:=200) rfl Tryz.runUnderlying63 rfl rfl rowS_rd) (L9 rfl (Pn9 rfl rfl rfl (run_eql _ _ _ _ _ _)) (N9 (X9 ?_)))))))
    refine C9 rfl (fun hc36=>?_) (fun hc36=>?_)
    ·
     have hs1:(splitN (xs.getD x.1 it0).1).1.length=0:=by simpa using hc36
     have hwe:wrongI (xs.getD x.1 it0).1 (xs.getD x.1 it0).2.2=10:=by unfold wrongI; rw [if_neg (fun h=>h hs0),if_pos hs1]
     have hne0:wrongI (xs.getD x.1 it0).1 (xs.getD x.1 it0).2.2≠0:=by rw [hwe]; decide
     have hbe:buildE xs=10:=by unfold buildE; rw [if_neg (by omega),← hfw,hat,if_pos hne0,if_pos hne0,hwe]
     have hne:buildE xs≠0:=by rw [hbe]; decide
     refine Q9 (R9 (L9 rfl (Pu_build (V:=.agg (refC (.slice none 0 0) zeroId false).toArray) [(0,1),(1,32),(33,1)] (refC (.slice none 0 0) zeroId false) rfl rfl (by kernel_rfl) (by kernel_rfl) (.nil _) rfl) (Lc09 rfl rfl (OpT_storeAll (r:=101) rfl Tryz.sizeOf50 rfl rfl rfl (refC_len zeroId_length) (refC_len zeroId_length) (refC_one rfl) ?_))))
     refine (G9 rfl rfl (N9 (X9 ?_)))
     refine W_ret (X_then_ret (X_block_ret (X_then_ret (X_then_ret (X_block_ret (X_then_ret ?_))))))
     refine X_turn (P':=treeP (.slice none 0 0) []) 3 rfl (fun h hp=>treeP_nil hp) ?_
     exact Xq9 [3] (Ps:=[_]) (resC2 (r:=101) Tryz.results21 rfl rfl Tryz.isAgg50 Tryz.sizeOf50 rfl (refC_len zeroId_length)) rfl (by decide) ⟨.slice none 0 0,zeroId,false,[],by rw [hbe] <;> rfl,rfl,zeroId_length,rfl,fun h=>absurd h hne,fun _=>⟨rfl,rfl⟩⟩
    ·
     have hs1:¬ (splitN (xs.getD x.1 it0).1).1.length=0:=by simpa using hc36
     refine K9 (X9 ?_)
     refine Q9 (Q9 (R9 (M9 rfl rfl (M9 rfl rfl (L9 rfl (Pi9 (r:=0) rfl Tryz.runUnderlying24 Tryz.sizeOf38 rfl rfl rfl hF (by omega)) (L9 rfl (Pu_fieldAddrE (off:=1) rfl rfl (by kernel_rfl)) (L9 rfl (Py9 (r:=0) rfl Tryz.isAgg36 rfl rfl hF (it_data (k:=x.1) hlt)) (L9 rfl (Pl9 (r:=0) rfl Tryz.runUnderlying36 rfl rfl hxd) (L9 rfl (Pn9 rfl rfl rfl (run_gtr _ _ _ _ _ _)) (N9 (X9 ?_)))))))))))
     refine C9 rfl (fun hc44=>?_) (fun hc44=>?_)
     ·
      have hs2:1000 < (xs.getD x.1 it0).2.2.length:=by have:=of_decide_eq_true hc44; omega
      have hwe:wrongI (xs.getD x.1 it0).1 (xs.getD x.1 it0).2.2=5:=by unfold wrongI; rw [if_neg (fun h=>h hs0),if_neg hs1,if_pos hs2]
      have hne0:wrongI (xs.getD x.1 it0).1 (xs.getD x.1 it0).2.2≠0:=by rw [hwe]; decide
      have hbe:buildE xs=5:=by unfold buildE; rw [if_neg (by omega),← hfw,hat,if_pos hne0,if_pos hne0,hwe]
      have hne:buildE xs≠0:=by rw [hbe]; decide
      refine Q9 (R9 (L9 rfl (Pu_build (V:=.agg (refC (.slice none 0 0) zeroId false).toArray) [(0,1),(1,32),(33,1)] (refC (.slice none 0 0) zeroId false) rfl rfl (by kernel_rfl) (by kernel_rfl) (.nil _) rfl) (Lc09 rfl rfl (OpT_storeAll (r:=101) rfl Tryz.sizeOf50 rfl rfl rfl (refC_len zeroId_length) (refC_len zeroId_length) (refC_one rfl) ?_))))
      refine (G9 rfl rfl (N9 (X9 ?_)))
      refine W_ret (X_then_ret (X_block_ret (X_then_ret (X_then_ret (X_block_ret (X_then_ret ?_))))))
      refine X_turn (P':=treeP (.slice none 0 0) []) 3 rfl (fun h hp=>treeP_nil hp) ?_
      exact Xq9 [3] (Ps:=[_]) (resC2 (r:=101) Tryz.results21 rfl rfl Tryz.isAgg50 Tryz.sizeOf50 rfl (refC_len zeroId_length)) rfl (by decide) ⟨.slice none 0 0,zeroId,false,[],by rw [hbe] <;> rfl,rfl,zeroId_length,rfl,fun h=>absurd h hne,fun _=>⟨rfl,rfl⟩⟩
     ·
      have hs2:¬ 1000 < (xs.getD x.1 it0).2.2.length:=by have:=of_decide_eq_false hc44; omega
      have hgood:wrongI (xs.getD x.1 it0).1 (xs.getD x.1 it0).2.2=0:=by unfold wrongI; rw [if_neg (fun h=>h hs0),if_neg hs1,if_neg hs2]
      have hw1:=splitN_five hs0
      have hw2:(splitN (xs.getD x.1 it0).1).1.length≠0:=hs1
      have hw3:(xs.getD x.1 it0).2.2.length≤4096∧(∀ m ∈ (splitN (xs.getD x.1 it0).1).1,m.length≤1000000):=⟨by omega,fun m hm=>by have:=splitN_mem hm; omega⟩
      refine K9 (X9 ?_)
      refine R9 (M9 rfl rfl (M9 rfl rfl (Lc9 rfl rfl (by decide) (OpT_buildOnes (r:=201) (bs []) rfl rfl Tryz.runUnderlying36 Tryz.sizeOf5 Tryz.zeroValue5 rfl rfl (by decide) rfl (bs_cells _) (fun v48=>?_)))))
      refine Lt9 (P':=rowB 5 v48 []) (r:=201) rfl (fun h hp=>hp) ?_
      refine (M9 rfl rfl (M9 rfl rfl (L9 rfl (Pi9 (r:=0) rfl Tryz.runUnderlying24 Tryz.sizeOf38 rfl rfl rfl hF (by omega)) (L9 rfl (Pu_fieldAddrE (off:=1) rfl rfl (by kernel_rfl)) (L9 rfl (Py9 (r:=0) rfl Tryz.isAgg36 rfl rfl hF (it_data (k:=x.1) hlt)) (Lc9 rfl rfl (by decide) (Oa9 (r:=201) (r2:=0) rfl Tryz.underlying36 TI.hi5 TI.hz5 TI.hs5 TI.hby5 TI.hzs5 (by decide) rfl rfl rfl rfl hxd (bs_one _) (by unfold maxLen; rw [List.length_nil]; omega) (by rw [List.length_nil]; omega) (fun v54=>?_))))))))
      refine Lt9 (P':=rowB 5 v54 (xs.getD x.1 it0).2.2) (r:=201) rfl (fun h hp=>rowB_mk hp (by rw [List.length_nil,Nat.zero_add]) rfl) ?_
      refine WL_fact (r:=201) rfl (fun h hp=>rd_one (rowB_rd h hp)) (fun (ho54:v54.oneCell'=true)=>?_)
      refine WL_fact (r:=200) rfl (fun h hp=>rd_one (rowS_rd h hp)) (fun (ho27:vs27.oneCell'=true)=>?_)
      refine (L9 rfl (Pu_build (V:=.agg (partC ((splitN (xs.getD x.1 it0).1).1,vs27,v54,(xs.getD x.1 it0).2.2)).toArray) [(0,1),(1,1)] ([.slice none 0 0,.slice none 0 0]) rfl rfl (by kernel_rfl) (by kernel_rfl) (.one rfl ho27 (by show 0 < 2; decide) rfl (.one rfl ho54 (by show 1 < 2; decide) rfl (.nil _))) rfl) (Lc9 rfl rfl (by decide) (OpT_buildRows (r:=202) [partC ((splitN (xs.getD x.1 it0).1).1,vs27,v54,(xs.getD x.1 it0).2.2)] rfl rfl Tryz.runUnderlying98 Tryz.sizeOf100 Tryz.zeroValue100 rfl (by decide) rfl (by decide) (by intro r hr; simp at hr; rw [hr]; rfl) rfl (fun v56=>(Lc9 rfl rfl (by decide) (Oa9 (r:=4) (r2:=202) rfl Tryz.underlying98 TI.hi100 TI.hz100 TI.hs100 TI.hby100 TI.hzs100 (by decide) rfl rfl rfl rfl (fun _ h=>rp9 h) (by rw [List.flatten_cons,List.flatten_nil,List.append_nil]; exact part_one ho27 ho54) (by unfold maxLen; omega) (by omega) (fun v57=>?_)))))))
      refine Lt9 (P':=rowR partC 2 100 v57 (x.2.2++[((splitN (xs.getD x.1 it0).1).1,vs27,v54,(xs.getD x.1 it0).2.2)])) (r:=4) rfl (fun h hp=>row_pv hp rfl rfl) ?_
      refine (G9 rfl rfl (N9 (X_block (X9 ?_))))
      refine R9 (M9 rfl rfl (L9 rfl (Pn9 rfl rfl rfl (run_add _ _ _ _ _ (by omega))) (G9 rfl rfl (N9 ?_))))
      refine X_join [5,200,201] 5 (datPV (x.2.2++[((splitN (xs.getD x.1 it0).1).1,vs27,v54,(xs.getD x.1 it0).2.2)])) rfl (by decide) (fun h hs=>datPV_join hs) ?_
      exact Xr9 (x.1 + 1,v57,x.2.2++[((splitN (xs.getD x.1 it0).1).1,vs27,v54,(xs.getD x.1 it0).2.2)]) ⟨by dsimp only; omega,by rw [← hfw,firstW_at hlt,if_neg (fun h=>h hgood)],parts_next hlt hpn,ps_add hok hw1 hw2 hw3⟩ (by dsimp only; omega) (a9 rfl) (a9 rfl)
  ·
   have hge:xs.length≤x.1:=by have:=of_decide_eq_false hc18; omega
   have hfw0:firstW xs=0:=by rw [← hfw,List.drop_of_length_le hge]; rfl
   refine W_exit (X_then_exit (X_then_exit (X_block_exit (X9 ?_))))
   refine Q9 (Q9 ?_)
   have hpa:x.2.2.map pn=partsN xs:=by rw [hpn,List.take_of_length_le (by unfold partsN; rw [List.length_map]; exact hge)]
   have hpll:x.2.2.length=xs.length:=by omega
   have hpp:x.2.2.map (fun p:PV=>p.1)=xs.map pathOf:=by have:=congrArg (List.map Prod.fst) hpa; unfold partsN at this; rw [List.map_map,List.map_map] at this; exact this
   have hpg:∀ k,k < x.2.2.length→(xs.map pathOf).getD k []=(x.2.2.getD k pv0).1:=fun k hk=>by rw [← hpp]; simp [hk]
   have hml:(xs.map pathOf).length=xs.length:=List.length_map _
   refine R9 (G9 rfl rfl (N9 (X9 ?_)))
   refine W_block ?_
   refine W_loop (α:=Nat) (fun y=>[(2,.pointer (some ⟨g101,0,none⟩)),(4,x.2.1),(8,.int .i64 (y:Int))]) (fun y=>[(0,F),(3,rowP 59 35 (.slice none 0 0) 0 []),(4,rowR partC 2 100 x.2.1 x.2.2),(5,datPV x.2.2),(101,blk g101 50 (refC (.slice none 0 0) zeroId false))]) (fun y=>y≤x.2.2.length∧∀ i k,i < y→k < x.2.2.length→¬ i=k→((x.2.2.getD k pv0).1.isPrefixOf (x.2.2.getD i pv0).1)=false) (fun y=>x.2.2.length - y) (0) ⟨Nat.zero_le _,fun i k hi=>absurd hi (by omega)⟩ (a9 rfl) (a9 rfl) (fun y hy=>?_)
   obtain ⟨hy,hyf⟩:=hy
   refine Q9 (Q9 (R9 (M9 rfl rfl (M9 rfl rfl (L9 rfl (Pl9 (r:=4) rfl Tryz.runUnderlying98 rfl rfl rowR_rd) (L9 rfl (Pn9 rfl rfl rfl (run_lss _ _ _ _ _ _)) (N9 (X9 ?_))))))))
   refine C9 rfl (fun hc61=>?_) (fun hc61=>?_)
   ·
    have hlty:y < x.2.2.length:=by have:=of_decide_eq_true hc61; omega
    have hym:(x.2.2.getD y pv0) ∈ x.2.2:=getD_mem' hlty
    refine K9 (X9 ?_)
    refine Q9 ?_
    refine W_block ?_
    refine Q9 (R9 (G9 rfl rfl (N9 (X9 ?_))))
    refine W_block ?_
    refine W_loop (α:=Nat) (fun z=>[(2,.pointer (some ⟨g101,0,none⟩)),(4,x.2.1),(8,.int .i64 (y:Int)),(9,.int .i64 (z:Int))]) (fun z=>[(0,F),(3,rowP 59 35 (.slice none 0 0) 0 []),(4,rowR partC 2 100 x.2.1 x.2.2),(5,datPV x.2.2),(101,blk g101 50 (refC (.slice none 0 0) zeroId false))]) (fun z=>z≤x.2.2.length∧∀ k,k < z→¬ k=y→((x.2.2.getD k pv0).1.isPrefixOf (x.2.2.getD y pv0).1)=false) (fun z=>x.2.2.length - z) (0) ⟨Nat.zero_le _,fun k hk=>absurd hk (by omega)⟩ (a9 rfl) (a9 rfl) (fun z hz=>?_)
    obtain ⟨hz,hzf⟩:=hz
    refine Q9 (Q9 (R9 (M9 rfl rfl (M9 rfl rfl (L9 rfl (Pl9 (r:=4) rfl Tryz.runUnderlying98 rfl rfl rowR_rd) (L9 rfl (Pn9 rfl rfl rfl (run_lss _ _ _ _ _ _)) (N9 (X9 ?_))))))))
    refine C9 rfl (fun hc67=>?_) (fun hc67=>?_)
    ·
     have hltz:z < x.2.2.length:=by have:=of_decide_eq_true hc67; omega
     have hzm:(x.2.2.getD z pv0) ∈ x.2.2:=getD_mem' hltz
     refine K9 (X9 ?_)
     refine Q9 ?_
     refine W_block ?_
     refine Q9 ?_
     rcases Bool.eq_false_or_eq_true (!decide ((y:Int)=(z:Int))) with hsp21 | hsp21
     ·
      have hyz:¬ y=z:=by have:=hsp21; simp at this; omega
      refine W_draw (N:=16) (by kernel_rfl) rfl [(0,_),(101,_),(4,_)] ⟨rfl,rfl,rfl,trivial⟩ ?_
      refine (T9 0 rfl rfl (Pm9 rfl rfl) (T9 1 rfl rfl (Pm9 rfl rfl) (T9 2 rfl rfl (Pn9 rfl rfl rfl (run_neq _ _ _ _ _ _)) (T9 3 rfl rfl (Pm9 rfl rfl) (AH_takeT 4 rfl (by kernel_rfl) (by kernel_rfl) (by kernel_rfl) rfl rfl rfl (by rw [hsp21]; rfl) rfl (by decide) (Pm9 rfl rfl) (AH_takeT 5 rfl (by kernel_rfl) (by kernel_rfl) (by kernel_rfl) rfl rfl rfl (by rw [hsp21]; rfl) rfl (by decide) (Pm9 rfl rfl) (AH_takeT 6 rfl (by kernel_rfl) (by kernel_rfl) (by kernel_rfl) rfl rfl rfl (by rw [hsp21]; rfl) rfl (by decide) (Pi9 (r:=4) rfl Tryz.runUnderlying98 Tryz.sizeOf100 rfl rfl rfl rowR_rd (by omega)) (AH_takeT 7 rfl (by kernel_rfl) (by kernel_rfl) (by kernel_rfl) rfl rfl rfl (by rw [hsp21]; rfl) rfl (by decide) (Pu_fieldAddrE (off:=0) rfl rfl (by kernel_rfl)) (AH_takeT 8 rfl (by kernel_rfl) (by kernel_rfl) (by kernel_rfl) rfl rfl rfl (by rw [hsp21]; rfl) rfl (by decide) (Py9 (r:=4) rfl Tryz.isAgg63 rfl rfl rowR_rd (pv_nv (k:=z) hltz)) (AH_takeT 9 rfl (by kernel_rfl) (by kernel_rfl) (by kernel_rfl) rfl rfl rfl (by rw [hsp21]; rfl) rfl (by decide) (Pm9 rfl rfl) (AH_takeT 10 rfl (by kernel_rfl) (by kernel_rfl) (by kernel_rfl) rfl rfl rfl (by rw [hsp21]; rfl) rfl (by decide) (Pm9 rfl rfl) (AH_takeT 11 rfl (by kernel_rfl) (by kernel_rfl) (by kernel_rfl) rfl rfl rfl (by rw [hsp21]; rfl) rfl (by decide) (Pi9 (r:=4) rfl Tryz.runUnderlying98 Tryz.sizeOf100 rfl rfl rfl rowR_rd (by omega)) (AH_takeT 12 rfl (by kernel_rfl) (by kernel_rfl) (by kernel_rfl) rfl rfl rfl (by rw [hsp21]; rfl) rfl (by decide) (Pu_fieldAddrE (off:=0) rfl rfl (by kernel_rfl)) (AH_takeT 13 rfl (by kernel_rfl) (by kernel_rfl) (by kernel_rfl) rfl rfl rfl (by rw [hsp21]; rfl) rfl (by decide) (Py9 (r:=4) rfl Tryz.isAgg63 rfl rfl rowR_rd (pv_nv (k:=y) hlty)) (Y9 [14] ?_)))))))))))))))
      refine AHs_gT rfl rfl rfl rfl (by rw [hsp21]; rfl) rfl (by decide) (Oc9 200 [0,3,4,5,101] [] rfl Tryz.call45 rfl rfl rfl (by decide) (by decide) (front_spec _ _ (x.2.2.getD z pv0).1 (x.2.2.getD y pv0).1 (by have:=(hok _ hzm).2.1; omega) (by have:=(hok _ hym).2.1; omega) _ (rs9 3 rfl (fun h hp=>(hp _ hzm).1)) (rs9 3 rfl (fun h hp=>(hp _ hym).1))) (fun v84 Ps84 hR84=>?_)) ?_
      ·
       obtain ⟨rfl,rfl⟩:=hR84
       refine ⟨⟨rfl,rfl,rfl,trivial⟩,?_⟩
       refine (T9 15 rfl rfl (Pu_pickT rfl rfl hsp21 rfl) (Ad9 (by kernel_rfl) (X9 ?_)))
       refine C9 rfl (fun hc85=>?_) (fun hc85=>?_)
       ·
        have hfb:fits [] (xs.map pathOf)=false:=fits_bad (i:=y) (k:=z) (by omega) (by omega) hyz (by rw [hpg y hlty,hpg z hltz]; exact hc85)
        have hbe:buildE xs=7:=by unfold buildE; rw [if_neg (by omega),if_neg (fun h=>h hfw0),hfb]; rfl
        have hne:buildE xs≠0:=by rw [hbe]; decide
        refine Q9 (R9 (L9 rfl (Pu_build (V:=.agg (refC (.slice none 0 0) zeroId false).toArray) [(0,1),(1,32),(33,1)] (refC (.slice none 0 0) zeroId false) rfl rfl (by kernel_rfl) (by kernel_rfl) (.nil _) rfl) (Lc09 rfl rfl (OpT_storeAll (r:=101) rfl Tryz.sizeOf50 rfl rfl rfl (refC_len zeroId_length) (refC_len zeroId_length) (refC_one rfl) ?_))))
        refine (G9 rfl rfl (N9 (X9 ?_)))
        refine W_ret (X_block_ret (X_then_ret (X_then_ret (X_block_ret (X_block_ret (X_then_ret (X_then_ret (X_block_ret (X_then_ret ?_)))))))))
        refine X_turn (P':=treeP (.slice none 0 0) []) 3 rfl (fun h hp=>treeP_nil hp) ?_
        exact Xq9 [3] (Ps:=[_]) (resC2 (r:=101) Tryz.results21 rfl rfl Tryz.isAgg50 Tryz.sizeOf50 rfl (refC_len zeroId_length)) rfl (by decide) ⟨.slice none 0 0,zeroId,false,[],by rw [hbe] <;> rfl,rfl,zeroId_length,rfl,fun h=>absurd h hne,fun _=>⟨rfl,rfl⟩⟩
       ·
        refine K9 (X_block (X9 ?_))
        refine R9 (M9 rfl rfl (L9 rfl (Pn9 rfl rfl rfl (run_add _ _ _ _ _ (by omega))) (G9 rfl rfl (N9 ?_))))
        exact Xr9 (z + 1) ⟨by omega,fun k hk hne=>by rcases Nat.lt_or_ge k z with h | h; exact hzf k h hne; exact (show k=z by omega) ▸ hc85⟩ (by omega) (a9 rfl) (a9 rfl)
      exact An9
     ·
      have hyz:y=z:=by have:=hsp21; simp at this; omega
      refine W_draw (N:=16) (by kernel_rfl) rfl [(0,_),(101,_),(4,_)] ⟨rfl,rfl,rfl,trivial⟩ ?_
      refine (T9 0 rfl rfl (Pm9 rfl rfl) (T9 1 rfl rfl (Pm9 rfl rfl) (T9 2 rfl rfl (Pn9 rfl rfl rfl (run_neq _ _ _ _ _ _)) (T9 3 rfl rfl (Pm9 rfl rfl) (AH_takeF 4 rfl (by kernel_rfl) (by kernel_rfl) (by kernel_rfl) rfl rfl rfl (by rw [hsp21]; rfl) rfl (by decide) (AH_takeF 5 rfl (by kernel_rfl) (by kernel_rfl) (by kernel_rfl) rfl rfl rfl (by rw [hsp21]; rfl) rfl (by decide) (AH_takeF 6 rfl (by kernel_rfl) (by kernel_rfl) (by kernel_rfl) rfl rfl rfl (by rw [hsp21]; rfl) rfl (by decide) (AH_takeF 7 rfl (by kernel_rfl) (by kernel_rfl) (by kernel_rfl) rfl rfl rfl (by rw [hsp21]; rfl) rfl (by decide) (AH_takeF 8 rfl (by kernel_rfl) (by kernel_rfl) (by kernel_rfl) rfl rfl rfl (by rw [hsp21]; rfl) rfl (by decide) (AH_takeF 9 rfl (by kernel_rfl) (by kernel_rfl) (by kernel_rfl) rfl rfl rfl (by rw [hsp21]; rfl) rfl (by decide) (AH_takeF 10 rfl (by kernel_rfl) (by kernel_rfl) (by kernel_rfl) rfl rfl rfl (by rw [hsp21]; rfl) rfl (by decide) (AH_takeF 11 rfl (by kernel_rfl) (by kernel_rfl) (by kernel_rfl) rfl rfl rfl (by rw [hsp21]; rfl) rfl (by decide) (AH_takeF 12 rfl (by kernel_rfl) (by kernel_rfl) (by kernel_rfl) rfl rfl rfl (by rw [hsp21]; rfl) rfl (by decide) (AH_takeF 13 rfl (by kernel_rfl) (by kernel_rfl) (by kernel_rfl) rfl rfl rfl (by rw [hsp21]; rfl) rfl (by decide) (Y9 [14] ?_)))))))))))))))
      refine AHs_gF rfl rfl rfl rfl (by rw [hsp21]; rfl) rfl (by decide) ?_ ?_
      ·
       refine (T9 15 rfl rfl (Pu_pickF rfl rfl hsp21 rfl) (Ad9 (by kernel_rfl) (X9 ?_)))
       refine W_false rfl (rfl) ?_
       refine K9 (X_block (X9 ?_))
       refine R9 (M9 rfl rfl (L9 rfl (Pn9 rfl rfl rfl (run_add _ _ _ _ _ (by omega))) (G9 rfl rfl (N9 ?_))))
       exact Xr9 (z + 1) ⟨by omega,fun k hk hne=>hzf k (by omega) hne⟩ (by omega) (a9 rfl) (a9 rfl)
      exact An9
    ·
     have hgez:x.2.2.length≤z:=by have:=of_decide_eq_false hc67; omega
     refine W_exit (X_then_exit (X_then_exit (X_block_exit (X_block (X9 ?_)))))
     refine R9 (M9 rfl rfl (L9 rfl (Pn9 rfl rfl rfl (run_add _ _ _ _ _ (by omega))) (G9 rfl rfl (N9 ?_))))
     exact Xr9 (y + 1) ⟨by omega,fun i k hi hk hne=>by rcases Nat.lt_or_ge i y with h | h; exact hyf i k h hk hne; exact (show i=y by omega) ▸ hzf k (by omega) (fun e=>hne (by omega))⟩ (by omega) (a9 rfl) (a9 rfl)
   ·
    have hgey:x.2.2.length≤y:=by have:=of_decide_eq_false hc61; omega
    have hfit:fits [] (xs.map pathOf)=true:=fits_good (fun i k hi hk hne=>by rw [hpg i (by omega),hpg k (by omega)]; exact hyf i k (by omega) (by omega) hne)
    have hbe:buildE xs=0:=by unfold buildE; rw [if_neg (by omega),if_neg (fun h=>h hfw0),if_pos hfit]
    refine W_exit (X_then_exit (X_then_exit (X_block_exit (X9 ?_))))
    refine Q9 (R9 (L9 rfl (Pu_build (V:=.agg (refC (.slice none 0 0) zeroId false).toArray) [(0,1),(1,32),(33,1)] (refC (.slice none 0 0) zeroId false) rfl rfl (by kernel_rfl) (by kernel_rfl) (.nil _) rfl) (Lc9 rfl rfl (by decide) (OpT_alloc (r:=102) (cs:=(refC (.slice none 0 0) zeroId false)) rfl (zero_run (by kernel_rfl:(Tryz.prog.info? 50).bind (·.zero)=some (.agg (refC (.slice none 0 0) zeroId false).toArray))) rfl (fun g102=>(Lc09 rfl rfl (OpT_storeAll (r:=102) rfl Tryz.sizeOf50 rfl rfl rfl (refC_len zeroId_length) (refC_len zeroId_length) (refC_one rfl) ?_)))))))
    refine (N9 (X9 ?_))
    refine Q9 ?_
    refine W_join [102,3] 6 (refS g102 ([],false) zeroId) rfl (by decide) (fun h hs=>closeRef (es:=[]) rfl rfl (starL_add (Ps:=[_,_]) (fun p hp=>by cases hp) hs)) ?_
    have hdl:=dirI_le 5 (partsN xs) (by unfold partsN; rw [List.length_map]; exact hn20) (fun p hp=>by obtain ⟨x0,hx0,rfl⟩:=List.mem_map.1 hp; have:=(wrongI_zero (firstW_zero hfw0 x0 hx0)).2.2; show x0.2.2.length≤4096; omega)
    have hbn:bnd 5≤1000000000000:=by decide
    refine R9 (M9 rfl rfl (Lc9 rfl rfl (by decide) (Oc9 200 [0,4,5,101] [6] rfl Tryz.call46 rfl rfl rfl (by decide) (by decide) (refDirT_spec g102 zeroId zeroId_length 4 x.2.1 x.2.2 hok (by omega) ([],false) (by rw [hpa,List.length_nil,Nat.zero_add]; exact Nat.le_trans hdl hbn) _ (rs9 1 rfl rowR_rd) (datPV_star 2 rfl (fun _ h=>h))) (fun v89 Ps89 hR89=>?_))))
    rw [hpa] at hR89; obtain ⟨rfl,rfl⟩:=hR89
    refine WL_openRef 200 600 rfl (fun v0 es hv0 hes=>?_)
    refine (L9 rfl (F9 1 rfl rfl) (Lc09 rfl rfl (OpT_storeF (r:=600) rfl Tryz.sizeOf29 rfl rfl rfl ((bs_length _).trans (dirI_id _ _)) (by rw [refC_len zeroId_length]; decide) (bs_one _) (ref_id zeroId_length (dirI_id _ _)) ?_)))
    refine (N9 (X9 ?_))
    refine Q9 (R9 (L9 rfl (Px9 (r:=600) rfl Tryz.isAgg50 Tryz.sizeOf50 rfl rfl (refC_len (dirI_id _ _)) (load_all (refC_len (dirI_id _ _)))) (Lc09 rfl rfl (OpT_storeAll (r:=101) rfl Tryz.sizeOf50 rfl rfl rfl (refC_len zeroId_length) (refC_len (dirI_id _ _)) (refC_one hv0) ?_))))
    refine (G9 rfl rfl (N9 (X9 ?_)))
    refine W_ret ?_
    refine X_join [601,602] 3 (treeP v0 (putsT ([],false) (dirI 5 (partsN xs)).2).1) rfl (by decide) (fun h hs=>⟨es,hes,hs⟩) ?_
    exact Xq9 [3] (Ps:=[_]) (resC2 (r:=101) Tryz.results21 rfl rfl Tryz.isAgg50 Tryz.sizeOf50 rfl (refC_len (dirI_id _ _))) rfl (by decide) ⟨v0,(dirI 5 (partsN xs)).1,(putsT ([],false) (dirI 5 (partsN xs)).2).2,_,by rw [hbe] <;> rfl,rfl,dirI_id _ _,hv0,fun _=>⟨rfl,rfl⟩,fun h=>absurd hbe h⟩
open Go.RowKit
set_option maxRecDepth 8000

open Go.RowKit
set_option maxRecDepth 8000
def cntK (k:List UInt8) (ks:List (List UInt8)):Nat:=(ks.filter (fun x=>decide (x=k))).length
theorem cntK_snoc (k x:List UInt8) (ks:List (List UInt8)):cntK k (ks++[x])=cntK k ks + if x=k then 1 else 0:=by
  unfold cntK
  rw [List.filter_append,List.length_append]
  by_cases h:x=k <;> simp [h]
theorem cntK_zero (k:List UInt8) (ks:List (List UInt8)):cntK k ks=0 ↔ k ∉ ks:=by
  unfold cntK
  rw [List.length_eq_zero_iff,List.filter_eq_nil_iff]
  constructor
  · intro h hk; exact h k hk (by simp)
  · intro h x hx; simp; intro e; exact h (e ▸ hx)
theorem cntK_le (k:List UInt8) (ks:List (List UInt8)):cntK k ks≤ks.length:=List.length_filter_le _ _
abbrev CntQ (es:List (List UInt8 × Value)) (ks:List (List UInt8)):Prop:=∀ q,(lookQ q es).getD (.int .i64 0) = .int .i64 ((cntK q ks:Nat):Int)
theorem CntQ.put {es:List (List UInt8 × Value)} {ks:List (List UInt8)} (h:CntQ es ks) (k:List UInt8):CntQ (putQ k (.int .i64 (((cntK k ks:Nat):Int) + 1)) es) (ks++[k]):=fun q=>by
  rw [lookQ_put,cntK_snoc]
  by_cases hq:q=k
  · subst hq
    rw [if_pos rfl,if_pos rfl]
    rfl
  · rw [if_neg hq,if_neg (fun e=>hq e.symm),h q]
    rfl
section
variable {P:Program} {E:Env} {n:Nat} {K:Slots} {L:Res} {o:Oper} {κ:Type} [DecidableEq κ] {kt mt et:TypeId} {enc:κ→Value} {ok:κ→Prop}
theorem Pu_lookupF {r g:Nat} {x y:Operand} {k:κ} {es:List (κ × Value)} {Pr:HP} {z:Value} (T:KeyT P kt enc ok) (ho:o.op = .lookup mt x y false) (hm:P.underlying mt=some (.map kt et)) (hz:∀ w,(zeroValue et).run P w = .ok z w)
    (hx:evK K x=some (.map (some g))) (hy:evK K y=some (enc k)) (hl:ok k) (hr:look L r=some Pr) (hM:∀ h,Pr h→mapQ enc ok g es none h):Pure P E n o K L ((lookQ k es).getD z):=fun a w hA hS=>by
  obtain ⟨h,q1,q2⟩:=hS.read hr
  have:=run_lookupQ T hm hz (hM h q1) q2 k hl false
  simp only [Bool.false_eq_true,if_false] at this
  simp only [execOp,ho,hA.eval hx,hA.eval hy,Sem.run_bind,this]
  rfl
end
open Go.RowKit
set_option maxRecDepth 8000
structure MetOk (mes:List (List UInt8 × Value)) (ks:List (List UInt8)):Prop where
  cnt:CntQ mes ks
  nodup:(mes.map (·.1)).Nodup
  keys:∀ k,k ∈ mes.map (·.1) ↔ k ∈ ks
def metP (gm:Nat) (ks:List (List UInt8)):HP:=fun h=>∃ mes,MetOk mes ks∧mapQ idV ok32 gm mes none h
theorem keys_put (k:List UInt8) (v:Value):∀ es:List (List UInt8 × Value),(putQ k v es).map (·.1)=if k ∈ es.map (·.1) then es.map (·.1) else es.map (·.1)++[k]:=by
  have hset:∀ es:List (List UInt8 × Value),(setQ k v es).map (·.1)=es.map (·.1):=by
    intro es
    induction es with
    | nil=>rfl
    | cons p es ih =>
      rw [setQ]
      split
      · rename_i h; simp [h]
      · rw [List.map_cons,ih]; rfl
  have hiff:∀ es:List (List UInt8 × Value),(lookQ k es).isSome=true ↔ k ∈ es.map (·.1):=by
    intro es
    induction es with
    | nil=>simp [lookQ]
    | cons p es ih =>
      rw [lookQ,List.map_cons,List.mem_cons]
      by_cases h:k=p.1
      · simp [h]
      · rw [if_neg h,ih]
        simp [h]
  intro es
  unfold putQ
  by_cases h:(lookQ k es).isSome=true
  · rw [if_pos h,if_pos ((hiff es).1 h),hset]
  · rw [if_neg h,if_neg (fun hc=>h ((hiff es).2 hc)),List.map_append]
    rfl
theorem MetOk.put {mes:List (List UInt8 × Value)} {ks:List (List UInt8)} (h:MetOk mes ks) (k:List UInt8):MetOk (putQ k (.int .i64 (((cntK k ks:Nat):Int) + 1)) mes) (ks++[k]):=by
  refine ⟨h.cnt.put k,?_,fun q=>?_⟩
  · rw [keys_put]
    split
    · exact h.nodup
    · rename_i hn
      rw [List.nodup_append]
      refine ⟨h.nodup,by simp,fun a ha b hb hc=>?_⟩
      rw [List.mem_singleton.1 hb] at hc
      exact hn (hc ▸ ha)
  · rw [keys_put,List.mem_append,List.mem_singleton]
    split
    · rename_i hk
      rw [h.keys q]
      constructor
      · exact .inl
      · rintro (hq | rfl)
        · exact hq
        · exact (h.keys _).1 hk
    · rw [List.mem_append,List.mem_singleton,h.keys q]
theorem MetOk.nil:MetOk [] []:=⟨fun q=>rfl,List.nodup_nil,fun k=>Iff.rfl⟩
theorem W_openMet {P:Program} {E:Env} {n:Nat} {K:Slots} {L:Res} {Q:Exit→Act→World→Prop} {c:Code} (r b:Nat) {gm:Nat} {ks:List (List UInt8)} (hr:look L r=some (metP gm ks))
    (k:∀ mes:List (List UInt8 × Value),MetOk mes ks→W P E n c K (En b [mapQ idV ok32 gm mes none]++(r,emp)::L) Q):W P E n c K L Q :=
  W_open (φ:=fun mes=>MetOk mes ks) (Ps:=fun mes=>[mapQ idV ok32 gm mes none]) r b hr (fun h hp=>by obtain ⟨mes,h1,h2⟩:=hp; exact ⟨mes,h1,starL_one h2⟩) (fun mes h=>k mes h)
def kidsW (f:List UInt8→Nat→List (List UInt8) × Bool) (each size:Nat):Nat→List (List UInt8)→List (List UInt8) × Bool
  | _,[]=>([],true)
  | i,x::r=>if (f x (min each (size - i * each))).2 then ((f x (min each (size - i * each))).1++(kidsW f each size (i + 1) r).1,(kidsW f each size (i + 1) r).2) else ((f x (min each (size - i * each))).1,false)
def rowsW (V:VW):Nat→List UInt8→Nat→List (List UInt8) × Bool
  | 0,id,size=>([id],match V id with
    | none=>false
    | some b=>decide (b.length=1 + size) && decide (at0 b 0=100))
  | l + 1,id,size=>match V id with
    | none=>([id],false)
    | some b=>if parseNE b≠0∨(parseNL b).length≠(size + 64 * 8 ^ l - 1) / (64 * 8 ^ l) then ([id],false) else (id::(kidsW (rowsW V l) (64 * 8 ^ l) size 0 (parseNL b)).1,(kidsW (rowsW V l) (64 * 8 ^ l) size 0 (parseNL b)).2)
theorem kids_at {f:List UInt8→Nat→List (List UInt8) × Bool} {each size i:Nat} {l:List (List UInt8)} (hi:i < l.length):kidsW f each size i (l.drop i)=if (f (l.getD i []) (min each (size - i * each))).2 then ((f (l.getD i []) (min each (size - i * each))).1++(kidsW f each size (i + 1) (l.drop (i + 1))).1,(kidsW f each size (i + 1) (l.drop (i + 1))).2) else ((f (l.getD i []) (min each (size - i * each))).1,false):=by
  rw [List.drop_eq_getElem_cons hi,kidsW]
  have:l.getD i []=l[i]:=by simp [hi]
  rw [this]
theorem cell_up1 {Js:List HP} {P:HP} {ad:Addr} {v:Value} (k:Nat) (hk:Js[k]?=some P) (hP:∀ h,P h→cellH h ad=some v):∀ h,starL Js h→cellH h ad=some v:=fun h ⟨hs,h1,_,h3⟩=>by
  have h4:=hP _ (h1 k _ hk)
  simp only [cellH] at h4 ⊢
  cases hg:hs k ad.block with
  | none=>rw [hg] at h4; simp at h4
  | some o=>rw [hg] at h4; rw [h3 k _ _ hg]; exact h4
theorem badW {p:List UInt8} {ea size:Nat} (he:64≤ea) (h:(!decide (parseNE p=0) || !decide (((parseNL p).length:Int)=((size:Int) + (ea:Int) - 1) / (ea:Int)))=true):parseNE p≠0∨(parseNL p).length≠(size + ea - 1) / ea:=by
  simp only [Bool.or_eq_true,Bool.not_eq_true',decide_eq_false_iff_not] at h
  rcases h with h | h
  · exact .inl h
  · refine .inr fun hc=>h ?_
    rw [hc,show (size:Int) + (ea:Int) - 1=((size + ea - 1:Nat):Int) by omega]
    rfl
theorem goodW {p:List UInt8} {ea size:Nat} (he:64≤ea) (hs:1≤size) (h:(!decide (parseNE p=0) || !decide (((parseNL p).length:Int)=((size:Int) + (ea:Int) - 1) / (ea:Int)))=false):parseNE p=0∧(parseNL p).length=(size + ea - 1) / ea∧True:=by
  simp only [Bool.or_eq_false_iff,Bool.not_eq_false',decide_eq_true_eq] at h
  refine ⟨h.1,?_,trivial⟩
  have:=h.2
  rw [show (size:Int) + (ea:Int) - 1=((size + ea - 1:Nat):Int) by omega] at this
  exact_mod_cast this
theorem kid_pos {ea size n i:Nat} (h:n=(size + ea - 1) / ea) (he:64≤ea) (hi:i < n):i * ea < size:=by
  have h1:i + 1≤(size + ea - 1) / ea:=by omega
  have h2:=(Nat.le_div_iff_mul_le (by omega)).1 h1
  rw [Nat.add_mul] at h2
  omega
theorem rowW0 (p:List UInt8) (size:Nat):(decide ((p.length:Int)=1 + (size:Int)) && decide (((at0 p 0).toNat:Int)=100))=(decide (p.length=1 + size) && decide (at0 p 0=100)):=by
  have h1:decide ((p.length:Int)=1 + (size:Int))=decide (p.length=1 + size):=by
    by_cases h:p.length=1 + size
    · rw [decide_eq_true h,decide_eq_true (by omega)]
    · rw [decide_eq_false h,decide_eq_false (by omega)]
  have h2:decide (((at0 p 0).toNat:Int)=100)=decide (at0 p 0=100):=by
    by_cases h:at0 p 0=100
    · rw [h]; rfl
    · rw [decide_eq_false h,decide_eq_false fun hc=>h (UInt8.toNat_inj.1 (by simp; omega))]
  rw [h1,h2]
theorem rows_zero (g gv gm:Nat) (ls:List LB) (F:HP) (hG0:∀ h,F h→cellH h ⟨g,0,none⟩=some (.map (some gv))) (hG1:∀ h,F h→cellH h ⟨g,1,none⟩=some (.map (some gm))) (hM:∀ h,F h→mapQ idV ok32 gv (entsL ls) none h) (hL:∀ p ∈ ls,∀ h,F h→rdB p.2.1 p.2.2 h) (id:List UInt8) (hid:id.length=32) (size:Nat) (hsz:1≤size) (hsz2:size≤1048576) (ks:List (List UInt8)) (hks:ks.length + (rowsW (vw ls) 0 id size).1.length≤1000000000000):CallsS Tryz.prog 86 #[.pointer (some ⟨g,0,none⟩),idV id,.int .i64 0,.int .i64 (size:Int)] F [metP gm ks] (fun r Ps=>r = .bool (rowsW (vw ls) 0 id size).2∧Ps=[metP gm (ks++(rowsW (vw ls) 0 id size).1)]):=by
 refine callsS_enter Tryz.func86 rfl Tryz.ntmps86 (by simp) (fun E=>?_)
 refine Q9 (R9 (Lc9 rfl rfl (by decide) (OpT_box (r:=101) rfl rfl rfl (fun g101=>(G9 rfl rfl (N9 (X9 ?_)))))))
 refine W_cut (α:=Unit) (fun _z=>[(0,.pointer (some ⟨g,0,none⟩)),(2,.int .i64 (0:Int)),(3,.int .i64 (size:Int)),(5,.pointer (some ⟨g101,0,none⟩))]) (fun _z=>[(0,F),(50,metP gm (ks++[id])),(101,blk g101 29 (bs id))]) (fun _z=>True) ?_ (fun z hz=>?_)
 ·
  refine W_openMet 1 50 rfl (fun mes hmo=>?_)
  have hck:=hmo.cnt id
  have hcl:=cntK_le id ks
  refine W_draw (N:=10) (by kernel_rfl) rfl [(0,_),(101,_)] ⟨rfl,rfl,trivial⟩ ?_
  refine (T9 0 rfl rfl (Pm9 rfl rfl) (T9 1 rfl rfl (Pu_nilCheck rfl rfl) (T9 2 rfl rfl (F9 1 rfl rfl) (T9 3 rfl rfl (Pu_load1 (r:=0) rfl Tryz.isAgg103 rfl rfl hG1) (T9 4 rfl rfl (Px9 (r:=101) rfl Tryz.isAgg29 Tryz.sizeOf29 rfl rfl ((bs_length _).trans hid) (load_all ((bs_length _).trans hid))) (Y9 [5,7] ?_))))))
  refine Z9 rfl rfl (Or9 (Pu_lookupQ (r:=50) (z:=.int .i64 0) keyB rfl Tryz.underlying103 Tryz.zeroValue3 rfl rfl hid rfl) ⟨⟨rfl,rfl,trivial⟩,?_⟩) ?_
  ·
   rw [hck]
   refine (T9 6 rfl rfl (Pn9 rfl rfl rfl (run_add _ _ _ _ _ (by omega))) (Y9 [7] ?_))
   refine Z9 rfl rfl (OpT_mapEntryQ (r:=50) (z:=.int .i64 0) keyB rfl Tryz.underlying103 Tryz.zeroValue3 rfl rfl hid rfl (fun es1 j5 b5 u5 hea=>?_)) ?_
   ·
    refine ⟨⟨rfl,rfl,trivial⟩,?_⟩
    obtain ⟨u6,hk6⟩:=hea.key
    refine (T9 8 rfl rfl (Pe9 rfl rfl rfl) (Y9 [9] ?_))
    refine Ac09 rfl rfl rfl (OpT_entryStoreQ (r:=50) rfl rfl rfl rfl rfl hk6 ?_) ?_
    ·
     refine ⟨⟨rfl,rfl,trivial⟩,?_⟩
     refine (Ad9 (by kernel_rfl) ?_)
     refine X_turn (P':=metP gm (ks++[id])) 50 rfl (fun h hp=>⟨_,hmo.put id,by rw [← hea.put]; exact hp⟩) ?_
     exact X_cut () trivial (a9 rfl) (a9 rfl)
    exact An9
   exact An9
  refine Z9 rfl rfl (OpT_mapEntryQ (r:=50) (z:=.int .i64 0) keyB rfl Tryz.underlying103 Tryz.zeroValue3 rfl rfl hid rfl (fun es1 j5 b5 u5 hea=>?_)) ?_
  ·
   refine ⟨⟨rfl,rfl,trivial⟩,?_⟩
   obtain ⟨u6,hk6⟩:=hea.key
   refine (T9 8 rfl rfl (Pe9 rfl rfl rfl) (Y9 [5] ?_))
   refine Z9 rfl rfl (Or9 (Pu_lookupF (r:=50) (z:=.int .i64 0) keyB rfl Tryz.underlying103 Tryz.zeroValue3 rfl rfl hid rfl (fun h hp=>mapEnt_Q hp)) ⟨⟨rfl,rfl,trivial⟩,?_⟩) ?_
   ·
    rw [hea.look,hck]
    refine (T9 6 rfl rfl (Pn9 rfl rfl rfl (run_add _ _ _ _ _ (by omega))) (Y9 [9] ?_))
    refine Ac09 rfl rfl rfl (OpT_entryStoreQ (r:=50) rfl rfl rfl rfl rfl hk6 ?_) ?_
    ·
     refine ⟨⟨rfl,rfl,trivial⟩,?_⟩
     refine (Ad9 (by kernel_rfl) ?_)
     refine X_turn (P':=metP gm (ks++[id])) 50 rfl (fun h hp=>⟨_,hmo.put id,by rw [← hea.put]; exact hp⟩) ?_
     exact X_cut () trivial (a9 rfl) (a9 rfl)
    exact An9
   exact An9
  exact An9
 ·
  refine Q9 ?_
  rcases Bool.eq_false_or_eq_true ((lookA id ls).isSome) with hsp2 | hsp2
  ·
   obtain ⟨p,hlk⟩:=is_some_T hsp2
   have hpm:=lookA_mem hlk
   have hpd:∀ h,F h→rdB p.1 p.2 h:=hL _ hpm
   have hV:=vw_some hlk
   refine W_draw (N:=11) (by kernel_rfl) rfl [(0,_),(101,_)] ⟨rfl,rfl,trivial⟩ ?_
   refine (T9 0 rfl rfl (Pm9 rfl rfl) (T9 1 rfl rfl (Pu_nilCheck rfl rfl) (T9 2 rfl rfl (F9 0 rfl rfl) (T9 3 rfl rfl (Pu_load1 (r:=0) rfl Tryz.isAgg93 rfl rfl hG0) (T9 4 rfl rfl (Px9 (r:=101) rfl Tryz.isAgg29 Tryz.sizeOf29 rfl rfl ((bs_length _).trans hid) (load_all ((bs_length _).trans hid))) (Y9 [5] ?_))))))
   refine Z9 rfl rfl (Or9 (Pu_lookupOkF (r:=0) keyB rfl Tryz.underlying93 Tryz.zeroValue36 rfl rfl hid rfl hM) ⟨⟨rfl,rfl,trivial⟩,?_⟩) ?_
   ·
    rw [entsL_fil,lookQ_fil,hlk]
    refine (T9 6 rfl rfl (Pm9 rfl rfl) (T9 7 rfl rfl (Pe9 rfl rfl rfl) (T9 8 rfl rfl (Pe9 rfl rfl rfl) (T9 9 rfl rfl (Pg9 rfl rfl) (T9 10 rfl rfl (Pg9 rfl rfl) (Ad9 (by kernel_rfl) (X9 ?_)))))))
    refine Q9 (Q9 (R9 (M9 rfl rfl (L9 rfl (Pu_un rfl rfl (run_not _)) (N9 (X9 ?_))))))
    refine W_false rfl (rfl) ?_
    refine K9 (X9 ?_)
    refine Q9 (Q9 (R9 (M9 rfl rfl (L9 rfl (Pn9 rfl rfl rfl (run_eql _ _ _ _ _ _)) (N9 (X9 ?_))))))
    refine W_true rfl (rfl) ?_
    refine Q9 (R9 (M9 rfl rfl (L9 rfl (Pl9 (r:=0) rfl Tryz.runUnderlying36 rfl rfl hpd) (M9 rfl rfl (L9 rfl (Pn9 rfl rfl rfl (run_add _ _ _ _ _ (by omega))) (L9 rfl (Pn9 rfl rfl rfl (run_eql _ _ _ _ _ _)) (M9 rfl rfl (Lg9 rfl rfl rfl rfl (by decide) (fun hb=>(Pm9 rfl rfl)) (Lg9 rfl rfl rfl rfl (by decide) (fun hb=>(Pu_idxS1 (r:=0) rfl Tryz.runUnderlying36 Tryz.sizeOf5 (ev_gv rfl hb) rfl rfl hpd (by have h9:(p.2.length:Int)=1 + (size:Int):=(by simpa using hb); omega))) (Lg9 rfl rfl rfl rfl (by decide) (fun hb=>(Py9 (r:=0) rfl Tryz.isAgg5 (ev_gv rfl hb) rfl hpd (bs_at1 (by have h9:(p.2.length:Int)=1 + (size:Int):=(by simpa using hb); omega)))) (Lg9 rfl rfl rfl rfl (by decide) (fun hb=>(Pn9 rfl (ev_gv rfl hb) rfl (run_eql _ _ _ _ _ _))) (L9 rfl (Pu_and rfl rfl rfl) (G9 rfl rfl (N9 (X9 ?_)))))))))))))))
    refine W_ret (X_then_ret ?_)
    exact Xq9 [50] (Ps:=[_]) (res1 Tryz.results86 rfl) rfl (by decide) ⟨by rw [rowsW,hV]; exact congrArg Value.bool (rowW0 _ _),by rw [rowsW]⟩
   exact An9
  ·
   have hlk:=is_none_F hsp2
   have hV:=vw_none hlk
   refine W_draw (N:=11) (by kernel_rfl) rfl [(0,_),(101,_)] ⟨rfl,rfl,trivial⟩ ?_
   refine (T9 0 rfl rfl (Pm9 rfl rfl) (T9 1 rfl rfl (Pu_nilCheck rfl rfl) (T9 2 rfl rfl (F9 0 rfl rfl) (T9 3 rfl rfl (Pu_load1 (r:=0) rfl Tryz.isAgg93 rfl rfl hG0) (T9 4 rfl rfl (Px9 (r:=101) rfl Tryz.isAgg29 Tryz.sizeOf29 rfl rfl ((bs_length _).trans hid) (load_all ((bs_length _).trans hid))) (Y9 [5] ?_))))))
   refine Z9 rfl rfl (Or9 (Pu_lookupOkF (r:=0) keyB rfl Tryz.underlying93 Tryz.zeroValue36 rfl rfl hid rfl hM) ⟨⟨rfl,rfl,trivial⟩,?_⟩) ?_
   ·
    rw [entsL_fil,lookQ_fil,hlk]
    refine (T9 6 rfl rfl (Pm9 rfl rfl) (T9 7 rfl rfl (Pe9 rfl rfl rfl) (T9 8 rfl rfl (Pe9 rfl rfl rfl) (T9 9 rfl rfl (Pg9 rfl rfl) (T9 10 rfl rfl (Pg9 rfl rfl) (Ad9 (by kernel_rfl) (X9 ?_)))))))
    refine Q9 (Q9 (R9 (M9 rfl rfl (L9 rfl (Pu_un rfl rfl (run_not _)) (N9 (X9 ?_))))))
    refine W_true rfl (rfl) ?_
    refine Q9 (R9 (G9 rfl rfl (N9 (X9 ?_))))
    refine W_ret (X_then_ret ?_)
    exact Xq9 [50] (Ps:=[_]) (res1 Tryz.results86 rfl) rfl (by decide) ⟨by rw [rowsW,hV],by rw [rowsW,hV]⟩
   exact An9
theorem rows_succ (g gv gm:Nat) (ls:List LB) (F:HP) (hG0:∀ h,F h→cellH h ⟨g,0,none⟩=some (.map (some gv))) (hG1:∀ h,F h→cellH h ⟨g,1,none⟩=some (.map (some gm))) (hM:∀ h,F h→mapQ idV ok32 gv (entsL ls) none h) (hL:∀ p ∈ ls,∀ h,F h→rdB p.2.1 p.2.2 h) (l:Nat) (hl6:l≤6) (ih:∀ (id:List UInt8),id.length=32→∀ (size:Nat),1≤size→size≤1048576→∀ (ks:List (List UInt8)),ks.length + (rowsW (vw ls) l id size).1.length≤1000000000000→∀ (F:HP),(∀ h,F h→cellH h ⟨g,0,none⟩=some (.map (some gv)))→(∀ h,F h→cellH h ⟨g,1,none⟩=some (.map (some gm)))→(∀ h,F h→mapQ idV ok32 gv (entsL ls) none h)→(∀ p ∈ ls,∀ h,F h→rdB p.2.1 p.2.2 h)→CallsS Tryz.prog 86 #[.pointer (some ⟨g,0,none⟩),idV id,.int .i64 (l:Int),.int .i64 (size:Int)] F [metP gm ks] (fun r Ps=>r = .bool (rowsW (vw ls) l id size).2∧Ps=[metP gm (ks++(rowsW (vw ls) l id size).1)])) (id:List UInt8) (hid:id.length=32) (size:Nat) (hsz:1≤size) (hsz2:size≤1048576) (ks:List (List UInt8)) (hks:ks.length + (rowsW (vw ls) (l + 1) id size).1.length≤1000000000000):CallsS Tryz.prog 86 #[.pointer (some ⟨g,0,none⟩),idV id,.int .i64 ((l + 1:Nat):Int),.int .i64 (size:Int)] F [metP gm ks] (fun r Ps=>r = .bool (rowsW (vw ls) (l + 1) id size).2∧Ps=[metP gm (ks++(rowsW (vw ls) (l + 1) id size).1)]):=by
 have hp8:8 ^ l≤262144:=Nat.le_trans (Nat.pow_le_pow_right (by decide) hl6) (by decide)
 have hp81:1≤8 ^ l:=by rw [← pow8]; exact Nat.one_le_two_pow
 refine callsS_enter Tryz.func86 rfl Tryz.ntmps86 (by simp) (fun E=>?_)
 refine Q9 (R9 (Lc9 rfl rfl (by decide) (OpT_box (r:=101) rfl rfl rfl (fun g101=>(G9 rfl rfl (N9 (X9 ?_)))))))
 refine W_cut (α:=Unit) (fun _z=>[(0,.pointer (some ⟨g,0,none⟩)),(2,.int .i64 (((l + 1:Nat):Int):Int)),(3,.int .i64 (size:Int)),(5,.pointer (some ⟨g101,0,none⟩))]) (fun _z=>[(0,F),(50,metP gm (ks++[id])),(101,blk g101 29 (bs id))]) (fun _z=>True) ?_ (fun z hz=>?_)
 ·
  refine W_openMet 1 50 rfl (fun mes hmo=>?_)
  have hck:=hmo.cnt id
  have hcl:=cntK_le id ks
  refine W_draw (N:=10) (by kernel_rfl) rfl [(0,_),(101,_)] ⟨rfl,rfl,trivial⟩ ?_
  refine (T9 0 rfl rfl (Pm9 rfl rfl) (T9 1 rfl rfl (Pu_nilCheck rfl rfl) (T9 2 rfl rfl (F9 1 rfl rfl) (T9 3 rfl rfl (Pu_load1 (r:=0) rfl Tryz.isAgg103 rfl rfl hG1) (T9 4 rfl rfl (Px9 (r:=101) rfl Tryz.isAgg29 Tryz.sizeOf29 rfl rfl ((bs_length _).trans hid) (load_all ((bs_length _).trans hid))) (Y9 [5,7] ?_))))))
  refine Z9 rfl rfl (Or9 (Pu_lookupQ (r:=50) (z:=.int .i64 0) keyB rfl Tryz.underlying103 Tryz.zeroValue3 rfl rfl hid rfl) ⟨⟨rfl,rfl,trivial⟩,?_⟩) ?_
  ·
   rw [hck]
   refine (T9 6 rfl rfl (Pn9 rfl rfl rfl (run_add _ _ _ _ _ (by omega))) (Y9 [7] ?_))
   refine Z9 rfl rfl (OpT_mapEntryQ (r:=50) (z:=.int .i64 0) keyB rfl Tryz.underlying103 Tryz.zeroValue3 rfl rfl hid rfl (fun es1 j5 b5 u5 hea=>?_)) ?_
   ·
    refine ⟨⟨rfl,rfl,trivial⟩,?_⟩
    obtain ⟨u6,hk6⟩:=hea.key
    refine (T9 8 rfl rfl (Pe9 rfl rfl rfl) (Y9 [9] ?_))
    refine Ac09 rfl rfl rfl (OpT_entryStoreQ (r:=50) rfl rfl rfl rfl rfl hk6 ?_) ?_
    ·
     refine ⟨⟨rfl,rfl,trivial⟩,?_⟩
     refine (Ad9 (by kernel_rfl) ?_)
     refine X_turn (P':=metP gm (ks++[id])) 50 rfl (fun h hp=>⟨_,hmo.put id,by rw [← hea.put]; exact hp⟩) ?_
     exact X_cut () trivial (a9 rfl) (a9 rfl)
    exact An9
   exact An9
  refine Z9 rfl rfl (OpT_mapEntryQ (r:=50) (z:=.int .i64 0) keyB rfl Tryz.underlying103 Tryz.zeroValue3 rfl rfl hid rfl (fun es1 j5 b5 u5 hea=>?_)) ?_
  ·
   refine ⟨⟨rfl,rfl,trivial⟩,?_⟩
   obtain ⟨u6,hk6⟩:=hea.key
   refine (T9 8 rfl rfl (Pe9 rfl rfl rfl) (Y9 [5] ?_))
   refine Z9 rfl rfl (Or9 (Pu_lookupF (r:=50) (z:=.int .i64 0) keyB rfl Tryz.underlying103 Tryz.zeroValue3 rfl rfl hid rfl (fun h hp=>mapEnt_Q hp)) ⟨⟨rfl,rfl,trivial⟩,?_⟩) ?_
   ·
    rw [hea.look,hck]
    refine (T9 6 rfl rfl (Pn9 rfl rfl rfl (run_add _ _ _ _ _ (by omega))) (Y9 [9] ?_))
    refine Ac09 rfl rfl rfl (OpT_entryStoreQ (r:=50) rfl rfl rfl rfl rfl hk6 ?_) ?_
    ·
     refine ⟨⟨rfl,rfl,trivial⟩,?_⟩
     refine (Ad9 (by kernel_rfl) ?_)
     refine X_turn (P':=metP gm (ks++[id])) 50 rfl (fun h hp=>⟨_,hmo.put id,by rw [← hea.put]; exact hp⟩) ?_
     exact X_cut () trivial (a9 rfl) (a9 rfl)
    exact An9
   exact An9
  exact An9
 ·
  refine Q9 ?_
  rcases Bool.eq_false_or_eq_true ((lookA id ls).isSome) with hsp2 | hsp2
  ·
   obtain ⟨p,hlk⟩:=is_some_T hsp2
   have hpm:=lookA_mem hlk
   have hpd:∀ h,F h→rdB p.1 p.2 h:=hL _ hpm
   have hV:=vw_some hlk
   refine W_draw (N:=11) (by kernel_rfl) rfl [(0,_),(101,_)] ⟨rfl,rfl,trivial⟩ ?_
   refine (T9 0 rfl rfl (Pm9 rfl rfl) (T9 1 rfl rfl (Pu_nilCheck rfl rfl) (T9 2 rfl rfl (F9 0 rfl rfl) (T9 3 rfl rfl (Pu_load1 (r:=0) rfl Tryz.isAgg93 rfl rfl hG0) (T9 4 rfl rfl (Px9 (r:=101) rfl Tryz.isAgg29 Tryz.sizeOf29 rfl rfl ((bs_length _).trans hid) (load_all ((bs_length _).trans hid))) (Y9 [5] ?_))))))
   refine Z9 rfl rfl (Or9 (Pu_lookupOkF (r:=0) keyB rfl Tryz.underlying93 Tryz.zeroValue36 rfl rfl hid rfl hM) ⟨⟨rfl,rfl,trivial⟩,?_⟩) ?_
   ·
    rw [entsL_fil,lookQ_fil,hlk]
    refine (T9 6 rfl rfl (Pm9 rfl rfl) (T9 7 rfl rfl (Pe9 rfl rfl rfl) (T9 8 rfl rfl (Pe9 rfl rfl rfl) (T9 9 rfl rfl (Pg9 rfl rfl) (T9 10 rfl rfl (Pg9 rfl rfl) (Ad9 (by kernel_rfl) (X9 ?_)))))))
    refine Q9 (Q9 (R9 (M9 rfl rfl (L9 rfl (Pu_un rfl rfl (run_not _)) (N9 (X9 ?_))))))
    refine W_false rfl (rfl) ?_
    refine K9 (X9 ?_)
    refine Q9 (Q9 (R9 (M9 rfl rfl (L9 rfl (Pn9 rfl rfl rfl (run_eql _ _ _ _ _ _)) (N9 (X9 ?_))))))
    refine W_false rfl ((decide_eq_false (by omega))) ?_
    refine K9 (X9 ?_)
    refine Q9 (R9 (M9 rfl rfl (Lc9 rfl rfl (by decide) (Oc9 200 [0,50,101] [] rfl Tryz.call119 rfl rfl rfl (by decide) (by decide) (parseInner_spec p.1 p.2 _ (rs9 0 rfl hpd)) (fun v51 Ps51 hR51=>?_)))))
    obtain ⟨w51,rfl,rfl⟩:=hR51
    skip
    refine (M9 rfl rfl (L9 rfl (Pe9 rfl rfl rfl) (L9 rfl (Pe9 rfl rfl rfl) (G9 rfl rfl (G9 rfl rfl (N9 (X9 ?_)))))))
    refine Q9 (R9 (M9 rfl rfl (L9 rfl (Pn9 rfl rfl rfl (run_sub _ _ _ _ _ (by omega))) (L9 rfl (Pn9 rfl rfl rfl (run_mul _ _ _ _ _ (by omega))) ?_))))
    rw [show (3:Int) * (((l + 1:Nat):Int) - 1)=((3 * l:Nat):Int) by omega]
    refine (L9 rfl (Pn9 rfl rfl rfl (run_shl 64 (3 * l) _ _ _ (by rw [pow8]; omega) (by omega))) ?_)
    rw [pow8]
    obtain ⟨ea,hea9⟩:∃ ea:Nat,ea=64 * 8 ^ l:=⟨_,rfl⟩
    have hea1:64≤ea∧ea≤16777216:=by rw [hea9]; exact ⟨by omega,by omega⟩
    rw [← hea9]
    refine (G9 rfl rfl (N9 (X9 ?_)))
    refine Q9 (Q9 (R9 (M9 rfl rfl (L9 rfl (Pn9 rfl rfl rfl (run_neq _ _ _ _ _ _)) (M9 rfl rfl (Lg9 rfl rfl rfl rfl (by decide) (fun hb=>(Pm9 rfl rfl)) (Lg9 rfl rfl rfl rfl (by decide) (fun hb=>(Pl9 (r:=200) rfl Tryz.runUnderlying165 (ev_gv rfl hb) rfl (fun _ h=>rp9 h))) (Lg9 rfl rfl rfl rfl (by decide) (fun hb=>(Pm9 rfl rfl)) (Lg9 rfl rfl rfl rfl (by decide) (fun hb=>(Pm9 rfl rfl)) (Lg9 rfl rfl rfl rfl (by decide) (fun hb=>(Pn9 rfl (ev_gv rfl hb) (ev_gv rfl hb) (run_add _ _ _ _ _ (by omega)))) (Lg9 rfl rfl rfl rfl (by decide) (fun hb=>(Pn9 rfl (ev_gv rfl hb) rfl (run_sub _ _ _ _ _ (by omega)))) (Lg9 rfl rfl rfl rfl (by decide) (fun hb=>(Pm9 rfl rfl)) (Lg9 rfl rfl rfl rfl (by decide) (fun hb=>(Pn9 rfl (ev_gv rfl hb) (ev_gv rfl hb) (run_quo _ _ _ _ _ (by omega)))) (Lg9 rfl rfl rfl rfl (by decide) (fun hb=>(Pn9 rfl (ev_gv rfl hb) (ev_gv rfl hb) (run_neq _ _ _ _ _ _))) (L9 rfl (Pu_or rfl rfl rfl) (N9 (X9 ?_)))))))))))))))))
    refine C9 rfl (fun hc70=>?_) (fun hc70=>?_)
    ·
     have hbad:parseNE p.2≠0∨(parseNL p.2).length≠(size + ea - 1) / ea:=badW hea1.1 hc70
     refine Q9 (R9 (G9 rfl rfl (N9 (X9 ?_))))
     refine W_ret (X_then_ret ?_)
     exact Xq9 [50] (Ps:=[_]) (res1 Tryz.results86 rfl) rfl (by decide) ⟨by rw [rowsW,hV]; dsimp only; rw [← hea9,if_pos hbad],by rw [rowsW,hV]; dsimp only; rw [← hea9,if_pos hbad]⟩
    ·
     have hgd:=goodW hea1.1 hsz hc70
     have hih:rowsW (vw ls) (l + 1) id size=(id::(kidsW (rowsW (vw ls) l) ea size 0 (parseNL p.2)).1,(kidsW (rowsW (vw ls) l) ea size 0 (parseNL p.2)).2):=by rw [rowsW,hV]; dsimp only; rw [← hea9,if_neg (fun hc=>hc.elim (fun h=>h hgd.1) (fun h=>h hgd.2.1))]
     refine K9 (X9 ?_)
     refine Q9 (Q9 (R9 (M9 rfl rfl (L9 rfl (Pl9 (r:=200) rfl Tryz.runUnderlying165 rfl rfl (fun _ h=>rp9 h)) (M9 rfl rfl (N9 (X9 ?_)))))))
     refine W_block ?_
     refine Wt9 (P':=metP gm (ks++[id]++[])) 50 rfl (fun h hp=>by rw [List.append_nil]; exact hp) ?_
     refine W_loop (α:=Nat × List (List UInt8)) (fun x=>[(0,.pointer (some ⟨g,0,none⟩)),(2,.int .i64 ((l + 1:Nat):Int)),(3,.int .i64 (size:Int)),(13,.int .i64 (ea:Int)),(71,w51),(72,.int .i64 ((parseNL p.2).length:Int)),(73,.int .i64 (x.1:Int))]) (fun x=>[(0,F),(50,metP gm (ks++[id]++x.2)),(200,rowI 29 w51 (parseNL p.2))]) (fun x=>x.1≤(parseNL p.2).length∧kidsW (rowsW (vw ls) l) ea size 0 (parseNL p.2)=(x.2++(kidsW (rowsW (vw ls) l) ea size x.1 ((parseNL p.2).drop x.1)).1,(kidsW (rowsW (vw ls) l) ea size x.1 ((parseNL p.2).drop x.1)).2)) (fun x=>(parseNL p.2).length - x.1) ((0,[])) ⟨Nat.zero_le _,rfl⟩ (a9 rfl) (a9 rfl) (fun x hx=>?_)
     obtain ⟨hx,hxk⟩:=hx
     refine Q9 (R9 (L9 rfl (Pn9 rfl rfl rfl (run_lss _ _ _ _ _ _)) (N9 (X9 (Q9 ?_)))))
     refine C9 rfl (fun hc74=>?_) (fun hc74=>?_)
     ·
      have hlt:x.1 < (parseNL p.2).length:=by have:=of_decide_eq_true hc74; omega
      obtain ⟨xi,hxi⟩:∃ xi,xi=(parseNL p.2).getD x.1 []:=⟨_,rfl⟩
      have hxl:xi.length=32:=by rw [hxi]; exact (parseNL_ids p.2).1.get hlt
      obtain ⟨si,hsi⟩:∃ si:Nat,si=min ea (size - x.1 * ea):=⟨_,rfl⟩
      have hxe:x.1 * ea < size:=kid_pos hgd.2.1 hea1.1 hlt
      have hat:=kids_at (f:=rowsW (vw ls) l) (each:=ea) (size:=size) hlt
      rw [← hxi,← hsi] at hat
      have hbd1:x.2.length + (rowsW (vw ls) l xi si).1.length≤(kidsW (rowsW (vw ls) l) ea size 0 (parseNL p.2)).1.length:=by rw [hxk,hat]; split <;> simp <;> omega
      have hbd2:(ks++[id]++x.2).length + (rowsW (vw ls) l xi si).1.length≤1000000000000:=by rw [hih] at hks; simp only [List.length_append,List.length_cons,List.length_nil] at hks ⊢; omega
      refine K9 (X9 ?_)
      refine Q9 ?_
      refine W_block ?_
      refine Q9 (R9 (M9 rfl rfl (L9 rfl (Pi9 (r:=200) rfl Tryz.runUnderlying165 Tryz.sizeOf29 rfl rfl rfl (fun _ h=>rp9 h) (by omega)) (L9 rfl (Pz9 (r:=200) rfl Tryz.isAgg29 Tryz.sizeOf29 rfl rfl (fun _ h=>rp9 h) ((bs_length _).trans hxl) (by decide) (by rw [hxi]; exact idsC_get (parseNL_ids p.2).1 hlt)) (Lc9 rfl rfl (by decide) (OpT_alloc (r:=201) (cs:=(bs zeroId)) rfl (zero_run (by kernel_rfl:(Tryz.prog.info? 29).bind (·.zero)=some (.agg (bs zeroId).toArray))) rfl (fun g201=>(G9 rfl rfl (Lc09 rfl rfl (OpT_storeAll (r:=201) rfl Tryz.sizeOf29 rfl rfl rfl ((bs_length _).trans zeroId_length) ((bs_length _).trans hxl) (bs_one _) ?_))))))))))
      refine (N9 (X9 ?_))
      refine Q9 (R9 (M9 rfl rfl (L9 rfl (Px9 (r:=201) rfl Tryz.isAgg29 Tryz.sizeOf29 rfl rfl ((bs_length _).trans hxl) (load_all ((bs_length _).trans hxl))) (M9 rfl rfl (L9 rfl (Pn9 rfl rfl rfl (run_sub _ _ _ _ _ (by omega))) ?_)))))
      rw [show ((l + 1:Nat):Int) - 1=(l:Int) by omega]
      refine (M9 rfl rfl (M9 rfl rfl (M9 rfl rfl (M9 rfl rfl (L9 rfl (Pn9 rfl rfl rfl (run_mul _ _ _ _ _ (by have:=Nat.le_of_lt hxe; constructor <;> omega))) ?_)))))
      rw [show (x.1:Int) * (ea:Int)=((x.1 * ea:Nat):Int) by rw [Int.natCast_mul]]
      refine (L9 rfl (Pn9 rfl rfl rfl (run_sub _ _ _ _ _ (by omega))) (L9 rfl (Pu_min rfl rfl rfl) ?_))
      rw [show min (ea:Int) ((size:Int) - ((x.1 * ea:Nat):Int))=(si:Int) by omega]
      refine (Lc9 rfl rfl (by decide) (Oc9 300 [0,200,201] [50] rfl Tryz.call86 rfl rfl rfl (by decide) (by decide) (ih xi hxl si (by omega) (by omega) (ks++[id]++x.2) hbd2 _ (cell_up 0 rfl hG0) (cell_up1 0 rfl hG1) (mapQ_star 0 rfl hM) (fun p0 hp0=>rs9 0 rfl (hL p0 hp0))) (fun v89 Ps89 hR89=>?_)))
      obtain ⟨rfl,rfl⟩:=hR89
      skip
      refine (L9 rfl (Pu_un rfl rfl (run_not _)) (N9 (X9 ?_)))
      refine C9 rfl (fun hc90=>?_) (fun hc90=>?_)
      ·
       have hgo:¬ (rowsW (vw ls) l xi si).2=true:=by simpa using hc90
       refine Q9 (R9 (G9 rfl rfl (N9 (X9 ?_))))
       refine W_ret (X_block_ret (X_then_ret (X_then_ret (X_block_ret (X_then_ret ?_)))))
       refine X_ren 300 50 rfl ?_
       exact Xq9 [50] (Ps:=[_]) (res1 Tryz.results86 rfl) rfl (by decide) ⟨by rw [hih,hxk,hat,if_neg hgo],by rw [hih,hxk,hat,if_neg hgo]; simp⟩
      ·
       have hgo:(rowsW (vw ls) l xi si).2=true:=by simpa using hc90
       refine K9 (X_block (X9 ?_))
       refine R9 (L9 rfl (Pn9 rfl rfl rfl (run_add _ _ _ _ _ (by have h9:x.1≤x.1 * ea:=Nat.le_mul_of_pos_right _ (by omega); omega))) (M9 rfl rfl (N9 ?_)))
       refine X_ren 300 50 rfl ?_
       exact Xr9 (x.1 + 1,x.2++(rowsW (vw ls) l xi si).1) ⟨by dsimp only; omega,by rw [hxk,hat,if_pos hgo,List.append_assoc]⟩ (by dsimp only; omega) ⟨rfl,rfl,rfl,rfl,rfl,rfl,rfl,trivial⟩ ⟨rfl,look_eq rfl (by rw [List.append_assoc]),rfl,trivial⟩
     ·
      have hge:(parseNL p.2).length≤x.1:=by have:=of_decide_eq_false hc74; omega
      rw [List.drop_of_length_le hge,kidsW,List.append_nil] at hxk
      refine W_exit (X_then_exit (X_then_exit (X_block_exit (X9 ?_))))
      refine Q9 (R9 (G9 rfl rfl (N9 (X9 ?_))))
      refine W_ret ?_
      exact Xq9 [50] (Ps:=[_]) (res1 Tryz.results86 rfl) rfl (by decide) ⟨by rw [hih,hxk],by rw [hih,hxk]; simp⟩
   exact An9
  ·
   have hlk:=is_none_F hsp2
   have hV:=vw_none hlk
   refine W_draw (N:=11) (by kernel_rfl) rfl [(0,_),(101,_)] ⟨rfl,rfl,trivial⟩ ?_
   refine (T9 0 rfl rfl (Pm9 rfl rfl) (T9 1 rfl rfl (Pu_nilCheck rfl rfl) (T9 2 rfl rfl (F9 0 rfl rfl) (T9 3 rfl rfl (Pu_load1 (r:=0) rfl Tryz.isAgg93 rfl rfl hG0) (T9 4 rfl rfl (Px9 (r:=101) rfl Tryz.isAgg29 Tryz.sizeOf29 rfl rfl ((bs_length _).trans hid) (load_all ((bs_length _).trans hid))) (Y9 [5] ?_))))))
   refine Z9 rfl rfl (Or9 (Pu_lookupOkF (r:=0) keyB rfl Tryz.underlying93 Tryz.zeroValue36 rfl rfl hid rfl hM) ⟨⟨rfl,rfl,trivial⟩,?_⟩) ?_
   ·
    rw [entsL_fil,lookQ_fil,hlk]
    refine (T9 6 rfl rfl (Pm9 rfl rfl) (T9 7 rfl rfl (Pe9 rfl rfl rfl) (T9 8 rfl rfl (Pe9 rfl rfl rfl) (T9 9 rfl rfl (Pg9 rfl rfl) (T9 10 rfl rfl (Pg9 rfl rfl) (Ad9 (by kernel_rfl) (X9 ?_)))))))
    refine Q9 (Q9 (R9 (M9 rfl rfl (L9 rfl (Pu_un rfl rfl (run_not _)) (N9 (X9 ?_))))))
    refine W_true rfl (rfl) ?_
    refine Q9 (R9 (G9 rfl rfl (N9 (X9 ?_))))
    refine W_ret (X_then_ret ?_)
    exact Xq9 [50] (Ps:=[_]) (res1 Tryz.results86 rfl) rfl (by decide) ⟨by rw [rowsW,hV],by rw [rowsW,hV]⟩
   exact An9
theorem rows_spec (g gv gm:Nat) (ls:List LB):∀ (l:Nat),l≤7→∀ (id:List UInt8),id.length=32→∀ (size:Nat),1≤size→size≤1048576→∀ (ks:List (List UInt8)),ks.length + (rowsW (vw ls) l id size).1.length≤1000000000000→∀ (F:HP),(∀ h,F h→cellH h ⟨g,0,none⟩=some (.map (some gv)))→(∀ h,F h→cellH h ⟨g,1,none⟩=some (.map (some gm)))→(∀ h,F h→mapQ idV ok32 gv (entsL ls) none h)→(∀ p ∈ ls,∀ h,F h→rdB p.2.1 p.2.2 h) →
    CallsS Tryz.prog 86 #[.pointer (some ⟨g,0,none⟩),idV id,.int .i64 (l:Int),.int .i64 (size:Int)] F [metP gm ks] (fun r Ps=>r = .bool (rowsW (vw ls) l id size).2∧Ps=[metP gm (ks++(rowsW (vw ls) l id size).1)])
  | 0,_,id,hid,size,h1,h2,ks,hk,F,a,b,c,d=>rows_zero g gv gm ls F a b c d id hid size h1 h2 ks hk
  | l + 1,hl,id,hid,size,h1,h2,ks,hk,F,a,b,c,d=>rows_succ g gv gm ls F a b c d l (by omega) (rows_spec g gv gm ls l (by omega)) id hid size h1 h2 ks hk
open Go.RowKit
set_option maxRecDepth 8000
section
variable {κ:Type} [DecidableEq κ]
def cntG (k:κ) (ks:List κ):Nat:=(ks.filter (fun x=>decide (x=k))).length
theorem cntG_snoc (k x:κ) (ks:List κ):cntG k (ks++[x])=cntG k ks + if x=k then 1 else 0:=by
  unfold cntG
  rw [List.filter_append,List.length_append]
  by_cases h:x=k <;> simp [h]
theorem cntG_le (k:κ) (ks:List κ):cntG k ks≤ks.length:=List.length_filter_le _ _
theorem cntG_zero (k:κ) (ks:List κ):cntG k ks=0 ↔ k ∉ ks:=by
  unfold cntG
  rw [List.length_eq_zero_iff,List.filter_eq_nil_iff]
  constructor
  · intro h hk; exact h k hk (by simp)
  · intro h x hx; simp; intro e; exact h (e ▸ hx)
abbrev CntG (es:List (κ × Value)) (ks:List κ):Prop:=∀ q,(lookQ q es).getD (.int .i64 0) = .int .i64 ((cntG q ks:Nat):Int)
theorem CntG.put {es:List (κ × Value)} {ks:List κ} (h:CntG es ks) (k:κ):CntG (putQ k (.int .i64 (((cntG k ks:Nat):Int) + 1)) es) (ks++[k]):=fun q=>by
  rw [lookQ_put,cntG_snoc]
  by_cases hq:q=k
  · subst hq
    rw [if_pos rfl,if_pos rfl]
    rfl
  · rw [if_neg hq,if_neg (fun e=>hq e.symm),h q]
    rfl
end
def wasP (gw:Nat) (ws:List PK):HP:=fun h=>∃ wes,CntG wes ws∧mapQ encP okP gw wes none h
theorem W_openWas {P:Program} {E:Env} {n:Nat} {K:Slots} {L:Res} {Q:Exit→Act→World→Prop} {c:Code} (r b:Nat) {gw:Nat} {ws:List PK} (hr:look L r=some (wasP gw ws))
    (k:∀ wes:List (PK × Value),CntG wes ws→W P E n c K (En b [mapQ encP okP gw wes none]++(r,emp)::L) Q):W P E n c K L Q :=
  W_open (φ:=fun wes=>CntG wes ws) (Ps:=fun wes=>[mapQ encP okP gw wes none]) r b hr (fun h hp=>by obtain ⟨wes,h1,h2⟩:=hp; exact ⟨wes,h1,starL_one h2⟩) (fun wes h=>k wes h)
abbrev NW:=List PK × List (List UInt8) × Bool
def nkids (f:List UInt8→List PK→NW):List Ent→List PK→NW
  | [],ws=>(ws,[],true)
  | x::r,ws=>if (f x.2 ws).2.2 then ((nkids f r (f x.2 ws).1).1,(f x.2 ws).2.1++(nkids f r (f x.2 ws).1).2.1,(nkids f r (f x.2 ws).1).2.2) else f x.2 ws
def bodyW (V:VW) (n:Nd):List (List UInt8) × Bool:=if 0 < n.2.1 then rowsW V n.2.2.1.toNat n.2.2.2 n.2.1.toNat else ([],true)
def nodeW (V:VW):Nat→List UInt8→Nat→List PK→NW
  | 0,id,deep,ws=>(ws,[],false)
  | f + 1,id,deep,ws=>if (id,(deep:Int)) ∈ ws then (ws++[(id,(deep:Int))],[],true)
    else if (inodeV V id).2≠0 then (ws++[(id,(deep:Int))],[id],false)
    else if (bodyW V (inodeV V id).1).2=false then (ws++[(id,(deep:Int))],id::(bodyW V (inodeV V id).1).1,false)
    else if (inodeV V id).1.1=1 then (ws++[(id,(deep:Int))],id::(bodyW V (inodeV V id).1).1,true)
    else if (dirV V (inodeV V id).1).2≠0∨(0 < (dirV V (inodeV V id).1).1.length∧5≤deep) then (ws++[(id,(deep:Int))],id::(bodyW V (inodeV V id).1).1,false)
    else ((nkids (fun x w=>nodeW V f x (deep + 1) w) (dirV V (inodeV V id).1).1 (ws++[(id,(deep:Int))])).1,id::(bodyW V (inodeV V id).1).1++(nkids (fun x w=>nodeW V f x (deep + 1) w) (dirV V (inodeV V id).1).1 (ws++[(id,(deep:Int))])).2.1,(nkids (fun x w=>nodeW V f x (deep + 1) w) (dirV V (inodeV V id).1).1 (ws++[(id,(deep:Int))])).2.2)
theorem nodeW_seen {V:VW} {f deep:Nat} {id:List UInt8} {ws:List PK} (h:(id,(deep:Int)) ∈ ws):nodeW V (f + 1) id deep ws=(ws++[(id,(deep:Int))],[],true):=by rw [nodeW,if_pos h]
section
variable {V:VW} {f deep:Nat} {id:List UInt8} {ws:List PK} (h:(id,(deep:Int)) ∉ ws)
include h
theorem nodeW_none (h1:(inodeV V id).2≠0):nodeW V (f + 1) id deep ws=(ws++[(id,(deep:Int))],[id],false):=by rw [nodeW,if_neg h,if_pos h1]
theorem nodeW_rows (h1:(inodeV V id).2=0) (h2:(bodyW V (inodeV V id).1).2=false):nodeW V (f + 1) id deep ws=(ws++[(id,(deep:Int))],id::(bodyW V (inodeV V id).1).1,false):=by rw [nodeW,if_neg h,if_neg (fun hc=>hc h1),if_pos h2]
theorem nodeW_file (h1:(inodeV V id).2=0) (h2:(bodyW V (inodeV V id).1).2=true) (h3:(inodeV V id).1.1=1):nodeW V (f + 1) id deep ws=(ws++[(id,(deep:Int))],id::(bodyW V (inodeV V id).1).1,true):=by rw [nodeW,if_neg h,if_neg (fun hc=>hc h1),if_neg (by rw [h2]; simp),if_pos h3]
theorem nodeW_bad (h1:(inodeV V id).2=0) (h2:(bodyW V (inodeV V id).1).2=true) (h3:¬ (inodeV V id).1.1=1) (h4:(dirV V (inodeV V id).1).2≠0∨(0 < (dirV V (inodeV V id).1).1.length∧5≤deep)):nodeW V (f + 1) id deep ws=(ws++[(id,(deep:Int))],id::(bodyW V (inodeV V id).1).1,false):=by rw [nodeW,if_neg h,if_neg (fun hc=>hc h1),if_neg (by rw [h2]; simp),if_neg h3,if_pos h4]
theorem nodeW_dir (h1:(inodeV V id).2=0) (h2:(bodyW V (inodeV V id).1).2=true) (h3:¬ (inodeV V id).1.1=1) (h4:¬ ((dirV V (inodeV V id).1).2≠0∨(0 < (dirV V (inodeV V id).1).1.length∧5≤deep))):nodeW V (f + 1) id deep ws=((nkids (fun x w=>nodeW V f x (deep + 1) w) (dirV V (inodeV V id).1).1 (ws++[(id,(deep:Int))])).1,id::(bodyW V (inodeV V id).1).1++(nkids (fun x w=>nodeW V f x (deep + 1) w) (dirV V (inodeV V id).1).1 (ws++[(id,(deep:Int))])).2.1,(nkids (fun x w=>nodeW V f x (deep + 1) w) (dirV V (inodeV V id).1).1 (ws++[(id,(deep:Int))])).2.2):=by rw [nodeW,if_neg h,if_neg (fun hc=>hc h1),if_neg (by rw [h2]; simp),if_neg h3,if_neg h4]
end
open Go.RowKit
set_option maxRecDepth 8000
def badI (V:VW) (id:List UInt8):Bool:=if (inodeV V id).2≠0 then true else !(bodyW V (inodeV V id).1).2
def metI (V:VW) (id:List UInt8):List (List UInt8):=if (inodeV V id).2≠0 then [] else (bodyW V (inodeV V id).1).1
theorem badI_T {V:VW} {id:List UInt8} (h:(inodeV V id).2≠0):badI V id=true∧metI V id=[]:=by unfold badI metI; rw [if_pos h,if_pos h]; exact ⟨rfl,rfl⟩
theorem badI_F {V:VW} {id:List UInt8} (h:(inodeV V id).2=0):badI V id = !(bodyW V (inodeV V id).1).2∧metI V id=(bodyW V (inodeV V id).1).1:=by unfold badI metI; rw [if_neg (fun hc=>hc h),if_neg (fun hc=>hc h)]; exact ⟨rfl,rfl⟩
theorem badI_good {V:VW} {id:List UInt8} (h:badI V id=false):(inodeV V id).2=0∧(bodyW V (inodeV V id).1).2=true∧metI V id=(bodyW V (inodeV V id).1).1:=by
  by_cases h1:(inodeV V id).2=0
  · have:=badI_F h1
    rw [this.1] at h
    exact ⟨h1,by simpa using h,this.2⟩
  · rw [(badI_T h1).1] at h
    cases h
theorem nodeW_badI {V:VW} {f deep:Nat} {id:List UInt8} {ws:List PK} (h:(id,(deep:Int)) ∉ ws) (hb:badI V id=true):nodeW V (f + 1) id deep ws=(ws++[(id,(deep:Int))],id::metI V id,false):=by
  by_cases h1:(inodeV V id).2=0
  · have:=badI_F h1
    rw [this.1] at hb
    rw [nodeW_rows h h1 (by simpa using hb),this.2]
  · rw [nodeW_none h h1,(badI_T h1).2]
theorem nodeW_ge {V:VW} {f deep:Nat} {id:List UInt8} {ws:List PK} (h:(id,(deep:Int)) ∉ ws):1 + (metI V id).length≤(nodeW V (f + 1) id deep ws).2.1.length:=by
  cases hb:badI V id with
  | true=>rw [nodeW_badI h hb]; simp; omega
  | false =>
    obtain ⟨h1,h2,h3⟩:=badI_good hb
    rw [h3,nodeW,if_neg h,if_neg (fun hc=>hc h1),if_neg (by rw [h2]; simp)]
    split
    · simp; omega
    · split <;> simp <;> omega
theorem nkids_mono {f:List UInt8→List PK→NW} (hf:∀ x w,w.length≤(f x w).1.length):∀ (es:List Ent) (ws:List PK),ws.length≤(nkids f es ws).1.length
  | [],ws=>Nat.le_refl _
  | x::r,ws=>by
    rw [nkids]
    split
    · exact Nat.le_trans (hf x.2 ws) (nkids_mono hf r _)
    · exact hf x.2 ws
theorem nodeW_mono (V:VW):∀ (f:Nat) (id:List UInt8) (deep:Nat) (ws:List PK),ws.length≤(nodeW V f id deep ws).1.length
  | 0,_,_,_=>Nat.le_refl _
  | f + 1,id,deep,ws=>by
    have hs:ws.length≤(ws++[(id,(deep:Int))]).length:=by rw [List.length_append]; omega
    rw [nodeW]
    split
    · exact hs
    · split
      · exact hs
      · split
        · exact hs
        · split
          · exact hs
          · split
            · exact hs
            · exact Nat.le_trans hs (nkids_mono (fun x w=>nodeW_mono V f x (deep + 1) w) _ _)
theorem nkids_at {f:List UInt8→List PK→NW} {es:List Ent} {i:Nat} {ws:List PK} (hi:i < es.length):nkids f (es.drop i) ws=if (f (es.getD i ent0).2 ws).2.2 then ((nkids f (es.drop (i + 1)) (f (es.getD i ent0).2 ws).1).1,(f (es.getD i ent0).2 ws).2.1++(nkids f (es.drop (i + 1)) (f (es.getD i ent0).2 ws).1).2.1,(nkids f (es.drop (i + 1)) (f (es.getD i ent0).2 ws).1).2.2) else f (es.getD i ent0).2 ws:=by
  rw [List.drop_eq_getElem_cons hi,nkids]
  have:es.getD i ent0=es[i]:=by simp [hi]
  rw [this]
theorem was_in {P:PK} {ws:List PK} (h:(1:Int) < ((cntG P (ws++[P]):Nat):Int)):P ∈ ws:=by
  rw [cntG_snoc,if_pos rfl] at h
  cases Classical.em (P ∈ ws) with
  | inl h1=>exact h1
  | inr h1=>rw [(cntG_zero P ws).2 h1] at h; simp at h
theorem was_out {P:PK} {ws:List PK} (h:¬ (1:Int) < ((cntG P (ws++[P]):Nat):Int)):P ∉ ws:=fun hc=>by
  rw [cntG_snoc,if_pos rfl] at h
  have:=(cntG_zero P ws).1
  cases hn:cntG P ws with
  | zero=>exact this hn hc
  | succ n=>rw [hn] at h; omega
theorem pl_id {id:List UInt8} {d:Int} (h:id.length=32):((plC (id,d)).drop 0).take 32=bs id:=by
  have hb:(bs id).length=32:=(bs_length _).trans h
  show (bs id++[Value.int .i64 d]).take 32=_
  rw [List.take_append_of_le_length (Nat.le_of_eq hb.symm),List.take_of_length_le (Nat.le_of_eq hb)]
theorem pl_deep {id:List UInt8} {d:Int} (h:id.length=32):(plC (id,d))[32]?=some (.int .i64 d):=by
  have hb:(bs id).length=32:=(bs_length _).trans h
  show (bs id++[Value.int .i64 d])[32]?=_
  rw [List.getElem?_append_right (Nat.le_of_eq hb),hb]
  rfl
theorem pl_build {id:List UInt8} (h:id.length=32) (d:Int):(over (plC (zeroId,0)) 0 (bs id)).set 32 (.int .i64 d)=plC (id,d):=by
  have hb:(bs id).length=32:=(bs_length _).trans h
  have h1:=over_mid [] (bs zeroId) (bs id) [Value.int .i64 0] (by rw [hb,bs_length,zeroId_length])
  have e:over (plC (zeroId,0)) 0 (bs id)=bs id++[Value.int .i64 0]:=by simpa [plC] using h1
  rw [e,List.set_append_right _ _ (Nat.le_of_eq hb),hb]
  rfl
theorem pl_over {id:List UInt8} (h:id.length=32):(over (plC (zeroId,0)) 0 (bs id)).length=33:=by rw [over_length _ _ _ (by rw [plC_length (show okP (zeroId,0) from zeroId_length),bs_length,h]; decide)]; exact plC_length (show okP (zeroId,0) from zeroId_length)
theorem nd_topL {n:Nd} (h:n.2.2.2.length=32):((ndC n).drop 3).take 32=bs n.2.2.2:=by
  show (bs n.2.2.2).take 32=_
  exact List.take_of_length_le (by rw [bs_length]; omega)
theorem entC_id {nm id:List UInt8} (h:id.length=32):((entC nm id).drop 1).take 32=bs id:=by
  show (bs id).take 32=_
  exact List.take_of_length_le (by rw [bs_length]; omega)
set_option maxHeartbeats 2000000 in
theorem node_succ (g gv gm gw:Nat) (ls:List LB) (F:HP) (hG0:∀ h,F h→cellH h ⟨g,0,none⟩=some (.map (some gv))) (hG1:∀ h,F h→cellH h ⟨g,1,none⟩=some (.map (some gm))) (hG2:∀ h,F h→cellH h ⟨g,2,none⟩=some (.map (some gw))) (hM:∀ h,F h→mapQ idV ok32 gv (entsL ls) none h) (hL:∀ p ∈ ls,∀ h,F h→rdB p.2.1 p.2.2 h) (hT:∀ h,F h→tabsP h) (f:Nat) (ih:1≤f→∀ (id:List UInt8),id.length=32→∀ (deep:Nat),deep + f=6→∀ (ws:List PK) (ks:List (List UInt8)),ks.length + (nodeW (vw ls) f id deep ws).2.1.length≤1000000000000→(nodeW (vw ls) f id deep ws).1.length≤1000000000000→∀ (F:HP),(∀ h,F h→cellH h ⟨g,0,none⟩=some (.map (some gv)))→(∀ h,F h→cellH h ⟨g,1,none⟩=some (.map (some gm)))→(∀ h,F h→cellH h ⟨g,2,none⟩=some (.map (some gw)))→(∀ h,F h→mapQ idV ok32 gv (entsL ls) none h)→(∀ p ∈ ls,∀ h,F h→rdB p.2.1 p.2.2 h)→(∀ h,F h→tabsP h)→CallsS Tryz.prog 59 #[.pointer (some ⟨g,0,none⟩),encP (id,(deep:Int))] F [metP gm ks,wasP gw ws] (fun r Ps=>r = .bool (nodeW (vw ls) f id deep ws).2.2∧Ps=[metP gm (ks++(nodeW (vw ls) f id deep ws).2.1),wasP gw (nodeW (vw ls) f id deep ws).1])) (id:List UInt8) (hid:id.length=32) (deep:Nat) (hdp:deep + (f + 1)=6) (ws:List PK) (ks:List (List UInt8)) (hks:ks.length + (nodeW (vw ls) (f + 1) id deep ws).2.1.length≤1000000000000) (hws:(nodeW (vw ls) (f + 1) id deep ws).1.length≤1000000000000):CallsS Tryz.prog 59 #[.pointer (some ⟨g,0,none⟩),encP (id,(deep:Int))] F [metP gm ks,wasP gw ws] (fun r Ps=>r = .bool (nodeW (vw ls) (f + 1) id deep ws).2.2∧Ps=[metP gm (ks++(nodeW (vw ls) (f + 1) id deep ws).2.1),wasP gw (nodeW (vw ls) (f + 1) id deep ws).1]):=by
 have hok:okP (id,(deep:Int)):=hid
 have hwl:=nodeW_mono (vw ls) (f + 1) id deep ws
 have hcw:=cntG_le (id,(deep:Int)) ws
 refine callsS_enter Tryz.func59 rfl Tryz.ntmps59 (by simp) (fun E=>?_)
 refine Q9 (R9 (Lc9 rfl rfl (by decide) (OpT_box (r:=101) rfl rfl rfl (fun g101=>(G9 rfl rfl (N9 (X9 (Q9 ?_))))))))
 refine W_cut (α:=Unit) (fun _z=>[(0,.pointer (some ⟨g,0,none⟩)),(3,.pointer (some ⟨g101,0,none⟩))]) (fun _z=>[(0,F),(1,metP gm ks),(50,wasP gw (ws++[(id,(deep:Int))])),(101,blk g101 131 (plC (id,(deep:Int))))]) (fun _z=>True) ?_ (fun z hz=>?_)
 ·
  refine W_openWas 2 50 rfl (fun wes hwo=>?_)
  have hck:=hwo (id,(deep:Int))
  refine W_draw (N:=10) (by kernel_rfl) rfl [(0,_),(101,_)] ⟨rfl,rfl,trivial⟩ ?_
  refine (T9 0 rfl rfl (Pm9 rfl rfl) (T9 1 rfl rfl (Pu_nilCheck rfl rfl) (T9 2 rfl rfl (F9 2 rfl rfl) (T9 3 rfl rfl (Pu_load1 (r:=0) rfl Tryz.isAgg125 rfl rfl hG2) (T9 4 rfl rfl (Px9 (r:=101) rfl Tryz.isAgg131 Tryz.sizeOf131 rfl rfl (plC_length hok) (load_all (plC_length hok))) (Y9 [5,7] ?_))))))
  refine Z9 rfl rfl (Or9 (Pu_lookupQ (r:=50) (z:=.int .i64 0) keyP rfl Tryz.underlying125 Tryz.zeroValue3 rfl rfl hok rfl) ⟨⟨rfl,rfl,trivial⟩,?_⟩) ?_
  ·
   rw [hck]
   refine (T9 6 rfl rfl (Pn9 rfl rfl rfl (run_add _ _ _ _ _ (by omega))) (Y9 [7] ?_))
   refine Z9 rfl rfl (OpT_mapEntryQ (r:=50) (z:=.int .i64 0) keyP rfl Tryz.underlying125 Tryz.zeroValue3 rfl rfl hok rfl (fun es1 j5 b5 u5 hea=>?_)) ?_
   ·
    refine ⟨⟨rfl,rfl,trivial⟩,?_⟩
    obtain ⟨u6,hk6⟩:=hea.key
    refine (T9 8 rfl rfl (Pe9 rfl rfl rfl) (Y9 [9] ?_))
    refine Ac09 rfl rfl rfl (OpT_entryStoreQ (r:=50) rfl rfl rfl rfl rfl hk6 ?_) ?_
    ·
     refine ⟨⟨rfl,rfl,trivial⟩,?_⟩
     refine (Ad9 (by kernel_rfl) ?_)
     refine X_turn (P':=wasP gw (ws++[(id,(deep:Int))])) 50 rfl (fun h hp=>⟨_,hwo.put (id,(deep:Int)),by rw [← hea.put]; exact hp⟩) ?_
     exact X_cut () trivial (a9 rfl) (a9 rfl)
    exact An9
   exact An9
  refine Z9 rfl rfl (OpT_mapEntryQ (r:=50) (z:=.int .i64 0) keyP rfl Tryz.underlying125 Tryz.zeroValue3 rfl rfl hok rfl (fun es1 j5 b5 u5 hea=>?_)) ?_
  ·
   refine ⟨⟨rfl,rfl,trivial⟩,?_⟩
   obtain ⟨u6,hk6⟩:=hea.key
   refine (T9 8 rfl rfl (Pe9 rfl rfl rfl) (Y9 [5] ?_))
   refine Z9 rfl rfl (Or9 (Pu_lookupF (r:=50) (z:=.int .i64 0) keyP rfl Tryz.underlying125 Tryz.zeroValue3 rfl rfl hok rfl (fun h hp=>mapEnt_Q hp)) ⟨⟨rfl,rfl,trivial⟩,?_⟩) ?_
   ·
    rw [hea.look,hck]
    refine (T9 6 rfl rfl (Pn9 rfl rfl rfl (run_add _ _ _ _ _ (by omega))) (Y9 [9] ?_))
    refine Ac09 rfl rfl rfl (OpT_entryStoreQ (r:=50) rfl rfl rfl rfl rfl hk6 ?_) ?_
    ·
     refine ⟨⟨rfl,rfl,trivial⟩,?_⟩
     refine (Ad9 (by kernel_rfl) ?_)
     refine X_turn (P':=wasP gw (ws++[(id,(deep:Int))])) 50 rfl (fun h hp=>⟨_,hwo.put (id,(deep:Int)),by rw [← hea.put]; exact hp⟩) ?_
     exact X_cut () trivial (a9 rfl) (a9 rfl)
    exact An9
   exact An9
  exact An9
 ·
  refine Q9 ?_
  refine W_openWas 50 52 rfl (fun wes2 hwo2=>?_)
  have hck2:=hwo2 (id,(deep:Int))
  refine W_draw (N:=7) (by kernel_rfl) rfl [(0,_),(101,_),(52,_)] ⟨rfl,rfl,rfl,trivial⟩ ?_
  refine (T9 0 rfl rfl (Pm9 rfl rfl) (T9 1 rfl rfl (Pu_nilCheck rfl rfl) (T9 2 rfl rfl (F9 2 rfl rfl) (T9 3 rfl rfl (Pu_load1 (r:=0) rfl Tryz.isAgg125 rfl rfl hG2) (T9 4 rfl rfl (Px9 (r:=101) rfl Tryz.isAgg131 Tryz.sizeOf131 rfl rfl (plC_length hok) (load_all (plC_length hok))) (Y9 [5] ?_))))))
  refine Z9 rfl rfl (Or9 (Pu_lookupQ (r:=52) (z:=.int .i64 0) keyP rfl Tryz.underlying125 Tryz.zeroValue3 rfl rfl hok rfl) ⟨⟨rfl,rfl,rfl,trivial⟩,?_⟩) ?_
  ·
   rw [hck2]
   refine (T9 6 rfl rfl (Pn9 rfl rfl rfl (run_gtr _ _ _ _ _ _)) (Ad9 (by kernel_rfl) (X9 ?_)))
   refine C9 rfl (fun hc25=>?_) (fun hc25=>?_)
   ·
    refine Wt9 (P':=wasP gw (ws++[(id,(deep:Int))])) 52 rfl (fun h hp=>⟨_,hwo2,hp⟩) ?_
    have hin:(id,(deep:Int)) ∈ ws:=was_in (of_decide_eq_true hc25)
    refine Q9 (R9 (G9 rfl rfl (N9 (X9 ?_))))
    refine W_ret (X_then_ret ?_)
    exact Xq9 [1,52] (Ps:=[_,_]) (res1 Tryz.results59 rfl) rfl (by decide) ⟨by rw [nodeW_seen hin],by rw [nodeW_seen hin,List.append_nil]⟩
   ·
    refine Wt9 (P':=wasP gw (ws++[(id,(deep:Int))])) 52 rfl (fun h hp=>⟨_,hwo2,hp⟩) ?_
    have hout:(id,(deep:Int)) ∉ ws:=was_out (of_decide_eq_false hc25)
    refine K9 (X9 ?_)
    refine W_cut (α:=Unit) (fun _z=>[(0,.pointer (some ⟨g,0,none⟩)),(3,.pointer (some ⟨g101,0,none⟩))]) (fun _z=>[(0,F),(54,metP gm (ks++[id])),(52,wasP gw (ws++[(id,(deep:Int))])),(101,blk g101 131 (plC (id,(deep:Int))))]) (fun _z=>True) ?_ (fun z hz=>?_)
    ·
     refine W_openMet 1 54 rfl (fun mes hmo=>?_)
     have hcm:=hmo.cnt id
     have hcl:=cntK_le id ks
     refine W_draw (N:=11) (by kernel_rfl) rfl [(0,_),(101,_)] ⟨rfl,rfl,trivial⟩ ?_
     refine (T9 0 rfl rfl (Pm9 rfl rfl) (T9 1 rfl rfl (Pu_nilCheck rfl rfl) (T9 2 rfl rfl (F9 1 rfl rfl) (T9 3 rfl rfl (Pu_load1 (r:=0) rfl Tryz.isAgg103 rfl rfl hG1) (T9 4 rfl rfl (F9 0 rfl rfl) (T9 5 rfl rfl (Px9 (r:=101) rfl Tryz.isAgg29 Tryz.sizeOf29 rfl rfl ((bs_length _).trans hid) (pl_id hid)) (Y9 [6,8] ?_)))))))
     refine Z9 rfl rfl (Or9 (Pu_lookupQ (r:=54) (z:=.int .i64 0) keyB rfl Tryz.underlying103 Tryz.zeroValue3 rfl rfl hid rfl) ⟨⟨rfl,rfl,trivial⟩,?_⟩) ?_
     ·
      rw [hcm]
      refine (T9 7 rfl rfl (Pn9 rfl rfl rfl (run_add _ _ _ _ _ (by omega))) (Y9 [8] ?_))
      refine Z9 rfl rfl (OpT_mapEntryQ (r:=54) (z:=.int .i64 0) keyB rfl Tryz.underlying103 Tryz.zeroValue3 rfl rfl hid rfl (fun em1 j7 b7 u7 hem=>?_)) ?_
      ·
       refine ⟨⟨rfl,rfl,trivial⟩,?_⟩
       obtain ⟨u8,hk8⟩:=hem.key
       refine (T9 9 rfl rfl (Pe9 rfl rfl rfl) (Y9 [10] ?_))
       refine Ac09 rfl rfl rfl (OpT_entryStoreQ (r:=54) rfl rfl rfl rfl rfl hk8 ?_) ?_
       ·
        refine ⟨⟨rfl,rfl,trivial⟩,?_⟩
        refine (Ad9 (by kernel_rfl) ?_)
        refine X_turn (P':=metP gm (ks++[id])) 54 rfl (fun h hp=>⟨_,hmo.put id,by rw [← hem.put]; exact hp⟩) ?_
        exact X_cut () trivial (a9 rfl) (a9 rfl)
       exact An9
      exact An9
     refine Z9 rfl rfl (OpT_mapEntryQ (r:=54) (z:=.int .i64 0) keyB rfl Tryz.underlying103 Tryz.zeroValue3 rfl rfl hid rfl (fun em1 j7 b7 u7 hem=>?_)) ?_
     ·
      refine ⟨⟨rfl,rfl,trivial⟩,?_⟩
      obtain ⟨u8,hk8⟩:=hem.key
      refine (T9 9 rfl rfl (Pe9 rfl rfl rfl) (Y9 [6] ?_))
      refine Z9 rfl rfl (Or9 (Pu_lookupF (r:=54) (z:=.int .i64 0) keyB rfl Tryz.underlying103 Tryz.zeroValue3 rfl rfl hid rfl (fun h hp=>mapEnt_Q hp)) ⟨⟨rfl,rfl,trivial⟩,?_⟩) ?_
      ·
       rw [hem.look,hcm]
       refine (T9 7 rfl rfl (Pn9 rfl rfl rfl (run_add _ _ _ _ _ (by omega))) (Y9 [10] ?_))
       refine Ac09 rfl rfl rfl (OpT_entryStoreQ (r:=54) rfl rfl rfl rfl rfl hk8 ?_) ?_
       ·
        refine ⟨⟨rfl,rfl,trivial⟩,?_⟩
        refine (Ad9 (by kernel_rfl) ?_)
        refine X_turn (P':=metP gm (ks++[id])) 54 rfl (fun h hp=>⟨_,hmo.put id,by rw [← hem.put]; exact hp⟩) ?_
        exact X_cut () trivial (a9 rfl) (a9 rfl)
       exact An9
      exact An9
     exact An9
    ·
     refine W_cut (α:=Nat) (fun z=>[(0,.pointer (some ⟨g,0,none⟩)),(3,.pointer (some ⟨g101,0,none⟩)),(5,.pointer (some ⟨z,0,none⟩)),(6,.int .i64 (inodeV (vw ls) id).2)]) (fun z=>[(0,F),(54,metP gm (ks++[id])),(52,wasP gw (ws++[(id,(deep:Int))])),(101,blk g101 131 (plC (id,(deep:Int)))),(70,blk z 42 (ndC (inodeV (vw ls) id).1))]) (fun z=>True) ?_ (fun z _hz=>?_)
     ·
      refine W_draw (N:=13) (by kernel_rfl) rfl [(0,_),(101,_)] ⟨rfl,rfl,trivial⟩ ?_
      refine (T9 0 rfl rfl (Pm9 rfl rfl) (T9 1 rfl rfl (Pu_nilCheck rfl rfl) (T9 2 rfl rfl (F9 0 rfl rfl) (T9 3 rfl rfl (Pu_load1 (r:=0) rfl Tryz.isAgg93 rfl rfl hG0) (T9 4 rfl rfl (F9 0 rfl rfl) (T9 5 rfl rfl (Px9 (r:=101) rfl Tryz.isAgg29 Tryz.sizeOf29 rfl rfl ((bs_length _).trans hid) (pl_id hid)) (Y9 [6,10] ?_)))))))
      refine Z9 rfl rfl (Oc9 200 [0,52,54,101] [] rfl Tryz.call58 rfl rfl rfl (by decide) (by decide) (view_inode gv ls _ (mapQ_star 0 rfl hM) (fun p0 hp0=>rs9 0 rfl (hL p0 hp0)) id hid) (fun v43 Ps43 hR43=>?_)) ?_
      ·
       obtain ⟨rfl,rfl⟩:=hR43
       refine ⟨⟨rfl,rfl,trivial⟩,?_⟩
       refine (T9 7 rfl rfl (Pm9 rfl rfl) (T9 8 rfl rfl (Pe9 rfl rfl rfl) (T9 9 rfl rfl (Pe9 rfl rfl rfl) (Y9 [10] ?_))))
       refine Z9 rfl rfl (OpT_alloc (r:=201) (cs:=(nodeC 0 0 0 zeroId)) rfl (zero_run (by kernel_rfl:(Tryz.prog.info? 42).bind (·.zero)=some (.agg (nodeC 0 0 0 zeroId).toArray))) rfl (fun g201=>⟨⟨rfl,rfl,trivial⟩,?_⟩)) ?_
       ·
        refine (Y9 [11] ?_)
        refine Ac09 rfl rfl rfl (OpT_storeAll (r:=201) rfl Tryz.sizeOf42 rfl rfl rfl (nodeC_length zeroId_length) (ndC_length (inodeV_top _ _)) (one_node _ _ _ _) ?_) ?_
        ·
         refine ⟨⟨rfl,rfl,trivial⟩,?_⟩
         refine (T9 12 rfl rfl (Pg9 rfl rfl) (Ad9 (by kernel_rfl) ?_))
         refine X_ren 201 70 rfl ?_
         exact X_cut g201 trivial (a9 rfl) (a9 rfl)
        exact An9
       exact An9
      refine Z9 rfl rfl (OpT_alloc (r:=102) (cs:=(nodeC 0 0 0 zeroId)) rfl (zero_run (by kernel_rfl:(Tryz.prog.info? 42).bind (·.zero)=some (.agg (nodeC 0 0 0 zeroId).toArray))) rfl (fun g102=>⟨⟨rfl,rfl,trivial⟩,?_⟩)) ?_
      ·
       refine (Y9 [6] ?_)
       refine Z9 rfl rfl (Oc9 200 [0,52,54,101,102] [] rfl Tryz.call58 rfl rfl rfl (by decide) (by decide) (view_inode gv ls _ (mapQ_star 0 rfl hM) (fun p0 hp0=>rs9 0 rfl (hL p0 hp0)) id hid) (fun v43 Ps43 hR43=>?_)) ?_
       ·
        obtain ⟨rfl,rfl⟩:=hR43
        refine ⟨⟨rfl,rfl,trivial⟩,?_⟩
        refine (T9 7 rfl rfl (Pm9 rfl rfl) (T9 8 rfl rfl (Pe9 rfl rfl rfl) (T9 9 rfl rfl (Pe9 rfl rfl rfl) (Y9 [11] ?_))))
        refine Ac09 rfl rfl rfl (OpT_storeAll (r:=102) rfl Tryz.sizeOf42 rfl rfl rfl (nodeC_length zeroId_length) (ndC_length (inodeV_top _ _)) (one_node _ _ _ _) ?_) ?_
        ·
         refine ⟨⟨rfl,rfl,trivial⟩,?_⟩
         refine (T9 12 rfl rfl (Pg9 rfl rfl) (Ad9 (by kernel_rfl) ?_))
         refine X_ren 102 70 rfl ?_
         exact X_cut g102 trivial (a9 rfl) (a9 rfl)
        exact An9
       exact An9
      exact An9
     ·
      refine Q9 ?_
      refine W_cut (α:=Unit) (fun _z=>[(0,.pointer (some ⟨g,0,none⟩)),(3,.pointer (some ⟨g101,0,none⟩)),(5,.pointer (some ⟨z,0,none⟩)),(63,.bool (badI (vw ls) id))]) (fun _z=>[(0,F),(54,metP gm (ks++[id]++metI (vw ls) id)),(52,wasP gw (ws++[(id,(deep:Int))])),(101,blk g101 131 (plC (id,(deep:Int)))),(70,blk z 42 (ndC (inodeV (vw ls) id).1))]) (fun _z=>True) ?_ (fun _z6 _hz6=>?_)
      ·
       rcases Bool.eq_false_or_eq_true (!decide ((inodeV (vw ls) id).2=0)) with hsp6 | hsp6
       ·
        have h1:(inodeV (vw ls) id).2≠0:=by simpa using hsp6
        obtain ⟨hbE,hmE⟩:=badI_T h1
        refine R9 (M9 rfl rfl (L9 rfl (Pn9 rfl rfl rfl (run_neq _ _ _ _ _ _)) (M9 rfl rfl (WL_gF rfl rfl rfl (by rw [hsp6]; rfl) rfl (by decide) (WL_gF rfl rfl rfl (by rw [hsp6]; rfl) rfl (by decide) (WL_gF rfl rfl rfl (by rw [hsp6]; rfl) rfl (by decide) (WL_gF rfl rfl rfl (by rw [hsp6]; rfl) rfl (by decide) (WL_gF rfl rfl rfl rfl rfl (by decide) (WL_gF rfl rfl rfl rfl rfl (by decide) (WL_gF rfl rfl rfl rfl rfl (by decide) (WL_gF rfl rfl rfl rfl rfl (by decide) (WL_gF rfl rfl rfl rfl rfl (by decide) (WL_gF rfl rfl rfl rfl rfl (by decide) (WL_gF rfl rfl rfl rfl rfl (by decide) (WL_gF rfl rfl rfl rfl rfl (by decide) (WL_gF rfl rfl rfl rfl rfl (by decide) (WL_gF rfl rfl rfl (by rw [hsp6]; rfl) rfl (by decide) (L9 rfl (Pu_pickT rfl rfl hsp6 rfl) (N9 ?_)))))))))))))))))))
        exact X_cut () trivial ⟨rfl,rfl,rfl,lookV_eq rfl (by rw [hbE] <;> rfl),trivial⟩ ⟨rfl,look_eq rfl (by rw [hmE,List.append_nil]),rfl,rfl,rfl,trivial⟩
       ·
        have h1:(inodeV (vw ls) id).2=0:=by simpa using hsp6
        obtain ⟨hbE,hmE⟩:=badI_F h1
        have hno:=inodeV_ok h1
        have hge:=nodeW_ge (V:=(vw ls)) (f:=f) hout
        rw [hmE] at hge
        rcases Bool.eq_false_or_eq_true (decide ((0:Int) < (inodeV (vw ls) id).1.2.1)) with hsq6 | hsq6
        ·
         have hs0:0 < (inodeV (vw ls) id).1.2.1:=of_decide_eq_true hsq6
         have hbw:bodyW (vw ls) (inodeV (vw ls) id).1=(rowsW (vw ls) (inodeV (vw ls) id).1.2.2.1.toNat (inodeV (vw ls) id).1.2.2.2 (inodeV (vw ls) id).1.2.1.toNat):=by unfold bodyW; rw [if_pos hs0]
         rw [hbw] at hbE hmE hge
         have hlv:(inodeV (vw ls) id).1.2.2.1=(((inodeV (vw ls) id).1.2.2.1.toNat:Nat):Int):=by have:=hno.2.2.2.1; omega
         have hsz:(inodeV (vw ls) id).1.2.1=(((inodeV (vw ls) id).1.2.1.toNat:Nat):Int):=by omega
         have hl7:(inodeV (vw ls) id).1.2.2.1.toNat≤7:=by have h8:=hno.2.2.2.1; have h9:=lev_le (inodeV (vw ls) id).1.2.1; omega
         have hsm:1≤(inodeV (vw ls) id).1.2.1.toNat∧(inodeV (vw ls) id).1.2.1.toNat≤1048576:=by have h8:=hno.2.2.1; omega
         have hb1:(ks++[id]).length + (rowsW (vw ls) (inodeV (vw ls) id).1.2.2.1.toNat (inodeV (vw ls) id).1.2.2.2 (inodeV (vw ls) id).1.2.1.toNat).1.length≤1000000000000:=by rw [List.length_append,List.length_singleton]; omega
         refine R9 (M9 rfl rfl (L9 rfl (Pn9 rfl rfl rfl (run_neq _ _ _ _ _ _)) (M9 rfl rfl (WL_gPT rfl rfl rfl (by rw [hsp6]; rfl) rfl (by decide) (F9 1 rfl rfl) (WL_gPT rfl rfl rfl (by rw [hsp6]; rfl) rfl (by decide) (Pb9 (r:=70) rfl Tryz.isAgg3 rfl rfl rfl) (WL_gPT rfl rfl rfl (by rw [hsp6]; rfl) rfl (by decide) (Pn9 rfl rfl rfl (run_gtr _ _ _ _ _ _)) (WL_gPT rfl rfl rfl (by rw [hsp6]; rfl) rfl (by decide) (Pm9 rfl rfl) (WL_gPT rfl rfl rfl (by rw [hsq6]; rfl) rfl (by decide) (Pm9 rfl rfl) (WL_gPT rfl rfl rfl (by rw [hsq6]; rfl) rfl (by decide) (F9 3 rfl rfl) (WL_gPT rfl rfl rfl (by rw [hsq6]; rfl) rfl (by decide) (Px9 (r:=70) rfl Tryz.isAgg29 Tryz.sizeOf29 rfl rfl ((bs_length _).trans (inodeV_top _ _)) (nd_topL (inodeV_top _ _))) (WL_gPT rfl rfl rfl (by rw [hsq6]; rfl) rfl (by decide) (F9 2 rfl rfl) (WL_gPT rfl rfl rfl (by rw [hsq6]; rfl) rfl (by decide) (Pb9 (r:=70) rfl Tryz.isAgg3 rfl rfl (show some (Value.int .i64 (inodeV (vw ls) id).1.2.2.1)=some (Value.int .i64 (((inodeV (vw ls) id).1.2.2.1.toNat:Nat):Int)) from congrArg (fun z=>some (Value.int .i64 z)) hlv)) (WL_gPT rfl rfl rfl (by rw [hsq6]; rfl) rfl (by decide) (F9 1 rfl rfl) (WL_gPT rfl rfl rfl (by rw [hsq6]; rfl) rfl (by decide) (Pb9 (r:=70) rfl Tryz.isAgg3 rfl rfl (show some (Value.int .i64 (inodeV (vw ls) id).1.2.1)=some (Value.int .i64 (((inodeV (vw ls) id).1.2.1.toNat:Nat):Int)) from congrArg (fun z=>some (Value.int .i64 z)) hsz)) (WL_gT rfl rfl rfl (by rw [hsq6]; rfl) rfl (by decide) (Oc9 200 [0,52,70,101] [54] rfl Tryz.call86 rfl rfl rfl (by decide) (by decide) (rows_spec g gv gm ls (inodeV (vw ls) id).1.2.2.1.toNat hl7 (inodeV (vw ls) id).1.2.2.2 (inodeV_top _ _) (inodeV (vw ls) id).1.2.1.toNat hsm.1 hsm.2 (ks++[id]) hb1 _ (cell_up 0 rfl hG0) (cell_up1 0 rfl hG1) (mapQ_star 0 rfl hM) (fun p0 hp0=>rs9 0 rfl (hL p0 hp0))) (fun v60 Ps60 hR60=>?_)))))))))))))))))
         obtain ⟨rfl,rfl⟩:=hR60
         skip
         refine (WL_gPT rfl rfl rfl (by rw [hsq6]; rfl) rfl (by decide) (Pu_un rfl rfl (run_not _)) (WL_gPT rfl rfl rfl (by rw [hsp6]; rfl) rfl (by decide) (Pu_pickT rfl rfl hsq6 rfl) (L9 rfl (Pu_pickF rfl rfl hsp6 rfl) (N9 ?_))))
         refine X_ren 200 54 rfl ?_
         exact X_cut () trivial ⟨rfl,rfl,rfl,lookV_eq rfl (by rw [hbE] <;> rfl),trivial⟩ ⟨rfl,look_eq rfl (by rw [hmE]),rfl,rfl,rfl,trivial⟩
        ·
         have hs0:¬ 0 < (inodeV (vw ls) id).1.2.1:=of_decide_eq_false hsq6
         have hbw:bodyW (vw ls) (inodeV (vw ls) id).1=([],true):=by unfold bodyW; rw [if_neg hs0]
         rw [hbw] at hbE hmE
         refine R9 (M9 rfl rfl (L9 rfl (Pn9 rfl rfl rfl (run_neq _ _ _ _ _ _)) (M9 rfl rfl (WL_gPT rfl rfl rfl (by rw [hsp6]; rfl) rfl (by decide) (F9 1 rfl rfl) (WL_gPT rfl rfl rfl (by rw [hsp6]; rfl) rfl (by decide) (Pb9 (r:=70) rfl Tryz.isAgg3 rfl rfl rfl) (WL_gPT rfl rfl rfl (by rw [hsp6]; rfl) rfl (by decide) (Pn9 rfl rfl rfl (run_gtr _ _ _ _ _ _)) (WL_gPT rfl rfl rfl (by rw [hsp6]; rfl) rfl (by decide) (Pm9 rfl rfl) (WL_gF rfl rfl rfl (by rw [hsq6]; rfl) rfl (by decide) (WL_gF rfl rfl rfl (by rw [hsq6]; rfl) rfl (by decide) (WL_gF rfl rfl rfl (by rw [hsq6]; rfl) rfl (by decide) (WL_gF rfl rfl rfl (by rw [hsq6]; rfl) rfl (by decide) (WL_gF rfl rfl rfl (by rw [hsq6]; rfl) rfl (by decide) (WL_gF rfl rfl rfl (by rw [hsq6]; rfl) rfl (by decide) (WL_gF rfl rfl rfl (by rw [hsq6]; rfl) rfl (by decide) (WL_gF rfl rfl rfl (by rw [hsq6]; rfl) rfl (by decide) (WL_gF rfl rfl rfl (by rw [hsq6]; rfl) rfl (by decide) (WL_gPT rfl rfl rfl (by rw [hsp6]; rfl) rfl (by decide) (Pu_pickF rfl rfl hsq6 rfl) (L9 rfl (Pu_pickF rfl rfl hsp6 rfl) (N9 ?_)))))))))))))))))))
         exact X_cut () trivial ⟨rfl,rfl,rfl,lookV_eq rfl (by rw [hbE] <;> rfl),trivial⟩ ⟨rfl,look_eq rfl (by rw [hmE,List.append_nil]),rfl,rfl,rfl,trivial⟩
      ·
       refine C9 rfl (fun hc63=>?_) (fun hc63=>?_)
       ·
        refine Q9 (R9 (G9 rfl rfl (N9 (X9 ?_))))
        refine W_ret (X_then_ret ?_)
        exact Xq9 [54,52] (Ps:=[_,_]) (res1 Tryz.results59 rfl) rfl (by decide) ⟨by rw [nodeW_badI hout hc63],by rw [nodeW_badI hout hc63]; simp⟩
       ·
        obtain ⟨h1,h2,h5⟩:=badI_good hc63
        refine K9 (X9 ?_)
        refine Q9 (Q9 (R9 (L9 rfl (F9 0 rfl rfl) (L9 rfl (Pb9 (r:=70) rfl Tryz.isAgg3 rfl rfl rfl) (L9 rfl (Pn9 rfl rfl rfl (run_eql _ _ _ _ _ _)) (N9 (X9 ?_)))))))
        refine C9 rfl (fun hc66=>?_) (fun hc66=>?_)
        ·
         have h3:(inodeV (vw ls) id).1.1=1:=of_decide_eq_true hc66
         refine Q9 (R9 (G9 rfl rfl (N9 (X9 ?_))))
         refine W_ret (X_then_ret ?_)
         exact Xq9 [54,52] (Ps:=[_,_]) (res1 Tryz.results59 rfl) rfl (by decide) ⟨by rw [nodeW_file hout h1 h2 h3],by rw [nodeW_file hout h1 h2 h3]; rw [← h5]; simp⟩
        ·
         have h3:¬ (inodeV (vw ls) id).1.1=1:=of_decide_eq_false hc66
         refine K9 (X9 ?_)
         refine Q9 ?_
         refine W_draw (N:=11) (by kernel_rfl) rfl [(0,_),(70,_),(101,_)] ⟨rfl,rfl,rfl,trivial⟩ ?_
         refine (T9 0 rfl rfl (Pm9 rfl rfl) (T9 1 rfl rfl (Pu_nilCheck rfl rfl) (T9 2 rfl rfl (F9 0 rfl rfl) (T9 3 rfl rfl (Pu_load1 (r:=0) rfl Tryz.isAgg93 rfl rfl hG0) (T9 4 rfl rfl (Px9 (r:=70) rfl Tryz.isAgg42 Tryz.sizeOf42 rfl rfl (ndC_length (inodeV_top _ _)) (load_all (ndC_length (inodeV_top _ _)))) (Y9 [5] ?_))))))
         refine Z9 rfl rfl (Oc9 200 [0,52,54,70,101] [] rfl Tryz.call56 rfl rfl rfl (by decide) (by decide) (view_folder gv ls _ (mapQ_star 0 rfl hM) (fun p0 hp0=>rs9 0 rfl (hL p0 hp0)) (ts9 0 rfl hT) (inodeV (vw ls) id).1 (inodeV_ok h1)) (fun v73 Ps73 hR73=>?_)) ?_
         ·
          obtain ⟨w73,rfl,rfl⟩:=hR73
          refine ⟨⟨rfl,rfl,rfl,trivial⟩,?_⟩
          skip
          refine (T9 6 rfl rfl (Pm9 rfl rfl) (T9 7 rfl rfl (Pe9 rfl rfl rfl) (T9 8 rfl rfl (Pe9 rfl rfl rfl) (T9 9 rfl rfl (Pg9 rfl rfl) (T9 10 rfl rfl (Pg9 rfl rfl) (Ad9 (by kernel_rfl) (X9 ?_)))))))
          refine Q9 (Q9 (R9 (M9 rfl rfl (L9 rfl (Pn9 rfl rfl rfl (run_neq _ _ _ _ _ _)) (M9 rfl rfl (Lg9 rfl rfl rfl rfl (by decide) (fun hb=>(Pm9 rfl rfl)) (Lg9 rfl rfl rfl rfl (by decide) (fun hb=>(Pl9 (r:=200) rfl Tryz.runUnderlying118 (ev_gv rfl hb) rfl rowR_rd)) (Lg9 rfl rfl rfl rfl (by decide) (fun hb=>(Pn9 rfl (ev_gv rfl hb) rfl (run_gtr _ _ _ _ _ _))) (Lg9 rfl rfl rfl rfl (by decide) (fun hb=>(Pm9 rfl (ev_gv rfl hb))) (WL_guardP2 rfl rfl rfl rfl (by decide) (fun hb=>(F9 32 rfl rfl)) (WL_guardP2 rfl rfl rfl rfl (by decide) (fun hb=>(Pb9 (r:=101) rfl Tryz.isAgg3 (ev_gv rfl hb) rfl (pl_deep hid))) (WL_guardP2 rfl rfl rfl rfl (by decide) (fun hb=>(Pn9 rfl (ev_gv rfl hb) rfl (run_geq _ _ _ _ _ _))) (Lg9 rfl rfl rfl rfl (by decide) (fun hb=>(Pu_and2 hb rfl (ev_gv rfl hb) rfl)) (L9 rfl (Pu_or rfl rfl rfl) (N9 (X9 ?_))))))))))))))))
          refine C9 rfl (fun hc87=>?_) (fun hc87=>?_)
          ·
           have h4:(dirV (vw ls) (inodeV (vw ls) id).1).2≠0∨(0 < (dirV (vw ls) (inodeV (vw ls) id).1).1.length∧5≤deep):=by simp only [Bool.or_eq_true,Bool.and_eq_true,Bool.not_eq_true',decide_eq_true_eq,decide_eq_false_iff_not] at hc87; omega
           refine Q9 (R9 (G9 rfl rfl (N9 (X9 ?_))))
           refine W_ret (X_then_ret ?_)
           exact Xq9 [54,52] (Ps:=[_,_]) (res1 Tryz.results59 rfl) rfl (by decide) ⟨by rw [nodeW_bad hout h1 h2 h3 h4],by rw [nodeW_bad hout h1 h2 h3 h4]; rw [← h5]; simp⟩
          ·
           have h4:¬ ((dirV (vw ls) (inodeV (vw ls) id).1).2≠0∨(0 < (dirV (vw ls) (inodeV (vw ls) id).1).1.length∧5≤deep)):=by simp only [Bool.or_eq_false_iff,Bool.and_eq_false_iff,Bool.not_eq_false',decide_eq_true_eq,decide_eq_false_iff_not] at hc87; omega
           have hdir:=nodeW_dir (V:=(vw ls)) (f:=f) hout h1 h2 h3 h4
           rw [← h5] at hdir
           obtain ⟨hE,hel⟩:=dirV_ents (vw ls) (inodeV (vw ls) id).1 (inodeV_ok h1)
           refine K9 (X9 ?_)
           refine Q9 (Q9 (R9 (M9 rfl rfl (L9 rfl (Pl9 (r:=200) rfl Tryz.runUnderlying118 rfl rfl rowR_rd) (M9 rfl rfl (N9 (X9 ?_)))))))
           refine W_block ?_
           refine Wt9 (P':=metP gm (ks++[id]++metI (vw ls) id++[])) 54 rfl (fun h hp=>by rw [List.append_nil]; exact hp) ?_
           refine W_loop (α:=Nat × List PK × List (List UInt8)) (fun x=>[(0,.pointer (some ⟨g,0,none⟩)),(3,.pointer (some ⟨g101,0,none⟩)),(88,w73),(89,.int .i64 ((dirV (vw ls) (inodeV (vw ls) id).1).1.length:Int)),(90,.int .i64 (x.1:Int))]) (fun x=>[(0,F),(54,metP gm (ks++[id]++metI (vw ls) id++x.2.2)),(52,wasP gw x.2.1),(101,blk g101 131 (plC (id,(deep:Int)))),(200,rowE 122 w73 (dirV (vw ls) (inodeV (vw ls) id).1).1)]) (fun x=>x.1≤(dirV (vw ls) (inodeV (vw ls) id).1).1.length∧nkids (fun x w=>nodeW (vw ls) f x (deep + 1) w) (dirV (vw ls) (inodeV (vw ls) id).1).1 (ws++[(id,(deep:Int))])=((nkids (fun x w=>nodeW (vw ls) f x (deep + 1) w) ((dirV (vw ls) (inodeV (vw ls) id).1).1.drop x.1) x.2.1).1,x.2.2++(nkids (fun x w=>nodeW (vw ls) f x (deep + 1) w) ((dirV (vw ls) (inodeV (vw ls) id).1).1.drop x.1) x.2.1).2.1,(nkids (fun x w=>nodeW (vw ls) f x (deep + 1) w) ((dirV (vw ls) (inodeV (vw ls) id).1).1.drop x.1) x.2.1).2.2)) (fun x=>(dirV (vw ls) (inodeV (vw ls) id).1).1.length - x.1) ((0,(ws++[(id,(deep:Int))]),[])) ⟨Nat.zero_le _,rfl⟩ (a9 rfl) (a9 rfl) (fun x hx=>?_)
           obtain ⟨hx,hxk⟩:=hx
           refine Q9 (R9 (L9 rfl (Pn9 rfl rfl rfl (run_lss _ _ _ _ _ _)) (N9 (X9 (Q9 ?_)))))
           refine C9 rfl (fun hc91=>?_) (fun hc91=>?_)
           ·
            have hlt:x.1 < (dirV (vw ls) (inodeV (vw ls) id).1).1.length:=by have:=of_decide_eq_true hc91; omega
            obtain ⟨xi,hxi⟩:∃ xi,xi=(dirV (vw ls) (inodeV (vw ls) id).1).1.getD x.1 ent0:=⟨_,rfl⟩
            have hxl:xi.2.length=32:=by rw [hxi]; exact hE.get hlt
            have hd5:deep < 5:=by omega
            have hat:=nkids_at (f:=(fun x w=>nodeW (vw ls) f x (deep + 1) w)) (ws:=x.2.1) hlt
            rw [← hxi] at hat
            have hks2:=hks
            have hws2:=hws
            rw [hdir] at hks2 hws2
            dsimp only at hks2 hws2
            have hbd1:x.2.2.length + (nodeW (vw ls) f xi.2 (deep + 1) x.2.1).2.1.length≤(nkids (fun x w=>nodeW (vw ls) f x (deep + 1) w) (dirV (vw ls) (inodeV (vw ls) id).1).1 (ws++[(id,(deep:Int))])).2.1.length:=by rw [hxk,hat]; split <;> simp <;> omega
            have hbd2:(ks++[id]++metI (vw ls) id++x.2.2).length + (nodeW (vw ls) f xi.2 (deep + 1) x.2.1).2.1.length≤1000000000000:=by simp only [List.length_append,List.length_cons,List.length_nil] at hks2 ⊢; omega
            have hbd3:(nodeW (vw ls) f xi.2 (deep + 1) x.2.1).1.length≤1000000000000:=by refine Nat.le_trans ?_ hws2; rw [hxk,hat]; split; exact nkids_mono (fun x w=>nodeW_mono (vw ls) f x (deep + 1) w) _ _; exact Nat.le_refl _
            refine K9 (X9 ?_)
            refine Q9 ?_
            refine W_block ?_
            refine Q9 (R9 (L9 rfl (Pi9 (r:=200) rfl Tryz.runUnderlying118 Tryz.sizeOf122 rfl rfl rfl rowR_rd (by omega)) (L9 rfl (Pz9 (r:=200) rfl Tryz.isAgg122 Tryz.sizeOf122 rfl rfl rowR_rd (entC_length (hE.get hlt)) (by decide) (ent_all hE hlt)) ?_)))
            rw [← hxi]
            refine (Lc9 rfl rfl (by decide) (OpT_alloc (r:=201) rfl (zero_run (by kernel_rfl:(Tryz.prog.info? 122).bind (·.zero)=some (.agg (entC [] zeroId).toArray))) rfl (fun g201=>(Lc09 rfl rfl (OpT_storeAll (r:=201) rfl Tryz.sizeOf122 rfl rfl rfl rfl (entC_length hxl) (entC_one _ _) ?_)))))
            refine (N9 (X9 ?_))
            refine Q9 (R9 (M9 rfl rfl (L9 rfl (F9 1 rfl rfl) (L9 rfl (Px9 (r:=201) rfl Tryz.isAgg29 Tryz.sizeOf29 rfl rfl ((bs_length _).trans hxl) (entC_id hxl)) (L9 rfl (F9 32 rfl rfl) (L9 rfl (Pb9 (r:=101) rfl Tryz.isAgg3 rfl rfl (pl_deep hid)) (L9 rfl (Pn9 rfl rfl rfl (run_add _ _ _ _ _ (by omega))) ?_)))))))
            rw [show (deep:Int) + 1=((deep + 1:Nat):Int) by omega]
            refine (L9 rfl (Pu_build (V:=.agg (plC (xi.2,((deep + 1:Nat):Int))).toArray) [(0,32),(32,1)] (plC (zeroId,0)) rfl rfl (by kernel_rfl) (by kernel_rfl) (.many rfl ((bs_length _).trans hxl) (by rw [plC_length (show okP (zeroId,0) from zeroId_length)]; decide) rfl (.one rfl rfl (by rw [pl_over hxl]; decide) rfl (.nil _))) (by rw [pl_build hxl])) (Lc9 rfl rfl (by decide) (Oc9 300 [0,101,200,201] [54,52] rfl Tryz.call59 rfl rfl rfl (by decide) (by decide) (ih (by omega) xi.2 hxl (deep + 1) (by omega) x.2.1 (ks++[id]++metI (vw ls) id++x.2.2) hbd2 hbd3 _ (cell_up 0 rfl hG0) (cell_up1 0 rfl hG1) (cell_up1 0 rfl hG2) (mapQ_star 0 rfl hM) (fun p0 hp0=>rs9 0 rfl (hL p0 hp0)) (ts9 0 rfl hT)) (fun v101 Ps101 hR101=>?_))))
            obtain ⟨rfl,rfl⟩:=hR101
            skip
            refine (L9 rfl (Pu_un rfl rfl (run_not _)) (N9 (X9 ?_)))
            refine C9 rfl (fun hc102=>?_) (fun hc102=>?_)
            ·
             have hgo:¬ (nodeW (vw ls) f xi.2 (deep + 1) x.2.1).2.2=true:=by simpa using hc102
             refine Q9 (R9 (G9 rfl rfl (N9 (X9 ?_))))
             refine W_ret (X_block_ret (X_then_ret (X_then_ret (X_block_ret (X_then_ret ?_)))))
             refine X_ren 300 54 rfl ?_
             refine X_ren 301 52 rfl ?_
             exact Xq9 [54,52] (Ps:=[_,_]) (res1 Tryz.results59 rfl) rfl (by decide) ⟨by rw [hdir,hxk,hat,if_neg hgo]; exact congrArg Value.bool (Bool.eq_false_iff.2 hgo).symm,by rw [hdir,hxk,hat,if_neg hgo]; simp⟩
            ·
             have hgo:(nodeW (vw ls) f xi.2 (deep + 1) x.2.1).2.2=true:=by simpa using hc102
             refine K9 (X_block (X9 ?_))
             refine R9 (L9 rfl (Pn9 rfl rfl rfl (run_add _ _ _ _ _ (by omega))) (M9 rfl rfl (N9 ?_)))
             refine X_ren 300 54 rfl ?_
             refine X_ren 301 52 rfl ?_
             exact Xr9 (x.1 + 1,(nodeW (vw ls) f xi.2 (deep + 1) x.2.1).1,x.2.2++(nodeW (vw ls) f xi.2 (deep + 1) x.2.1).2.1) ⟨by dsimp only; omega,by rw [hxk,hat,if_pos hgo,List.append_assoc]⟩ (by dsimp only; omega) ⟨rfl,rfl,rfl,rfl,rfl,trivial⟩ ⟨rfl,look_eq rfl (by rw [List.append_assoc]),rfl,rfl,rfl,trivial⟩
           ·
            have hge9:(dirV (vw ls) (inodeV (vw ls) id).1).1.length≤x.1:=by have:=of_decide_eq_false hc91; omega
            rw [List.drop_of_length_le hge9,nkids,List.append_nil] at hxk
            refine W_exit (X_then_exit (X_then_exit (X_block_exit (X9 ?_))))
            refine Q9 (R9 (G9 rfl rfl (N9 (X9 ?_))))
            refine W_ret ?_
            exact Xq9 [54,52] (Ps:=[_,_]) (res1 Tryz.results59 rfl) rfl (by decide) ⟨by rw [hdir,hxk],by rw [hdir,hxk]; simp⟩
         exact An9
  exact An9
theorem node_spec (g gv gm gw:Nat) (ls:List LB):∀ (f:Nat),1≤f→∀ (id:List UInt8),id.length=32→∀ (deep:Nat),deep + f=6→∀ (ws:List PK) (ks:List (List UInt8)),ks.length + (nodeW (vw ls) f id deep ws).2.1.length≤1000000000000→(nodeW (vw ls) f id deep ws).1.length≤1000000000000→∀ (F:HP),(∀ h,F h→cellH h ⟨g,0,none⟩=some (.map (some gv)))→(∀ h,F h→cellH h ⟨g,1,none⟩=some (.map (some gm)))→(∀ h,F h→cellH h ⟨g,2,none⟩=some (.map (some gw)))→(∀ h,F h→mapQ idV ok32 gv (entsL ls) none h)→(∀ p ∈ ls,∀ h,F h→rdB p.2.1 p.2.2 h)→(∀ h,F h→tabsP h)→CallsS Tryz.prog 59 #[.pointer (some ⟨g,0,none⟩),encP (id,(deep:Int))] F [metP gm ks,wasP gw ws] (fun r Ps=>r = .bool (nodeW (vw ls) f id deep ws).2.2∧Ps=[metP gm (ks++(nodeW (vw ls) f id deep ws).2.1),wasP gw (nodeW (vw ls) f id deep ws).1])
  | 0,h0=>absurd h0 (by decide)
  | f + 1,_=>fun id hid deep hdp ws ks hks hws F a b c d e i=>node_succ g gv gm gw ls F a b c d e i f (node_spec g gv gm gw ls f) id hid deep hdp ws ks hks hws
end Go.Proofs.YthkdkmaacjpneaaGreatDoor
