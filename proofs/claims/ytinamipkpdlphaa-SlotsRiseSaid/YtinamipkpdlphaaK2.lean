/- Texts of this proof, one behind the other: MapQ, Rf, SlotV, SlotW, SlotX, Sl14, U32, ShaL, Blob0, LmsL, LibC, Blob1, Blob5, Sl15, SbA, ShaR, ShaA, Weak, ShaB, ShaP, Cut, IdL, ShaQ, ShaC. -/
import Derived.Test.YtinamipkpdlphaaK1
import Derived.Maps.RangeRun
import Derived.RangeFuncLeaves
import Derived.RangeFuncSeq
import Derived.OwnWalkIn
import Derived.Laws.BitsAllLaws
import Derived.Test.YtinamipkpdlphaaProg
import Derived.Deep.AppendSrc
import Derived.Lib.AppendZerosOnto
import Derived.Deep.Upon
set_option linter.unusedVariables false
set_option linter.unusedSimpArgs false
set_option linter.unusedSectionVars false
namespace Go.Proofs.Ytinamipkpdlphaa
open Go.RowKit
section
variable {κ:Type} [DecidableEq κ]
def findG (k:κ):List (κ × Value)→Nat→Option (Nat × Value)
  | [],_=>none
  | p::es,i=>if k=p.1 then some (i,p.2) else findG k es (i + 1)
def lookQ (k:κ):List (κ × Value)→Option Value
  | []=>none
  | p::es=>if k=p.1 then some p.2 else lookQ k es
def setQ (k:κ) (v:Value):List (κ × Value)→List (κ × Value)
  | []=>[]
  | p::es=>if k=p.1 then (k,v)::es else p::setQ k v es
def delQ (k:κ):List (κ × Value)→List (κ × Value)
  | []=>[]
  | p::es=>if k=p.1 then es else p::delQ k es
theorem findG_none (k:κ):∀ (es:List (κ × Value)) (i:Nat),findG k es i=none→lookQ k es=none∧delQ k es=es∧∀ p ∈ es,k≠p.1
  | [],_,_=>⟨rfl,rfl,by simp⟩
  | p::es,i,h=>by
    rw [findG] at h
    by_cases hk:k=p.1
    · simp [hk] at h
    · rw [if_neg hk] at h
      obtain ⟨h1,h2,h3⟩:=findG_none k es (i + 1) h
      refine ⟨by rw [lookQ,if_neg hk,h1],by rw [delQ,if_neg hk,h2],fun q hq=>?_⟩
      rcases List.mem_cons.1 hq with rfl | hq
      · exact hk
      · exact h3 q hq
theorem findG_some (k:κ):∀ (es:List (κ × Value)) (i j:Nat) (v:Value),findG k es i=some (j,v)→i≤j∧lookQ k es=some v∧es[j - i]?=some (k,v)∧delQ k es=es.eraseIdx (j - i)∧∀ v',setQ k v' es=es.set (j - i) (k,v')
  | [],_,_,_,h=>by simp [findG] at h
  | p::es,i,j,v,h=>by
    rw [findG] at h
    by_cases hk:k=p.1
    · rw [if_pos hk] at h
      injection h with h
      injection h with h1 h2
      subst h1; subst h2
      refine ⟨Nat.le_refl _,by rw [lookQ,if_pos hk],?_,?_,fun v'=>?_⟩
      · rw [Nat.sub_self,List.getElem?_cons_zero,hk]
      · rw [Nat.sub_self,delQ,if_pos hk]; rfl
      · rw [Nat.sub_self,setQ,if_pos hk]; rfl
    · rw [if_neg hk] at h
      obtain ⟨h1,h2,h3,h4,h5⟩:=findG_some k es (i + 1) j v h
      have e:j - i=(j - (i + 1)) + 1:=by omega
      refine ⟨by omega,by rw [lookQ,if_neg hk,h2],?_,?_,fun v'=>?_⟩
      · rw [e,List.getElem?_cons_succ,h3]
      · rw [e,delQ,if_neg hk,h4]; rfl
      · rw [e,setQ,if_neg hk,h5 v']; rfl
structure KeyT (P:Program) (kt:TypeId) (enc:κ→Value) (ok:κ→Prop):Prop where
  check:∀ em k w,ok k→(Instr.checkKey em 10000 kt (enc k)).run P w = .ok () w
  find:∀ k w (es:List (κ × Value)) (a:List MapEntry),ok k→(∀ p ∈ es,ok p.1)→a.map (fun e=>(e.key,e.val))=es.map (fun p=>(enc p.1,p.2))→(Instr.findKey kt (enc k) a).run P w = .ok (findG k es 0) w
  inj:∀ a b,enc a=enc b→a=b
  stays:∀ k w,(Instr.keyThatStays (enc k) (enc k)).run P w = .ok (enc k) w
def kvs (enc:κ→Value) (es:List (κ × Value)):List (Value × Value):=es.map fun p=>(enc p.1,p.2)
def ekv (l:List MapEntry):List (Value × Value):=l.map fun e=>(e.key,e.val)
abbrev It (κ:Type):=Nat × List (κ × Value) × Option (κ × Value)
def mapQ (enc:κ→Value) (ok:κ→Prop) (g:Nat) (es:List (κ × Value)) (it:Option (It κ)):HP:=fun h=>(∀ p ∈ es,ok p.1)∧∃ a clk,h g=some (.map a clk)∧MapKept.Stamped a clk∧ekv a.toList=kvs enc es ∧
  match it with
  | none=>True
  | some (r,left,cur)=>∃ seen:Array Nat,h r=some (.mapIter (some g) clk seen clk)∧r≠g∧ekv (a.toList.filter fun e=>!seen.contains e.born)=kvs enc left ∧
    match cur with
    | none=>True
    | some p=>∃ (seen0:Array Nat) (e:MapEntry),e ∈ a.toList∧seen=seen0.push e.born∧(e.key,e.val)=(enc p.1,p.2)
variable {P:Program} {E:Env} {n:Nat} {K:Slots} {L:Res} {o:Oper} {C:Value→Res→Prop} {kt mt et:TypeId} {enc:κ→Value} {ok:κ→Prop}
theorem mapQ_none {g:Nat} {es:List (κ × Value)} {it:Option (It κ)} {h:Hlt} (hp:mapQ enc ok g es it h):mapQ enc ok g es none h:=by
  obtain ⟨h1,a,clk,h2,h3,h4,_⟩:=hp
  exact ⟨h1,a,clk,h2,h3,h4,trivial⟩
theorem mapQ_uncur {g r:Nat} {es left:List (κ × Value)} {cur:Option (κ × Value)} {h:Hlt} (hp:mapQ enc ok g es (some (r,left,cur)) h):mapQ enc ok g es (some (r,left,none)) h:=by
  obtain ⟨h1,a,clk,h2,h3,h4,seen,s1,s2,s3,_⟩:=hp
  exact ⟨h1,a,clk,h2,h3,h4,seen,s1,s2,s3,trivial⟩
theorem run_lookupQ (T:KeyT P kt enc ok) (hm:P.underlying mt=some (.map kt et)) {z:Value} (hz:∀ w,(zeroValue et).run P w = .ok z w)
    {g:Nat} {es:List (κ × Value)} {it:Option (It κ)} {h:Hlt} {w:World} (hp:mapQ enc ok g es it h) (hi:In h w) (k:κ) (hl:ok k) (okb:Bool) :
    (Instr.lookup mt (.map (some g)) (enc k) okb).run P w = .ok (if okb then .tuple #[(lookQ k es).getD z,.bool (lookQ k es).isSome] else (lookQ k es).getD z) w:=by
  obtain ⟨h1,a,clk,h2,_,h3,_⟩:=hp
  have hg:=hi _ _ h2
  unfold Instr.lookup
  simp only [Sem.run_bind,run_underlying hm,Result.andThen_ok,MapKept.run_getObj_map hg,Sem.run_pure,T.check _ k _ hl,T.find k w es a.toList hl h1 h3]
  cases hf:findG k es 0 with
  | none=>rw [(findG_none k es 0 hf).1]; simp [hz]
  | some jv =>
    obtain ⟨j,v⟩:=jv
    rw [(findG_some k es 0 j v hf).2.1]
    cases okb <;> simp
theorem Pu_lookupOkQ {r g:Nat} {x y:Operand} {k:κ} {es:List (κ × Value)} {it:Option (It κ)} {z:Value} (T:KeyT P kt enc ok) (ho:o.op = .lookup mt x y true) (hm:P.underlying mt=some (.map kt et)) (hz:∀ w,(zeroValue et).run P w = .ok z w)
    (hx:evK K x=some (.map (some g))) (hy:evK K y=some (enc k)) (hl:ok k) (hr:look L r=some (mapQ enc ok g es it)):Pure P E n o K L (.tuple #[(lookQ k es).getD z,.bool (lookQ k es).isSome]):=fun a w hA hS=>by
  obtain ⟨h,q1,q2⟩:=hS.read hr
  have:=run_lookupQ T hm hz q1 q2 k hl true
  simp only [if_true] at this
  simp only [execOp,ho,hA.eval hx,hA.eval hy,Sem.run_bind,this]
  rfl
theorem OpT_makeMapQ {r:Nat} (enc:κ→Value) (ok:κ→Prop) (ho:o.op = .makeMap mt none) (k:∀ g,C (.map (some g)) ((r,mapQ enc ok g [] none)::L)):OpT P E n o K L C:=fun a w Kc Q hA hS hK=>by
  have hrun:=run_makeMap (P:=P) mt w
  unfold Oper.wp execOp
  simp only [ho,Option.map_none,Sem.run_bind,hrun,Result.andThen_ok,Sem.run_pure]
  refine hK _ _ _ (k _) (hS.new r ?_ (fun g=>if g=w.heap.size then some (.map #[] 0) else none) ?_ ?_ ?_)
  · exact ⟨rfl,rfl,rfl,by simp,fun k hk _=>heap_alloc_old w _ hk⟩
  · exact ⟨fun x hx=>by simp at hx,#[],0,by simp,MapKept.stamped_empty 0,rfl,trivial⟩
  · intro g o h
    by_cases hg:g=w.heap.size
    · subst hg
      simp at h
      subst h
      exact heap_alloc_new w _
    · simp [hg] at h
  · intro g hg
    by_cases hg':g=w.heap.size
    · omega
    · simp [hg'] at hg
theorem mapQ_step {w:World} {r g:Nat} {Pm P':HP} (hS:Sat E L w) (hr:look L r=some Pm) (a':Array MapEntry) (clk':Nat) (hg:∀ h,Pm h→(h g).isSome=true)
    {a:Array MapEntry} {clk:Nat} (hw:w.heap[g]?=some (.map a clk)) (H:∀ h,Pm h→In h w→P' (fun q=>if q=g then some (.map a' clk') else h q)):Sat E ((r,P')::L) { w with heap:=w.heap.setIfInBounds g (.map a' clk') } :=
  hS.step hr fun h hp hin=>by
    obtain ⟨s1,s2⟩:=setObj_step (.map a' clk') hw
    refine ⟨[g],_,by simpa using hg h hp,s1,H h hp hin,fun q o ho=>?_,fun q hq=>?_⟩
    · by_cases hqg:q=g
      · subst hqg; simp at ho; subst ho; exact s2
      · simp [hqg] at ho
        have:=hin q o ho
        show (w.heap.setIfInBounds g _)[q]?=some o
        rw [Array.getElem?_setIfInBounds_ne (Ne.symm hqg)]
        exact this
    · by_cases hqg:q=g
      · subst hqg; exact .inl (hg h hp)
      · simp [hqg] at hq; exact .inl hq
theorem mapQ_dom {g:Nat} {es:List (κ × Value)} {it:Option (It κ)}:∀ h,mapQ enc ok g es it h→(h g).isSome=true:=fun h ⟨_,a,clk,h2,_⟩=>by simp [h2]
theorem ekv_len {a:Array MapEntry} {es:List (κ × Value)} (h:ekv a.toList=kvs enc es):a.size=es.length:=by
  have:=congrArg List.length h
  simpa [ekv,kvs] using this
theorem ekv_get {a:Array MapEntry} {es:List (κ × Value)} (h:ekv a.toList=kvs enc es) {j:Nat} {k:κ} {v:Value} (hj:es[j]?=some (k,v)):∃ e,a[j]?=some e∧e.key=enc k∧e.val=v:=by
  have h1:(kvs enc es)[j]?=some (enc k,v):=by simp [kvs,hj]
  rw [← h] at h1
  simp only [ekv,List.getElem?_map,Array.getElem?_toList] at h1
  cases ha:a[j]? with
  | none=>rw [ha] at h1; cases h1
  | some e =>
    rw [ha] at h1
    simp at h1
    exact ⟨e,rfl,h1.1,h1.2⟩
theorem OpT_mapAddQ {r g:Nat} {x y z:Operand} {k:κ} {v:Value} {es:List (κ × Value)} (T:KeyT P kt enc ok) (ho:o.op = .mapUpdate mt x y z) (hm:P.underlying mt=some (.map kt et))
    (hx:evK K x=some (.map (some g))) (hy:evK K y=some (enc k)) (hl:ok k) (hz:evK K z=some v) (hr:look L r=some (mapQ enc ok g es none)) (hno:lookQ k es=none) (hc:C undef ((r,mapQ enc ok g (es++[(k,v)]) none)::L)):OpT P E n o K L C:=fun a w Kc Q hA hS hK=>by
  obtain ⟨h,q1,q2⟩:=hS.read hr
  obtain ⟨h1,b,clk,h2,hst,h3,_⟩:=q1
  have hg:=q2 _ _ h2
  have hf:findG k es 0=none:=by
    cases hf:findG k es 0 with
    | none=>rfl
    | some jv=>rw [(findG_some k es 0 jv.1 jv.2 hf).2.1] at hno; cases hno
  have hrun:(Instr.mapUpdate mt (.map (some g)) (enc k) v).run P w = .ok () { w with heap:=w.heap.setIfInBounds g (.map (b.push { key:=enc k,val:=v,born:=clk }) (clk + 1)) }:=by
    unfold Instr.mapUpdate
    simp only [Sem.run_bind,run_underlying hm,Result.andThen_ok,MapKept.run_getObj_map hg,Sem.run_pure,T.check _ k _ hl,T.find k w es b.toList hl h1 h3,hf,MapKept.run_setObj_map _ hg]
  unfold Oper.wp execOp
  simp only [ho,hA.eval hx,hA.eval hy,hA.eval hz,Sem.run_bind,hrun,Result.andThen_ok,Sem.run_pure]
  refine hK _ _ _ hc (mapQ_step hS hr _ _ mapQ_dom hg fun h' hp' hin'=>?_)
  have hx':=(findG_none k es 0 hf).2.2
  refine ⟨?_,b.push { key:=enc k,val:=v,born:=clk },clk + 1,if_pos rfl,MapKept.stamped_push hst fun x hx=>?_,?_,trivial⟩
  · intro p hp
    rcases List.mem_append.1 hp with hp | hp
    · exact h1 p hp
    · rw [List.mem_singleton.1 hp]; exact hl
  · intro hke
    have:(x.key,x.val) ∈ kvs enc es:=by rw [← h3]; exact List.mem_map.2 ⟨x,hx,rfl⟩
    obtain ⟨p,hp,hpe⟩:=List.mem_map.1 this
    injection hpe with e1 e2
    exact hx' p hp (T.inj _ _ (by rw [e1,hke]))
  · simp only [ekv,kvs,Array.toList_push,List.map_append,List.map_cons,List.map_nil]
    exact congrArg (·++[(enc k,v)]) h3
theorem map_modify_set {α β:Type} (f:α→β) (m:α→α) (b:β):∀ (l:List α) (i:Nat),(∀ x,f (m x)=b)→(l.modify i m).map f=(l.map f).set i b
  | [],i,_=>by simp
  | x::l,0,hb=>by simp [hb]
  | x::l,i + 1,hb=>by simp [map_modify_set f m b l i hb]
theorem OpT_mapSetQ {r g:Nat} {x y z:Operand} {k:κ} {v:Value} {es:List (κ × Value)} (T:KeyT P kt enc ok) (ho:o.op = .mapUpdate mt x y z) (hm:P.underlying mt=some (.map kt et))
    (hx:evK K x=some (.map (some g))) (hy:evK K y=some (enc k)) (hl:ok k) (hz:evK K z=some v) (hr:look L r=some (mapQ enc ok g es none)) (hno:(lookQ k es).isSome=true) (hc:C undef ((r,mapQ enc ok g (setQ k v es) none)::L)):OpT P E n o K L C:=fun a w Kc Q hA hS hK=>by
  obtain ⟨h,q1,q2⟩:=hS.read hr
  obtain ⟨h1,b,clk,h2,hst,h3,_⟩:=q1
  have hg:=q2 _ _ h2
  cases hf:findG k es 0 with
  | none=>rw [(findG_none k es 0 hf).1] at hno; cases hno
  | some jv =>
    obtain ⟨j,u⟩:=jv
    obtain ⟨_,_,f3,_,f5⟩:=findG_some k es 0 j u hf
    rw [Nat.sub_zero] at f3
    have f5:=f5 v
    rw [Nat.sub_zero] at f5
    obtain ⟨e,he,hek,hev⟩:=ekv_get h3 f3
    have hrun:(Instr.mapUpdate mt (.map (some g)) (enc k) v).run P w = .ok () { w with heap:=w.heap.setIfInBounds g (.map (b.modify j fun e=>{ e with key:=enc k,val:=v }) clk) }:=by
      unfold Instr.mapUpdate
      simp only [Sem.run_bind,run_underlying hm,Result.andThen_ok,MapKept.run_getObj_map hg,Sem.run_pure,T.check _ k _ hl,T.find k w es b.toList hl h1 h3,hf,he,Option.map_some,Option.getD_some,hek,T.stays,MapKept.run_setObj_map _ hg]
    unfold Oper.wp execOp
    simp only [ho,hA.eval hx,hA.eval hy,hA.eval hz,Sem.run_bind,hrun,Result.andThen_ok,Sem.run_pure]
    refine hK _ _ _ hc (mapQ_step hS hr _ _ mapQ_dom hg fun h' hp' hin'=>?_)
    refine ⟨?_,b.modify j fun e=>{ e with key:=enc k,val:=v },clk,if_pos rfl,MapKept.stamped_modify hst j _ (fun _ _=>rfl) (fun x hx hj=>?_),?_,trivial⟩
    · rw [f5]
      intro p hp
      rcases List.mem_or_eq_of_mem_set hp with hp | hp
      · exact h1 p hp
      · rw [hp]; exact hl
    · rw [he] at hj; injection hj with hj; rw [← hj]; exact hek.symm
    · rw [f5]
      simp only [ekv,kvs,Array.toList_modify,List.map_set]
      rw [map_modify_set (fun e:MapEntry=>(e.key,e.val)) (fun e:MapEntry=>{ e with key:=enc k,val:=v }) (enc k,v) _ _ (fun x=>rfl)]
      exact congrArg (fun l=>List.set l j (enc k,v)) h3
theorem OpT_rangeQ {r g:Nat} {x:Operand} {es:List (κ × Value)} (ho:o.op = .range mt x) (hm:P.underlying mt=some (.map kt et)) (hx:evK K x=some (.map (some g))) (hr:look L r=some (mapQ enc ok g es none))
    (hc:∀ i,C (.pointer (some ⟨i,0,none⟩)) ((r,mapQ enc ok g es (some (i,es,none)))::L)):OpT P E n o K L C:=fun a w Kc Q hA hS hK=>by
  obtain ⟨h,q1,q2⟩:=hS.read hr
  obtain ⟨h1,b,clk,h2,hst,h3,_⟩:=q1
  have hg:=q2 _ _ h2
  have hrun:=run_range_map w mt kt et g b clk hm hg
  unfold Oper.wp execOp
  simp only [ho,hA.eval hx,Sem.run_bind,hrun,Result.andThen_ok,Sem.run_pure]
  refine hK _ _ _ (hc _) (hS.step hr fun h' hp' hin'=>?_)
  have hlt:=lt_of_heap hg
  obtain ⟨_,a2,clk2,i2,_,_,_⟩:=hp'
  have:=hin' _ _ i2
  rw [hg] at this
  injection this with this
  injection this with this1 this2
  subst this1; subst this2
  refine ⟨[],fun q=>if q=w.heap.size then some (.mapIter (some g) clk #[] clk) else h' q,by simp,⟨rfl,rfl,rfl,by simp,fun k hk _=>heap_alloc_old w _ hk⟩,?_,fun q o ho=>?_,fun q hq=>?_⟩
  · refine ⟨h1,b,clk,by simp [i2,Nat.ne_of_lt hlt],hst,h3,#[],by simp,by omega,?_,trivial⟩
    rw [List.filter_eq_self.2 (by simp)]
    exact h3
  · by_cases hq:q=w.heap.size
    · subst hq; simp at ho; subst ho; exact heap_alloc_new w _
    · simp [hq] at ho
      have:=hin' q o ho
      rw [heap_alloc_old w _ (lt_of_heap this)]
      exact this
  · by_cases hq':q=w.heap.size
    · exact .inr (by omega)
    · simp [hq'] at hq; exact .inl hq
theorem OpT_nextQ {r g i:Nat} {x:Operand} {es left:List (κ × Value)} {cur:Option (κ × Value)} (T:KeyT P kt enc ok) (ho:o.op = .next x false) (hx:evK K x=some (.pointer (some ⟨i,0,none⟩))) (hr:look L r=some (mapQ enc ok g es (some (i,left,cur))))
    (hend:left=[]→C (.tuple #[.bool false]) L) (hmore:∀ p l',p ∈ es→left.Perm (p::l')→C (.tuple #[.bool true,enc p.1,p.2]) ((r,mapQ enc ok g es (some (i,l',some p)))::L)):OpT P E n o K L C:=fun a w Kc Q hA hS hK=>by
  obtain ⟨h,q1,q2⟩:=hS.read hr
  obtain ⟨h1,b,clk,h2,hst,h3,seen,s1,s2,s3,_⟩:=q1
  have hg:=q2 _ _ h2
  have hi:=q2 _ _ s1
  rcases run_next_at (P:=P) w o.type i g clk clk seen b clk hi hg hst.1 (Nat.le_refl _) with ⟨h0,hrun⟩ | ⟨e,he,w1,hw1,hrun⟩
  · unfold Oper.wp execOp
    simp only [ho,hA.eval hx,Sem.run_bind,hrun,Result.andThen_ok,Sem.run_pure]
    refine hK _ _ _ (hend ?_) hS
    have:(b.toList.filter fun e=>!seen.contains e.born)=[]:=by
      unfold leftOf at h0
      have h0:(b.filter fun e=>!seen.contains e.born).toList.length=0:=by simpa using h0
      rw [Array.toList_filter] at h0
      exact List.length_eq_zero_iff.1 h0
    rw [this] at s3
    simp [ekv,kvs] at s3
    exact s3.symm ▸ rfl
  · have hel:e ∈ b.toList.filter fun e=>!seen.contains e.born:=by
      unfold leftOf at he
      rw [Array.toList_filter] at he
      exact he
    obtain ⟨l1,l2,hl⟩:=List.append_of_mem hel
    have hmem:=List.mem_filter.1 hel
    -- what is to come
    have hk:kvs enc left=ekv l1++(e.key,e.val)::ekv l2:=by rw [← s3,hl]; simp [ekv]
    obtain ⟨p1,p2,hp12,hp1,hp2⟩:=List.map_eq_append_iff.1 (show left.map (fun p=>(enc p.1,p.2))=ekv l1++(e.key,e.val)::ekv l2 from hk)
    obtain ⟨p,p3,hp3,hpe,hp4⟩:=List.map_eq_cons_iff.1 hp2
    subst hp3; subst hp12
    injection hpe with hpk hpv
    have hpes:∃ q ∈ es,enc q.1=e.key∧q.2=e.val:=by
      have:(e.key,e.val) ∈ kvs enc es:=by rw [← h3]; exact List.mem_map.2 ⟨e,hmem.1,rfl⟩
      obtain ⟨q,hq,hqe⟩:=List.mem_map.1 this
      injection hqe with e1 e2
      exact ⟨q,hq,e1,e2⟩
    have hfl:(b.toList.filter fun x=>!(seen.push e.born).contains x.born)=l1++l2:=by
      have hnd:(l1++e::l2).Pairwise (fun x y=>x.born≠y.born):=by
        rw [← hl]
        have:=hst.2.1
        rw [List.Nodup,List.pairwise_map] at this
        exact this.sublist List.filter_sublist
      have hff:(b.toList.filter fun x=>!(seen.push e.born).contains x.born)=(b.toList.filter fun e=>!seen.contains e.born).filter fun x=>!(x.born == e.born):=by
        rw [List.filter_filter]
        refine List.filter_congr fun x hx=>?_
        rw [contains_push]
        cases seen.contains x.born <;> cases x.born == e.born <;> rfl
      rw [hff,hl]
      rw [List.pairwise_append] at hnd
      obtain ⟨_,n2,n3⟩:=hnd
      have n2:=(List.pairwise_cons.1 n2).1
      rw [List.filter_append,List.filter_cons,List.filter_eq_self.2 (fun x hx=>by simpa using n3 x hx e (by simp)),List.filter_eq_self.2 (fun x hx=>by simpa using Ne.symm (n2 x hx))]
      simp
    unfold Oper.wp execOp
    simp only [ho,hA.eval hx,Sem.run_bind,hrun,Result.andThen_ok,Sem.run_pure]
    obtain ⟨q,hq1,hq2,hq3⟩:=hpes
    rw [← hpk,← hpv]
    have hpin:p ∈ es:=by
      have e1:=T.inj q.1 p.1 (by rw [hq2,hpk])
      have e2:q=p:=Prod.ext e1 (by rw [hq3,hpv])
      exact e2 ▸ hq1
    refine hK _ _ _ (hmore p (p1++p3) hpin List.perm_middle) (hS.step hr fun h' hp' hin'=>?_)
    obtain ⟨_,a2,clk2,i2,_,_,seen',i4,_⟩:=hp'
    have e2:=hin' _ _ i2
    have e3:=hin' _ _ i4
    rw [hg] at e2
    injection e2 with e2
    injection e2 with e21 e22
    subst e21; subst e22
    rw [hi] at e3
    injection e3 with e3
    injection e3 with _ _ e31 _
    subst e31
    have hi1:w1.heap[i]?=some (.mapIter (some g) clk seen clk):=by rcases hw1 with rfl | rfl <;> exact hi
    have hset:=MapKept.heap_set (o':=.mapIter (some g) clk (seen.push e.born) clk) hi1
    refine ⟨[i],fun q=>if q=i then some (.mapIter (some g) clk (seen.push e.born) clk) else h' q,by simp [i4],?_,?_,fun q o ho=>?_,fun q hq=>?_⟩
    · rcases hw1 with rfl | rfl
      · exact ⟨rfl,rfl,rfl,by simp [ChangeMaps.setBlock],fun k hk hkn=>hset.2 k (by simpa using hkn)⟩
      · exact ⟨rfl,rfl,rfl,by simp [ChangeMaps.setBlock],fun k hk hkn=>hset.2 k (by simpa using hkn)⟩
    · refine ⟨h1,b,clk,by simp [Ne.symm s2,i2],hst,h3,seen.push e.born,by simp,s2,?_,seen,e,hmem.1,rfl,by rw [hpk,hpv]⟩
      rw [hfl]
      show ekv (l1++l2)=kvs enc (p1++p3)
      rw [show kvs enc (p1++p3)=kvs enc p1++kvs enc p3 from List.map_append,show kvs enc p1=ekv l1 from hp1,show kvs enc p3=ekv l2 from hp4]
      exact List.map_append
    · by_cases hq:q=i
      · subst hq; simp at ho; subst ho; exact hset.1
      · simp [hq] at ho
        have:=hin' q o ho
        have hw1q:w1.heap[q]?=some o:=by rcases hw1 with rfl | rfl <;> exact this
        exact (hset.2 q hq).trans hw1q
    · by_cases hqi:q=i
      · subst hqi; exact .inl (by simp [i4])
      · simp [hqi] at hq; exact .inl hq
theorem Pu_entryQ {r g i:Nat} {x:Operand} {es left:List (κ × Value)} {p:κ × Value} (ho:o.op = .entry x) (hx:evK K x=some (.pointer (some ⟨i,0,none⟩))) (hr:look L r=some (mapQ enc ok g es (some (i,left,some p)))):Pure P E n o K L (.tuple #[enc p.1,p.2]):=fun a w hA hS=>by
  obtain ⟨h,q1,q2⟩:=hS.read hr
  obtain ⟨h1,b,clk,h2,hst,h3,seen,s1,s2,s3,seen0,e,he,hse,hep⟩:=q1
  subst hse
  have hrun:=run_entry_at (P:=P) w i g clk seen0 b clk e (q2 _ _ s1) (q2 _ _ h2) he hst.2.1
  injection hep with e1 e2
  simp only [execOp,ho,hA.eval hx,Sem.run_bind,hrun]
  rw [e1,e2]
  rfl
end
section
variable {P:Program} {kt bt:TypeId}
theorem findI_findG (k:List UInt8):∀ (es:List (List UInt8 × Value)) (i:Nat),findI k es i=findG k es i
  | [],_=>rfl
  | p::es,i=>by
    rw [findI,findG,findI_findG k es (i + 1)]
    by_cases h:k=p.1 <;> simp [h]
theorem idV_inj (a b:List UInt8) (h:idV a=idV b):a=b:=by
  unfold idV at h
  injection h with h
  have h:a.map bv=b.map bv:=by simpa [bs] using h
  refine List.map_inj_right (f:=bv) (fun x y hxy=>?_) |>.1 h
  unfold bv at hxy
  injection hxy with _ hxy
  exact UInt8.toNat_inj.1 (by omega)
theorem keyT_id (hk:P.underlying kt=some (.array 32 bt)) (hb:P.underlying bt=some (.int .u8)) (hsz:∀ w,(sizeOf bt).run P w = .ok 1 w):KeyT P kt idV (fun k=>k.length=32) where
  check em k w h:=run_checkId hk hb hsz em k h w
  find k w es a hl ho ha:=by
    rw [← findI_findG]
    exact run_findKeyId hk hb hsz k hl w es a (fun x hx=>by obtain ⟨p,hp,rfl⟩:=List.mem_map.1 hx; exact ho p hp) ha
  inj:=idV_inj
  stays k w:=by
    have:Instr.sameBits 10000 (idV k) (idV k)=true:=by
      rw [show (10000:Nat)=9999 + 1 from rfl,idV,Instr.sameBits]
      simp only [beq_self_eq_true,Bool.true_and,List.all_eq_true]
      intro p hp
      obtain ⟨x,y⟩:=p
      have hxy:=List.of_mem_zip hp
      have he:∀ (l:List Value) (p:Value × Value),p ∈ l.zip l→p.1=p.2:=by
        intro l
        induction l with
        | nil=>intro p hp; simp at hp
        | cons u l ih =>
          intro p hp
          rw [List.zip_cons_cons] at hp
          rcases List.mem_cons.1 hp with rfl | hp
          · rfl
          · exact ih p hp
      have:=he _ _ hp
      simp only at this
      subst this
      have:x ∈ bs k:=by simpa using hxy.1
      obtain ⟨u,hu,rfl⟩:=List.mem_map.1 this
      simp [bv,Instr.sameBits]
    simp [Instr.keyThatStays,this]
end
theorem evL_all {K:Slots} {a:Act} {n:Nat} (hA:Agr n K a):∀ {xs:List Operand} {vs:List Value},evL K xs=some vs→xs.map a.eval=vs
  | [],vs,h=>by simp [evL] at h; subst h; rfl
  | x::xs,vs,h=>by
    rw [evL] at h
    cases hx:evK K x with
    | none=>simp [hx] at h
    | some v =>
      cases hl:evL K xs with
      | none=>simp [hx,hl] at h
      | some l =>
        simp [hx,hl] at h
        subst h
        rw [List.map_cons,hA.eval hx,evL_all hA hl]
theorem Pu_makeFunc {P:Program} {E:Env} {n:Nat} {K:Slots} {L:Res} {o:Oper} {f:FuncId} {xs:List Operand} {vs:List Value} (ho:o.op = .makeFunc (.func f) #[] xs.toArray) (hx:evL K xs=some vs):Pure P E n o K L (.func (.func f) #[] vs.toArray):=fun a w hA hS=>by
  have:=evL_all hA hx
  simp only [execOp,ho]
  simp [this,Sem.run_bind,Instr.makeFunc,Result.andThen]
open Go.RowKit
def wideR (ro:Option Nat):Fence:={ Fence.wide with round:=ro }
theorem callsIn_wideR {ro:Option Nat} {m:Nat} {P:Program} {f:FuncId} {args:Array Value} {w:World} {R:Ending→World→Prop} (h:Calls P f args w R):CallsIn (wideR ro) m P f args w R:=callsIn_wide.2 h
theorem wpIn_of_wp {ro:Option Nat} {m:Nat} {P:Program} {o:Oper} {a:Act} {w:World} {next:Act→World→Prop} {Q:Exit→Act→World→Prop} (hnd:∀ c,o.op≠.defer c) (h:o.wp P a w next Q):o.wpIn (wideR ro) m P a w next Q:=by
  refine ⟨fun _ _=>trivial,?_⟩
  have hs:o.semAt (wideR ro).round a.eval=execOp a.eval o:=Oper.semAt_plain (wideR ro) _ _ hnd
  rw [hs]
  unfold Oper.wp at h
  generalize (execOp a.eval o).run P w=res at h ⊢
  cases res with
  | ok x w' =>
    cases x with
    | value v=>exact h
    | skip=>exact h
    | defer d=>exact h
    | enter f args=>exact ⟨fun hd=>by simp [wideR,Fence.wide] at hd,callsIn_wideR h⟩
    | row r args=>exact ⟨fun hd=>by simp [wideR,Fence.wide] at hd,fun c cs _=>let ⟨v,w',q,s⟩:=h c cs; ⟨v,w',q,stepsIn_wide.2 s⟩⟩
    | _=>exact h.elim
  | halt x w' =>
    cases x with
    | panic v=>exact h
    | _=>exact h.elim
section
variable (P:Program) (E:Env) (n:Nat) (ro:Option Nat)
def WLI (ops:Array Oper) (l:List Oper) (K:Slots) (L:Res) (Q:Exit→Act→World→Prop):Prop:=∀ a w,Agr n K a→Sat E L w→wpListIn (wideR ro) 0 P ops Q l a w
def WI (c:Code) (K:Slots) (L:Res) (Q:Exit→Act→World→Prop):Prop:=∀ a w,Agr n K a→Sat E L w→c.wpIn (wideR ro) 0 P Q a w
end
section
variable {P:Program} {E:Env} {n:Nat} {ro:Option Nat} {K:Slots} {L:Res} {Q:Exit→Act→World→Prop} {ops:Array Oper} {o:Oper} {rest:List Oper} {c:Code}
theorem WLI_nil (h:X E n Q .normal K L):WLI P E n ro ops [] K L Q:=h
theorem WLI_cons {d:Nat} (hnd:∀ c,o.op≠.defer c) (hg:o.guard=none) (hd:o.dst=some d) (hn:d < n) (h:OpT P E n o K L (fun v L'=>WLI P E n ro ops rest ((d,v)::K) L' Q)):WLI P E n ro ops (o::rest) K L Q :=
  fun a w hA hS=>wpListIn_plain hg fun Kc hK=>wpIn_of_wp hnd (h a w Kc Q hA hS fun v L' w' hC hS'=>hK _ _ (by rw [hd]; exact hC _ _ (hA.put hn v) hS'))
theorem WLI_cons0 (hnd:∀ c,o.op≠.defer c) (hg:o.guard=none) (hd:o.dst=none) (h:OpT P E n o K L (fun _ L'=>WLI P E n ro ops rest K L' Q)):WLI P E n ro ops (o::rest) K L Q :=
  fun a w hA hS=>wpListIn_plain hg fun Kc hK=>wpIn_of_wp hnd (h a w Kc Q hA hS fun v L' w' hC hS'=>hK _ _ (by rw [hd]; exact hC _ _ hA hS'))
theorem WI_regL {id:Nat} {l:List Oper} (h:WLI P E n ro l.toArray l K L Q):WI P E n ro (.region id l.toArray false) K L Q:=fun a w hA hS=>wpIn_region_lit (h a w hA hS)
theorem WLI_fact {r:Nat} {Pr:HP} {φ:Prop} {l:List Oper} (hr:look L r=some Pr) (hp:∀ h,Pr h→φ) (k:φ→WLI P E n ro ops l K L Q):WLI P E n ro ops l K L Q:=fun a w hA hS=>k (hS.get hr hp) a w hA hS
theorem WI_open {α:Type} {φ:α→Prop} {Ps:α→List HP} (r b:Nat) {Pr:HP} (hr:look L r=some Pr) (hp:∀ h,Pr h→∃ x,φ x∧starL (Ps x) h) (k:∀ x,φ x→WI P E n ro c K (En b (Ps x)++(r,emp)::L) Q):WI P E n ro c K L Q:=fun a w hA hS=>by
  obtain ⟨x,hS2⟩:=hS.ex hr (Q:=fun x h=>φ x∧starL (Ps x) h) hp
  have hx:=hS2.get (look_same _ _ _) fun h hp=>hp.1
  have hS3:=hS2.split (b:=b) (Ps:=Ps x) (look_same _ _ _) fun h hp=>hp.2
  refine k x hx a w hA (hS3.sub fun r' P' h=>?_)
  rw [look_append] at h ⊢
  cases hl:look (En b (Ps x)) r' with
  | some X=>rw [hl] at h; exact h
  | none =>
    rw [hl] at h
    simp only [Option.none_or] at h ⊢
    by_cases hrr:r=r'
    · subst hrr; rw [look_same] at h ⊢; exact h
    · rw [look_other hrr] at h; rw [look_other hrr,look_other hrr]; exact h
theorem WI_block {id:Nat} (h:WI P E n ro c K L (Exit.inBlock id Q)):WI P E n ro (.block id c) K L Q:=fun a w hA hS=>wpIn_block (h a w hA hS)
theorem W_of_WI (h:WI P E n none c K L Q):W P E n c K L Q:=fun a w hA hS=>wpIn_wide.1 (h a w hA hS)
def RoundS (P:Program) {α:Type} (l:Nat) (enc:α→Value) (G:List α→HP) (N:Nat):Prop :=
  ∀ (E:Env) (F:HP) (pre:List α) (x:α) (w:World),pre.length < N→Sat E (En 0 [F,G pre]) w→YieldAt Fence.wide 0 P l #[enc x] w fun e w'=>e = .returned (.bool true)∧Sat E (En 0 [F,G (pre++[x])]) w'
theorem WLI_yield {α:Type} {l d N:Nat} {enc:α→Value} {G:List α→HP} (hround:RoundS P l enc G N) {pre:List α} {x:α} {X Y:Operand} {ts:Array TypeId} (hlen:pre.length < N)
    (hop:o.op = .call { callee:=.value X,args:=#[Y],argTypes:=ts }) (hX:evK K X=some (.func (.yield l) #[] #[])) (hY:evK K Y=some (enc x)) (hg:o.guard=none) (hd:o.dst=some d) (hn:d < n)
    (J:List Nat) {Js:List HP} (r b:Nat) (hJ:lookL L J=some Js) (hr:look L r=some (G pre)) (hnd:(J++[r]).Nodup) (hb:∀ j ∈ J,j < b)
    (k:WLI P E n none ops rest ((d,.bool true)::K) (En b [G (pre++[x])]++zipR J Js) Q):WLI P E n none ops (o::rest) K L Q:=fun a w hA hS=>wpListIn_plain hg fun Kc hK=>by
  have hS2:=hS.pack (.of hJ) (C:=[r]) (Cs:=[G pre]) ⟨hr,trivial⟩ hnd
  obtain ⟨fn,tmps,assign,body,hy,hR⟩:=hround E (starL Js) pre x w hlen hS2
  refine ⟨fun _ _=>trivial,?_⟩
  have hs:o.semAt (wideR none).round a.eval=execOp a.eval o:=rfl
  have hrun:(execOp a.eval o).run P w = .ok (.round l fn tmps assign body) w:=by
    simp [execOp,hop,resolve,hA.eval hX,hA.eval hY,invoke,Deferred.ofValue,Result.andThen,hy]
  rw [hs,hrun]
  refine ⟨fun hd=>by simp [wideR,Fence.wide] at hd,RoundIn.mono hR ?_⟩
  rintro e w' ⟨rfl,hS'⟩
  refine hK _ _ ?_
  rw [hd]
  exact k _ _ (hA.put hn _) (hS'.unpack b (by rw [List.nodup_append] at hnd; exact hnd.1) hb)
end
def objP (g:Nat) (o:Obj):HP:=fun h=>h g=some o
theorem Sat.obj {E:Env} {L:Res} {w:World} {r g:Nat} {o:Obj} (hS:Sat E L w) (hr:look L r=some (objP g o)):w.heap[g]?=some o:=by
  obtain ⟨h,q1,q2⟩:=hS.read hr
  exact q2 _ _ q1
theorem Sat.put {E:Env} {L:Res} {w:World} {r g:Nat} {o:Obj} (hS:Sat E L w) (hr:look L r=some (objP g o)) (o':Obj):Sat E ((r,objP g o')::L) (w.putObj g o') :=
  hS.step hr fun h hp hin=>by
    have hlt:=lt_of_heap (hin _ _ hp)
    refine ⟨[g],single g o',by simp [show h g=some o from hp],⟨rfl,rfl,rfl,by simp [World.putObj],fun k hk hm=>World.putObj_heap_other (by simpa using hm)⟩,single_same _ _,single_in (World.putObj_heap_same hlt),fun q hq=>.inl ?_⟩
    rw [single_dom hq,show h g=some o from hp]; rfl
theorem Sat.newObj {E:Env} {L:Res} {w:World} (hS:Sat E L w) (r:Nat) (o:Obj):Sat E ((r,objP w.heap.size o)::L) (w.alloc o) :=
  hS.new r ⟨rfl,rfl,rfl,by simp,fun k hk _=>heap_alloc_old w _ hk⟩ (single w.heap.size o) (single_same _ _) (single_in (heap_alloc_new w o)) (fun q hq=>by rw [single_dom hq]; exact Nat.le_refl _)
theorem LookAll.same {L L':Res}:∀ {J:List Nat} {Js:List HP},LookAll L J Js→(∀ j ∈ J,look L' j=look L j)→LookAll L' J Js
  | [],[],_,_=>trivial
  | [],_::_,h,_=>h
  | _::_,[],h,_=>h
  | j::J,P::Js,h,hs=>⟨(hs j (by simp)).trans h.1,h.2.same fun j' hj=>hs j' (by simp [hj])⟩
theorem LookAll.append {L:Res}:∀ {J J':List Nat} {Js Js':List HP},LookAll L J Js→LookAll L J' Js'→LookAll L (J++J') (Js++Js')
  | [],_,[],_,_,h=>h
  | [],_,_::_,_,h,_=>h.elim
  | _::_,_,[],_,h,_=>h.elim
  | j::J,_,P::Js,_,h,h'=>⟨h.1,h.2.append h'⟩
def AgrD (ds:List Deferred) (n:Nat) (K:Slots) (a:Act):Prop:=a.defers=ds∧a.tmps.size=n∧∀ k v,look K k=some v→a.tmps[k]?=some v
theorem AgrD.clear {ds:List Deferred} {n:Nat} {K:Slots} {a:Act} (h:AgrD ds n K a):Agr n K { a with defers:=[] }:=⟨rfl,h.2.1,h.2.2⟩
theorem AgrD.put {ds:List Deferred} {n:Nat} {K:Slots} {a:Act} (h:AgrD ds n K a) {d:Nat} (hd:d < n) (v:Value):AgrD ds n ((d,v)::K) (a.put (some d) v):=by
  have:=h.clear.put hd v
  exact ⟨h.1,this.2.1,this.2.2⟩
section
variable (P:Program) (E:Env) (n:Nat) (ds:List Deferred)
def WD (c:Code) (K:Slots) (L:Res) (Q:Exit→Act→World→Prop):Prop:=∀ a w,AgrD ds n K a→Sat E L w→Code.wp P c Q a w
def WLD (ops:Array Oper) (l:List Oper) (K:Slots) (L:Res) (Q:Exit→Act→World→Prop):Prop:=∀ a w,AgrD ds n K a→Sat E L w→wpList P ops Q l a w
def XD (Q:Exit→Act→World→Prop) (e:Exit) (K:Slots) (L:Res):Prop:=∀ a w,AgrD ds n K a→Sat E L w→Q e a w
end
section
variable {P:Program} {E:Env} {n:Nat} {ds:List Deferred} {K K':Slots} {L L':Res} {Q:Exit→Act→World→Prop} {ops:Array Oper} {o:Oper} {rest:List Oper} {c x y:Code}
theorem WD_seq (h:WD P E n ds x K L (Exit.then (y.wp P Q) Q)):WD P E n ds (.seq x y) K L Q:=fun a w hA hS=>wp_seq (h a w hA hS)
theorem XD_then (h:WD P E n ds y K L Q):XD E n ds (Exit.then (y.wp P Q) Q) .normal K L:=h
theorem XD_block {id:Nat} (h:XD E n ds Q .normal K L):XD E n ds (Exit.inBlock id Q) .normal K L:=h
theorem WD_ret (h:XD E n ds Q .ret K L):WD P E n ds .ret K L Q:=fun a w hA hS=>wp_ret (h a w hA hS)
theorem Dr9 {id:Nat} {l:List Oper} (h:WLD P E n ds l.toArray l K L Q):WD P E n ds (.region id l.toArray false) K L Q:=fun a w hA hS=>wp_region_lit (h a w hA hS)
theorem WLD_nil (h:XD E n ds Q .normal K L):WLD P E n ds ops [] K L Q:=h
theorem Dp9 {d:Nat} {v:Value} (hg:o.guard=none) (hd:o.dst=some d) (hn:d < n) (h:Pure P E n o K L v) (k:WLD P E n ds ops rest ((d,v)::K) L Q):WLD P E n ds ops (o::rest) K L Q :=
  fun a w hA hS=>wpList_plain hg fun Kc hK=>by
    have hev:({ a with defers:=[] }:Act).eval=a.eval:=by funext x; cases x <;> rfl
    have hrun:(execOp a.eval o).run P w = .ok (.value v) w:=by rw [← hev]; exact h { a with defers:=[] } w hA.clear hS
    unfold Oper.wp
    rw [hrun]
    exact hK _ _ (by rw [hd]; exact k _ _ (hA.put hn v) hS)
theorem WD.pre (h:WD P E n ds c K' L' Q) (hK:AllIn K K') (hL:AllIn L L'):WD P E n ds c K L Q:=fun a w hA hS=>h a w ⟨hA.1,hA.2.1,fun k v hk=>hA.2.2 k v (hK.look k v hk)⟩ (hS.sub hL.look)
end
theorem WD_open {P:Program} {E:Env} {n:Nat} {ds:List Deferred} {K:Slots} {L:Res} {Q:Exit→Act→World→Prop} {c:Code} {α:Type} {φ:α→Prop} {Ps:α→List HP} (r b:Nat) {Pr:HP} (hr:look L r=some Pr) (hp:∀ h,Pr h→∃ x,φ x∧starL (Ps x) h) (k:∀ x,φ x→WD P E n ds c K (En b (Ps x)++(r,emp)::L) Q):WD P E n ds c K L Q:=fun a w hA hS=>by
  obtain ⟨x,hS2⟩:=hS.ex hr (Q:=fun x h=>φ x∧starL (Ps x) h) hp
  have hx:=hS2.get (look_same _ _ _) fun h hp=>hp.1
  have hS3:=hS2.split (b:=b) (Ps:=Ps x) (look_same _ _ _) fun h hp=>hp.2
  refine k x hx a w hA (hS3.sub fun r' P' h=>?_)
  rw [look_append] at h ⊢
  cases hl:look (En b (Ps x)) r' with
  | some X=>rw [hl] at h; exact h
  | none =>
    rw [hl] at h
    simp only [Option.none_or] at h ⊢
    by_cases hrr:r=r'
    · subst hrr; rw [look_same] at h ⊢; exact h
    · rw [look_other hrr] at h; rw [look_other hrr,look_other hrr]; exact h
theorem res1D {P:Program} {E:Env} {n:Nat} {ds:List Deferred} {K:Slots} {L:Res} {fn:Func} {t D:Nat} {v:Value} (hr:fn.results = #[.tmp t]) (hv:look K t=some v):∀ a w,AgrD ds n K a→Sat E L w→(results fn a.tmps).run P (w.putObj D (.deferred none)) = .ok v (w.putObj D (.deferred none)):=fun a w hA _=>by
  simp [results,hr,hA.2.2 t v hv]
theorem W_open {P:Program} {E:Env} {n:Nat} {K:Slots} {L:Res} {Q:Exit→Act→World→Prop} {c:Code} {α:Type} {φ:α→Prop} {Ps:α→List HP} (r b:Nat) {Pr:HP} (hr:look L r=some Pr) (hp:∀ h,Pr h→∃ x,φ x∧starL (Ps x) h) (k:∀ x,φ x→W P E n c K (En b (Ps x)++(r,emp)::L) Q):W P E n c K L Q:=fun a w hA hS=>by
  obtain ⟨x,hS2⟩:=hS.ex hr (Q:=fun x h=>φ x∧starL (Ps x) h) hp
  have hx:=hS2.get (look_same _ _ _) fun h hp=>hp.1
  have hS3:=hS2.split (b:=b) (Ps:=Ps x) (look_same _ _ _) fun h hp=>hp.2
  refine k x hx a w hA (hS3.sub fun r' P' h=>?_)
  rw [look_append] at h ⊢
  cases hl:look (En b (Ps x)) r' with
  | some X=>rw [hl] at h; exact h
  | none =>
    rw [hl] at h
    simp only [Option.none_or] at h ⊢
    by_cases hrr:r=r'
    · subst hrr; rw [look_same] at h ⊢; exact h
    · rw [look_other hrr] at h; rw [look_other hrr,look_other hrr]; exact h
theorem XD_retM {P:Program} {E:Env} {n:Nat} {K:Slots} {L:Res} {fn:Func} {F:HP} {R:Value→List HP→Prop} {D r:Nat} {v:Value} {Ps:List HP} {J:List Nat}
    (hD:look L r=some (objP D (.deferred (some [])))) (hres:∀ a w,AgrD [{ target:=.collected D,args:=#[] }] n K a→Sat E L w→(results fn a.tmps).run P (w.putObj D (.deferred none)) = .ok v (w.putObj D (.deferred none)))
    (hR:R v Ps) (hJ:lookL L J=some (F::Ps)) (hn:J.Nodup) (hrJ:r ∉ J):XD E n [{ target:=.collected D,args:=#[] }] (bodyPostM Fence.wide 0 P fn (Ret E F R)) .ret K L:=fun a w hA hS=>by
  have hd:=hS.obj hD
  show LeavesInM Fence.wide 0 P fn a.tmps (Ret E F R) a.defers .returning w
  rw [hA.1]
  refine ⟨fun h=>(by cases h),.inl ⟨D,_,rfl,run_takeDeferred hd,v,hres a w hA hS,v,Ps,rfl,hR,?_⟩⟩
  exact (hS.put hD _).pick ((LookAll.of hJ).same fun j hj=>look_other (fun e=>hrJ (by rw [e]; exact hj)) _ _) hn
def SeqS (P:Program) {α:Type} (gf:FuncId) (lb:Array Value) (enc:α→Value) (N:Nat) (F:HP) (Cs:List HP) (S:List α→Prop) (Cs':List HP):Prop :=
  ∀ (l:Nat) (G:List α→HP),RoundS P l enc G N→CallsS P gf (#[.func (.yield l) #[] #[]]++lb) F (G []::Cs) (fun v Ps=>∃ xs,S xs∧Ps=G xs::Cs')
theorem callsS_marks {P:Program} {n:Nat} {f:FuncId} {fn:Func} {c:Code} {args:Array Value} {F:HP} {Ps:List HP} {R:Value→List HP→Prop}
    (hf:P.funcs[f]?=some fn) (hb:fn.body=some c) (hn:fn.ntmps=n) (ha:args.size≤n)
    (h:∀ E,W P E n c (enumK 0 args.toList) (En 0 (F::Ps)) (bodyPostM Fence.wide 0 P fn (Ret E F R))):CallsS P f args F Ps R:=by
  intro E w hS
  refine callsIn_wide.1 (callsIn_of_wp_marks (n:=0) hf hb trivial (wpIn_wide.2 (h E _ w ⟨rfl,by simp [hn]; omega,fun k v hk=>?_⟩ hS)))
  obtain ⟨_,h2⟩:=look_enumK _ _ _ _ hk
  have hlt:k < args.size:=by simpa using (List.getElem?_eq_some_iff.1 h2).1
  rw [Array.getElem?_append_left hlt]
  simpa using h2
section
variable {P:Program} {E:Env} {n:Nat} {K:Slots} {L:Res} {Q:Exit→Act→World→Prop}
theorem W_rangeFunc {α Y:Type} {g:Operand} {p gf N:Nat} {lb:Array Value} {assign body:Code} {enc:α→Value} {G:List α→HP} {S:List α→Prop} {Cs Cs':List HP}
    (hg:evK K g=some (.func (.func gf) #[] lb)) (hp:p < n) (eg:∀ args w,(callFunc gf args).run P w = .ok (.enter gf args) w)
    (J:List Nat) {Js:List HP} (r0:Nat) (J2:List Nat) (b:Nat) (hJ:lookL L J=some Js) (hr0:look L r0=some (G [])) (hJ2:lookL L J2=some Cs) (hnd:(J++r0::J2).Nodup) (hb:∀ j ∈ J++r0::J2,j < b)
    (hseq:∀ F,SeqS P gf lb enc N F Cs S Cs')
    (Km:α→Y→Slots) (Lm:HP→HP→List α→α→Y→Res) (hLm:∀ F LP pre x y,look (Lm F LP pre x y) 2=some LP)
    (hassign:∀ E' F l LP pre x,pre.length < N→WI P E' n (some l) assign ((p,enc x)::K) (En 0 [F,G pre,LP]) (Exit.then (fun a w=>∃ y,Agr n (Km x y) a∧Sat E' (Lm F LP pre x y) w) (fun _ _ _=>False)))
    (hbody:∀ E' F l LP LP' pre x y,pre.length < N→WI P E' n (some l) body (Km x y) ((2,LP')::Lm F LP pre x y) (fun e _ w=>e = .normal∧Sat E' (En 0 [F,G (pre++[x]),LP']) w))
    (k:∀ D xs Lp Lp',S xs→XD E n [{ target:=.collected D,args:=#[] }] Q .normal K ((b + 31,Lp')::(En (b + 30) [G xs,Lp]++(b + 10,emp)::(En (b + 10) (starL [G xs,Lp]::Cs')++zipR (J++[b]) (Js++[objP D (.deferred (some []))]))))) :
    W P E n (.rangeFunc g #[p] assign body) K L Q:=by
  intro a w hA hS
  refine (wpIn_wide (n:=0)).1 (wpIn_rangeFunc ?_)
  intro fn _
  obtain ⟨rec,hrec⟩:∃ rec:LoopState→Option Code→Loop,rec=fun st pe=>{ state:=st,pending:=pe,fn,tmps:=a.tmps,params:=#[p],assign,body,defers:=w.heap.size }:=⟨_,rfl⟩
  have hS2:Sat E ((b + 1,objP (w.heap.size + 1) (.loop (rec .ready none)))::(b,objP w.heap.size (.deferred (some [])))::L) ((w.alloc (.deferred (some []))).alloc (.loop (rec .ready none))):=by
    have h1:=(hS.newObj b (.deferred (some []))).newObj (b + 1) (.loop (rec .ready none))
    rw [World.size_alloc] at h1
    exact h1
  have hround:RoundS P (w.heap.size + 1) enc (fun pre=>starL [G pre,objP (w.heap.size + 1) (.loop (rec .ready none))]) N:=by
    intro E' F pre x w1 hlen hS3
    have hS4:=(hS3.split (r:=1) (b:=2) (Ps:=[G pre,objP (w.heap.size + 1) (.loop (rec .ready none))]) rfl (fun h hh=>hh)).pick (ids:=[0,2,3]) (Ps:=[F,G pre,objP (w.heap.size + 1) (.loop (rec .ready none))]) ⟨rfl,rfl,rfl,trivial⟩ (by decide)
    have hl:=hS4.obj (r:=2) rfl
    have hy:=run_yield (P:=P) (args:=#[enc x]) hl (by rw [hrec]; rfl)
    rw [hrec] at hy
    refine ⟨fn,_,assign,body,hy,roundIn_of_wpIn trivial ?_⟩
    have hag:Agr n ((p,enc x)::K) { tmps:=(#[p].zip #[enc x]).foldl (fun t (p,v)=>t.setIfInBounds p v) a.tmps,defers:=[] }:=by
      have:=hA.put hp (enc x)
      refine ⟨rfl,by simpa using hA.2.1,fun k v hk=>?_⟩
      simpa [Act.put] using this.2.2 k v hk
    refine wpIn_mono (hassign E' F (w.heap.size + 1) _ pre x hlen _ w1 hag hS4) ?_
    rintro e a2 w2 hq
    cases e with
    | normal =>
      obtain ⟨y,hA2,hSy⟩:=hq
      have hl2:=hSy.obj (hLm _ _ _ _ _)
      refine ⟨_,run_beginRound hl2 (by rw [hrec]),?_⟩
      refine wpIn_mono (hbody E' F (w.heap.size + 1) _ _ pre x y hlen a2 _ hA2 (hSy.put (hLm _ _ _ _ _) _)) ?_
      rintro e3 a3 w3 ⟨rfl,hS5⟩
      have hl3:=hS5.obj (r:=2) rfl
      have her:=run_endRound (P:=P) none hl3
      refine ⟨_,_,her,rfl,?_⟩
      have hS6:=hS5.put (r:=2) rfl (.loop (rec .ready none))
      have hS7:=(hS6.pack (J:=[1,2]) (Js:=[G (pre++[x]),objP (w.heap.size + 1) (.loop (rec .ready none))]) (C:=[0]) (Cs:=[F]) ⟨rfl,rfl,trivial⟩ ⟨rfl,trivial⟩ (by decide)).pick (ids:=[1,0]) (Ps:=[F,starL [G (pre++[x]),objP (w.heap.size + 1) (.loop (rec .ready none))]]) ⟨rfl,rfl,trivial⟩ (by decide)
      rw [hrec] at hS7 ⊢
      exact hS7
    | ret=>exact hq.elim
    | exit id=>exact hq.elim
    | goto t=>exact hq.elim
    | panic ch=>exact hq.elim
    | outgrown=>exact hq.elim
  have hneb:∀ j ∈ J++r0::J2,j≠b + 1∧j≠b + 2∧j≠b:=fun j hj=>by have:=hb j hj; omega
  have hr0b:=hb r0 (by simp)
  have hS8:=hS2.join (b + 2) (J:=[r0,b + 1]) (Js:=[G [],objP (w.heap.size + 1) (.loop (rec .ready none))]) (P':=starL [G [],objP (w.heap.size + 1) (.loop (rec .ready none))])
    ⟨by rw [look_other (by omega),look_other (by omega)]; exact hr0,look_same _ _ _,trivial⟩ (by simp; omega) (fun h hh=>hh)
  have hfar:∀ j,j ∈ J∨j ∈ J2→look ((b + 2,starL [G [],objP (w.heap.size + 1) (.loop (rec .ready none))])::([r0,b + 1].map (·,emp)++(b + 1,objP (w.heap.size + 1) (.loop (rec .ready none)))::(b,objP w.heap.size (.deferred (some [])))::L)) j=look L j:=by
    intro j hj
    have h1:=hneb j (by rcases hj with hj | hj <;> simp [hj])
    have h2:r0≠j:=by
      rintro rfl
      rw [List.nodup_append] at hnd
      rcases hj with hj | hj
      · exact hnd.2.2 r0 hj r0 (by simp) rfl
      · exact (List.nodup_cons.1 hnd.2.1).1 hj
    simp only [List.map_cons,List.map_nil,List.cons_append,List.nil_append]
    rw [look_other (by omega),look_other h2,look_other (by omega),look_other (by omega),look_other (by omega)]
  have hnd2:(J++[b]++(b + 2)::J2).Nodup:=by
    simp only [List.append_assoc,List.cons_append,List.nil_append]
    rw [List.nodup_append] at hnd ⊢
    obtain ⟨n1,n2,n3⟩:=hnd
    refine ⟨n1,?_,fun x hx y hy hxy=>?_⟩
    · simp only [List.nodup_cons,List.mem_cons,not_or]
      refine ⟨⟨by omega,fun h=>?_⟩,fun h=>?_,(List.nodup_cons.1 n2).2⟩
      · exact (hneb b (by simp [h])).2.2 rfl
      · exact (hneb (b + 2) (by simp [h])).2.1 rfl
    · subst hxy
      rcases List.mem_cons.1 hy with h | hy
      · exact (hneb x (by simp [hx])).2.2 h
      · rcases List.mem_cons.1 hy with h | hy
        · exact (hneb x (by simp [hx])).2.1 h
        · exact n3 x hx x (by simp [hy]) rfl
  have hJb:LookAll ((b + 2,starL [G [],objP (w.heap.size + 1) (.loop (rec .ready none))])::([r0,b + 1].map (·,emp)++(b + 1,objP (w.heap.size + 1) (.loop (rec .ready none)))::(b,objP w.heap.size (.deferred (some [])))::L)) (J++[b]) (Js++[objP w.heap.size (.deferred (some []))]) :=
    LookAll.append ((LookAll.of hJ).same fun j hj=>hfar j (.inl hj)) ⟨by
      simp only [List.map_cons,List.map_nil,List.cons_append,List.nil_append]
      rw [look_other (by omega),look_other (by omega),look_other (by omega),look_other (by omega),look_same],trivial⟩
  have hS9:=hS8.pack hJb (C:=(b + 2)::J2) (Cs:=starL [G [],objP (w.heap.size + 1) (.loop (rec .ready none))]::Cs) ⟨look_same _ _ _,(LookAll.of hJ2).same fun j hj=>hfar j (.inr hj)⟩ hnd2
  have hent:(Instr.enterLoop fn a.tmps #[p] assign body none).run P w = .ok (w.heap.size + 1,[{ target:=.collected w.heap.size,args:=#[] }]) ((w.alloc (.deferred (some []))).alloc (.loop (rec .ready none))):=by rw [hrec]; exact run_enterLoop_outer _ _ _ _ _
  refine ⟨w.heap.size + 1,[{ target:=.collected w.heap.size,args:=#[] }],(w.alloc (.deferred (some []))).alloc (.loop (rec .ready none)),{ target:=.fn (.func gf) lb,args:=#[.func (.yield (w.heap.size + 1)) #[] #[]] },(w.alloc (.deferred (some []))).alloc (.loop (rec .ready none)),gf,#[.func (.yield (w.heap.size + 1)) #[] #[]]++lb,(w.alloc (.deferred (some []))).alloc (.loop (rec .ready none)),hent,?_,fun _ _=>trivial,?_,fun h=>by simp [Fence.wide] at h,?_⟩
  · simp only [resolve,hA.eval hg]
    simp [Act.eval,Deferred.ofValue]
  · simp [invoke,eg]
  · have hcall:=hseq _ (w.heap.size + 1) _ hround E _ hS9
    refine (callsIn_wide.2 hcall).mono ?_
    rintro e w3 ⟨v,Ps,rfl,⟨xs,hxs,rfl⟩,hS10⟩
    have hndJ:(J++[b]).Nodup:=by rw [List.nodup_append] at hnd2; exact hnd2.1
    have hS11:=hS10.unpack (b + 10) hndJ (fun j hj=>by
      rcases List.mem_append.1 hj with hj | hj
      · have:=hb j (by simp [hj]); omega
      · simp at hj; omega)
    have hS12:=hS11.split (r:=b + 10) (b:=b + 30) (Ps:=[G xs,objP (w.heap.size + 1) (.loop (rec .ready none))]) (by simp [En,look]) (fun h hh=>hh)
    have hlk:look (En (b + 30) [G xs,objP (w.heap.size + 1) (.loop (rec .ready none))]++(b + 10,emp)::(En (b + 10) (starL [G xs,objP (w.heap.size + 1) (.loop (rec .ready none))]::Cs')++zipR (J++[b]) (Js++[objP w.heap.size (.deferred (some []))]))) (b + 31)=some (objP (w.heap.size + 1) (.loop (rec .ready none))):=by
      rw [look_append,show b + 31=(b + 30) + 1 from rfl,look_En _ (b + 30) 1]
      rfl
    have hl:=hS12.obj hlk
    refine ⟨_,_,run_endLoop hl (by rw [hrec]; simp),?_⟩
    rw [show (rec .ready none).pending=none by rw [hrec]]
    have hA':AgrD [{ target:=.collected w.heap.size,args:=#[] }] n K { a with defers:=[{ target:=.collected w.heap.size,args:=#[] }]++a.defers }:=⟨by simp [hA.1],hA.2.1,hA.2.2⟩
    exact k w.heap.size xs _ _ hxs _ _ hA' (hS12.put hlk _)
end
open Go.RowKit
set_option maxRecDepth 100000

def encB (b:BV):Value:=.agg (bvC b).toArray
def mbs (l:List BV):List (List UInt8 × Value):=l.map fun b=>(b.key,encB b)
abbrev ok32 (k:List UInt8):Prop:=k.length=32
abbrev mapB (g:Nat) (es:List (List UInt8 × Value)) (it:Option (It (List UInt8))):HP:=mapQ idV ok32 g es it
theorem keyB:KeyT Try.prog 29 idV ok32:=keyT_id Try.underlying29 Try.underlying5 Try.sizeOf5
theorem mbs_pick {l2:List BV} {left left':List (List UInt8 × Value)} {p:List UInt8 × Value} (h1:left.Perm (mbs l2)) (h2:left.Perm (p::left')):∃ b l3,p=(b.key,encB b)∧l2.Perm (b::l3)∧left'.Perm (mbs l3):=by
  have hm:p ∈ mbs l2:=(h2.symm.trans h1).mem_iff.1 (by simp)
  obtain ⟨b,hb,rfl⟩:=List.mem_map.1 hm
  obtain ⟨a,c,rfl⟩:=List.append_of_mem hb
  refine ⟨b,a++c,rfl,List.perm_middle,?_⟩
  have h3:(mbs (a++b::c)).Perm ((b.key,encB b)::mbs (a++c)):=by
    unfold mbs
    exact List.Perm.map _ List.perm_middle
  exact (h2.symm.trans (h1.trans h3)).cons_inv
theorem mbs_nil {l2:List BV} (h:([]:List (List UInt8 × Value)).Perm (mbs l2)):l2=[]:=by
  have:=h.length_eq
  simp only [mbs,List.length_nil,List.length_map] at this
  exact List.length_eq_zero_iff.1 this.symm
theorem values_seq (bx g:Nat) (l:List BV) (F:HP):SeqS Try.prog 49 #[.pointer (some ⟨bx,0,none⟩)] encB l.length F [mapB g (mbs l) none,blk bx 49 [.map (some g)]] (fun xs=>xs.Perm l) [mapB g (mbs l) none,blk bx 49 [.map (some g)]]:=by
 intro ln G hround
 refine callsS_enter Try.func49 rfl Try.ntmps49 (by simp) (fun E=>?_)
 refine Q9 (R9 (L9 rfl (Pb9 (r:=3) rfl Try.isAgg49 rfl rfl rfl) (Lc9 rfl rfl (by decide) (OpT_rangeQ (r:=2) rfl Try.underlying49 rfl rfl (fun it=>(N9 (X9 ?_)))))))
 refine W_block ?_
 refine W_loop (α:=List BV × List BV × List (List UInt8 × Value)) (fun x=>[(0,.func (.yield ln) #[] #[]),(6,.pointer (some ⟨it,0,none⟩))]) (fun x=>[(0,F),(1,G x.1),(2,mapB g (mbs l) (some (it,x.2.2,none))),(3,blk bx 49 [.map (some g)])]) (fun x=>(x.1++x.2.1).Perm l∧x.2.2.Perm (mbs x.2.1)) (fun x=>x.2.1.length) (([],l,mbs l)) ⟨List.Perm.refl _,List.Perm.refl _⟩ (a9 rfl) (a9 rfl) (fun x hx=>?_)
 obtain ⟨hx1,hx2⟩:=hx
 refine Q9 ?_
 refine R9 (Lc9 rfl rfl (by decide) (OpT_nextQ (r:=2) keyB rfl rfl rfl (fun hnil=>?_) (fun p left hpe hpm=>?_)))
 ·
  rw [hnil] at hx2
  have hl2:=mbs_nil hx2
  rw [hl2,List.append_nil] at hx1
  refine (L9 rfl (Pe9 rfl rfl rfl) (N9 (X9 ?_)))
  refine Q9 ?_
  refine W_false rfl (rfl) ?_
  refine W_exit (X_then_exit (X_then_exit (X_block_exit ?_)))
  refine X_turn 2 rfl (fun h hp=>mapQ_none hp) ?_
  exact Xe9 [1,2,3] (Ps:=[_,_,_]) (res0 Try.results49) rfl (by decide) ⟨x.1,hx1,rfl⟩
 ·
  obtain ⟨b,l3,rfl,hb2,hb3⟩:=mbs_pick hx2 hpm
  have hlen:x.1.length < l.length:=by have h1:=hx1.length_eq; have h2:=hb2.length_eq; simp at h1 h2; omega
  refine (L9 rfl (Pe9 rfl rfl rfl) (N9 (X9 ?_)))
  refine Q9 ?_
  refine W_true rfl (rfl) ?_
  refine K9 (X9 ?_)
  refine W_block ?_
  refine Q9 (R9 (L9 rfl (Pu_entryQ (r:=2) rfl rfl rfl) (L9 rfl (Pe9 rfl rfl rfl) (Lc9 rfl rfl (by decide) (OpT_alloc (r:=101) rfl (zero_run (by kernel_rfl:(Try.prog.info? 37).bind (·.zero)=some (.agg (bkC zeroId 0 (.slice none 0 0) 0 0).toArray))) rfl (fun g101=>(Lc09 rfl rfl (OpT_storeAll (r:=101) rfl Try.sizeOf37 rfl rfl rfl (bkC_length rfl) (bvC_length b) (bvC_one _) ?_))))))))
  refine (N9 (X9 ?_))
  refine Q9 ?_
  refine W_of_WI (WI_regL ?_)
  refine WLI_cons (by intro c h; cases h) rfl rfl (by decide) (Or9 (Pm9 rfl rfl) ?_)
  refine WLI_cons (by intro c h; cases h) rfl rfl (by decide) (Or9 (Px9 (r:=101) rfl Try.isAgg37 Try.sizeOf37 rfl rfl (bvC_length b) (load_all (bvC_length b))) ?_)
  refine WLI_yield hround (pre:=x.1) (x:=b) hlen rfl rfl rfl rfl rfl (by decide) [0,2,3,101] 1 900 rfl rfl (by decide) (by decide) ?_
  refine WLI_cons (by intro c h; cases h) rfl rfl (by decide) (Or9 (Pu_un rfl rfl (run_not _)) ?_)
  refine WLI_nil ?_
  refine (X9 ?_)
  refine W_false rfl (rfl) ?_
  refine K9 (X_block ?_)
  refine X_ren 900 1 rfl ?_
  refine X_turn 2 rfl (fun h hp=>mapQ_uncur hp) ?_
  exact Xr9 (x.1++[b],l3,left) ⟨by refine List.Perm.trans ?_ hx1; rw [List.append_assoc]; exact List.Perm.append_left _ hb2.symm,hb3⟩ (by have:=hb2.length_eq; simp at this; dsimp only; omega) (a9 rfl) (a9 rfl)
open Go.RowKit
set_option maxRecDepth 100000
abbrev rowB2 (v:Value) (xs:List BV):HP:=rowP 37 36 v xs.length (recC bvC xs)
def accP (g1:Nat) (pre:List BV):HP:=fun h=>∃ v:Value,v.oneCell'=true∧starL [blk g1 34 [v],rowB2 v pre] h
theorem appendSeq_spec (bx g:Nat) (l:List BV) (hl:l.length≤1000000000000) (F:HP):CallsS Try.prog 68 #[.slice none 0 0,.func (.func 49) #[] #[.pointer (some ⟨bx,0,none⟩)]] F [mapB g (mbs l) none,blk bx 49 [.map (some g)]]
    (fun r Ps=>∃ xs,xs.Perm l∧Ps=[rowB2 r xs,mapB g (mbs l) none,blk bx 49 [.map (some g)]]):=by
  refine callsS_marks Try.func68 rfl Try.ntmps68 (by simp) (fun E=>?_)
  refine Q9 ?_
  refine R9 (Lc9 rfl rfl (by decide) (OpT_box (r:=101) rfl rfl rfl (fun g1=>(G9 rfl rfl (N9 (X9 ?_))))))
  refine W_nilRow 102 37 36 ?_
  refine W_join [101,102] 103 (accP g1 []) rfl (by decide) (fun h hs=>⟨.slice none 0 0,rfl,hs⟩) ?_
  refine Q9 ?_
  refine Q9 ?_
  refine J9 [(1,_),(2,_)] [(0,_),(1,_),(2,_),(103,_)] ?_ ⟨rfl,rfl,trivial⟩ ⟨rfl,rfl,rfl,rfl,trivial⟩
  refine R9 (M9 rfl rfl (N9 (X9 ?_)))
  refine W_block ?_
  refine W_rangeFunc (α:=BV) (Y:=Nat) (enc:=encB) (G:=accP g1) (N:=l.length) (S:=fun xs=>xs.Perm l) (Cs':=[mapB g (mbs l) none,blk bx 49 [.map (some g)]]) rfl (by decide) Try.call49 [0] 103 [1,2] 200 rfl rfl rfl (by decide) (by decide) (fun F=>values_seq bx g l F)
    (fun x y=>[(2,.pointer (some ⟨g1,0,none⟩)),(5,.pointer (some ⟨y,0,none⟩))]) (fun F LP pre x y=>[(0,F),(1,accP g1 pre),(2,LP),(110,blk y 37 (bvC x))]) (fun _ _ _ _ _=>rfl) ?_ ?_ ?_
  · intro E' F l' LP pre x hlen
    refine WI_regL ?_
    refine WLI_cons (by intro c h; cases h) rfl rfl (by decide) (OpT_alloc (r:=110) (cs:=bkC zeroId 0 (.slice none 0 0) 0 0) rfl (zero_run (by kernel_rfl:(Try.prog.info? 37).bind (·.zero)=some (.agg (bkC zeroId 0 (.slice none 0 0) 0 0).toArray))) rfl (fun g5=>?_))
    refine WLI_cons0 (by intro c h; cases h) rfl rfl (OpT_storeAll (r:=110) rfl Try.sizeOf37 rfl rfl rfl (bkC_length rfl) (bvC_length x) (bvC_one x) ?_)
    refine WLI_nil (fun a w hA hS=>⟨g5,?_,?_⟩)
    · exact hA.sub (AllIn.look ⟨rfl,rfl,trivial⟩)
    · exact hS.sub (AllIn.look ⟨rfl,rfl,rfl,rfl,trivial⟩)
  · intro E' F l' LP LP' pre x y hlen
    refine WI_open 1 120 rfl (fun h hp=>hp) (fun v hv=>?_)
    refine WI_block (WI_regL ?_)
    refine WLI_cons (by intro c h; cases h) rfl rfl (by decide) (Or9 (Pb9 (r:=120) rfl Try.isAgg34 rfl rfl rfl) ?_)
    refine WLI_cons (by intro c h; cases h) rfl rfl (by decide) (Or9 (Px9 (r:=110) rfl Try.isAgg37 Try.sizeOf37 rfl rfl (bvC_length x) (load_all (bvC_length x))) ?_)
    refine WLI_cons (by intro c h; cases h) rfl rfl (by decide) (OpT_buildRows (r:=130) [bvC x] rfl rfl Try.runUnderlying34 Try.sizeOf37 Try.zeroValue37 rfl (by decide) rfl (by decide) (by intro r hr; simp at hr; rw [hr]; exact bvC_length x) rfl (fun v10=>?_))
    refine WLI_cons (by intro c h; cases h) rfl rfl (by decide) (Oa9 (r:=121) (r2:=130) rfl Try.underlying34 TI.hi37 TI.hz37 TI.hs37 TI.hby37 TI.hzs37 (by decide) rfl rfl rfl rfl (fun _ h=>rp9 h) (by intro u hu; simp at hu; exact bvC_one x u hu) (by unfold maxLen; omega) (by omega) (fun v11=>?_))
    refine WLI_fact (r:=121) rfl (fun h hp=>rd_one (rp9 hp)) (fun ho11=>?_)
    refine WLI_cons0 (by intro c h; cases h) rfl rfl (OpT_storeB1 (r:=120) rfl Try.sizeOf34 rfl rfl rfl ho11 (by simp) rfl ?_)
    refine WLI_nil (fun a w hA hS=>⟨rfl,?_⟩)
    have hS2:=hS.cons (P':=rowB2 v11 (pre++[x])) (r:=121) rfl (fun h hp=>by
      unfold rowB2
      rw [List.length_append,recC_append,recC_one]
      simpa using hp)
    have hS3:=hS2.join 140 (J:=[120,121]) (Js:=[blk g1 34 [v11],rowB2 v11 (pre++[x])]) ⟨rfl,rfl,trivial⟩ (by decide) (P':=accP g1 (pre++[x])) (fun h hs=>⟨v11,ho11,hs⟩)
    exact hS3.pick (ids:=[0,140,2]) ⟨rfl,rfl,rfl,trivial⟩ (by decide)
  · intro D' xs Lp Lp' hxs
    refine XD_block (XD_then ?_)
    refine WD_open 230 240 rfl (fun h hp=>hp) (fun v hv=>?_)
    refine WD_seq (Dr9 ?_)
    refine Dp9 rfl rfl (by decide) (Pb9 (r:=240) rfl Try.isAgg34 rfl rfl rfl) ?_
    refine Dp9 rfl rfl (by decide) (Pg9 rfl rfl) (WLD_nil (XD_then (WD_ret ?_)))
    exact XD_retM (r:=200) (J:=[0,241,211,212]) (Ps:=[_,_,_]) rfl (res1D (Try.results68) rfl) ⟨xs,hxs,rfl⟩ rfl (by decide) (by decide)
open Go.RowKit
set_option maxRecDepth 100000

theorem values_spec (g:Nat) (l:List BV) (F:HP):CallsS Try.prog 27 #[.map (some g)] F [mapB g (mbs l) none] (fun r Ps=>∃ bx,r = .func (.func 49) #[] #[.pointer (some ⟨bx,0,none⟩)]∧Ps=[mapB g (mbs l) none,blk bx 49 [.map (some g)]]):=by
 refine callsS_enter Try.func27 rfl Try.ntmps27 (by simp) (fun E=>?_)
 refine Q9 (R9 (Lc9 rfl rfl (by decide) (OpT_box (r:=101) rfl rfl rfl (fun g101=>(G9 rfl rfl (N9 (X9 (Q9 (R9 (L9 rfl (Pu_makeFunc rfl rfl) (G9 rfl rfl (N9 (X9 ?_)))))))))))))
 refine W_ret ?_
 exact Xq9 [1,101] (Ps:=[_,_]) (res1 Try.results27 rfl) rfl (by decide) ⟨_,rfl,rfl⟩
theorem collect_spec (bx g:Nat) (l:List BV) (hl:l.length≤1000000000000) (F:HP):CallsS Try.prog 47 #[.func (.func 49) #[] #[.pointer (some ⟨bx,0,none⟩)]] F [mapB g (mbs l) none,blk bx 49 [.map (some g)]] (fun r Ps=>∃ xs,xs.Perm l∧Ps=[rowB2 r xs,mapB g (mbs l) none,blk bx 49 [.map (some g)]]):=by
 refine callsS_enter Try.func47 rfl Try.ntmps47 (by simp) (fun E=>?_)
 refine Q9 (R9 (G9 rfl rfl (N9 (X9 (Q9 (R9 (M9 rfl rfl (Lc9 rfl rfl (by decide) (Oc9 200 [0] [1,2] rfl Try.call68 rfl rfl rfl (by decide) (by decide) (appendSeq_spec bx g l hl _) (fun v4 Ps4 hR4=>?_))))))))))
 obtain ⟨xs,hxs,rfl⟩:=hR4
 refine (G9 rfl rfl (N9 (X9 ?_)))
 refine W_ret ?_
 exact Xq9 [200,201,202] (Ps:=[_,_,_]) (res1 Try.results47 rfl) rfl (by decide) ⟨xs,hxs,rfl⟩
theorem sortedFunc_spec (bx g:Nat) (l:List BV) (hl:l.length≤1000000000000) (F:HP):CallsS Try.prog 26 #[.func (.func 49) #[] #[.pointer (some ⟨bx,0,none⟩)],.func (.func 28) #[] #[]] F [mapB g (mbs l) none,blk bx 49 [.map (some g)]] (fun r Ps=>∃ xs,xs.Perm l∧xs.Pairwise (fun a b=>ltK b.key a.key=false)∧Ps=[rowB2 r xs,mapB g (mbs l) none,blk bx 49 [.map (some g)]]):=by
 refine callsS_enter Try.func26 rfl Try.ntmps26 (by simp) (fun E=>?_)
 refine Q9 (R9 (G9 rfl rfl (N9 (X9 (Q9 (R9 (M9 rfl rfl (Lc9 rfl rfl (by decide) (Oc9 200 [0] [1,2] rfl Try.call47 rfl rfl rfl (by decide) (by decide) (collect_spec bx g l hl _) (fun v7 Ps7 hR7=>?_))))))))))
 obtain ⟨xs,hxs,rfl⟩:=hR7
 have hxl:=hxs.length_eq
 refine (G9 rfl rfl (N9 (X9 ?_)))
 refine Q9 (R9 (M9 rfl rfl (M9 rfl rfl (Lc9 rfl rfl (by decide) (Oc9 300 [0,201,202] [200] rfl Try.call48 rfl rfl rfl (by decide) (by decide) (sortB_spec v7 xs (by omega) _) (fun v10 Ps10 hR10=>?_))))))
 obtain ⟨rfl,ys,hys,hso,rfl⟩:=hR10
 skip
 refine (N9 (X9 ?_))
 refine Q9 (R9 (M9 rfl rfl (G9 rfl rfl (N9 (X9 ?_)))))
 refine W_ret ?_
 exact Xq9 [300,201,202] (Ps:=[_,_,_]) (res1 Try.results26 rfl) rfl (by decide) ⟨ys,hys.trans hxs,hso,rfl⟩
open Go.RowKit
section
variable {P:Program} {E:Env} {n:Nat} {K:Slots} {L:Res} {o:Oper} {C:Value→Res→Prop}
theorem run_and {k:IntKind} (a b:Int) {r:Int} (h:bits .and k a b=r) (t:TypeId) (x y:Operand) (w:World):((do eqGuard .and t x y (.int k a) (.int k b); binOp .and t (.int k a) (.int k b):Sem Value)).run P w = .ok (.int k r) w:=by
  simp only [eqGuard,Sem.run_bind,Sem.run_pure]
  rw [binOp_and,intBits_and,h]
  rfl
theorem run_orB {k:IntKind} (a b:Int) {r:Int} (h:bits .or k a b=r) (t:TypeId) (x y:Operand) (w:World):((do eqGuard .or t x y (.int k a) (.int k b); binOp .or t (.int k a) (.int k b):Sem Value)).run P w = .ok (.int k r) w:=by
  simp only [eqGuard,Sem.run_bind,Sem.run_pure]
  rw [binOp_or,intBits_or,h]
  rfl
end
open Go.RowKit
def wv (x:UInt32):Value:=.int .u32 (x.toNat:Int)
def ws (l:List UInt32):List Value:=l.map wv
theorem wlt (x:UInt32):x.toNat < 4294967296:=x.toNat_lt
theorem wrap32 (a:Nat):IntKind.u32.wrap (a:Int)=((a % 4294967296:Nat):Int):=by rw [IntKind.wrap_u32']; omega
section
variable {P:Program}
theorem run_addW (a b:UInt32) (t:TypeId) (x y:Operand) (w:World):((do eqGuard .add t x y (wv a) (wv b); binOp .add t (wv a) (wv b):Sem Value)).run P w = .ok (wv (a + b)) w:=by
  have:IntKind.u32.wrap ((a.toNat:Int) + (b.toNat:Int))=((a + b).toNat:Int):=by
    rw [show (a.toNat:Int) + (b.toNat:Int)=((a.toNat + b.toNat:Nat):Int) by simp,wrap32,UInt32.toNat_add]
  simp [wv,eqGuard,binOp,Op.intArith,this]
theorem run_andW (a b:UInt32) (t:TypeId) (x y:Operand) (w:World):((do eqGuard .and t x y (wv a) (wv b); binOp .and t (wv a) (wv b):Sem Value)).run P w = .ok (wv (a &&& b)) w :=
  run_and (P:=P) _ _ (by rw [u32_and_nat _ _ (wlt a) (wlt b),UInt32.toNat_and]) t x y w
theorem run_orW (a b:UInt32) (t:TypeId) (x y:Operand) (w:World):((do eqGuard .or t x y (wv a) (wv b); binOp .or t (wv a) (wv b):Sem Value)).run P w = .ok (wv (a ||| b)) w :=
  run_orB (P:=P) _ _ (by rw [u32_or_nat _ _ (wlt a) (wlt b),UInt32.toNat_or]) t x y w
theorem run_xorB {k:IntKind} (a b:Int) {r:Int} (h:bits .xor k a b=r) (t:TypeId) (x y:Operand) (w:World):((do eqGuard .xor t x y (.int k a) (.int k b); binOp .xor t (.int k a) (.int k b):Sem Value)).run P w = .ok (.int k r) w:=by
  simp only [eqGuard,Sem.run_bind,Sem.run_pure]
  rw [binOp_xor,intBits_xor,h]
  rfl
theorem run_xorW (a b:UInt32) (t:TypeId) (x y:Operand) (w:World):((do eqGuard .xor t x y (wv a) (wv b); binOp .xor t (wv a) (wv b):Sem Value)).run P w = .ok (wv (a ^^^ b)) w :=
  run_xorB (P:=P) _ _ (by rw [u32_xor_nat _ _ (wlt a) (wlt b),UInt32.toNat_xor]) t x y w
theorem run_notW (a:UInt32) (w:World):(Op.unary .xor (wv a)).run P w = .ok (wv (~~~ a)) w:=by
  have h:bits .xor .u32 (IntKind.max .u32) (a.toNat:Int)=((~~~ a).toNat:Int):=by
    have h0:IntKind.max .u32=((4294967295:Nat):Int):=by decide
    rw [h0,u32_xor_nat _ _ (by decide) (wlt a),UInt32.toNat_not]
    have h1:=wlt a
    have h2:(4294967295 ^^^ a.toNat)=4294967295 - a.toNat:=by
      have:(4294967295#32 ^^^ BitVec.ofNat 32 a.toNat) = ~~~ BitVec.ofNat 32 a.toNat:=by
        rw [show (4294967295#32)=BitVec.allOnes 32 from rfl,BitVec.allOnes_xor]
      have h3:=congrArg BitVec.toNat this
      rw [BitVec.toNat_xor,BitVec.toNat_not,BitVec.toNat_ofNat,BitVec.toNat_ofNat] at h3
      simpa [Nat.mod_eq_of_lt h1] using h3
    rw [h2]
    simp [UInt32.size]
  show (Op.intBits .xor .u32 _ _).run P w=_
  rw [intBits_xor]
  simp only [show (if IntKind.signed .u32=true then (-1:Int) else IntKind.max .u32)=IntKind.max .u32 by decide]
  rw [h]
  rfl
theorem run_shlR {k:IntKind} (a:Int) (n:Nat) {r:Int} (hn:n≤k.bits) (h:k.wrap (a * 2 ^ n)=r) (t:TypeId) (x y:Operand) {kd:IntKind} (w:World):((do eqGuard .shl t x y (.int k a) (.int kd (n:Int)); binOp .shl t (.int k a) (.int kd (n:Int)):Sem Value)).run P w = .ok (.int k r) w:=by
  subst h
  have h2:min n k.bits=n:=Nat.min_eq_left hn
  have h1:¬ ((n:Int) < 0):=by omega
  simp [eqGuard,binOp,Op.shift,h2,h1]
theorem run_shrR {k:IntKind} (a:Int) (n:Nat) {r:Int} (hn:n≤k.bits) (h:a.fdiv (2 ^ n)=r) (t:TypeId) (x y:Operand) {kd:IntKind} (w:World):((do eqGuard .shr t x y (.int k a) (.int kd (n:Int)); binOp .shr t (.int k a) (.int kd (n:Int)):Sem Value)).run P w = .ok (.int k r) w:=by
  subst h
  have h2:min n k.bits=n:=Nat.min_eq_left hn
  have h1:¬ ((n:Int) < 0):=by omega
  simp [eqGuard,binOp,Op.shift,h2,h1]
theorem run_shlW (a:UInt32) (n:Nat) (hn:n < 32) (t:TypeId) (x y:Operand) {kd:IntKind} (w:World):((do eqGuard .shl t x y (wv a) (.int kd (n:Int)); binOp .shl t (wv a) (.int kd (n:Int)):Sem Value)).run P w = .ok (wv (a <<< UInt32.ofNat n)) w:=by
  refine run_shlR (P:=P) _ n (by show n≤32; omega) ?_ t x y w
  rw [show (a.toNat:Int) * 2 ^ n=((a.toNat * 2 ^ n:Nat):Int) by simp,wrap32,UInt32.toNat_shiftLeft,UInt32.toNat_ofNat',Nat.mod_eq_of_lt (a:=n) (by omega),Nat.mod_eq_of_lt hn,Nat.shiftLeft_eq]
theorem run_shrW (a:UInt32) (n:Nat) (hn:n < 32) (t:TypeId) (x y:Operand) {kd:IntKind} (w:World):((do eqGuard .shr t x y (wv a) (.int kd (n:Int)); binOp .shr t (wv a) (.int kd (n:Int)):Sem Value)).run P w = .ok (wv (a >>> UInt32.ofNat n)) w:=by
  refine run_shrR (P:=P) _ n (by show n≤32; omega) ?_ t x y w
  rw [UInt32.toNat_shiftRight,UInt32.toNat_ofNat',Nat.mod_eq_of_lt (a:=n) (by omega),Nat.mod_eq_of_lt hn,Nat.shiftRight_eq_div_pow,Int.fdiv_eq_ediv_of_nonneg _ (by exact_mod_cast Nat.zero_le _)]
  simp
theorem conv_u8W (x:UInt8) {s d:TypeId} (hs:∀ w,(underlying s).run P w = .ok (.int .u8) w) (hd:∀ w,(underlying d).run P w = .ok (.int .u32) w) (w:World):(convert s d (bv x)).run P w = .ok (wv x.toUInt32) w:=by
  rw [conv_u8 x hs hd (by simp) w]
  rfl
theorem conv_byteW (x:UInt32) {s d:TypeId} (hs:∀ w,(underlying s).run P w = .ok (.int .u32) w) (hd:∀ w,(underlying d).run P w = .ok (.int .u8) w) (w:World):(convert s d (wv x)).run P w = .ok (bv x.toUInt8) w:=by
  rw [show (wv x) = .int .u32 (x.toNat:Int) from rfl,conv_byte .u32 _ hs hd w]
  have:byte (x.toNat:Int)=x.toUInt8:=by
    apply UInt8.toNat_inj.1
    have h1:=byte_toNat (x.toNat:Int)
    rw [UInt32.toNat_toUInt8]
    omega
  rw [this]
theorem ws_length (l:List UInt32):(ws l).length=l.length:=List.length_map _
theorem ws_at {l:List UInt32} {k:Nat} (h:k < l.length):(ws l)[k]?=some (wv (l.getD k 0)):=by simp [ws,h]
theorem ws_at0 {l:List UInt32} {k:Nat} {z:Int} (hz:z.toNat=k) (h:k < l.length):(ws l)[0 + z.toNat]?=some (wv (l.getD k 0)):=by rw [hz,Nat.zero_add]; exact ws_at h
theorem ws_set (l:List UInt32) (k:Nat) (x:UInt32):(ws l).set k (wv x)=ws (l.set k x):=by simp [ws,List.map_set]
theorem ws_one (l:List UInt32):∀ u ∈ ws l,u.oneCell'=true:=by
  intro u hu
  obtain ⟨x,_,rfl⟩:=List.mem_map.1 hu
  rfl
end
open Go.RowKit
def rotr (x:UInt32) (n:Nat):UInt32:=(x >>> UInt32.ofNat n) ||| (x <<< UInt32.ofNat (32 - n))
def sm0 (x:UInt32):UInt32:=rotr x 7 ^^^ rotr x 18 ^^^ (x >>> UInt32.ofNat 3)
def sm1 (x:UInt32):UInt32:=rotr x 17 ^^^ rotr x 19 ^^^ (x >>> UInt32.ofNat 10)
def gr0 (x:UInt32):UInt32:=rotr x 2 ^^^ rotr x 13 ^^^ rotr x 22
def gr1 (x:UInt32):UInt32:=rotr x 6 ^^^ rotr x 11 ^^^ rotr x 25
def KS:List UInt32:=[0x428a2f98,0x71374491,0xb5c0fbcf,0xe9b5dba5,0x3956c25b,0x59f111f1,0x923f82a4,0xab1c5ed5,
  0xd807aa98,0x12835b01,0x243185be,0x550c7dc3,0x72be5d74,0x80deb1fe,0x9bdc06a7,0xc19bf174,
  0xe49b69c1,0xefbe4786,0x0fc19dc6,0x240ca1cc,0x2de92c6f,0x4a7484aa,0x5cb0a9dc,0x76f988da,
  0x983e5152,0xa831c66d,0xb00327c8,0xbf597fc7,0xc6e00bf3,0xd5a79147,0x06ca6351,0x14292967,
  0x27b70a85,0x2e1b2138,0x4d2c6dfc,0x53380d13,0x650a7354,0x766a0abb,0x81c2c92e,0x92722c85,
  0xa2bfe8a1,0xa81a664b,0xc24b8b70,0xc76c51a3,0xd192e819,0xd6990624,0xf40e3585,0x106aa070,
  0x19a4c116,0x1e376c08,0x2748774c,0x34b0bcb5,0x391c0cb3,0x4ed8aa4a,0x5b9cca4f,0x682e6ff3,
  0x748f82ee,0x78a5636f,0x84c87814,0x8cc70208,0x90befffa,0xa4506ceb,0xbef9a3f7,0xc67178f2]
def HS:List UInt32:=[0x6a09e667,0xbb67ae85,0x3c6ef372,0xa54ff53a,0x510e527f,0x9b05688c,0x1f83d9ab,0x5be0cd19]
theorem KS_length:KS.length=64:=rfl
def word (b:List UInt8) (q:Nat):UInt32:=(((at0 b q).toUInt32 <<< UInt32.ofNat 24) ||| ((at0 b (q + 1)).toUInt32 <<< UInt32.ofNat 16)) ||| ((at0 b (q + 2)).toUInt32 <<< UInt32.ofNat 8) ||| (at0 b (q + 3)).toUInt32
def nextW (l:List UInt32) (t:Nat):UInt32:=sm1 (l.getD (t - 2) 0) + l.getD (t - 7) 0 + sm0 (l.getD (t - 15) 0) + l.getD (t - 16) 0
def sch (b:List UInt8) (p:Nat):Nat→List UInt32
  | 0=>[]
  | t + 1=>sch b p t++[if t < 16 then word b (p + 4 * t) else nextW (sch b p t) t]
theorem sch_length (b:List UInt8) (p:Nat):∀ t,(sch b p t).length=t
  | 0=>rfl
  | t + 1=>by rw [sch,List.length_append,sch_length b p t]; rfl
structure S8 where
  a:UInt32
  b:UInt32
  c:UInt32
  d:UInt32
  e:UInt32
  f:UInt32
  g:UInt32
  h:UInt32
def S8.list (s:S8):List UInt32:=[s.a,s.b,s.c,s.d,s.e,s.f,s.g,s.h]
def S8.of (l:List UInt32):S8:=⟨l.getD 0 0,l.getD 1 0,l.getD 2 0,l.getD 3 0,l.getD 4 0,l.getD 5 0,l.getD 6 0,l.getD 7 0⟩
theorem S8.list_length (s:S8):s.list.length=8:=rfl
def rndP (k w:UInt32) (s:S8):UInt32:=s.h + gr1 s.e + ((s.e &&& s.f) ^^^ (~~~ s.e &&& s.g)) + k + w
def rndQ (s:S8):UInt32:=gr0 s.a + ((s.a &&& s.b) ^^^ (s.a &&& s.c) ^^^ (s.b &&& s.c))
def rnd (k w:UInt32) (s:S8):S8:=⟨rndP k w s + rndQ s,s.a,s.b,s.c,s.d + rndP k w s,s.e,s.f,s.g⟩
def rnds (w:List UInt32) (s:S8):Nat→S8
  | 0=>s
  | t + 1=>rnd (KS.getD t 0) (w.getD t 0) (rnds w s t)
def addS (x y:S8):S8:=⟨x.a + y.a,x.b + y.b,x.c + y.c,x.d + y.d,x.e + y.e,x.f + y.f,x.g + y.g,x.h + y.h⟩
def mixS (b:List UInt8) (p:Nat) (s:S8):S8:=addS s (rnds (sch b p 64) s 64)
def mixes (b:List UInt8) (s:S8):Nat→S8
  | 0=>s
  | n + 1=>mixS b (64 * n) (mixes b s n)
def lenB (n:Nat):List UInt8:=(List.range 8).map fun i=>UInt8.ofNat (8 * n / 2 ^ (8 * (7 - i)))
def padZ (n:Nat):Nat:=(119 - n % 64) % 64
def padB (d:List UInt8):List UInt8:=d++[0x80]++List.replicate (padZ d.length) 0++lenB d.length
theorem padB_length (d:List UInt8):(padB d).length=(d.length + 8) / 64 * 64 + 64:=by
  simp [padB,lenB,padZ]
  omega
def outB (s:S8):List UInt8:=(s.list.map fun x=>[(x >>> UInt32.ofNat 24).toUInt8,(x >>> UInt32.ofNat 16).toUInt8,(x >>> UInt32.ofNat 8).toUInt8,x.toUInt8]).flatten
theorem outB_length (s:S8):(outB s).length=32:=rfl
def sha (d:List UInt8):List UInt8:=outB (mixes (padB d) (S8.of HS) ((padB d).length / 64))
theorem sha_length (d:List UInt8):(sha d).length=32:=rfl
theorem word_at {b c:List UInt8} {p q:Nat} (h:∀ j,j < 4→at0 b (p + j)=at0 c (q + j)):word b p=word c q:=by
  unfold word
  have h0:=h 0 (by omega); have h1:=h 1 (by omega); have h2:=h 2 (by omega); have h3:=h 3 (by omega)
  rw [Nat.add_zero,Nat.add_zero] at h0
  rw [h0,h1,h2,h3]
theorem sch_at {b c:List UInt8} {p q:Nat} (h:∀ j,j < 64→at0 b (p + j)=at0 c (q + j)):∀ t,sch b p t=sch c q t
  | 0=>rfl
  | t + 1=>by
    have ih:=sch_at h t
    have hw:(if t < 16 then word b (p + 4 * t) else nextW (sch b p t) t)=(if t < 16 then word c (q + 4 * t) else nextW (sch c q t) t):=by
      by_cases ht:t < 16
      · rw [if_pos ht,if_pos ht]
        exact word_at fun j hj=>by rw [Nat.add_assoc,Nat.add_assoc]; exact h (4 * t + j) (by omega)
      · rw [if_neg ht,if_neg ht,ih]
    show sch b p t++[if t < 16 then word b (p + 4 * t) else nextW (sch b p t) t]=sch c q t++[if t < 16 then word c (q + 4 * t) else nextW (sch c q t) t]
    rw [hw,ih]
theorem mixS_at {b c:List UInt8} {p q:Nat} {s:S8} (h:∀ j,j < 64→at0 b (p + j)=at0 c (q + j)):mixS b p s=mixS c q s:=by
  unfold mixS
  rw [sch_at h]
end Go.Proofs.Ytinamipkpdlphaa
namespace Go.Proofs.Ytinamipkpdlphaa
def numB (n:Int) (sz:Nat):List UInt8:=(List.range sz).map fun j=>byte (n.fdiv (2 ^ (8 * (sz - 1 - j))))
def numTo (n:Int) (sz k:Nat):List UInt8:=(List.range sz).map fun j=>if sz - k≤j then byte (n.fdiv (2 ^ (8 * (sz - 1 - j)))) else 0
theorem numB_length (n:Int) (sz:Nat):(numB n sz).length=sz:=by simp [numB]
theorem numTo_length (n:Int) (sz k:Nat):(numTo n sz k).length=sz:=by simp [numTo]
theorem numTo_zero (n:Int) (sz:Nat):bs (numTo n sz 0)=List.replicate sz (.int .u8 0):=by
  apply List.ext_getElem?
  intro j
  simp only [bs,numTo,List.map_map]
  rw [List.getElem?_map]
  by_cases hj:j < sz
  · rw [List.getElem?_range hj,List.getElem?_replicate]
    simp only [Option.map_some,hj,if_true,Nat.sub_zero]
    show some (bv (if sz≤j then _ else 0))=_
    rw [if_neg (by omega)]
    rfl
  · rw [List.getElem?_eq_none (by simpa using hj),List.getElem?_eq_none (by simpa using hj)]
    rfl
theorem numTo_all (n:Int) (sz k:Nat) (hk:k≤sz) (h:¬ (k:Int) < (sz:Int)):numTo n sz k=numB n sz:=by
  unfold numTo numB
  apply List.map_congr_left
  intro j _
  rw [if_pos (by omega)]
theorem numTo_set (n:Int) (sz k:Nat) (h:k < sz):(bs (numTo n sz k)).set ((sz:Int) - 1 - (k:Int)).toNat (bv (byte (n.fdiv (2 ^ (8 * k)))))=bs (numTo n sz (k + 1)):=by
  have e:((sz:Int) - 1 - (k:Int)).toNat=sz - 1 - k:=by omega
  rw [e]
  apply List.ext_getElem?
  intro j
  rw [List.getElem?_set,bs_get,bs_get]
  unfold numTo
  rw [List.getElem?_map,List.getElem?_map]
  by_cases hj:j < sz
  · rw [List.getElem?_range hj]
    by_cases h1:sz - 1 - k=j
    · subst h1
      simp only [Option.map_some,if_true]
      rw [if_pos (by rw [bs_length,List.length_map,List.length_range]; omega),if_pos (by omega),show sz - 1 - (sz - 1 - k)=k by omega]
    · rw [if_neg h1]
      simp only [Option.map_some]
      by_cases h2:sz - k≤j
      · rw [if_pos h2,if_pos (by omega)]
      · rw [if_neg h2,if_neg (by omega)]
  · rw [List.getElem?_eq_none (by simpa using hj)]
    simp
    omega
theorem int_val {k:IntKind} {a b:Int} (h:a=b):Value.int k a=Value.int k b:=by rw [h]
theorem zeroId_length:zeroId.length=32:=rfl
def val (l:List UInt8):Nat→Nat
  | 0=>0
  | k + 1=>val l k * 2 ^ 8 + (at0 l k).toNat
theorem val_lt (l:List UInt8):∀ k,val l k < 2 ^ (8 * k)
  | 0=>by simp [val]
  | k + 1=>by
    have:=val_lt l k
    have h:=(at0 l k).toNat_lt
    have e:2 ^ (8 * (k + 1))=2 ^ (8 * k) * 256:=by rw [Nat.mul_add,Nat.pow_add]
    rw [val,e]
    omega
theorem val_small (l:List UInt8) {k:Nat} (h:k≤7):val l k < 72057594037927936:=by
  have:=val_lt l k
  have h2:2 ^ (8 * k)≤2 ^ (8 * 7):=Nat.pow_le_pow_right (by omega) (by omega)
  omega
theorem val_take (l:List UInt8) (n:Nat):∀ k,k≤n→val (l.take n) k=val l k
  | 0,_=>rfl
  | k + 1,h=>by
    rw [val,val,val_take l n k (by omega)]
    congr 2
    simp [at0,List.getElem?_take,show k < n by omega]
theorem val_lt6 (l:List UInt8) {k:Nat} (h:k≤6):val l k < 281474976710656:=by
  have:=val_lt l k
  have h2:2 ^ (8 * k)≤2 ^ (8 * 6):=Nat.pow_le_pow_right (by omega) (by omega)
  omega
open Go.RowKit
def hdL (nm:List UInt8) (q:Int):List UInt8:=nm++numB q 4
def hashC (nm:List UInt8) (q mark by':Int) (t:List UInt8):List UInt8:=sha (hdL nm q++numB mark 2++[byte by']++t)
theorem hashC_length (nm:List UInt8) (q mark by':Int) (t:List UInt8):(hashC nm q mark by' t).length=32:=sha_length _
def walkC (nm:List UInt8) (q:Int) (i a:Nat):Nat→List UInt8→List UInt8
  | 0,t=>t
  | n + 1,t=>hashC nm q i ((a + n:Nat):Int) (walkC nm q i a n t)
theorem walkC_length {nm:List UInt8} {q:Int} {i a:Nat} {t:List UInt8} (ht:t.length=32):∀ n,(walkC nm q i a n t).length=32
  | 0=>ht
  | n + 1=>sha_length _
theorem walkC_add (nm:List UInt8) (q:Int) (i a n:Nat) (t:List UInt8):∀ m,walkC nm q i (a + n) m (walkC nm q i a n t)=walkC nm q i a (n + m) t
  | 0=>rfl
  | m + 1=>by
    show hashC nm q i ((a + n + m:Nat):Int) _=hashC nm q i ((a + (n + m):Nat):Int) (walkC nm q i a (n + m) t)
    rw [walkC_add nm q i a n t m,Nat.add_assoc]
def rowsC (y:Nat→List UInt8):Nat→List UInt8
  | 0=>[]
  | n + 1=>rowsC y n++y n
theorem rowsC_length {y:Nat→List UInt8}:∀ {n:Nat},(∀ i,i < n→(y i).length=32)→(rowsC y n).length=32 * n
  | 0,_=>rfl
  | n + 1,h=>by rw [rowsC,List.length_append,rowsC_length fun i hi=>h i (by omega),h n (by omega)]; omega
theorem rowsC_congr {y z:Nat→List UInt8}:∀ {n:Nat},(∀ i,i < n→y i=z i)→rowsC y n=rowsC z n
  | 0,_=>rfl
  | n + 1,h=>by rw [rowsC,rowsC,rowsC_congr fun i hi=>h i (by omega),h n (by omega)]
theorem rowsC_get {y:Nat→List UInt8}:∀ {n:Nat},(∀ i,i < n→(y i).length=32)→∀ {i:Nat},i < n→((rowsC y n).drop (32 * i)).take 32=y i
  | n + 1,h,i,hi=>by
    have hl:=rowsC_length (y:=y) (n:=n) fun i hi=>h i (by omega)
    rw [rowsC]
    rcases Nat.lt_or_ge i n with hn | hn
    · rw [List.drop_append_of_le_length (by omega),List.take_append_of_le_length (by rw [List.length_drop]; omega)]
      exact rowsC_get (fun i hi=>h i (by omega)) hn
    · obtain rfl:i=n:=by omega
      rw [show 32 * i=(rowsC y i).length by omega,List.drop_left,List.take_of_length_le (by rw [h i (by omega)]; exact Nat.le_refl _)]
def endsC (nm:List UInt8) (q:Int) (y:Nat→List UInt8):List UInt8:=sha (hdL nm q++[128,128]++rowsC y 133)
theorem endsC_length (nm:List UInt8) (q:Int) (y:Nat→List UInt8):(endsC nm q y).length=32:=sha_length _
theorem endsC_congr {nm:List UInt8} {q:Int} {y z:Nat→List UInt8} (h:∀ i,i < 133→y i=z i):endsC nm q y=endsC nm q z:=by
  unfold endsC
  rw [rowsC_congr h]
def dig (b:List UInt8) (i:Nat):Nat:=(at0 b (i / 4)).toNat / 2 ^ (6 - 2 * (i % 4)) % 4
theorem dig_lt (b:List UInt8) (i:Nat):dig b i < 4:=Nat.mod_lt _ (by decide)
def digSum (b:List UInt8):Nat→Nat
  | 0=>0
  | n + 1=>digSum b n + (3 - dig b n)
theorem digSum_le (b:List UInt8):∀ n,digSum b n≤3 * n
  | 0=>Nat.le_refl _
  | n + 1=>by have:=digSum_le b n; rw [digSum]; omega
def bitSum (x:UInt8):Nat→Nat
  | 0=>0
  | s + 1=>bitSum x s + (3 - x.toNat / 2 ^ (2 * s) % 4)
theorem bitSum_le (x:UInt8):∀ n,bitSum x n≤3 * n
  | 0=>Nat.le_refl _
  | n + 1=>by have:=bitSum_le x n; rw [bitSum]; omega
theorem digSum_four (b:List UInt8) (k:Nat):digSum b (4 * k) + bitSum (at0 b k) 4=digSum b (4 * (k + 1)):=by
  have h0:dig b (4 * k)=(at0 b k).toNat / 2 ^ 6 % 4:=by unfold dig; rw [show 4 * k / 4=k by omega,show 4 * k % 4=0 by omega]
  have h1:dig b (4 * k + 1)=(at0 b k).toNat / 2 ^ 4 % 4:=by unfold dig; rw [show (4 * k + 1) / 4=k by omega,show (4 * k + 1) % 4=1 by omega]
  have h2:dig b (4 * k + 2)=(at0 b k).toNat / 2 ^ 2 % 4:=by unfold dig; rw [show (4 * k + 2) / 4=k by omega,show (4 * k + 2) % 4=2 by omega]
  have h3:dig b (4 * k + 3)=(at0 b k).toNat / 2 ^ 0 % 4:=by unfold dig; rw [show (4 * k + 3) / 4=k by omega,show (4 * k + 3) % 4=3 by omega]
  rw [show 4 * (k + 1)=4 * k + 1 + 1 + 1 + 1 by omega]
  simp only [digSum,bitSum]
  rw [show 4 * k + 1 + 1=4 * k + 2 by omega,show 4 * k + 2 + 1=4 * k + 3 by omega,h0,h1,h2,h3]
  simp only [Nat.mul_zero,Nat.reduceMul]
  omega
def digB (nm:List UInt8) (q:Int) (c msg:List UInt8):List UInt8:=sha (hdL nm q++[129,129]++c++msg)
def digB2 (nm:List UInt8) (q:Int) (c msg:List UInt8):List UInt8:=digB nm q c msg++numB ((64 * digSum (digB nm q c msg) 128:Nat):Int) 2
theorem digB2_length (nm:List UInt8) (q:Int) (c msg:List UInt8):(digB2 nm q c msg).length=34:=by unfold digB2 digB; rw [List.length_append,sha_length,numB_length]
def digA (nm:List UInt8) (q:Int) (c msg:List UInt8) (i:Nat):Nat:=dig (digB2 nm q c msg) i
theorem digA_lt (nm:List UInt8) (q:Int) (c msg:List UInt8) (i:Nat):digA nm q c msg i < 4:=dig_lt _ _
def secC (nm:List UInt8) (q:Int) (seed:List UInt8) (i:Nat):List UInt8:=hashC nm q i 255 seed
def pubY (nm:List UInt8) (q:Int) (seed:List UInt8) (i:Nat):List UInt8:=walkC nm q i 0 3 (secC nm q seed i)
def pubO (nm:List UInt8) (q:Int) (seed:List UInt8):List UInt8:=endsC nm q (pubY nm q seed)
def rndO (nm:List UInt8) (q:Int) (seed:List UInt8):List UInt8:=hashC nm q 65533 255 seed
def sgnY (nm:List UInt8) (q:Int) (seed c msg:List UInt8) (i:Nat):List UInt8:=walkC nm q i 0 (digA nm q c msg i) (secC nm q seed i)
def sgnO (nm:List UInt8) (q:Int) (seed msg:List UInt8):List UInt8:=[0,0,0,2]++rndO nm q seed++rowsC (sgnY nm q seed (rndO nm q seed) msg) 133
def bckY (nm:List UInt8) (q:Int) (c msg sig:List UInt8) (i:Nat):List UInt8:=walkC nm q i (digA nm q c msg i) (3 - digA nm q c msg i) ((sig.drop (36 + 32 * i)).take 32)
def bckO (nm:List UInt8) (q:Int) (msg sig:List UInt8):List UInt8:=endsC nm q (bckY nm q ((sig.drop 4).take 32) msg sig)
theorem secC_length (nm:List UInt8) (q:Int) (seed:List UInt8) (i:Nat):(secC nm q seed i).length=32:=hashC_length _ _ _ _ _
theorem pubY_length (nm:List UInt8) (q:Int) (seed:List UInt8) (i:Nat):(pubY nm q seed i).length=32:=walkC_length (secC_length _ _ _ _) _
theorem sgnY_length (nm:List UInt8) (q:Int) (seed c msg:List UInt8) (i:Nat):(sgnY nm q seed c msg i).length=32:=walkC_length (secC_length _ _ _ _) _
theorem bckY_length {nm:List UInt8} {q:Int} {c msg sig:List UInt8} {i:Nat} (h:36 + 32 * i + 32≤sig.length):(bckY nm q c msg sig i).length=32:=walkC_length (by rw [List.length_take,List.length_drop]; omega) _
theorem sgnO_length (nm:List UInt8) (q:Int) (seed msg:List UInt8):(sgnO nm q seed msg).length=4292:=by
  unfold sgnO
  rw [List.length_append,List.length_append,rowsC_length (y:=sgnY nm q seed (rndO nm q seed) msg) (fun i _=>walkC_length (hashC_length _ _ _ _ _) _)]
  unfold rndO
  rw [hashC_length]
  rfl
theorem sgnO_c (nm:List UInt8) (q:Int) (seed msg:List UInt8):((sgnO nm q seed msg).drop 4).take 32=rndO nm q seed:=by
  unfold sgnO
  rw [List.append_assoc]
  show ((rndO nm q seed++_).take 32)=_
  rw [List.take_append_of_le_length (by unfold rndO; rw [hashC_length]; exact Nat.le_refl _),List.take_of_length_le (by unfold rndO; rw [hashC_length]; exact Nat.le_refl _)]
theorem sgnO_z (nm:List UInt8) (q:Int) (seed msg:List UInt8) {i:Nat} (hi:i < 133):((sgnO nm q seed msg).drop (36 + 32 * i)).take 32=walkC nm q i 0 (digA nm q (rndO nm q seed) msg i) (secC nm q seed i):=by
  unfold sgnO
  have hl:([0,0,0,2]++rndO nm q seed).length=36:=by rw [List.length_append]; unfold rndO; rw [hashC_length]; rfl
  rw [← List.drop_drop,show 36=([0,0,0,2]++rndO nm q seed).length from hl.symm,List.drop_left]
  exact rowsC_get (y:=sgnY nm q seed (rndO nm q seed) msg) (fun i _=>walkC_length (hashC_length _ _ _ _ _) _) hi
theorem sgnO_front (nm:List UInt8) (q:Int) (seed msg:List UInt8):(sgnO nm q seed msg).take 4=[0,0,0,2]:=by
  unfold sgnO
  rw [List.append_assoc]
  rfl
theorem bckO_sgn (nm:List UInt8) (q:Int) (seed msg:List UInt8):bckO nm q msg (sgnO nm q seed msg)=pubO nm q seed:=by
  unfold bckO pubO
  refine endsC_congr fun i hi=>?_
  unfold bckY pubY
  rw [sgnO_c,sgnO_z nm q seed msg hi]
  have h:=digA_lt nm q (rndO nm q seed) msg i
  generalize digA nm q (rndO nm q seed) msg i=a at h ⊢
  have:=walkC_add nm q i 0 a (secC nm q seed i) (3 - a)
  rw [Nat.zero_add,show a + (3 - a)=3 by omega] at this
  exact this
def nodH (nm:List UInt8) (r:Int) (mark:UInt8) (b:List UInt8):List UInt8:=sha (hdL nm r++[mark,mark]++b)
theorem nodH_length (nm:List UInt8) (r:Int) (mark:UInt8) (b:List UInt8):(nodH nm r mark b).length=32:=sha_length _
def climb (nm:List UInt8):Nat→Nat→List UInt8→List UInt8→List UInt8
  | 0,_,t,_=>t
  | k + 1,r,t,p=>climb nm k (r / 2) (nodH nm ((r / 2:Nat):Int) 131 (if r % 2=1 then p.take 32++t else t++p.take 32)) (p.drop 32)
def leafT (nm seed:List UInt8) (q:Nat):List UInt8:=nodH nm ((2 + q:Nat):Int) 130 (pubO nm q seed)
def topT (nm seed:List UInt8):List UInt8:=nodH nm 1 131 (leafT nm seed 0++leafT nm seed 1)
def pubT (nm seed:List UInt8):List UInt8:=numB 1 4++numB 2 4++nm++topT nm seed
def sgnT (nm seed:List UInt8) (q:Nat) (msg:List UInt8):List UInt8:=numB q 4++sgnO nm q seed msg++numB 1 4++leafT nm seed (1 - q)
def rootT (pub msg sig:List UInt8):List UInt8 :=
  climb ((pub.drop 8).take 16) (val pub 4) (2 ^ val pub 4 + val sig 4) (nodH ((pub.drop 8).take 16) ((2 ^ val pub 4 + val sig 4:Nat):Int) 130 (bckO ((pub.drop 8).take 16) (val sig 4:Nat) msg ((sig.drop 4).take 4292))) (sig.drop 4300)
def badPub (pub:List UInt8):Prop:=pub.length≠56∨val pub 4 < 1∨5 < val pub 4∨val (pub.drop 4) 4≠2
def badSig (h:Nat) (sig:List UInt8):Prop:=sig.length≠4300 + 32 * h∨val (sig.drop 4296) 4≠h∨2 ^ h≤val sig 4
open Classical in
noncomputable def checkT (pub msg sig:List UInt8):Int :=
  if badPub pub then 11 else if badSig (val pub 4) sig then 12 else if (sig.drop 4).take 4≠[0,0,0,2] then 12 else if rootT pub msg sig=pub.drop 24 then 0 else 12
theorem val_app {a b:List UInt8} {k:Nat} (h:a.length=k):val (a++b) k=val a k:=by
  rw [← val_take (a++b) k k (Nat.le_refl _),List.take_append_of_le_length (by omega),val_take a k k (Nat.le_refl _)]
theorem val_two {q:Nat} (hq:q < 2):val (numB (q:Int) 4) 4=q:=by
  obtain rfl | rfl:q=0∨q=1:=by omega
  · rfl
  · rfl
theorem rootT_two {nm seed:List UInt8} {q:Nat} (hq:q < 2):nodH nm (((2 ^ 1 + q) / 2:Nat):Int) 131 (if (2 ^ 1 + q) % 2=1 then (leafT nm seed (1 - q)).take 32++nodH nm ((2 ^ 1 + q:Nat):Int) 130 (pubO nm q seed) else nodH nm ((2 ^ 1 + q:Nat):Int) 130 (pubO nm q seed)++(leafT nm seed (1 - q)).take 32)=topT nm seed:=by
  have hl:∀ i,(leafT nm seed i).take 32=leafT nm seed i:=fun i=>List.take_of_length_le (by unfold leafT; rw [nodH_length]; exact Nat.le_refl _)
  rw [hl]
  unfold topT leafT
  obtain rfl | rfl:q=0∨q=1:=by omega
  · rw [if_neg (by decide)]; rfl
  · rw [if_pos (by decide)]; rfl
theorem checkT_sgn {nm seed msg:List UInt8} (hn:nm.length=16) {q:Nat} (hq:q < 2):checkT (pubT nm seed) msg (sgnT nm seed q msg)=0:=by
  have hN:∀ n:Int,(numB n 4).length=4:=fun n=>numB_length _ _
  have ht:(topT nm seed).length=32:=nodH_length _ _ _ _
  have hl:∀ i,(leafT nm seed i).length=32:=fun i=>nodH_length _ _ _ _
  have hs:=sgnO_length nm q seed msg
  have p0:pubT nm seed=numB 1 4++(numB 2 4++(nm++topT nm seed)):=by unfold pubT; simp only [List.append_assoc]
  have s0:sgnT nm seed q msg=numB q 4++(sgnO nm q seed msg++(numB 1 4++leafT nm seed (1 - q))):=by unfold sgnT; simp only [List.append_assoc]
  have h1:val (pubT nm seed) 4=1:=by rw [p0,val_app (hN 1)]; rfl
  have h2:val ((pubT nm seed).drop 4) 4=2:=by rw [p0,show (numB 1 4++(numB 2 4++(nm++topT nm seed))).drop 4=numB 2 4++(nm++topT nm seed) from List.drop_left (l₁:=numB 1 4),val_app (hN 2)]; rfl
  have d4':∀ (n:Int) (l:List UInt8),(numB n 4++l).drop 4=l:=fun n l=>List.drop_left (l₁:=numB n 4)
  have d8:(pubT nm seed).drop 8=nm++topT nm seed:=by rw [p0,show 8=4 + 4 from rfl,← List.drop_drop,d4',d4']
  have h3:((pubT nm seed).drop 8).take 16=nm:=by rw [d8,← hn,List.take_left]
  have h4:(pubT nm seed).drop 24=topT nm seed:=by rw [show 24=8 + 16 from rfl,← List.drop_drop,d8,← hn,List.drop_left]
  have g1:val (sgnT nm seed q msg) 4=q:=by
    rw [s0,val_app (hN q),val_two hq]
  have d4:(sgnT nm seed q msg).drop 4=sgnO nm q seed msg++(numB 1 4++leafT nm seed (1 - q)):=by rw [s0]; exact List.drop_left (l₁:=numB (q:Int) 4)
  have g2:((sgnT nm seed q msg).drop 4).take 4292=sgnO nm q seed msg:=by rw [d4,← hs,List.take_left]
  have g3:(sgnT nm seed q msg).drop 4296=numB 1 4++leafT nm seed (1 - q):=by rw [show 4296=4 + 4292 from rfl,← List.drop_drop,d4,← hs,List.drop_left]
  have g4:val ((sgnT nm seed q msg).drop 4296) 4=1:=by rw [g3,val_app (hN 1)]; rfl
  have g5:(sgnT nm seed q msg).drop 4300=leafT nm seed (1 - q):=by rw [show 4300=4296 + 4 from rfl,← List.drop_drop,g3]; exact List.drop_left (l₁:=numB (1:Int) 4)
  have g6:((sgnT nm seed q msg).drop 4).take 4=[0,0,0,2]:=by rw [d4,List.take_append_of_le_length (by omega),sgnO_front]
  have hp:¬ badPub (pubT nm seed):=by
    unfold badPub
    rw [h1,h2]
    have:(pubT nm seed).length=56:=by unfold pubT; simp only [List.length_append,hN,hn,ht]
    omega
  have hg:¬ badSig 1 (sgnT nm seed q msg):=by
    unfold badSig
    rw [g1,g4]
    have:(sgnT nm seed q msg).length=4332:=by unfold sgnT; simp only [List.length_append,hN,hs,hl]
    omega
  have hr:rootT (pubT nm seed) msg (sgnT nm seed q msg)=topT nm seed:=by
    have hc:∀ (r:Nat) (t p:List UInt8),climb nm 1 r t p=nodH nm ((r / 2:Nat):Int) 131 (if r % 2=1 then p.take 32++t else t++p.take 32):=fun _ _ _=>rfl
    unfold rootT
    rw [h1,h3,g1,g2,g5,bckO_sgn,hc]
    exact rootT_two hq
  unfold checkT
  rw [if_neg hp,h1,if_neg hg,if_neg (by rw [g6]; exact fun h=>h rfl),if_pos (by rw [hr,h4])]
open Go.RowKit
set_option maxRecDepth 8000

theorem clone_spec (v:Value) (l:List UInt8) (hl:l.length≤4000000000) (F:HP) (hF:∀ h,F h→rdB v l h):CallsS Try.prog 25 #[v] F [] (fun r Ps=>r.oneCell'=true∧Ps=[rowB 5 r l]):=by
 refine callsS_enter Try.func25 rfl Try.ntmps25 (by simp) (fun E=>?_)
 refine Q9 ?_
 refine W_fact (r:=0) rfl (fun h hp=>rdP_nil (hF h hp)) (fun hnil=>?_)
 refine R9 (G9 rfl rfl (N9 (X9 (Q9 (Q9 (R9 (M9 rfl rfl (L9 rfl (Pu_eqNil (r:=0) rfl Try.underlying30 rfl rfl rfl hF) (N9 (X9 ?_))))))))))
 refine C9 rfl (fun hc4=>?_) (fun hc4=>?_)
 ·
  refine Q9 (R9 (G9 rfl rfl (N9 (X9 ?_))))
  refine W_ret (X_then_ret ?_)
  refine X_nilRow 9900 5 1 ?_
  obtain rfl:l=[]:=List.length_eq_zero_iff.1 (hnil hc4)
  exact Xq9 [9900] (Ps:=[_]) (res1 Try.results25 rfl) rfl (by decide) ⟨rfl,congrArg (·::[]) (rowB_of [] rfl rfl)⟩
 ·
  refine K9 (X9 ?_)
  refine Q9 (R9 (Lc9 rfl rfl (by decide) (OpT_buildOnes (r:=101) [] rfl rfl Try.runUnderlying30 Try.sizeOf5 Try.zeroValue5 rfl rfl (by decide) rfl (by simp) (fun v5=>(M9 rfl rfl (Lc9 rfl rfl (by decide) (Oa9 (r:=101) (r2:=0) (k1:=0) rfl Try.underlying30 TI.hi5 TI.hz5 TI.hs5 TI.hby5 TI.hzs5 (by decide) rfl rfl rfl rfl hF (bs_one _) (by unfold maxLen; omega) (by omega) (fun v7=>?_))))))))
  refine (G9 rfl rfl (N9 (X9 ?_)))
  refine W_ret ?_
  refine X_fact (r:=101) rfl (fun h hp=>rd_one (rp9 hp)) (fun hone=>?_)
  exact Xq9 [101] (Ps:=[_]) (res1 Try.results25 rfl) rfl (by decide) ⟨hone,congrArg (·::[]) (rowB_of l (by simp) (by simp))⟩
end Go.Proofs.Ytinamipkpdlphaa
namespace Go.Proofs.Ytinamipkpdlphaa
theorem numB_four (n:Int):numB n 4=[byte (n.fdiv (2 ^ 24)),byte (n.fdiv (2 ^ 16)),byte (n.fdiv (2 ^ 8)),byte n]:=by
  have:n.fdiv 1=n:=by simp
  simp [numB,List.range_succ,this]
theorem val_four (l:List UInt8):val l 4=(at0 l 0).toNat * 2 ^ 24 + (at0 l 1).toNat * 2 ^ 16 + (at0 l 2).toNat * 2 ^ 8 + (at0 l 3).toNat:=by
  simp only [val]; omega
def idTo (l:List UInt8) (k:Nat):List UInt8:=l.take k++List.replicate (32 - k) 0
theorem idTo_zero (l:List UInt8):idTo l 0=zeroId:=by simp [idTo,zeroId]
theorem idTo_length (l:List UInt8) {k:Nat} (hl:32≤l.length) (hk:k≤32):(idTo l k).length=32:=by simp [idTo]; omega
theorem idTo_all (l:List UInt8):idTo l 32=l.take 32:=by simp [idTo]
theorem idTo_set (l:List UInt8) {k:Nat} (hl:32≤l.length) (hk:k < 32):(bs (idTo l k)).set k (bv (at0 l k))=bs (idTo l (k + 1)):=by
  have e:(bs (idTo l k)).set k (bv (at0 l k))=bs ((idTo l k).set k (at0 l k)):=by simp [bs,List.map_set]
  rw [e]
  congr 1
  apply List.ext_getElem?
  intro j
  rw [List.getElem?_set]
  unfold idTo
  by_cases h1:k=j
  · subst h1
    rw [if_pos rfl,if_pos (by simp; omega),List.getElem?_append_left (by simp; omega),List.getElem?_take,if_pos (by omega),List.getElem?_eq_getElem (by omega)]
    simp [at0,show k < l.length by omega]
  · rw [if_neg h1]
    by_cases h2:j < k
    · rw [List.getElem?_append_left (by simp; omega),List.getElem?_append_left (by simp; omega),List.getElem?_take,List.getElem?_take,if_pos h2,if_pos (by omega)]
    · rw [List.getElem?_append_right (by simp; omega),List.getElem?_append_right (by simp; omega),List.getElem?_replicate,List.getElem?_replicate]
      simp only [List.length_take]
      by_cases h3:j < 32
      · rw [if_pos (by omega),if_pos (by omega)]
      · rw [if_neg (by omega),if_neg (by omega)]
theorem flat_ids {l:List (List UInt8)} (h:Ids l):l.flatten.length=l.length * 32:=by
  induction l with
  | nil=>rfl
  | cons x l ih =>
    rw [List.flatten_cons,List.length_append,ih (fun y hy=>h y (by simp [hy])),h x (by simp),List.length_cons]
    omega
section
variable {a b:List (List UInt8)} {k:Nat}
end
end Go.Proofs.Ytinamipkpdlphaa
namespace Go.Proofs.Ytinamipkpdlphaa
def nilS:Value:=.slice none 0 0
def rootC (pv:Value) (ver:Int) (top:List UInt8) (tv:Value):List Value:=[pv,.int .i64 ver]++bs top++[tv]
def rootV (pv:Value) (ver:Int) (top:List UInt8) (tv:Value):Value:=.agg (rootC pv ver top tv).toArray
theorem rootC_length {pv:Value} {ver:Int} {top:List UInt8} {tv:Value} (ht:top.length=32):(rootC pv ver top tv).length=35:=by simp [rootC,bs_length,ht]
theorem one_root {pv:Value} {ver:Int} {top:List UInt8} {tv:Value} (hp:pv.oneCell'=true) (hv:tv.oneCell'=true):∀ x ∈ rootC pv ver top tv,x.oneCell'=true:=by
  intro x hx
  simp only [rootC,List.mem_append,List.mem_cons,List.not_mem_nil,or_false] at hx
  rcases hx with ((rfl | rfl) | h) | rfl
  · exact hp
  · rfl
  · exact bs_one _ x h
  · exact hv
theorem take_rtop {pv:Value} {ver:Int} {top:List UInt8} {tv:Value} (ht:top.length=32):((rootC pv ver top tv).drop 2).take 32=bs top:=by
  show (bs top++[tv]).take 32=bs top
  rw [List.take_append_of_le_length (by rw [bs_length,ht]; omega),List.take_of_length_le (by rw [bs_length,ht]; omega)]
theorem root_tail {pv:Value} {ver:Int} {top:List UInt8} {tv:Value} (ht:top.length=32):(rootC pv ver top tv)[34]?=some tv:=by
  unfold rootC
  rw [List.getElem?_append_right (by simp [bs_length,ht])]
  simp [bs_length,ht]
theorem root_over {pv:Value} {ver:Int} {z top:List UInt8} {tv:Value} (hz:z.length=32) (ht:top.length=32):over (rootC pv ver z tv) 2 (bs top)=rootC pv ver top tv:=by
  have h1:(bs top).length=32:=by rw [bs_length,ht]
  have h2:(bs z).length=32:=by rw [bs_length,hz]
  simp [over,rootC,h1,h2]
theorem root_set {pv:Value} {ver:Int} {top:List UInt8} {tv tv':Value} (ht:top.length=32):(rootC pv ver top tv).set 34 tv'=rootC pv ver top tv':=by
  have h2:(bs top).length=32:=by rw [bs_length,ht]
  unfold rootC
  rw [List.set_append_right _ _ (by simp [h2])]
  simp [h2]
theorem root_copy {pv:Value} {ver:Int} {z b:List UInt8} {tv:Value} (hz:z.length=32) (hb:32≤b.length):over (rootC pv ver z tv) 2 ((bs b).take (min b.length 32))=rootC pv ver (b.take 32) tv:=by
  rw [Nat.min_eq_right hb,← bs_take]
  exact root_over hz (by simp; omega)
def rootE (pl:List UInt8) (ver:Int) (tl:List UInt8):Int:=if pl.length≠56∨ver < 1∨2147483647 < ver then 1 else if 5000 < tl.length then 5 else 0
def rootLs (pl:List UInt8) (ver:Int) (top tl:List UInt8):List (List UInt8):=[[114],pl,numB ver 4,top,numB tl.length 2,tl]
def rootR (pl:List UInt8) (ver:Int) (top tl:List UInt8):List UInt8:=if rootE pl ver tl=0 then (rootLs pl ver top tl).flatten else []
theorem rootE_bad {pl:List UInt8} {ver:Int} {tl:List UInt8} (h:(!decide ((pl.length:Int)=56) || decide (ver < 1) || decide (2147483647 < ver))=true):rootE pl ver tl=1:=by
  unfold rootE
  rw [if_pos]
  simp at h
  omega
theorem rootE_good {pl:List UInt8} {ver:Int} {tl:List UInt8} (h:(!decide ((pl.length:Int)=56) || decide (ver < 1) || decide (2147483647 < ver))=false):rootE pl ver tl=if 5000 < tl.length then 5 else 0:=by
  unfold rootE
  rw [if_neg]
  simp at h
  omega
def pRootBad (b:List UInt8):Bool:=!decide (at0 b 0=114) || decide ((val (b.drop 57) 4:Int) < 1) || decide ((2147483647:Int) < (val (b.drop 57) 4:Int)) || decide ((5000:Int) < (val (b.drop 93) 2:Int))
def pRootE (b:List UInt8):Int:=if b.length < 95 then 8 else if pRootBad b then 11 else if b.length < 95 + val (b.drop 93) 2 then 8 else if 95 + val (b.drop 93) 2 < b.length then 9 else 0
structure Rt where
  pl:List UInt8
  ver:Int
  top:List UInt8
  tl:List UInt8
def pRoot (b:List UInt8):Rt:=if pRootE b=0 then ⟨(b.drop 1).take 56,val (b.drop 57) 4,(b.drop 61).take 32,b.drop 95⟩ else ⟨[],0,zeroId,[]⟩
theorem pRoot_err {b:List UInt8} {e:Int} (h:pRootE b=e) (he:e≠0):pRoot b=⟨[],0,zeroId,[]⟩:=by unfold pRoot; rw [if_neg (by rw [h]; exact he)]
theorem pRootE_cut {b:List UInt8} (h:(b.length:Int) < 95):pRootE b=8:=by unfold pRootE; rw [if_pos (by omega)]
theorem pRootE_bad {b:List UInt8} (h:95≤b.length) (hb:pRootBad b=true):pRootE b=11:=by unfold pRootE; rw [if_neg (by omega),if_pos hb]
theorem pRootE_later {b:List UInt8} (h:95≤b.length) (hb:pRootBad b=false):pRootE b=if b.length < 95 + val (b.drop 93) 2 then 8 else if 95 + val (b.drop 93) 2 < b.length then 9 else 0:=by
  unfold pRootE
  rw [if_neg (by omega),if_neg (by rw [hb]; decide)]
theorem pRootBad_of {b:List UInt8}:(!decide (((at0 b 0).toNat:Int)=114) || decide ((val (b.drop 57) 4:Int) < 1) || decide ((2147483647:Int) < (val (b.drop 57) 4:Int)) || decide ((5000:Int) < (val (b.drop 93) 2:Int)))=pRootBad b:=by
  unfold pRootBad
  have:(((at0 b 0).toNat:Int)=114) ↔ at0 b 0=114:=by
    constructor
    · intro h
      apply UInt8.toNat_inj.1
      have:(114:UInt8).toNat=114:=rfl
      omega
    · intro h; rw [h]; rfl
  simp only [this]
open Go.RowKit
section
variable {P:Program} {w:World}
end
section
variable {P:Program} {E:Env} {n:Nat} {K:Slots} {L:Res} {o:Oper} {C:Value→Res→Prop}
end
open Go.RowKit
set_option maxRecDepth 8000

theorem number_spec (n:Int) (sz:Nat) (hsz:sz≤8) (F:HP):CallsS Try.prog 43 #[.int .i64 n,.int .i64 (sz:Int)] F [] (fun v Ps=>Ps=[rowP 5 1 v sz (bs (numB n sz))]):=by
 refine callsS_enter Try.func43 rfl Try.ntmps43 (by simp) (fun E=>?_)
 refine Q9 (R9 (G9 rfl rfl (N9 (X9 (Q9 (R9 (M9 rfl rfl (Lc9 rfl rfl (by decide) (OpT_make (r:=101) (m:=sz) rfl Try.underlying30 TI.hi5 TI.hz5 TI.hs5 rfl rfl (by rw [TI.hby5]; omega) (by unfold maxLen; omega) (made_one _ _) (fun v8=>?_))))))))))
 refine (G9 rfl rfl (N9 (X9 ?_)))
 refine Q9 (Q9 (R9 (M9 rfl rfl (L9 rfl (Pl9 (r:=101) rfl Try.runUnderlying30 rfl rfl (fun _ h=>rp9 h)) (M9 rfl rfl (N9 (X9 ?_)))))))
 refine W_block ?_
 refine W_loop (α:=Nat) (fun k=>[(0,.int .i64 n),(1,.int .i64 (sz:Int)),(5,v8),(10,.int .i64 (sz:Int)),(11,.int .i64 (k:Int))]) (fun k=>[(0,F),(101,rowP 5 1 v8 sz (bs (numTo n sz k)))]) (fun k=>k≤sz) (fun k=>sz - k) (0) (by omega) (a9 rfl) ⟨rfl,by rw [numTo_zero]; rfl,trivial⟩ (fun x hx=>?_)
 have hlen:=numTo_length n sz x
 refine Q9 (R9 (L9 rfl (Pn9 rfl rfl rfl (run_lss _ _ _ _ _ _)) (N9 (X9 (Q9 ?_)))))
 refine C9 rfl (fun hc12=>?_) (fun hc12=>?_)
 ·
  have hlt:=of_decide_eq_true hc12
  refine K9 (X9 ?_)
  refine Q9 ?_
  refine W_block ?_
  refine Q9 (R9 (M9 rfl rfl (G9 rfl rfl (N9 (X9 (R9 (M9 rfl rfl (M9 rfl rfl (L9 rfl (Pn9 rfl rfl rfl (run_sub _ _ _ _ _ (by omega))) (M9 rfl rfl (L9 rfl (Pn9 rfl rfl rfl (run_sub _ _ _ _ _ (by omega))) (M9 rfl rfl (M9 rfl rfl (L9 rfl (Pn9 rfl rfl rfl (run_mul _ _ _ _ _ (by omega))) (L9 rfl (Pn9 rfl rfl rfl (run_shr _ (8 * x) _ _ _ (by omega))) (L9 rfl (Pu_conv rfl rfl (conv_byte _ _ Try.runUnderlying3 Try.runUnderlying5)) (L9 rfl (Pu_idxS1 (r:=101) rfl Try.runUnderlying30 Try.sizeOf5 rfl rfl rfl (fun _ h=>rp9 h) (by omega)) (Lc09 rfl rfl (OpT_storeS1 (r:=101) rfl Try.sizeOf5 rfl rfl rfl rfl (by rw [bs_length]; omega) (numTo_set n sz x (by omega)) ?_)))))))))))))))))))
  refine (N9 (X_block (X9 ?_)))
  refine R9 (L9 rfl (Pn9 rfl rfl rfl (run_add _ _ _ _ _ (by omega))) (M9 rfl rfl (N9 ?_)))
  exact Xr9 (x + 1) (by have:=of_decide_eq_true hc12; omega) (by have:=of_decide_eq_true hc12; omega) (a9 rfl) (a9 rfl)
 ·
  refine W_exit (X_then_exit (X_then_exit (X_block_exit (X9 ?_))))
  refine Q9 (R9 (M9 rfl rfl (G9 rfl rfl (N9 (X9 ?_)))))
  refine W_ret ?_
  exact Xq9 [101] (Ps:=[_]) (res1 Try.results43 rfl) rfl (by decide) (by rw [numTo_all n sz x hx (by have:=of_decide_eq_false hc12; omega)])

theorem numbered_spec (v:Value) (l:List UInt8) (F:HP) (hF:∀ h,F h→rdB v l h) (hl:l.length≤7):CallsS Try.prog 39 #[v] F [] (fun r Ps=>r = .int .i64 (val l l.length:Int)∧Ps=[]):=by
 refine callsS_enter Try.func39 rfl Try.ntmps39 (by simp) (fun E=>?_)
 refine Q9 (R9 (G9 rfl rfl (N9 (X9 (Q9 (R9 (G9 rfl rfl (N9 (X9 (Q9 (Q9 (R9 (M9 rfl rfl (L9 rfl (Pl9 (r:=0) rfl Try.runUnderlying30 rfl rfl hF) (M9 rfl rfl (N9 (X9 ?_)))))))))))))))))
 refine W_block ?_
 refine W_loop (α:=Nat) (fun k=>[(3,.int .i64 (val l k:Int)),(6,v),(7,.int .i64 (l.length:Int)),(8,.int .i64 (k:Int))]) (fun k=>[(0,F)]) (fun k=>k≤l.length) (fun k=>l.length - k) (0) (by omega) (a9 rfl) ⟨rfl,trivial⟩ (fun x hx=>?_)
 have hv:=val_small l (k:=x) (by omega)
 refine Q9 (R9 (L9 rfl (Pn9 rfl rfl rfl (run_lss _ _ _ _ _ _)) (N9 (X9 (Q9 ?_)))))
 refine C9 rfl (fun hc9=>?_) (fun hc9=>?_)
 ·
  have hv6:=val_lt6 l (k:=x) (by have:=of_decide_eq_true hc9; omega)
  refine K9 (X9 ?_)
  refine Q9 ?_
  refine W_block ?_
  refine Q9 (R9 (L9 rfl (Pu_idxS1 (r:=0) rfl Try.runUnderlying30 Try.sizeOf5 rfl rfl rfl hF (by have:=of_decide_eq_true hc9; omega)) (L9 rfl (Py9 (r:=0) rfl Try.isAgg5 rfl rfl hF (bs_at1 (k:=x) (by have:=of_decide_eq_true hc9; omega))) (G9 rfl rfl (N9 (X9 (R9 (M9 rfl rfl (L9 rfl (Pn9 rfl rfl rfl (run_shl _ 8 _ _ _ (by omega) (by omega))) (M9 rfl rfl (L9 rfl (Pu_conv rfl rfl (conv_u8 _ Try.runUnderlying5 Try.runUnderlying3)) (L9 rfl (Pn9 rfl rfl rfl (run_orJoin _ _ 8 _ _ _ (by omega) (by have:=(at0 l x).toNat_lt; omega) (by omega))) (G9 rfl rfl (N9 (X_block (X9 (R9 (L9 rfl (Pn9 rfl rfl rfl (run_add _ _ _ _ _ (by omega))) (M9 rfl rfl (N9 ?_))))))))))))))))))))
  exact Xr9 (x + 1) (by have:=of_decide_eq_true hc9; omega) (by have:=of_decide_eq_true hc9; omega) (a9 rfl) ⟨rfl,trivial⟩
 ·
  obtain rfl:x=l.length:=by have:=of_decide_eq_false hc9; omega
  refine W_exit (X_then_exit (X_then_exit (X_block_exit (X9 ?_))))
  refine Q9 (R9 (M9 rfl rfl (G9 rfl rfl (N9 (X9 ?_)))))
  refine W_ret ?_
  exact Xq9 [] (Ps:=[]) (res1 Try.results39 rfl) rfl (by decide) ⟨rfl,rfl⟩
theorem numbered_spec2 (v:Value) (l:List UInt8) (n:Nat) (F:HP) (hF:∀ h,F h→rdB v (l.take n) h) (hn:n≤l.length) (hl:n≤7):CallsS Try.prog 39 #[v] F [] (fun r Ps=>r = .int .i64 (val l n:Int)∧Ps=[]) :=
  (numbered_spec v (l.take n) F hF (by simp; omega)).imp fun r Ps ⟨h1,h2⟩=>⟨by rw [h1,List.length_take,Nat.min_eq_left hn,val_take l n n (Nat.le_refl _)],h2⟩
theorem refFour_spec (e:TypeId) (he:e=5) (v:Value) (l:List UInt8) (n:Int) (hl:l.length≤100000000) (F:HP):CallsS Try.prog 35 #[v,.int .i64 n] F [rowB e v l] (fun r Ps=>Ps=[rowB e r (l++numB n 4)]):=by
 subst he
 unfold rowB
 refine callsS_enter Try.func35 rfl Try.ntmps35 (by simp) (fun E=>?_)
 refine Q9 (R9 (G9 rfl rfl (N9 (X9 (Q9 (R9 (M9 rfl rfl (M9 rfl rfl (L9 rfl (Pn9 rfl rfl rfl (run_shr _ 24 _ _ _ (by omega))) (L9 rfl (Pu_conv rfl rfl (conv_byte _ _ Try.runUnderlying3 Try.runUnderlying5)) (M9 rfl rfl (L9 rfl (Pn9 rfl rfl rfl (run_shr _ 16 _ _ _ (by omega))) (L9 rfl (Pu_conv rfl rfl (conv_byte _ _ Try.runUnderlying3 Try.runUnderlying5)) (M9 rfl rfl (L9 rfl (Pn9 rfl rfl rfl (run_shr _ 8 _ _ _ (by omega))) (L9 rfl (Pu_conv rfl rfl (conv_byte _ _ Try.runUnderlying3 Try.runUnderlying5)) (M9 rfl rfl (L9 rfl (Pu_conv rfl rfl (conv_byte _ _ Try.runUnderlying3 Try.runUnderlying5)) (Lc9 rfl rfl (by decide) (OpT_buildOnes (r:=101) (bs (numB n 4)) rfl rfl Try.runUnderlying30 Try.sizeOf5 Try.zeroValue5 rfl rfl (by decide) (by rw [numB_four]; rfl) (bs_cells _) (fun v17=>(Lc9 rfl rfl (by decide) (Oa9 (r:=1) (r2:=101) rfl Try.underlying30 TI.hi5 TI.hz5 TI.hs5 TI.hby5 TI.hzs5 (by decide) rfl rfl rfl rfl (fun _ h=>rp9 h) (bs_one _) (by unfold maxLen; omega) (by omega) (fun v18=>?_))))))))))))))))))))))))
 refine (G9 rfl rfl (N9 (X9 ?_)))
 refine W_ret ?_
 exact Xq9 [1] (Ps:=[_]) (res1 Try.results35 rfl) rfl (by decide) (congrArg (·::[]) (rowB_of _ (by simp [numB_length]) (by rw [bs_append])))
theorem refGet_spec (v:Value) (l:List UInt8) (F:HP) (hF:∀ h,F h→rdB v l h) (hl:4≤l.length):CallsS Try.prog 30 #[v] F [] (fun r Ps=>r = .int .i64 (val l 4:Int)∧Ps=[]):=by
 refine callsS_enter Try.func30 rfl Try.ntmps30 (by simp) (fun E=>?_)
 refine Q9 (R9 (G9 rfl rfl (N9 (X9 (Q9 ?_)))))
 refine W_draw (N:=23) (by kernel_rfl) rfl [(0,_)] ⟨rfl,trivial⟩ ?_
 refine (T9 0 rfl rfl (Pm9 rfl rfl) (T9 1 rfl rfl (Pu_idxS1 (r:=0) rfl Try.runUnderlying30 Try.sizeOf5 rfl rfl rfl hF (by omega)) (T9 2 rfl rfl (Py9 (r:=0) rfl Try.isAgg5 rfl rfl hF (bs_at1 (k:=0) (by omega))) (T9 3 rfl rfl (Pu_conv rfl rfl (conv_u8 _ Try.runUnderlying5 Try.runUnderlying3)) (T9 4 rfl rfl (Pn9 rfl rfl rfl (run_shl _ 24 _ _ _ (by have:=(at0 l 0).toNat_lt; omega) (by omega))) (T9 5 rfl rfl (Pm9 rfl rfl) (T9 6 rfl rfl (Pu_idxS1 (r:=0) rfl Try.runUnderlying30 Try.sizeOf5 rfl rfl rfl hF (by omega)) (T9 7 rfl rfl (Py9 (r:=0) rfl Try.isAgg5 rfl rfl hF (bs_at1 (k:=1) (by omega))) (T9 8 rfl rfl (Pu_conv rfl rfl (conv_u8 _ Try.runUnderlying5 Try.runUnderlying3)) (T9 9 rfl rfl (Pn9 rfl rfl rfl (run_shl _ 16 _ _ _ (by have:=(at0 l 1).toNat_lt; omega) (by omega))) (T9 10 rfl rfl (Pn9 rfl rfl rfl (run_or _ _ 24 _ _ _ (by have:=(at0 l 0).toNat_lt; have:=(at0 l 1).toNat_lt; have:=(at0 l 2).toNat_lt; have:=(at0 l 3).toNat_lt; omega) (by have:=(at0 l 0).toNat_lt; have:=(at0 l 1).toNat_lt; have:=(at0 l 2).toNat_lt; have:=(at0 l 3).toNat_lt; omega) (by have:=(at0 l 0).toNat_lt; have:=(at0 l 1).toNat_lt; have:=(at0 l 2).toNat_lt; have:=(at0 l 3).toNat_lt; omega) (by omega))) (T9 11 rfl rfl (Pm9 rfl rfl) (T9 12 rfl rfl (Pu_idxS1 (r:=0) rfl Try.runUnderlying30 Try.sizeOf5 rfl rfl rfl hF (by omega)) (T9 13 rfl rfl (Py9 (r:=0) rfl Try.isAgg5 rfl rfl hF (bs_at1 (k:=2) (by omega))) (T9 14 rfl rfl (Pu_conv rfl rfl (conv_u8 _ Try.runUnderlying5 Try.runUnderlying3)) (T9 15 rfl rfl (Pn9 rfl rfl rfl (run_shl _ 8 _ _ _ (by have:=(at0 l 2).toNat_lt; omega) (by omega))) (T9 16 rfl rfl (Pn9 rfl rfl rfl (run_or _ _ 16 _ _ _ (by have:=(at0 l 0).toNat_lt; have:=(at0 l 1).toNat_lt; have:=(at0 l 2).toNat_lt; have:=(at0 l 3).toNat_lt; omega) (by have:=(at0 l 0).toNat_lt; have:=(at0 l 1).toNat_lt; have:=(at0 l 2).toNat_lt; have:=(at0 l 3).toNat_lt; omega) (by have:=(at0 l 0).toNat_lt; have:=(at0 l 1).toNat_lt; have:=(at0 l 2).toNat_lt; have:=(at0 l 3).toNat_lt; omega) (by omega))) (T9 17 rfl rfl (Pm9 rfl rfl) (T9 18 rfl rfl (Pu_idxS1 (r:=0) rfl Try.runUnderlying30 Try.sizeOf5 rfl rfl rfl hF (by omega)) (T9 19 rfl rfl (Py9 (r:=0) rfl Try.isAgg5 rfl rfl hF (bs_at1 (k:=3) (by omega))) (T9 20 rfl rfl (Pu_conv rfl rfl (conv_u8 _ Try.runUnderlying5 Try.runUnderlying3)) (T9 21 rfl rfl (Pn9 rfl rfl rfl (run_or _ _ 8 _ _ _ (by have:=(at0 l 0).toNat_lt; have:=(at0 l 1).toNat_lt; have:=(at0 l 2).toNat_lt; have:=(at0 l 3).toNat_lt; omega) (by have:=(at0 l 0).toNat_lt; have:=(at0 l 1).toNat_lt; have:=(at0 l 2).toNat_lt; have:=(at0 l 3).toNat_lt; omega) (by have:=(at0 l 0).toNat_lt; have:=(at0 l 1).toNat_lt; have:=(at0 l 2).toNat_lt; have:=(at0 l 3).toNat_lt; omega) (by omega))) (T9 22 rfl rfl (Pg9 rfl rfl) (Ad9 (by kernel_rfl) (X9 ?_)))))))))))))))))))))))))
 refine W_ret ?_
 exact Xq9 [] (Ps:=[]) (res1 Try.results30 rfl) rfl (by decide) ⟨by rw [val_four],rfl⟩
theorem refId_spec (v:Value) (l:List UInt8) (F:HP) (hF:∀ h,F h→rdB v l h) (hl:32≤l.length):CallsS Try.prog 31 #[v] F [] (fun r Ps=>r = .agg (bs (l.take 32)).toArray∧Ps=[]):=by
 refine callsS_enter Try.func31 rfl Try.ntmps31 (by simp) (fun E=>?_)
 refine Q9 (R9 (Lc9 rfl rfl (by decide) (OpT_alloc (r:=101) (cs:=(bs zeroId)) rfl (zero_run (by kernel_rfl:(Try.prog.info? 29).bind (·.zero)=some (.agg (bs zeroId).toArray))) rfl (fun g101=>(N9 (X9 (Q9 (R9 (Lc9 rfl rfl (by decide) (OpT_alloc (r:=102) (cs:=(bs zeroId)) rfl (zero_run (by kernel_rfl:(Try.prog.info? 29).bind (·.zero)=some (.agg (bs zeroId).toArray))) rfl (fun g102=>(N9 (X9 (Q9 (Q9 (R9 (G9 rfl rfl (N9 (X9 ?_)))))))))))))))))))
 refine W_block ?_
 refine W_loop (α:=Nat) (fun k=>[(0,v),(2,.pointer (some ⟨g101,0,none⟩)),(3,.pointer (some ⟨g102,0,none⟩)),(4,.int .i64 (k:Int))]) (fun k=>[(0,F),(101,blk g101 29 (bs zeroId)),(102,blk g102 29 (bs (idTo l k)))]) (fun k=>k≤32) (fun k=>32 - k) (0) (by omega) (a9 rfl) ⟨rfl,rfl,by rw [idTo_zero]; rfl,trivial⟩ (fun x hx=>?_)
 refine Q9 (Q9 (R9 (M9 rfl rfl (L9 rfl (Pn9 rfl rfl rfl (run_lss _ _ _ _ _ _)) (N9 (X9 ?_))))))
 refine C9 rfl (fun hc6=>?_) (fun hc6=>?_)
 ·
  refine K9 (X9 ?_)
  refine Q9 ?_
  refine W_block ?_
  refine R9 (M9 rfl rfl (M9 rfl rfl (M9 rfl rfl (L9 rfl (Pu_idxS1 (r:=0) rfl Try.runUnderlying30 Try.sizeOf5 rfl rfl rfl hF (by have:=of_decide_eq_true hc6; omega)) (L9 rfl (Py9 (r:=0) rfl Try.isAgg5 rfl rfl hF (bs_at1 (k:=x) (by have:=of_decide_eq_true hc6; omega))) (L9 rfl (Pu_idxA rfl Try.runUnderlying29 Try.sizeOf5 rfl rfl (by have:=of_decide_eq_true hc6; omega)) (Lc09 rfl rfl (OpT_storeB1 (r:=102) rfl Try.sizeOf5 rfl rfl rfl rfl (by rw [bs_length,idTo_length l hl hx]; have:=of_decide_eq_true hc6; omega) ((congrArg (fun q=>List.set _ q _) (Nat.zero_add _)).trans (idTo_set l hl (by have:=of_decide_eq_true hc6; omega))) ?_))))))))
  refine (N9 (X_block (X9 ?_)))
  refine R9 (M9 rfl rfl (L9 rfl (Pn9 rfl rfl rfl (run_add _ _ _ _ _ (by omega))) (G9 rfl rfl (N9 ?_))))
  exact Xr9 (x + 1) (by have:=of_decide_eq_true hc6; omega) (by have:=of_decide_eq_true hc6; omega) (a9 rfl) (a9 rfl)
 ·
  obtain rfl:x=32:=by have:=of_decide_eq_false hc6; omega
  refine W_exit (X_then_exit (X_then_exit (X_block_exit (X9 ?_))))
  refine Q9 (R9 (L9 rfl (Px9 (r:=102) rfl Try.isAgg29 Try.sizeOf29 rfl rfl (by rw [bs_length,idTo_length l hl hx]) (load_all (by rw [bs_length,idTo_length l hl hx]))) (Lc09 rfl rfl (OpT_storeAll (r:=101) rfl Try.sizeOf29 rfl rfl rfl rfl (by rw [bs_length,idTo_length l hl hx]) (bs_one _) ?_))))
  refine (N9 (X9 ?_))
  refine W_ret ?_
  exact Xq9 [] (Ps:=[]) (resC1 (r:=101) Try.results31 rfl Try.isAgg29 Try.sizeOf29 rfl (by rw [bs_length,idTo_length l hl hx])) rfl (by decide) ⟨by rw [idTo_all],rfl⟩

theorem parseRoot_spec (v:Value) (l:List UInt8) (hl:l.length≤100000000) (F:HP) (hF:∀ h,F h→rdB v l h):CallsS Try.prog 20 #[v] F [] (fun r Ps=>∃ pv tv,r = .tuple #[rootV pv (pRoot l).ver (pRoot l).top tv,.int .i64 (pRootE l)]∧Ps=[rowB 5 pv (pRoot l).pl,rowB 5 tv (pRoot l).tl]):=by
 refine callsS_enter Try.func20 rfl Try.ntmps20 (by simp) (fun E=>?_)
 refine Q9 (R9 (Lc9 rfl rfl (by decide) (OpT_alloc (r:=101) rfl (zero_run (by kernel_rfl:(Try.prog.info? 39).bind (·.zero)=some (.agg (rootC (.slice none 0 0) 0 zeroId (.slice none 0 0)).toArray))) rfl (fun g101=>(G9 rfl rfl (N9 (X9 (Q9 (Q9 (R9 (M9 rfl rfl (L9 rfl (Pl9 (r:=0) rfl Try.runUnderlying30 rfl rfl hF) (L9 rfl (Pn9 rfl rfl rfl (run_lss _ _ _ _ _ _)) (N9 (X9 ?_)))))))))))))))
 refine C9 rfl (fun hc8=>?_) (fun hc8=>?_)
 ·
  have h95:=of_decide_eq_true hc8
  refine Q9 (R9 (L9 rfl (Pu_build (V:=rootV nilS 0 zeroId nilS) [(0,1),(1,1),(2,32),(34,1)] (rootC (.slice none 0 0) 0 zeroId (.slice none 0 0)) rfl rfl (by kernel_rfl) (by kernel_rfl) (.nil _) rfl) (Lc09 rfl rfl (OpT_storeAll (r:=101) rfl Try.sizeOf39 rfl rfl rfl rfl rfl (one_root rfl rfl) ?_))))
  refine (G9 rfl rfl (N9 (X9 ?_)))
  refine W_ret (X_then_ret ?_)
  have hE:=pRootE_cut h95
  refine X_nilRow 9900 5 1 (X_nilRow 9901 5 1 ?_)
  exact Xq9 [9900,9901] (Ps:=[_,_]) (resC2 (r:=101) Try.results20 rfl rfl Try.isAgg39 Try.sizeOf39 rfl (rootC_length zeroId_length)) rfl (by decide) ⟨nilS,nilS,by rw [hE,pRoot_err hE (by decide)]; rfl,by rw [pRoot_err hE (by decide)]; rfl⟩
 ·
  have h95:95≤l.length:=by have:=of_decide_eq_false hc8; omega
  have htop:((l.drop 61).take 32).length=32:=by simp; omega
  have h56:((l.drop 1).take 56).length=56:=by simp; omega
  have hv2:=val_lt (l.drop 93) 2
  refine K9 (X9 ?_)
  refine Q9 ?_
  refine W_draw (N:=9) (by kernel_rfl) rfl [(0,_),(101,_)] ⟨rfl,rfl,trivial⟩ ?_
  refine (T9 0 rfl rfl (Pm9 rfl rfl) (T9 1 rfl rfl (Pu_slice (r:=0) (a:=1) (b:=57) rfl Try.runUnderlying30 Try.sizeOf5 rfl rfl hF (.inr ⟨_,_,_,rfl,rfl,rfl⟩) (.inr ⟨_,_,_,rfl,rfl,rfl⟩) (by omega) (by omega)) (T9 3 rfl rfl (Pm9 rfl rfl) (T9 4 rfl rfl (Pu_slice (r:=0) (a:=57) (b:=61) rfl Try.runUnderlying30 Try.sizeOf5 rfl rfl hF (.inr ⟨_,_,_,rfl,rfl,rfl⟩) (.inr ⟨_,_,_,rfl,rfl,rfl⟩) (by omega) (by omega)) (Y9 [2,7] ?_)))))
  refine Z9 rfl rfl (Oc9 200 [0,101] [] rfl Try.call25 rfl rfl rfl (by decide) (by decide) (clone_spec _ ((l.drop 1).take 56) (by rw [h56]; omega) _ (rs9 0 rfl (fun h hp=>rdB_sub (hF h hp) (by omega) (by omega)))) (fun v12 Ps12 hR12=>?_)) ?_
  ·
   obtain ⟨ho12,rfl⟩:=hR12
   refine ⟨⟨rfl,rfl,trivial⟩,?_⟩
   skip
   refine (Y9 [5,7] ?_)
   refine Z9 rfl rfl (Oc9 300 [0,101,200] [] rfl Try.call39 rfl rfl rfl (by decide) (by decide) (numbered_spec2 _ (l.drop 57) 4 _ (rs9 0 rfl (fun h hp=>rdB_sub (hF h hp) (by omega) (by omega))) (by simp; omega) (by omega)) (fun v15 Ps15 hR15=>?_)) ?_
   ·
    obtain ⟨rfl,rfl⟩:=hR15
    refine ⟨⟨rfl,rfl,trivial⟩,?_⟩
    refine (T9 6 rfl rfl (Pu_build (V:=rootV v12 (val (l.drop 57) 4) zeroId nilS) [(0,1),(1,1),(2,32),(34,1)] (rootC (.slice none 0 0) 0 zeroId (.slice none 0 0)) rfl rfl (by kernel_rfl) (by kernel_rfl) (.one rfl ho12 (by simp [rootC,bs_length,zeroId_length]) rfl (.one rfl rfl (by simp [rootC,bs_length,zeroId_length]) rfl (.nil _))) rfl) (Y9 [7] ?_))
    refine Z9 rfl rfl (OpT_alloc (r:=301) rfl (zero_run (by kernel_rfl:(Try.prog.info? 39).bind (·.zero)=some (.agg (rootC (.slice none 0 0) 0 zeroId (.slice none 0 0)).toArray))) rfl (fun g301=>⟨⟨rfl,rfl,trivial⟩,?_⟩)) ?_
    ·
     refine (Y9 [8] ?_)
     refine Ac09 rfl rfl rfl (OpT_storeAll (r:=301) rfl Try.sizeOf39 rfl rfl rfl rfl rfl (one_root ho12 rfl) ?_) ?_
     ·
      refine ⟨⟨rfl,rfl,trivial⟩,?_⟩
      refine (Ad9 (by kernel_rfl) (X9 ?_))
      refine Q9 ?_
      refine W_draw (N:=5) (by kernel_rfl) rfl [(0,_),(101,_)] ⟨rfl,rfl,trivial⟩ ?_
      refine (T9 0 rfl rfl (F9 2 rfl rfl) (T9 1 rfl rfl (Pu_sliceArr rfl Try.runUnderlying29 Try.sizeOf5 rfl) (T9 2 rfl rfl (Pm9 rfl rfl) (T9 3 rfl rfl (Pu_slice (r:=0) (a:=61) (b:=l.length) rfl Try.runUnderlying30 Try.sizeOf5 rfl rfl hF (.inr ⟨_,_,_,rfl,rfl,rfl⟩) (.inl ⟨rfl,rfl⟩) (by omega) (Nat.le_refl _)) (Y9 [4] ?_)))))
      refine Z9 rfl rfl (OpT_copyB (r:=301) (r2:=0) rfl Try.underlying30 TI.hsm5 rfl rfl rfl rfl (fun h hp=>rdB_tail (hF h hp) (by omega)) (bs_one _) (by rw [rootC_length zeroId_length]; simp; omega) (root_copy zeroId_length (b:=l.drop 61) (by simp; omega)) ?_) ?_
      ·
       refine ⟨⟨rfl,rfl,trivial⟩,?_⟩
       refine (Ad9 (by kernel_rfl) (X9 ?_))
       refine Q9 (R9 (M9 rfl rfl (L9 rfl (Pu_slice (r:=0) (a:=93) (b:=95) rfl Try.runUnderlying30 Try.sizeOf5 rfl rfl hF (.inr ⟨_,_,_,rfl,rfl,rfl⟩) (.inr ⟨_,_,_,rfl,rfl,rfl⟩) (by omega) (by omega)) (Lc9 rfl rfl (by decide) (Oc9 400 [0,101,200,301] [] rfl Try.call39 rfl rfl rfl (by decide) (by decide) (numbered_spec2 _ (l.drop 93) 2 _ (rs9 0 rfl (fun h hp=>rdB_sub (hF h hp) (by omega) (by omega))) (by simp; omega) (by omega)) (fun v24 Ps24 hR24=>?_))))))
       obtain ⟨rfl,rfl⟩:=hR24
       refine (G9 rfl rfl (N9 (X9 ?_)))
       refine Q9 ?_
       refine W_block ?_
       refine Q9 (R9 (M9 rfl rfl (L9 rfl (Pu_idxS1 (r:=0) rfl Try.runUnderlying30 Try.sizeOf5 rfl rfl rfl hF (by omega)) (L9 rfl (Py9 (r:=0) rfl Try.isAgg5 rfl rfl hF (bs_at1 (k:=0) (by omega))) (L9 rfl (Pn9 rfl rfl rfl (run_neq _ _ _ _ _ _)) (M9 rfl rfl (Lg9 rfl rfl rfl rfl (by decide) (fun hb=>(F9 1 rfl rfl)) (Lg9 rfl rfl rfl rfl (by decide) (fun hb=>(Pb9 (r:=301) rfl Try.isAgg3 (ev_gv rfl hb) rfl rfl)) (Lg9 rfl rfl rfl rfl (by decide) (fun hb=>(Pn9 rfl (ev_gv rfl hb) rfl (run_lss _ _ _ _ _ _))) (L9 rfl (Pu_or rfl rfl rfl) (M9 rfl rfl (Lg9 rfl rfl rfl rfl (by decide) (fun hb=>(F9 1 rfl rfl)) (Lg9 rfl rfl rfl rfl (by decide) (fun hb=>(Pb9 (r:=301) rfl Try.isAgg3 (ev_gv rfl hb) rfl rfl)) (Lg9 rfl rfl rfl rfl (by decide) (fun hb=>(Pn9 rfl (ev_gv rfl hb) rfl (run_gtr _ _ _ _ _ _))) (L9 rfl (Pu_or rfl rfl rfl) (M9 rfl rfl (Lg9 rfl rfl rfl rfl (by decide) (fun hb=>(Pm9 rfl rfl)) (Lg9 rfl rfl rfl rfl (by decide) (fun hb=>(Pn9 rfl (ev_gv rfl hb) rfl (run_gtr _ _ _ _ _ _))) (L9 rfl (Pu_or rfl rfl rfl) (G9 rfl rfl (N9 (X9 ?_))))))))))))))))))))))
       refine C9 rfl (fun hc25=>?_) (fun hc25=>?_)
       ·
        rw [pRootBad_of] at hc25
        refine Q9 (R9 (L9 rfl (Pu_build (V:=rootV nilS 0 zeroId nilS) [(0,1),(1,1),(2,32),(34,1)] (rootC (.slice none 0 0) 0 zeroId (.slice none 0 0)) rfl rfl (by kernel_rfl) (by kernel_rfl) (.nil _) rfl) (Lc09 rfl rfl (OpT_storeAll (r:=101) rfl Try.sizeOf39 rfl rfl rfl rfl rfl (one_root rfl rfl) ?_))))
        refine (G9 rfl rfl (N9 (X9 ?_)))
        refine W_ret (X_block_ret (X_then_ret ?_))
        have hE:=pRootE_bad h95 hc25
        refine X_nilRow 9900 5 1 (X_nilRow 9901 5 1 ?_)
        exact Xq9 [9900,9901] (Ps:=[_,_]) (resC2 (r:=101) Try.results20 rfl rfl Try.isAgg39 Try.sizeOf39 rfl (rootC_length zeroId_length)) rfl (by decide) ⟨nilS,nilS,by rw [hE,pRoot_err hE (by decide)]; rfl,by rw [pRoot_err hE (by decide)]; rfl⟩
       ·
        rw [pRootBad_of] at hc25
        have hE0:=pRootE_later h95 hc25
        refine Q9 (R9 (M9 rfl rfl (L9 rfl (Pl9 (r:=0) rfl Try.runUnderlying30 rfl rfl hF) (M9 rfl rfl (L9 rfl (Pn9 rfl rfl rfl (run_add _ _ _ _ _ (by omega))) (L9 rfl (Pn9 rfl rfl rfl (run_lss _ _ _ _ _ _)) (G9 rfl rfl (N9 (X9 ?_)))))))))
        refine C9 rfl (fun hc45=>?_) (fun hc45=>?_)
        ·
         have g1:=of_decide_eq_true hc45
         refine Q9 (R9 (L9 rfl (Pu_build (V:=rootV nilS 0 zeroId nilS) [(0,1),(1,1),(2,32),(34,1)] (rootC (.slice none 0 0) 0 zeroId (.slice none 0 0)) rfl rfl (by kernel_rfl) (by kernel_rfl) (.nil _) rfl) (Lc09 rfl rfl (OpT_storeAll (r:=101) rfl Try.sizeOf39 rfl rfl rfl rfl rfl (one_root rfl rfl) ?_))))
         refine (G9 rfl rfl (N9 (X9 ?_)))
         refine W_ret (X_block_ret (X_then_ret ?_))
         have hE:=hE0.trans (if_pos (by omega))
         refine X_nilRow 9900 5 1 (X_nilRow 9901 5 1 ?_)
         exact Xq9 [9900,9901] (Ps:=[_,_]) (resC2 (r:=101) Try.results20 rfl rfl Try.isAgg39 Try.sizeOf39 rfl (rootC_length zeroId_length)) rfl (by decide) ⟨nilS,nilS,by rw [hE,pRoot_err hE (by decide)]; rfl,by rw [pRoot_err hE (by decide)]; rfl⟩
        ·
         have g1:=of_decide_eq_false hc45
         refine Q9 (R9 (M9 rfl rfl (L9 rfl (Pl9 (r:=0) rfl Try.runUnderlying30 rfl rfl hF) (M9 rfl rfl (L9 rfl (Pn9 rfl rfl rfl (run_add _ _ _ _ _ (by omega))) (L9 rfl (Pn9 rfl rfl rfl (run_gtr _ _ _ _ _ _)) (G9 rfl rfl (N9 (X9 ?_)))))))))
         refine C9 rfl (fun hc52=>?_) (fun hc52=>?_)
         ·
          have g2:=of_decide_eq_true hc52
          refine Q9 (R9 (L9 rfl (Pu_build (V:=rootV nilS 0 zeroId nilS) [(0,1),(1,1),(2,32),(34,1)] (rootC (.slice none 0 0) 0 zeroId (.slice none 0 0)) rfl rfl (by kernel_rfl) (by kernel_rfl) (.nil _) rfl) (Lc09 rfl rfl (OpT_storeAll (r:=101) rfl Try.sizeOf39 rfl rfl rfl rfl rfl (one_root rfl rfl) ?_))))
          refine (G9 rfl rfl (N9 (X9 ?_)))
          refine W_ret (X_block_ret (X_then_ret ?_))
          have hE:=hE0.trans ((if_neg (by omega)).trans (if_pos (by omega)))
          refine X_nilRow 9900 5 1 (X_nilRow 9901 5 1 ?_)
          exact Xq9 [9900,9901] (Ps:=[_,_]) (resC2 (r:=101) Try.results20 rfl rfl Try.isAgg39 Try.sizeOf39 rfl (rootC_length zeroId_length)) rfl (by decide) ⟨nilS,nilS,by rw [hE,pRoot_err hE (by decide)]; rfl,by rw [pRoot_err hE (by decide)]; rfl⟩
         ·
          have g2:=of_decide_eq_false hc52
          refine K9 (X_block (X9 ?_))
          refine Q9 (R9 (M9 rfl rfl (L9 rfl (Pu_slice (r:=0) (a:=95) (b:=l.length) rfl Try.runUnderlying30 Try.sizeOf5 rfl rfl hF (.inr ⟨_,_,_,rfl,rfl,rfl⟩) (.inl ⟨rfl,rfl⟩) (by omega) (Nat.le_refl _)) (Lc9 rfl rfl (by decide) (Oc9 500 [0,101,200,301] [] rfl Try.call25 rfl rfl rfl (by decide) (by decide) (clone_spec _ (l.drop 95) (by simp; omega) _ (rs9 0 rfl (fun h hp=>rdB_tail (hF h hp) (by omega)))) (fun v61 Ps61 hR61=>?_))))))
          obtain ⟨ho61,rfl⟩:=hR61
          skip
          refine (L9 rfl (F9 34 rfl rfl) (Lc09 rfl rfl (OpT_storeB1 (r:=301) rfl Try.sizeOf30 rfl rfl rfl ho61 (by rw [rootC_length htop]; decide) (root_set htop) ?_)))
          refine (N9 (X9 ?_))
          refine Q9 (R9 (L9 rfl (Px9 (r:=301) rfl Try.isAgg39 Try.sizeOf39 rfl rfl (rootC_length htop) (load_all (rootC_length htop))) (Lc09 rfl rfl (OpT_storeAll (r:=101) rfl Try.sizeOf39 rfl rfl rfl rfl (rootC_length htop) (one_root ho12 ho61) ?_))))
          refine (G9 rfl rfl (N9 (X9 ?_)))
          refine W_ret ?_
          have hE:=hE0.trans ((if_neg (by omega)).trans (if_neg (by omega)))
          have hR:pRoot l=⟨(l.drop 1).take 56,val (l.drop 57) 4,(l.drop 61).take 32,l.drop 95⟩:=by unfold pRoot; rw [if_pos hE]
          exact Xq9 [200,500] (Ps:=[_,_]) (resC2 (r:=101) Try.results20 rfl rfl Try.isAgg39 Try.sizeOf39 rfl (rootC_length htop)) rfl (by decide) ⟨v12,v61,by rw [hE,hR]; rfl,by rw [hR]⟩
      exact An9
     exact An9
    exact An9
   refine Z9 rfl rfl (OpT_alloc (r:=201) rfl (zero_run (by kernel_rfl:(Try.prog.info? 39).bind (·.zero)=some (.agg (rootC (.slice none 0 0) 0 zeroId (.slice none 0 0)).toArray))) rfl (fun g201=>⟨⟨rfl,rfl,trivial⟩,?_⟩)) ?_
   ·
    refine (Y9 [5] ?_)
    refine Z9 rfl rfl (Oc9 300 [0,101,200,201] [] rfl Try.call39 rfl rfl rfl (by decide) (by decide) (numbered_spec2 _ (l.drop 57) 4 _ (rs9 0 rfl (fun h hp=>rdB_sub (hF h hp) (by omega) (by omega))) (by simp; omega) (by omega)) (fun v15 Ps15 hR15=>?_)) ?_
    ·
     obtain ⟨rfl,rfl⟩:=hR15
     refine ⟨⟨rfl,rfl,trivial⟩,?_⟩
     refine (T9 6 rfl rfl (Pu_build (V:=rootV v12 (val (l.drop 57) 4) zeroId nilS) [(0,1),(1,1),(2,32),(34,1)] (rootC (.slice none 0 0) 0 zeroId (.slice none 0 0)) rfl rfl (by kernel_rfl) (by kernel_rfl) (.one rfl ho12 (by simp [rootC,bs_length,zeroId_length]) rfl (.one rfl rfl (by simp [rootC,bs_length,zeroId_length]) rfl (.nil _))) rfl) (Y9 [8] ?_))
     refine Ac09 rfl rfl rfl (OpT_storeAll (r:=201) rfl Try.sizeOf39 rfl rfl rfl rfl rfl (one_root ho12 rfl) ?_) ?_
     ·
      refine ⟨⟨rfl,rfl,trivial⟩,?_⟩
      refine (Ad9 (by kernel_rfl) (X9 ?_))
      refine Q9 ?_
      refine W_draw (N:=5) (by kernel_rfl) rfl [(0,_),(101,_)] ⟨rfl,rfl,trivial⟩ ?_
      refine (T9 0 rfl rfl (F9 2 rfl rfl) (T9 1 rfl rfl (Pu_sliceArr rfl Try.runUnderlying29 Try.sizeOf5 rfl) (T9 2 rfl rfl (Pm9 rfl rfl) (T9 3 rfl rfl (Pu_slice (r:=0) (a:=61) (b:=l.length) rfl Try.runUnderlying30 Try.sizeOf5 rfl rfl hF (.inr ⟨_,_,_,rfl,rfl,rfl⟩) (.inl ⟨rfl,rfl⟩) (by omega) (Nat.le_refl _)) (Y9 [4] ?_)))))
      refine Z9 rfl rfl (OpT_copyB (r:=201) (r2:=0) rfl Try.underlying30 TI.hsm5 rfl rfl rfl rfl (fun h hp=>rdB_tail (hF h hp) (by omega)) (bs_one _) (by rw [rootC_length zeroId_length]; simp; omega) (root_copy zeroId_length (b:=l.drop 61) (by simp; omega)) ?_) ?_
      ·
       refine ⟨⟨rfl,rfl,trivial⟩,?_⟩
       refine (Ad9 (by kernel_rfl) (X9 ?_))
       refine Q9 (R9 (M9 rfl rfl (L9 rfl (Pu_slice (r:=0) (a:=93) (b:=95) rfl Try.runUnderlying30 Try.sizeOf5 rfl rfl hF (.inr ⟨_,_,_,rfl,rfl,rfl⟩) (.inr ⟨_,_,_,rfl,rfl,rfl⟩) (by omega) (by omega)) (Lc9 rfl rfl (by decide) (Oc9 400 [0,101,200,201] [] rfl Try.call39 rfl rfl rfl (by decide) (by decide) (numbered_spec2 _ (l.drop 93) 2 _ (rs9 0 rfl (fun h hp=>rdB_sub (hF h hp) (by omega) (by omega))) (by simp; omega) (by omega)) (fun v24 Ps24 hR24=>?_))))))
       obtain ⟨rfl,rfl⟩:=hR24
       refine (G9 rfl rfl (N9 (X9 ?_)))
       refine Q9 ?_
       refine W_block ?_
       refine Q9 (R9 (M9 rfl rfl (L9 rfl (Pu_idxS1 (r:=0) rfl Try.runUnderlying30 Try.sizeOf5 rfl rfl rfl hF (by omega)) (L9 rfl (Py9 (r:=0) rfl Try.isAgg5 rfl rfl hF (bs_at1 (k:=0) (by omega))) (L9 rfl (Pn9 rfl rfl rfl (run_neq _ _ _ _ _ _)) (M9 rfl rfl (Lg9 rfl rfl rfl rfl (by decide) (fun hb=>(F9 1 rfl rfl)) (Lg9 rfl rfl rfl rfl (by decide) (fun hb=>(Pb9 (r:=201) rfl Try.isAgg3 (ev_gv rfl hb) rfl rfl)) (Lg9 rfl rfl rfl rfl (by decide) (fun hb=>(Pn9 rfl (ev_gv rfl hb) rfl (run_lss _ _ _ _ _ _))) (L9 rfl (Pu_or rfl rfl rfl) (M9 rfl rfl (Lg9 rfl rfl rfl rfl (by decide) (fun hb=>(F9 1 rfl rfl)) (Lg9 rfl rfl rfl rfl (by decide) (fun hb=>(Pb9 (r:=201) rfl Try.isAgg3 (ev_gv rfl hb) rfl rfl)) (Lg9 rfl rfl rfl rfl (by decide) (fun hb=>(Pn9 rfl (ev_gv rfl hb) rfl (run_gtr _ _ _ _ _ _))) (L9 rfl (Pu_or rfl rfl rfl) (M9 rfl rfl (Lg9 rfl rfl rfl rfl (by decide) (fun hb=>(Pm9 rfl rfl)) (Lg9 rfl rfl rfl rfl (by decide) (fun hb=>(Pn9 rfl (ev_gv rfl hb) rfl (run_gtr _ _ _ _ _ _))) (L9 rfl (Pu_or rfl rfl rfl) (G9 rfl rfl (N9 (X9 ?_))))))))))))))))))))))
       refine C9 rfl (fun hc25=>?_) (fun hc25=>?_)
       ·
        rw [pRootBad_of] at hc25
        refine Q9 (R9 (L9 rfl (Pu_build (V:=rootV nilS 0 zeroId nilS) [(0,1),(1,1),(2,32),(34,1)] (rootC (.slice none 0 0) 0 zeroId (.slice none 0 0)) rfl rfl (by kernel_rfl) (by kernel_rfl) (.nil _) rfl) (Lc09 rfl rfl (OpT_storeAll (r:=101) rfl Try.sizeOf39 rfl rfl rfl rfl rfl (one_root rfl rfl) ?_))))
        refine (G9 rfl rfl (N9 (X9 ?_)))
        refine W_ret (X_block_ret (X_then_ret ?_))
        have hE:=pRootE_bad h95 hc25
        refine X_nilRow 9900 5 1 (X_nilRow 9901 5 1 ?_)
        exact Xq9 [9900,9901] (Ps:=[_,_]) (resC2 (r:=101) Try.results20 rfl rfl Try.isAgg39 Try.sizeOf39 rfl (rootC_length zeroId_length)) rfl (by decide) ⟨nilS,nilS,by rw [hE,pRoot_err hE (by decide)]; rfl,by rw [pRoot_err hE (by decide)]; rfl⟩
       ·
        rw [pRootBad_of] at hc25
        have hE0:=pRootE_later h95 hc25
        refine Q9 (R9 (M9 rfl rfl (L9 rfl (Pl9 (r:=0) rfl Try.runUnderlying30 rfl rfl hF) (M9 rfl rfl (L9 rfl (Pn9 rfl rfl rfl (run_add _ _ _ _ _ (by omega))) (L9 rfl (Pn9 rfl rfl rfl (run_lss _ _ _ _ _ _)) (G9 rfl rfl (N9 (X9 ?_)))))))))
        refine C9 rfl (fun hc45=>?_) (fun hc45=>?_)
        ·
         have g1:=of_decide_eq_true hc45
         refine Q9 (R9 (L9 rfl (Pu_build (V:=rootV nilS 0 zeroId nilS) [(0,1),(1,1),(2,32),(34,1)] (rootC (.slice none 0 0) 0 zeroId (.slice none 0 0)) rfl rfl (by kernel_rfl) (by kernel_rfl) (.nil _) rfl) (Lc09 rfl rfl (OpT_storeAll (r:=101) rfl Try.sizeOf39 rfl rfl rfl rfl rfl (one_root rfl rfl) ?_))))
         refine (G9 rfl rfl (N9 (X9 ?_)))
         refine W_ret (X_block_ret (X_then_ret ?_))
         have hE:=hE0.trans (if_pos (by omega))
         refine X_nilRow 9900 5 1 (X_nilRow 9901 5 1 ?_)
         exact Xq9 [9900,9901] (Ps:=[_,_]) (resC2 (r:=101) Try.results20 rfl rfl Try.isAgg39 Try.sizeOf39 rfl (rootC_length zeroId_length)) rfl (by decide) ⟨nilS,nilS,by rw [hE,pRoot_err hE (by decide)]; rfl,by rw [pRoot_err hE (by decide)]; rfl⟩
        ·
         have g1:=of_decide_eq_false hc45
         refine Q9 (R9 (M9 rfl rfl (L9 rfl (Pl9 (r:=0) rfl Try.runUnderlying30 rfl rfl hF) (M9 rfl rfl (L9 rfl (Pn9 rfl rfl rfl (run_add _ _ _ _ _ (by omega))) (L9 rfl (Pn9 rfl rfl rfl (run_gtr _ _ _ _ _ _)) (G9 rfl rfl (N9 (X9 ?_)))))))))
         refine C9 rfl (fun hc52=>?_) (fun hc52=>?_)
         ·
          have g2:=of_decide_eq_true hc52
          refine Q9 (R9 (L9 rfl (Pu_build (V:=rootV nilS 0 zeroId nilS) [(0,1),(1,1),(2,32),(34,1)] (rootC (.slice none 0 0) 0 zeroId (.slice none 0 0)) rfl rfl (by kernel_rfl) (by kernel_rfl) (.nil _) rfl) (Lc09 rfl rfl (OpT_storeAll (r:=101) rfl Try.sizeOf39 rfl rfl rfl rfl rfl (one_root rfl rfl) ?_))))
          refine (G9 rfl rfl (N9 (X9 ?_)))
          refine W_ret (X_block_ret (X_then_ret ?_))
          have hE:=hE0.trans ((if_neg (by omega)).trans (if_pos (by omega)))
          refine X_nilRow 9900 5 1 (X_nilRow 9901 5 1 ?_)
          exact Xq9 [9900,9901] (Ps:=[_,_]) (resC2 (r:=101) Try.results20 rfl rfl Try.isAgg39 Try.sizeOf39 rfl (rootC_length zeroId_length)) rfl (by decide) ⟨nilS,nilS,by rw [hE,pRoot_err hE (by decide)]; rfl,by rw [pRoot_err hE (by decide)]; rfl⟩
         ·
          have g2:=of_decide_eq_false hc52
          refine K9 (X_block (X9 ?_))
          refine Q9 (R9 (M9 rfl rfl (L9 rfl (Pu_slice (r:=0) (a:=95) (b:=l.length) rfl Try.runUnderlying30 Try.sizeOf5 rfl rfl hF (.inr ⟨_,_,_,rfl,rfl,rfl⟩) (.inl ⟨rfl,rfl⟩) (by omega) (Nat.le_refl _)) (Lc9 rfl rfl (by decide) (Oc9 500 [0,101,200,201] [] rfl Try.call25 rfl rfl rfl (by decide) (by decide) (clone_spec _ (l.drop 95) (by simp; omega) _ (rs9 0 rfl (fun h hp=>rdB_tail (hF h hp) (by omega)))) (fun v61 Ps61 hR61=>?_))))))
          obtain ⟨ho61,rfl⟩:=hR61
          skip
          refine (L9 rfl (F9 34 rfl rfl) (Lc09 rfl rfl (OpT_storeB1 (r:=201) rfl Try.sizeOf30 rfl rfl rfl ho61 (by rw [rootC_length htop]; decide) (root_set htop) ?_)))
          refine (N9 (X9 ?_))
          refine Q9 (R9 (L9 rfl (Px9 (r:=201) rfl Try.isAgg39 Try.sizeOf39 rfl rfl (rootC_length htop) (load_all (rootC_length htop))) (Lc09 rfl rfl (OpT_storeAll (r:=101) rfl Try.sizeOf39 rfl rfl rfl rfl (rootC_length htop) (one_root ho12 ho61) ?_))))
          refine (G9 rfl rfl (N9 (X9 ?_)))
          refine W_ret ?_
          have hE:=hE0.trans ((if_neg (by omega)).trans (if_neg (by omega)))
          have hR:pRoot l=⟨(l.drop 1).take 56,val (l.drop 57) 4,(l.drop 61).take 32,l.drop 95⟩:=by unfold pRoot; rw [if_pos hE]
          exact Xq9 [200,500] (Ps:=[_,_]) (resC2 (r:=101) Try.results20 rfl rfl Try.isAgg39 Try.sizeOf39 rfl (rootC_length htop)) rfl (by decide) ⟨v12,v61,by rw [hE,hR]; rfl,by rw [hR]⟩
      exact An9
     exact An9
    exact An9
   exact An9
  refine Z9 rfl rfl (OpT_alloc (r:=102) rfl (zero_run (by kernel_rfl:(Try.prog.info? 39).bind (·.zero)=some (.agg (rootC (.slice none 0 0) 0 zeroId (.slice none 0 0)).toArray))) rfl (fun g102=>⟨⟨rfl,rfl,trivial⟩,?_⟩)) ?_
  ·
   refine (Y9 [2] ?_)
   refine Z9 rfl rfl (Oc9 200 [0,101,102] [] rfl Try.call25 rfl rfl rfl (by decide) (by decide) (clone_spec _ ((l.drop 1).take 56) (by rw [h56]; omega) _ (rs9 0 rfl (fun h hp=>rdB_sub (hF h hp) (by omega) (by omega)))) (fun v12 Ps12 hR12=>?_)) ?_
   ·
    obtain ⟨ho12,rfl⟩:=hR12
    refine ⟨⟨rfl,rfl,trivial⟩,?_⟩
    skip
    refine (Y9 [5] ?_)
    refine Z9 rfl rfl (Oc9 300 [0,101,102,200] [] rfl Try.call39 rfl rfl rfl (by decide) (by decide) (numbered_spec2 _ (l.drop 57) 4 _ (rs9 0 rfl (fun h hp=>rdB_sub (hF h hp) (by omega) (by omega))) (by simp; omega) (by omega)) (fun v15 Ps15 hR15=>?_)) ?_
    ·
     obtain ⟨rfl,rfl⟩:=hR15
     refine ⟨⟨rfl,rfl,trivial⟩,?_⟩
     refine (T9 6 rfl rfl (Pu_build (V:=rootV v12 (val (l.drop 57) 4) zeroId nilS) [(0,1),(1,1),(2,32),(34,1)] (rootC (.slice none 0 0) 0 zeroId (.slice none 0 0)) rfl rfl (by kernel_rfl) (by kernel_rfl) (.one rfl ho12 (by simp [rootC,bs_length,zeroId_length]) rfl (.one rfl rfl (by simp [rootC,bs_length,zeroId_length]) rfl (.nil _))) rfl) (Y9 [8] ?_))
     refine Ac09 rfl rfl rfl (OpT_storeAll (r:=102) rfl Try.sizeOf39 rfl rfl rfl rfl rfl (one_root ho12 rfl) ?_) ?_
     ·
      refine ⟨⟨rfl,rfl,trivial⟩,?_⟩
      refine (Ad9 (by kernel_rfl) (X9 ?_))
      refine Q9 ?_
      refine W_draw (N:=5) (by kernel_rfl) rfl [(0,_),(101,_)] ⟨rfl,rfl,trivial⟩ ?_
      refine (T9 0 rfl rfl (F9 2 rfl rfl) (T9 1 rfl rfl (Pu_sliceArr rfl Try.runUnderlying29 Try.sizeOf5 rfl) (T9 2 rfl rfl (Pm9 rfl rfl) (T9 3 rfl rfl (Pu_slice (r:=0) (a:=61) (b:=l.length) rfl Try.runUnderlying30 Try.sizeOf5 rfl rfl hF (.inr ⟨_,_,_,rfl,rfl,rfl⟩) (.inl ⟨rfl,rfl⟩) (by omega) (Nat.le_refl _)) (Y9 [4] ?_)))))
      refine Z9 rfl rfl (OpT_copyB (r:=102) (r2:=0) rfl Try.underlying30 TI.hsm5 rfl rfl rfl rfl (fun h hp=>rdB_tail (hF h hp) (by omega)) (bs_one _) (by rw [rootC_length zeroId_length]; simp; omega) (root_copy zeroId_length (b:=l.drop 61) (by simp; omega)) ?_) ?_
      ·
       refine ⟨⟨rfl,rfl,trivial⟩,?_⟩
       refine (Ad9 (by kernel_rfl) (X9 ?_))
       refine Q9 (R9 (M9 rfl rfl (L9 rfl (Pu_slice (r:=0) (a:=93) (b:=95) rfl Try.runUnderlying30 Try.sizeOf5 rfl rfl hF (.inr ⟨_,_,_,rfl,rfl,rfl⟩) (.inr ⟨_,_,_,rfl,rfl,rfl⟩) (by omega) (by omega)) (Lc9 rfl rfl (by decide) (Oc9 400 [0,101,102,200] [] rfl Try.call39 rfl rfl rfl (by decide) (by decide) (numbered_spec2 _ (l.drop 93) 2 _ (rs9 0 rfl (fun h hp=>rdB_sub (hF h hp) (by omega) (by omega))) (by simp; omega) (by omega)) (fun v24 Ps24 hR24=>?_))))))
       obtain ⟨rfl,rfl⟩:=hR24
       refine (G9 rfl rfl (N9 (X9 ?_)))
       refine Q9 ?_
       refine W_block ?_
       refine Q9 (R9 (M9 rfl rfl (L9 rfl (Pu_idxS1 (r:=0) rfl Try.runUnderlying30 Try.sizeOf5 rfl rfl rfl hF (by omega)) (L9 rfl (Py9 (r:=0) rfl Try.isAgg5 rfl rfl hF (bs_at1 (k:=0) (by omega))) (L9 rfl (Pn9 rfl rfl rfl (run_neq _ _ _ _ _ _)) (M9 rfl rfl (Lg9 rfl rfl rfl rfl (by decide) (fun hb=>(F9 1 rfl rfl)) (Lg9 rfl rfl rfl rfl (by decide) (fun hb=>(Pb9 (r:=102) rfl Try.isAgg3 (ev_gv rfl hb) rfl rfl)) (Lg9 rfl rfl rfl rfl (by decide) (fun hb=>(Pn9 rfl (ev_gv rfl hb) rfl (run_lss _ _ _ _ _ _))) (L9 rfl (Pu_or rfl rfl rfl) (M9 rfl rfl (Lg9 rfl rfl rfl rfl (by decide) (fun hb=>(F9 1 rfl rfl)) (Lg9 rfl rfl rfl rfl (by decide) (fun hb=>(Pb9 (r:=102) rfl Try.isAgg3 (ev_gv rfl hb) rfl rfl)) (Lg9 rfl rfl rfl rfl (by decide) (fun hb=>(Pn9 rfl (ev_gv rfl hb) rfl (run_gtr _ _ _ _ _ _))) (L9 rfl (Pu_or rfl rfl rfl) (M9 rfl rfl (Lg9 rfl rfl rfl rfl (by decide) (fun hb=>(Pm9 rfl rfl)) (Lg9 rfl rfl rfl rfl (by decide) (fun hb=>(Pn9 rfl (ev_gv rfl hb) rfl (run_gtr _ _ _ _ _ _))) (L9 rfl (Pu_or rfl rfl rfl) (G9 rfl rfl (N9 (X9 ?_))))))))))))))))))))))
       refine C9 rfl (fun hc25=>?_) (fun hc25=>?_)
       ·
        rw [pRootBad_of] at hc25
        refine Q9 (R9 (L9 rfl (Pu_build (V:=rootV nilS 0 zeroId nilS) [(0,1),(1,1),(2,32),(34,1)] (rootC (.slice none 0 0) 0 zeroId (.slice none 0 0)) rfl rfl (by kernel_rfl) (by kernel_rfl) (.nil _) rfl) (Lc09 rfl rfl (OpT_storeAll (r:=101) rfl Try.sizeOf39 rfl rfl rfl rfl rfl (one_root rfl rfl) ?_))))
        refine (G9 rfl rfl (N9 (X9 ?_)))
        refine W_ret (X_block_ret (X_then_ret ?_))
        have hE:=pRootE_bad h95 hc25
        refine X_nilRow 9900 5 1 (X_nilRow 9901 5 1 ?_)
        exact Xq9 [9900,9901] (Ps:=[_,_]) (resC2 (r:=101) Try.results20 rfl rfl Try.isAgg39 Try.sizeOf39 rfl (rootC_length zeroId_length)) rfl (by decide) ⟨nilS,nilS,by rw [hE,pRoot_err hE (by decide)]; rfl,by rw [pRoot_err hE (by decide)]; rfl⟩
       ·
        rw [pRootBad_of] at hc25
        have hE0:=pRootE_later h95 hc25
        refine Q9 (R9 (M9 rfl rfl (L9 rfl (Pl9 (r:=0) rfl Try.runUnderlying30 rfl rfl hF) (M9 rfl rfl (L9 rfl (Pn9 rfl rfl rfl (run_add _ _ _ _ _ (by omega))) (L9 rfl (Pn9 rfl rfl rfl (run_lss _ _ _ _ _ _)) (G9 rfl rfl (N9 (X9 ?_)))))))))
        refine C9 rfl (fun hc45=>?_) (fun hc45=>?_)
        ·
         have g1:=of_decide_eq_true hc45
         refine Q9 (R9 (L9 rfl (Pu_build (V:=rootV nilS 0 zeroId nilS) [(0,1),(1,1),(2,32),(34,1)] (rootC (.slice none 0 0) 0 zeroId (.slice none 0 0)) rfl rfl (by kernel_rfl) (by kernel_rfl) (.nil _) rfl) (Lc09 rfl rfl (OpT_storeAll (r:=101) rfl Try.sizeOf39 rfl rfl rfl rfl rfl (one_root rfl rfl) ?_))))
         refine (G9 rfl rfl (N9 (X9 ?_)))
         refine W_ret (X_block_ret (X_then_ret ?_))
         have hE:=hE0.trans (if_pos (by omega))
         refine X_nilRow 9900 5 1 (X_nilRow 9901 5 1 ?_)
         exact Xq9 [9900,9901] (Ps:=[_,_]) (resC2 (r:=101) Try.results20 rfl rfl Try.isAgg39 Try.sizeOf39 rfl (rootC_length zeroId_length)) rfl (by decide) ⟨nilS,nilS,by rw [hE,pRoot_err hE (by decide)]; rfl,by rw [pRoot_err hE (by decide)]; rfl⟩
        ·
         have g1:=of_decide_eq_false hc45
         refine Q9 (R9 (M9 rfl rfl (L9 rfl (Pl9 (r:=0) rfl Try.runUnderlying30 rfl rfl hF) (M9 rfl rfl (L9 rfl (Pn9 rfl rfl rfl (run_add _ _ _ _ _ (by omega))) (L9 rfl (Pn9 rfl rfl rfl (run_gtr _ _ _ _ _ _)) (G9 rfl rfl (N9 (X9 ?_)))))))))
         refine C9 rfl (fun hc52=>?_) (fun hc52=>?_)
         ·
          have g2:=of_decide_eq_true hc52
          refine Q9 (R9 (L9 rfl (Pu_build (V:=rootV nilS 0 zeroId nilS) [(0,1),(1,1),(2,32),(34,1)] (rootC (.slice none 0 0) 0 zeroId (.slice none 0 0)) rfl rfl (by kernel_rfl) (by kernel_rfl) (.nil _) rfl) (Lc09 rfl rfl (OpT_storeAll (r:=101) rfl Try.sizeOf39 rfl rfl rfl rfl rfl (one_root rfl rfl) ?_))))
          refine (G9 rfl rfl (N9 (X9 ?_)))
          refine W_ret (X_block_ret (X_then_ret ?_))
          have hE:=hE0.trans ((if_neg (by omega)).trans (if_pos (by omega)))
          refine X_nilRow 9900 5 1 (X_nilRow 9901 5 1 ?_)
          exact Xq9 [9900,9901] (Ps:=[_,_]) (resC2 (r:=101) Try.results20 rfl rfl Try.isAgg39 Try.sizeOf39 rfl (rootC_length zeroId_length)) rfl (by decide) ⟨nilS,nilS,by rw [hE,pRoot_err hE (by decide)]; rfl,by rw [pRoot_err hE (by decide)]; rfl⟩
         ·
          have g2:=of_decide_eq_false hc52
          refine K9 (X_block (X9 ?_))
          refine Q9 (R9 (M9 rfl rfl (L9 rfl (Pu_slice (r:=0) (a:=95) (b:=l.length) rfl Try.runUnderlying30 Try.sizeOf5 rfl rfl hF (.inr ⟨_,_,_,rfl,rfl,rfl⟩) (.inl ⟨rfl,rfl⟩) (by omega) (Nat.le_refl _)) (Lc9 rfl rfl (by decide) (Oc9 500 [0,101,102,200] [] rfl Try.call25 rfl rfl rfl (by decide) (by decide) (clone_spec _ (l.drop 95) (by simp; omega) _ (rs9 0 rfl (fun h hp=>rdB_tail (hF h hp) (by omega)))) (fun v61 Ps61 hR61=>?_))))))
          obtain ⟨ho61,rfl⟩:=hR61
          skip
          refine (L9 rfl (F9 34 rfl rfl) (Lc09 rfl rfl (OpT_storeB1 (r:=102) rfl Try.sizeOf30 rfl rfl rfl ho61 (by rw [rootC_length htop]; decide) (root_set htop) ?_)))
          refine (N9 (X9 ?_))
          refine Q9 (R9 (L9 rfl (Px9 (r:=102) rfl Try.isAgg39 Try.sizeOf39 rfl rfl (rootC_length htop) (load_all (rootC_length htop))) (Lc09 rfl rfl (OpT_storeAll (r:=101) rfl Try.sizeOf39 rfl rfl rfl rfl (rootC_length htop) (one_root ho12 ho61) ?_))))
          refine (G9 rfl rfl (N9 (X9 ?_)))
          refine W_ret ?_
          have hE:=hE0.trans ((if_neg (by omega)).trans (if_neg (by omega)))
          have hR:pRoot l=⟨(l.drop 1).take 56,val (l.drop 57) 4,(l.drop 61).take 32,l.drop 95⟩:=by unfold pRoot; rw [if_pos hE]
          exact Xq9 [200,500] (Ps:=[_,_]) (resC2 (r:=101) Try.results20 rfl rfl Try.isAgg39 Try.sizeOf39 rfl (rootC_length htop)) rfl (by decide) ⟨v12,v61,by rw [hE,hR]; rfl,by rw [hR]⟩
      exact An9
     exact An9
    exact An9
   exact An9
  exact An9
open Go.RowKit
theorem wrapU64 (a:Int):IntKind.u64.wrap a=a % 18446744073709551616:=by simp [IntKind.wrap,IntKind.signed,IntKind.bits]
section
variable {P:Program} {E:Env} {n:Nat} {K:Slots} {L:Res} {o:Oper} {C:Value→Res→Prop}
theorem Pu_built {t:TypeId} {ps:List (Nat × Operand)} {vs:List (Nat × Value)} {cells:List Value} (ho:o.op = .build t ps.toArray) (hp:evP K ps=some vs) (hb:P.built t vs=some cells.toArray):Pure P E n o K L (.agg cells.toArray):=fun a w hA hS=>by
  have hq:=evP_map hA hp
  have hm:(ps.toArray.map fun (i,x)=>(i,a.eval x))=vs.toArray:=by simp [← hq]
  simp only [execOp,ho,hm,Sem.run_bind,run_build w t _ _ (show P.built t vs.toArray.toList=some cells.toArray by simpa using hb),Result.andThen_ok,Sem.run_pure]
theorem built8 {t e:TypeId} (hu:P.underlying t=some (.array 8 e)) (hz:(P.info? t).bind (·.zero)=some (.agg (ws [0,0,0,0,0,0,0,0]).toArray)) (hs:(P.info? e).map (·.size)=some 1) (a b c d e' f g h:UInt32) :
    P.built t [(0,wv a),(1,wv b),(2,wv c),(3,wv d),(4,wv e'),(5,wv f),(6,wv g),(7,wv h)]=some (ws [a,b,c,d,e',f,g,h]).toArray:=by
  unfold Program.built
  cases hi:P.info? t with
  | none=>simp [hi] at hz
  | some it =>
    cases hie:P.info? e with
    | none=>simp [hie] at hs
    | some ie =>
      simp only [hi,Option.bind_some] at hz
      simp only [hie,Option.map_some,Option.some.injEq] at hs
      simp [hu,hz,hie,hs,Instr.fill,ws,wv,Value.cells]
theorem Pu_idxK {t e m cap g off:Nat} {x y:Operand} {kd:IntKind} {ix:Int} {r:Nat} {te:TypeId} {cs:List Value} (ho:o.op = .indexAddr t x y) (hu:∀ w,(underlying t).run P w = .ok (.slice e) w) (hs:∀ w,(sizeOf e).run P w = .ok 1 w)
    (hx:evK K x=some (.slice (some ⟨g,off,none⟩) m cap)) (hy:evK K y=some (.int kd ix)) (hr:look L r=some (blk g te cs)) (hc:off + m≤cs.length) (hmc:m≤cap) (hi:0≤ix∧ix < (m:Int)):Pure P E n o K L (.pointer (some ⟨g,off + ix.toNat,none⟩)):=by
  have h:=Pi9 (E:=E) (n:=n) (K:=K) (L:=L) (r:=r) (v:=.slice (some ⟨g,off,none⟩) m cap) (xs:=(cs.drop off).take m) (size:=1) ho hu hs hx hy hr (fun h hb=>blk_rd hb (by rw [Nat.mul_one]) (by rw [List.length_take,List.length_drop]; omega) hmc) hi
  have e:(adrOf (.slice (some ⟨g,off,none⟩) m cap)).add (ix.toNat * 1)=⟨g,off + ix.toNat,none⟩:=by rw [Nat.mul_one]; exact addr_add _ _ _
  rw [e] at h
  exact h
theorem run_mulU (a b:Nat) (t:TypeId) (x y:Operand) (h:a * b < 18446744073709551616) (w:World):((do eqGuard .mul t x y (.int .u64 (a:Int)) (.int .u64 (b:Int)); binOp .mul t (.int .u64 (a:Int)) (.int .u64 (b:Int)):Sem Value)).run P w = .ok (.int .u64 ((a * b:Nat):Int)) w:=by
  have h1:IntKind.u64.wrap ((a:Int) * (b:Int))=((a * b:Nat):Int):=by
    rw [show (a:Int) * (b:Int)=((a * b:Nat):Int) by simp,wrapU64]; omega
  simp [eqGuard,binOp,Op.intArith,h1]
theorem run_subU (a b:Nat) (t:TypeId) (x y:Operand) (h:b≤a∧a < 18446744073709551616) (w:World):((do eqGuard .sub t x y (.int .u64 (a:Int)) (.int .u64 (b:Int)); binOp .sub t (.int .u64 (a:Int)) (.int .u64 (b:Int)):Sem Value)).run P w = .ok (.int .u64 ((a - b:Nat):Int)) w:=by
  have h1:IntKind.u64.wrap ((a:Int) - (b:Int))=((a - b:Nat):Int):=by rw [wrapU64]; omega
  simp [eqGuard,binOp,Op.intArith,h1]
theorem run_shrU (a b:Nat) (t:TypeId) (x y:Operand) {kd:IntKind} (hb:b≤64) (w:World):((do eqGuard .shr t x y (.int .u64 (a:Int)) (.int kd (b:Int)); binOp .shr t (.int .u64 (a:Int)) (.int kd (b:Int)):Sem Value)).run P w = .ok (.int .u64 ((a / 2 ^ b:Nat):Int)) w:=by
  refine run_shrR (P:=P) (k:=.u64) _ b hb ?_ t x y w
  rw [Int.fdiv_eq_ediv_of_nonneg _ (by exact_mod_cast Nat.zero_le _)]
  simp
theorem conv_u64 {k0 k':IntKind} (a:Nat) {s d:TypeId} (hs:∀ w,(underlying s).run P w = .ok (.int k') w) (hd:∀ w,(underlying d).run P w = .ok (.int .u64) w) (h:a < 18446744073709551616) (w:World):(convert s d (.int k0 (a:Int))).run P w = .ok (.int .u64 (a:Int)) w:=by
  rw [conv_int k0 _ hs hd w]
  rw [show IntKind.u64.wrap (a:Int)=(a:Int) by rw [wrapU64]; omega]
theorem conv_neg {k0 k':IntKind} (r:Nat) {s d:TypeId} (hs:∀ w,(underlying s).run P w = .ok (.int k') w) (hd:∀ w,(underlying d).run P w = .ok (.int .u64) w) (h:0 < r∧r < 32) (w:World):(convert s d (.int k0 (-(r:Int)))).run P w = .ok (.int .u64 ((18446744073709551616 - r:Nat):Int)) w:=by
  rw [conv_int k0 _ hs hd w]
  rw [show IntKind.u64.wrap (-(r:Int))=((18446744073709551616 - r:Nat):Int) by rw [wrapU64]; omega]
theorem run_and31U (r:Nat) (t:TypeId) (x y:Operand) (h:0 < r∧r < 32) (w:World):((do eqGuard .and t x y (.int .u64 ((18446744073709551616 - r:Nat):Int)) (.int .u64 31); binOp .and t (.int .u64 ((18446744073709551616 - r:Nat):Int)) (.int .u64 31):Sem Value)).run P w = .ok (.int .u64 ((32 - r:Nat):Int)) w:=by
  refine run_and (P:=P) _ _ ?_ t x y w
  rw [show (31:Int)=((31:Nat):Int) from rfl,u64_and_nat _ _ (by omega) (by decide)]
  rw [show (31:Nat)=2 ^ 5 - 1 from rfl,Nat.and_two_pow_sub_one_eq_mod]
  congr 1
  omega
end
section
variable {P:Program} {E:Env} {n:Nat} {K:Slots} {L:Res} {o:Oper}
theorem Pu_sliceArrHi {t e g off m b:Nat} {x hi:Operand} {kd:IntKind} (ho:o.op = .slice t x none (some hi) none) (hu:∀ w,(underlying t).run P w = .ok (.array m e) w) (hs:∀ w,(sizeOf e).run P w = .ok 1 w) (hx:evK K x=some (.pointer (some ⟨g,off,none⟩))) (hy:evK K hi=some (.int kd (b:Int))) (hb:b≤m) (hm:0 < m):Pure P E n o K L (.slice (some ⟨g,off,none⟩) b m) :=
  (fun ac w hA hS=>by
    have h1:¬ ((b:Int) < 0):=by omega
    have h2:¬ ((m:Int) < (b:Int)):=by omega
    simp only [execOp,ho,hA.eval hx,Option.map_none,Option.map_some,hA.eval hy,Sem.run_bind,Instr.sliceAt,hu,hs,Result.andThen_ok,Instr.sureAddr,Instr.sliceBounds,Sem.run_pure]
    have h3:¬ m=0:=by omega
    have sb:(Instr.sliceBound (.int kd (b:Int)) m .sliceAlen).run P w = .ok b w:=by simp [Instr.sliceBound,asIntOf]; omega
    simp [sb,h3,Addr.add])
end
def schZ (b:List UInt8) (p t:Nat):List UInt32:=sch b p t++List.replicate (64 - t) 0
theorem schZ_length {b:List UInt8} {p t:Nat} (h:t≤64):(schZ b p t).length=64:=by unfold schZ; rw [List.length_append,sch_length,List.length_replicate]; omega
theorem schZ_full (b:List UInt8) (p:Nat):schZ b p 64=sch b p 64:=by unfold schZ; rw [show 64 - 64=0 from rfl,List.replicate_zero,List.append_nil]
theorem schZ_get {b:List UInt8} {p t k:Nat} (h:k < t):(schZ b p t).getD k 0=(sch b p t).getD k 0:=by
  unfold schZ
  rw [List.getD_eq_getElem?_getD,List.getD_eq_getElem?_getD,List.getElem?_append_left (by rw [sch_length]; exact h)]
theorem schZ_set {b:List UInt8} {p t:Nat} {z:Int} {w:UInt32} (hz:z.toNat=t) (ht:t < 64) (hw:w=if t < 16 then word b (p + 4 * t) else nextW (sch b p t) t):(schZ b p t).set (0 + z.toNat) w=schZ b p (t + 1):=by
  rw [hz,Nat.zero_add]
  have hs:sch b p (t + 1)=sch b p t++[w]:=by rw [hw]; rfl
  unfold schZ
  rw [hs,List.set_append_right _ _ (by rw [sch_length]; omega),sch_length,Nat.sub_self,show 64 - t=(64 - (t + 1)) + 1 by omega,List.replicate_succ,List.set_cons_zero,List.append_assoc]
  rfl
theorem schZ_next {b:List UInt8} {p t:Nat} (h1:16≤t):sm1 ((schZ b p t).getD (t - 2) 0) + (schZ b p t).getD (t - 7) 0 + sm0 ((schZ b p t).getD (t - 15) 0) + (schZ b p t).getD (t - 16) 0=if t < 16 then word b (p + 4 * t) else nextW (sch b p t) t:=by
  rw [if_neg (by omega),schZ_get (by omega),schZ_get (by omega),schZ_get (by omega),schZ_get (by omega)]
  rfl
theorem rotl_or (x:UInt32) (r:Nat):(x <<< UInt32.ofNat (32 - r)) ||| (x >>> UInt32.ofNat r)=rotr x r:=by unfold rotr; rw [UInt32.or_comm]
open Go.RowKit
set_option maxRecDepth 8000
theorem rotl_spec (x:UInt32) (r:Nat) (hr:0 < r∧r < 32) (F:HP):CallsS Try.prog 89 #[wv x,.int .i64 (-(r:Int))] F [] (fun v Ps=>v=wv (rotr x r)∧Ps=[]):=by
 refine callsS_enter Try.func89 rfl Try.ntmps89 (by simp) (fun E=>?_)
 refine Q9 (R9 (G9 rfl rfl (N9 (X9 (Q9 (R9 (M9 rfl rfl (L9 rfl (Pu_conv rfl rfl (conv_neg r Try.runUnderlying3 Try.runUnderlying71 hr)) (L9 rfl (Pn9 rfl rfl rfl (run_and31U r _ _ _ hr)) (G9 rfl rfl (N9 (X9 (Q9 (R9 (M9 rfl rfl (M9 rfl rfl (L9 rfl (Pn9 rfl rfl rfl (run_shlW _ (32 - r) (by omega) _ _ _)) (M9 rfl rfl (M9 rfl rfl (L9 rfl (Pn9 rfl rfl rfl (run_subU 32 (32 - r) _ _ _ (by omega))) (L9 rfl (Pn9 rfl rfl rfl (run_shrW _ (32 - (32 - r)) (by omega) _ _ _)) (L9 rfl (Pn9 rfl rfl rfl (run_orW _ _ _ _ _)) (G9 rfl rfl (N9 (X9 ?_)))))))))))))))))))))))))
 refine W_ret ?_
 exact Xq9 [] (Ps:=[]) (res1 Try.results89 rfl) rfl (by decide) ⟨by rw [show 32 - (32 - r)=r by omega,rotl_or],rfl⟩
theorem small0_spec (x:UInt32) (F:HP):CallsS Try.prog 75 #[wv x] F [] (fun v Ps=>v=wv (sm0 x)∧Ps=[]):=by
 refine callsS_enter Try.func75 rfl Try.ntmps75 (by simp) (fun E=>?_)
 refine Q9 (R9 (G9 rfl rfl (N9 (X9 (Q9 (R9 (M9 rfl rfl (Lc9 rfl rfl (by decide) (Oc9 200 [0] [] rfl Try.call89 rfl rfl rfl (by decide) (by decide) (rotl_spec x 7 (by decide) _) (fun v4 Ps4 hR4=>?_))))))))))
 obtain ⟨rfl,rfl⟩:=hR4
 refine (M9 rfl rfl (Lc9 rfl rfl (by decide) (Oc9 300 [0] [] rfl Try.call89 rfl rfl rfl (by decide) (by decide) (rotl_spec x 18 (by decide) _) (fun v6 Ps6 hR6=>?_))))
 obtain ⟨rfl,rfl⟩:=hR6
 refine (L9 rfl (Pn9 rfl rfl rfl (run_xorW _ _ _ _ _)) (M9 rfl rfl (L9 rfl (Pn9 rfl rfl rfl (run_shrW _ (3) (by decide) _ _ _)) (L9 rfl (Pn9 rfl rfl rfl (run_xorW _ _ _ _ _)) (G9 rfl rfl (N9 (X9 ?_)))))))
 refine W_ret ?_
 exact Xq9 [] (Ps:=[]) (res1 Try.results75 rfl) rfl (by decide) ⟨rfl,rfl⟩
theorem small1_spec (x:UInt32) (F:HP):CallsS Try.prog 74 #[wv x] F [] (fun v Ps=>v=wv (sm1 x)∧Ps=[]):=by
 refine callsS_enter Try.func74 rfl Try.ntmps74 (by simp) (fun E=>?_)
 refine Q9 (R9 (G9 rfl rfl (N9 (X9 (Q9 (R9 (M9 rfl rfl (Lc9 rfl rfl (by decide) (Oc9 200 [0] [] rfl Try.call89 rfl rfl rfl (by decide) (by decide) (rotl_spec x 17 (by decide) _) (fun v4 Ps4 hR4=>?_))))))))))
 obtain ⟨rfl,rfl⟩:=hR4
 refine (M9 rfl rfl (Lc9 rfl rfl (by decide) (Oc9 300 [0] [] rfl Try.call89 rfl rfl rfl (by decide) (by decide) (rotl_spec x 19 (by decide) _) (fun v6 Ps6 hR6=>?_))))
 obtain ⟨rfl,rfl⟩:=hR6
 refine (L9 rfl (Pn9 rfl rfl rfl (run_xorW _ _ _ _ _)) (M9 rfl rfl (L9 rfl (Pn9 rfl rfl rfl (run_shrW _ (10) (by decide) _ _ _)) (L9 rfl (Pn9 rfl rfl rfl (run_xorW _ _ _ _ _)) (G9 rfl rfl (N9 (X9 ?_)))))))
 refine W_ret ?_
 exact Xq9 [] (Ps:=[]) (res1 Try.results74 rfl) rfl (by decide) ⟨rfl,rfl⟩
theorem great0_spec (x:UInt32) (F:HP):CallsS Try.prog 78 #[wv x] F [] (fun v Ps=>v=wv (gr0 x)∧Ps=[]):=by
 refine callsS_enter Try.func78 rfl Try.ntmps78 (by simp) (fun E=>?_)
 refine Q9 (R9 (G9 rfl rfl (N9 (X9 (Q9 (R9 (M9 rfl rfl (Lc9 rfl rfl (by decide) (Oc9 200 [0] [] rfl Try.call89 rfl rfl rfl (by decide) (by decide) (rotl_spec x 2 (by decide) _) (fun v4 Ps4 hR4=>?_))))))))))
 obtain ⟨rfl,rfl⟩:=hR4
 refine (M9 rfl rfl (Lc9 rfl rfl (by decide) (Oc9 300 [0] [] rfl Try.call89 rfl rfl rfl (by decide) (by decide) (rotl_spec x 13 (by decide) _) (fun v6 Ps6 hR6=>?_))))
 obtain ⟨rfl,rfl⟩:=hR6
 refine (L9 rfl (Pn9 rfl rfl rfl (run_xorW _ _ _ _ _)) (M9 rfl rfl (Lc9 rfl rfl (by decide) (Oc9 400 [0] [] rfl Try.call89 rfl rfl rfl (by decide) (by decide) (rotl_spec x 22 (by decide) _) (fun v9 Ps9 hR9=>?_)))))
 obtain ⟨rfl,rfl⟩:=hR9
 refine (L9 rfl (Pn9 rfl rfl rfl (run_xorW _ _ _ _ _)) (G9 rfl rfl (N9 (X9 ?_))))
 refine W_ret ?_
 exact Xq9 [] (Ps:=[]) (res1 Try.results78 rfl) rfl (by decide) ⟨rfl,rfl⟩
theorem great1_spec (x:UInt32) (F:HP):CallsS Try.prog 77 #[wv x] F [] (fun v Ps=>v=wv (gr1 x)∧Ps=[]):=by
 refine callsS_enter Try.func77 rfl Try.ntmps77 (by simp) (fun E=>?_)
 refine Q9 (R9 (G9 rfl rfl (N9 (X9 (Q9 (R9 (M9 rfl rfl (Lc9 rfl rfl (by decide) (Oc9 200 [0] [] rfl Try.call89 rfl rfl rfl (by decide) (by decide) (rotl_spec x 6 (by decide) _) (fun v4 Ps4 hR4=>?_))))))))))
 obtain ⟨rfl,rfl⟩:=hR4
 refine (M9 rfl rfl (Lc9 rfl rfl (by decide) (Oc9 300 [0] [] rfl Try.call89 rfl rfl rfl (by decide) (by decide) (rotl_spec x 11 (by decide) _) (fun v6 Ps6 hR6=>?_))))
 obtain ⟨rfl,rfl⟩:=hR6
 refine (L9 rfl (Pn9 rfl rfl rfl (run_xorW _ _ _ _ _)) (M9 rfl rfl (Lc9 rfl rfl (by decide) (Oc9 400 [0] [] rfl Try.call89 rfl rfl rfl (by decide) (by decide) (rotl_spec x 25 (by decide) _) (fun v9 Ps9 hR9=>?_)))))
 obtain ⟨rfl,rfl⟩:=hR9
 refine (L9 rfl (Pn9 rfl rfl rfl (run_xorW _ _ _ _ _)) (G9 rfl rfl (N9 (X9 ?_))))
 refine W_ret ?_
 exact Xq9 [] (Ps:=[]) (res1 Try.results77 rfl) rfl (by decide) ⟨rfl,rfl⟩
theorem begin_spec (F:HP):CallsS Try.prog 66 #[] F [] (fun v Ps=>v = .agg (ws HS).toArray∧Ps=[]):=by
 refine callsS_enter Try.func66 rfl Try.ntmps66 (by simp) (fun E=>?_)
 refine Q9 (R9 (Lc9 rfl rfl (by decide) (OpT_alloc (r:=101) (cs:=(ws [0,0,0,0,0,0,0,0])) rfl (zero_run (by kernel_rfl:(Try.prog.info? 76).bind (·.zero)=some (.agg (ws [0,0,0,0,0,0,0,0]).toArray))) rfl (fun g101=>(N9 (X9 (Q9 (R9 (L9 rfl (Pu_built (cells:=ws HS) rfl rfl (by kernel_rfl)) (Lc09 rfl rfl (OpT_storeAll (r:=101) rfl Try.sizeOf76 rfl rfl rfl rfl rfl (ws_one _) ?_)))))))))))
 refine (N9 (X9 ?_))
 refine W_ret ?_
 exact Xq9 [] (Ps:=[]) (resC1 (r:=101) Try.results66 rfl Try.isAgg76 Try.sizeOf76 rfl rfl) rfl (by decide) ⟨rfl,rfl⟩
theorem consts_spec (F:HP):CallsS Try.prog 76 #[] F [] (fun v Ps=>v = .agg (ws KS).toArray∧Ps=[]):=by
 refine callsS_enter Try.func76 rfl Try.ntmps76 (by simp) (fun E=>?_)
 refine Q9 (R9 (Lc9 rfl rfl (by decide) (OpT_alloc (r:=101) (cs:=(ws (List.replicate 64 0))) rfl (zero_run (by kernel_rfl:(Try.prog.info? 74).bind (·.zero)=some (.agg (ws (List.replicate 64 0)).toArray))) rfl (fun g101=>(N9 (X9 (Q9 (R9 (L9 rfl (Pu_built (cells:=ws KS) rfl rfl (by kernel_rfl)) (Lc09 rfl rfl (OpT_storeAll (r:=101) rfl Try.sizeOf74 rfl rfl rfl rfl rfl (ws_one _) ?_)))))))))))
 refine (N9 (X9 ?_))
 refine W_ret ?_
 exact Xq9 [] (Ps:=[]) (resC1 (r:=101) Try.results76 rfl Try.isAgg74 Try.sizeOf74 rfl rfl) rfl (by decide) ⟨rfl,rfl⟩
theorem words_spec (F:HP):CallsS Try.prog 33 #[] F [] (fun v Ps=>v = .agg (ws KS).toArray∧Ps=[]):=by
 refine callsS_enter Try.func33 rfl Try.ntmps33 (by simp) (fun E=>?_)
 refine Q9 (R9 (Lc9 rfl rfl (by decide) (OpT_alloc (r:=101) (cs:=(ws (List.replicate 64 0))) rfl (zero_run (by kernel_rfl:(Try.prog.info? 74).bind (·.zero)=some (.agg (ws (List.replicate 64 0)).toArray))) rfl (fun g101=>(N9 (X9 (Q9 (R9 (L9 rfl (Pu_built (cells:=ws KS) rfl rfl (by kernel_rfl)) (Lc09 rfl rfl (OpT_storeAll (r:=101) rfl Try.sizeOf74 rfl rfl rfl rfl rfl (ws_one _) ?_)))))))))))
 refine (N9 (X9 ?_))
 refine W_ret ?_
 exact Xq9 [] (Ps:=[]) (resC1 (r:=101) Try.results33 rfl Try.isAgg74 Try.sizeOf74 rfl rfl) rfl (by decide) ⟨rfl,rfl⟩
open Go.RowKit
def AllImp (L:Res):Res→Prop
  | []=>True
  | (r,P)::l=>(∃ P0,look L r=some P0∧∀ h,P0 h→P h)∧AllImp L l
theorem AllImp.sat {E:Env} {L:Res} {w:World} (hS:Sat E L w):∀ {S:Res},AllImp L S→Sat E S w:=fun {S} h=>by
  obtain ⟨e,hs,h1,h2,h3⟩:=hS
  refine ⟨e,hs,?_,h2,h3⟩
  intro q Pq hq
  clear h2 h3
  induction S with
  | nil=>simp [look] at hq
  | cons rp S ih =>
    obtain ⟨r,Pr⟩:=rp
    obtain ⟨⟨P0,ha,hb⟩,hr⟩:=h
    by_cases hqr:r=q
    · subst hqr
      rw [look_same] at hq
      injection hq with hq
      subst hq
      exact hb _ (h1 r P0 ha)
    · rw [look_other hqr] at hq
      exact ih hr hq
section
variable {P:Program} {E:Env} {n:Nat} {K:Slots} {L:Res} {Q:Exit→Act→World→Prop} {ops:Array Oper} {o:Oper} {S:Res} {fuel:Nat} {listed:Array Bool}
theorem W_drawI {id N:Nat} {l:List Oper} (hm:P.follows .mixedOrders=true) (hN:l.length=N) (S:Res) (hL:AllImp L S) (h:AH P E n l.toArray S N (Array.replicate N false) K L Q):W P E n (.region id l.toArray true) K L Q:=fun a w hA hS=>by
  refine wp_region_noPanic (wp_region_held_drew (S:=fun w=>Sat E S w) hm (hL.sat hS).drew fun hh=>?_)
  have:l.toArray.size=N:=by simpa using hN
  rw [this]
  exact h a w.drew hA hS.drew hh
theorem AHs_consI {i d:Nat} {rs:List Nat} (hi:ops[i]?=some o) (hg:o.guard=none) (hd:o.dst=some d) (hn:d < n) (h:OpT P E n o K L (fun v L'=>AllImp L' S∧AH P E n ops S fuel (listed.setIfInBounds i true) ((d,v)::K) L' Q))
    (hs:AHs P E n ops S fuel listed K L Q rs):AHs P E n ops S fuel listed K L Q (i::rs):=fun j hj a w hA hS hh=>by
  rcases List.mem_cons.1 hj with rfl | hj
  · refine wpOp_step hi fun Kc hK=>?_
    rw [if_pos (by simp [Region.wanted,hg])]
    refine h a w Kc _ hA hS fun v L' w' ⟨c1,c2⟩ hS'=>?_
    rw [hd]
    have hh':=c1.sat hS'
    exact hK _ _ ⟨hh',c2 _ _ (hA.put hn v) hS' hh'⟩
  · exact hs j hj a w hA hS hh
theorem AHs_cons0I {i:Nat} {rs:List Nat} (hi:ops[i]?=some o) (hg:o.guard=none) (hd:o.dst=none) (h:OpT P E n o K L (fun v L'=>AllImp L' S∧AH P E n ops S fuel (listed.setIfInBounds i true) K L' Q))
    (hs:AHs P E n ops S fuel listed K L Q rs):AHs P E n ops S fuel listed K L Q (i::rs):=fun j hj a w hA hS hh=>by
  rcases List.mem_cons.1 hj with rfl | hj
  · refine wpOp_step hi fun Kc hK=>?_
    rw [if_pos (by simp [Region.wanted,hg])]
    refine h a w Kc _ hA hS fun v L' w' ⟨c1,c2⟩ hS'=>?_
    rw [hd]
    have hh':=c1.sat hS'
    exact hK _ _ ⟨hh',c2 _ _ hA hS' hh'⟩
  · exact hs j hj a w hA hS hh
end
def frontW (g:Nat) (T:TypeId) (l:List UInt32) (x:Nat):HP:=fun h=>∃ l2:List UInt32,blk g T (ws l2) h∧x≤l2.length∧∀ k,k < x→l2.getD k 0=l.getD k 0
theorem front_a {g:Nat} {T:TypeId} {l:List UInt32} {x:Nat} (hx:x≤l.length):∀ h,blk g T (ws l) h→frontW g T l x h:=fun h hp=>⟨l,hp,hx,fun _ _=>rfl⟩
theorem front_b {g:Nat} {T:TypeId} {l:List UInt32} {x:Nat} {z:Int} {w:UInt32} (hx:x≤l.length) (hz:z.toNat=x):∀ h,blk g T (ws (l.set (0 + z.toNat) w)) h→frontW g T l x h:=fun h hp=>⟨_,hp,by rw [List.length_set]; exact hx,fun k hk=>by
  rw [List.getD_eq_getElem?_getD,List.getD_eq_getElem?_getD,List.getElem?_set_ne (by omega)]⟩
theorem front_get {g:Nat} {T:TypeId} {l:List UInt32} {x k:Nat} {z:Int} {h:Hlt} (hp:frontW g T l x h) (hz:z.toNat=k) (hk:k < x):cellH h ⟨g,0 + z.toNat,none⟩=some (wv (l.getD k 0)):=by
  obtain ⟨l2,h1,h2,h3⟩:=hp
  rw [blk_cell h1,ws_at0 hz (by omega),h3 k hk]
open Go.RowKit
set_option maxRecDepth 8000
theorem bs_atZ0 {l:List UInt8} {k:Nat} {z:Int} (hz:z.toNat=k) (h:k < l.length):(bs l)[z.toNat]?=some (bv (at0 l k)):=by rw [hz]; exact bs_at1 h
theorem ws_atI {l:List UInt32} {k:Nat} {z:Int} (hz:z.toNat=k) (h:k < l.length):(ws l)[z.toNat]?=some (wv (l.getD k 0)):=by rw [hz]; exact ws_at h
set_option maxHeartbeats 2000000 in
theorem mix_spec (s:S8) (v:Value) (b:List UInt8) (hbl:b.length=64) (F:HP) (hF:∀ h,F h→rdB v b h):CallsS Try.prog 67 #[.agg (ws s.list).toArray,v] F [] (fun r Ps=>r = .agg (ws (mixS b 0 s).list).toArray∧Ps=[]):=by
 refine callsS_enter Try.func67 rfl Try.ntmps67 (by simp) (fun E=>?_)
 refine Q9 (R9 (Lc9 rfl rfl (by decide) (OpT_box (r:=101) rfl rfl rfl (fun g101=>(Lc9 rfl rfl (by decide) (OpT_alloc (r:=102) (cs:=(ws [0,0,0,0,0,0,0,0])) rfl (zero_run (by kernel_rfl:(Try.prog.info? 76).bind (·.zero)=some (.agg (ws [0,0,0,0,0,0,0,0]).toArray))) rfl (fun g102=>(N9 (X9 (Q9 (R9 (Lc9 rfl rfl (by decide) (OpT_alloc (r:=103) (cs:=(ws (List.replicate 64 0))) rfl (zero_run (by kernel_rfl:(Try.prog.info? 74).bind (·.zero)=some (.agg (ws (List.replicate 64 0)).toArray))) rfl (fun g103=>(N9 (X9 (Q9 (Q9 (R9 (L9 rfl (Pu_sliceArrHi (b:=16) rfl Try.runUnderlying74 Try.sizeOf73 rfl rfl (by decide) (by decide)) (L9 rfl (Pl9 (r:=103) rfl Try.runUnderlying118 rfl rfl (fun h hp=>blk_rd (size:=1) (m:=16) hp rfl (by rw [List.length_take,List.length_drop,ws_length,List.length_replicate]; decide) (by decide))) (M9 rfl rfl (N9 (X9 ?_))))))))))))))))))))))))
 refine W_block ?_
 refine Wt9 (P':=blk g103 74 (ws (schZ b 0 0))) 103 rfl (fun h hp=>hp) ?_
 refine W_loop (α:=Nat) (fun x=>[(1,v),(2,.pointer (some ⟨g101,0,none⟩)),(4,.pointer (some ⟨g102,0,none⟩)),(5,.pointer (some ⟨g103,0,none⟩)),(22,.int .i64 16),(23,.int .i64 (x:Int))]) (fun x=>[(0,F),(101,blk g101 76 (ws s.list)),(102,blk g102 76 (ws [0,0,0,0,0,0,0,0])),(103,blk g103 74 (ws (schZ b 0 x)))]) (fun x=>x≤16) (fun x=>16 - x) (0) (by omega) (a9 rfl) (a9 rfl) (fun x hx=>?_)
 refine Q9 (R9 (L9 rfl (Pn9 rfl rfl rfl (run_lss _ _ _ _ _ _)) (N9 (X9 (Q9 ?_)))))
 refine C9 rfl (fun hc24=>?_) (fun hc24=>?_)
 ·
  have hlt:x < 16:=by have:=of_decide_eq_true hc24; omega
  refine K9 (X9 ?_)
  refine Q9 ?_
  refine W_block ?_
  refine Q9 (R9 (M9 rfl rfl (G9 rfl rfl (N9 (X9 ?_)))))
  refine W_draw (N:=36) (by kernel_rfl) rfl [(0,_),(101,_),(102,_)] ⟨rfl,rfl,rfl,trivial⟩ ?_
  refine (T9 0 rfl rfl (Pm9 rfl rfl) (T9 1 rfl rfl (Pm9 rfl rfl) (T9 2 rfl rfl (Pm9 rfl rfl) (T9 3 rfl rfl (Pn9 rfl rfl rfl (run_mul _ _ _ _ _ (by omega))) (T9 4 rfl rfl (Pu_idxS1 (r:=0) rfl Try.runUnderlying30 Try.sizeOf5 rfl rfl rfl hF (by omega)) (T9 5 rfl rfl (Py9 (r:=0) rfl Try.isAgg5 rfl rfl hF (bs_atZ0 (k:=4 * x) (by omega) (by omega))) (T9 6 rfl rfl (Pu_conv rfl rfl (conv_u8W _ Try.runUnderlying5 Try.runUnderlying73)) (T9 7 rfl rfl (Pn9 rfl rfl rfl (run_shlW _ (24) (by decide) _ _ _)) (T9 8 rfl rfl (Pm9 rfl rfl) (T9 9 rfl rfl (Pm9 rfl rfl) (T9 10 rfl rfl (Pn9 rfl rfl rfl (run_mul _ _ _ _ _ (by omega))) (T9 11 rfl rfl (Pn9 rfl rfl rfl (run_add _ _ _ _ _ (by omega))) (T9 12 rfl rfl (Pu_idxS1 (r:=0) rfl Try.runUnderlying30 Try.sizeOf5 rfl rfl rfl hF (by omega)) (T9 13 rfl rfl (Py9 (r:=0) rfl Try.isAgg5 rfl rfl hF (bs_atZ0 (k:=4 * x + 1) (by omega) (by omega))) (T9 14 rfl rfl (Pu_conv rfl rfl (conv_u8W _ Try.runUnderlying5 Try.runUnderlying73)) (T9 15 rfl rfl (Pn9 rfl rfl rfl (run_shlW _ (16) (by decide) _ _ _)) (T9 16 rfl rfl (Pn9 rfl rfl rfl (run_orW _ _ _ _ _)) (T9 17 rfl rfl (Pm9 rfl rfl) (T9 18 rfl rfl (Pm9 rfl rfl) (T9 19 rfl rfl (Pn9 rfl rfl rfl (run_mul _ _ _ _ _ (by omega))) (T9 20 rfl rfl (Pn9 rfl rfl rfl (run_add _ _ _ _ _ (by omega))) (T9 21 rfl rfl (Pu_idxS1 (r:=0) rfl Try.runUnderlying30 Try.sizeOf5 rfl rfl rfl hF (by omega)) (T9 22 rfl rfl (Py9 (r:=0) rfl Try.isAgg5 rfl rfl hF (bs_atZ0 (k:=4 * x + 2) (by omega) (by omega))) (T9 23 rfl rfl (Pu_conv rfl rfl (conv_u8W _ Try.runUnderlying5 Try.runUnderlying73)) (T9 24 rfl rfl (Pn9 rfl rfl rfl (run_shlW _ (8) (by decide) _ _ _)) (T9 25 rfl rfl (Pn9 rfl rfl rfl (run_orW _ _ _ _ _)) (T9 26 rfl rfl (Pm9 rfl rfl) (T9 27 rfl rfl (Pm9 rfl rfl) (T9 28 rfl rfl (Pn9 rfl rfl rfl (run_mul _ _ _ _ _ (by omega))) (T9 29 rfl rfl (Pn9 rfl rfl rfl (run_add _ _ _ _ _ (by omega))) (T9 30 rfl rfl (Pu_idxS1 (r:=0) rfl Try.runUnderlying30 Try.sizeOf5 rfl rfl rfl hF (by omega)) (T9 31 rfl rfl (Py9 (r:=0) rfl Try.isAgg5 rfl rfl hF (bs_atZ0 (k:=4 * x + 3) (by omega) (by omega))) (T9 32 rfl rfl (Pu_conv rfl rfl (conv_u8W _ Try.runUnderlying5 Try.runUnderlying73)) (T9 33 rfl rfl (Pn9 rfl rfl rfl (run_orW _ _ _ _ _)) (T9 34 rfl rfl (Pu_idxA rfl Try.runUnderlying74 Try.sizeOf73 rfl rfl (by omega)) (Y9 [35] ?_))))))))))))))))))))))))))))))))))))
  refine Ac09 rfl rfl rfl (OpT_storeB1 (r:=103) rfl Try.sizeOf73 rfl rfl rfl rfl (by rw [ws_length,schZ_length (by omega)]; omega) (ws_set _ _ _) ?_) ?_
  ·
   refine ⟨⟨rfl,rfl,rfl,trivial⟩,?_⟩
   refine (Ad9 (by kernel_rfl) (X_block (X9 ?_)))
   refine R9 (L9 rfl (Pn9 rfl rfl rfl (run_add _ _ _ _ _ (by omega))) (M9 rfl rfl (N9 ?_)))
   refine X_turn (P':=blk g103 74 (ws (schZ b 0 (x + 1)))) 103 rfl (fun h hp=>by rw [← schZ_set (t:=x) (z:=(x:Int)) (w:=word b (4 * x)) (by omega) (by omega) (by rw [if_pos hlt,Nat.zero_add])]; exact hp) ?_
   exact Xr9 (x + 1) (by omega) (by omega) (a9 rfl) (a9 rfl)
  exact An9
 ·
  obtain rfl:x=16:=by have:=of_decide_eq_false hc24; omega
  refine W_exit (X_then_exit (X_then_exit (X_block_exit (X9 ?_))))
  refine Q9 (Q9 (R9 (G9 rfl rfl (N9 (X9 ?_)))))
  refine W_block ?_
  refine W_loop (α:=Nat) (fun x=>[(1,v),(2,.pointer (some ⟨g101,0,none⟩)),(4,.pointer (some ⟨g102,0,none⟩)),(5,.pointer (some ⟨g103,0,none⟩)),(7,.int .i64 (x:Int))]) (fun x=>[(0,F),(101,blk g101 76 (ws s.list)),(102,blk g102 76 (ws [0,0,0,0,0,0,0,0])),(103,blk g103 74 (ws (schZ b 0 x)))]) (fun x=>16≤x∧x≤64) (fun x=>64 - x) (16) (by omega) (a9 rfl) (a9 rfl) (fun x hx=>?_)
  obtain ⟨h16,h64⟩:=hx
  have hzl:=schZ_length (b:=b) (p:=0) h64
  refine Q9 (Q9 (R9 (M9 rfl rfl (L9 rfl (Pn9 rfl rfl rfl (run_lss _ _ _ _ _ _)) (N9 (X9 ?_))))))
  refine C9 rfl (fun hc63=>?_) (fun hc63=>?_)
  ·
   have hlt:x < 64:=by have:=of_decide_eq_true hc63; omega
   refine K9 (X9 ?_)
   refine Q9 ?_
   refine W_block ?_
   refine W_drawI (N:=24) (by kernel_rfl) rfl [(0,_),(101,_),(102,_),(103,frontW g103 74 (schZ b 0 x) x)] ⟨⟨_,rfl,fun h hp=>hp⟩,⟨⟨_,rfl,fun h hp=>hp⟩,⟨⟨_,rfl,fun h hp=>hp⟩,⟨⟨_,rfl,by first | exact front_a (by omega) | exact front_b (by omega) (by omega)⟩,trivial⟩⟩⟩⟩ ?_
   refine (T9 0 rfl rfl (Pm9 rfl rfl) (T9 1 rfl rfl (Pm9 rfl rfl) (T9 2 rfl rfl (Pn9 rfl rfl rfl (run_sub _ _ _ _ _ (by omega))) (T9 3 rfl rfl (Pu_idxA rfl Try.runUnderlying74 Try.sizeOf73 rfl rfl (by omega)) (T9 4 rfl rfl (Pu_load1 (r:=103) rfl Try.isAgg73 rfl rfl (fun h hp=>front_get hp (k:=x - 2) (by omega) (by omega))) (T9 6 rfl rfl (Pm9 rfl rfl) (T9 7 rfl rfl (Pn9 rfl rfl rfl (run_sub _ _ _ _ _ (by omega))) (T9 8 rfl rfl (Pu_idxA rfl Try.runUnderlying74 Try.sizeOf73 rfl rfl (by omega)) (T9 9 rfl rfl (Pu_load1 (r:=103) rfl Try.isAgg73 rfl rfl (fun h hp=>front_get hp (k:=x - 7) (by omega) (by omega))) (T9 11 rfl rfl (Pm9 rfl rfl) (T9 12 rfl rfl (Pn9 rfl rfl rfl (run_sub _ _ _ _ _ (by omega))) (T9 13 rfl rfl (Pu_idxA rfl Try.runUnderlying74 Try.sizeOf73 rfl rfl (by omega)) (T9 14 rfl rfl (Pu_load1 (r:=103) rfl Try.isAgg73 rfl rfl (fun h hp=>front_get hp (k:=x - 15) (by omega) (by omega))) (T9 17 rfl rfl (Pm9 rfl rfl) (T9 18 rfl rfl (Pn9 rfl rfl rfl (run_sub _ _ _ _ _ (by omega))) (T9 19 rfl rfl (Pu_idxA rfl Try.runUnderlying74 Try.sizeOf73 rfl rfl (by omega)) (T9 20 rfl rfl (Pu_load1 (r:=103) rfl Try.isAgg73 rfl rfl (fun h hp=>front_get hp (k:=x - 16) (by omega) (by omega))) (Y9 [5] ?_))))))))))))))))))
   refine AHs_consI rfl rfl rfl (by decide) (Oc9 200 [0,101,102,103] [] rfl Try.call74 rfl rfl rfl (by decide) (by decide) (small1_spec _ _) (fun v71 Ps71 hR71=>?_)) ?_
   ·
    obtain ⟨rfl,rfl⟩:=hR71
    refine ⟨⟨⟨_,rfl,fun h hp=>hp⟩,⟨⟨_,rfl,fun h hp=>hp⟩,⟨⟨_,rfl,fun h hp=>hp⟩,⟨⟨_,rfl,by first | exact front_a (by omega) | exact front_b (by omega) (by omega)⟩,trivial⟩⟩⟩⟩,?_⟩
    refine (T9 10 rfl rfl (Pn9 rfl rfl rfl (run_addW _ _ _ _ _)) (Y9 [15] ?_))
    refine AHs_consI rfl rfl rfl (by decide) (Oc9 300 [0,101,102,103] [] rfl Try.call75 rfl rfl rfl (by decide) (by decide) (small0_spec _ _) (fun v81 Ps81 hR81=>?_)) ?_
    ·
     obtain ⟨rfl,rfl⟩:=hR81
     refine ⟨⟨⟨_,rfl,fun h hp=>hp⟩,⟨⟨_,rfl,fun h hp=>hp⟩,⟨⟨_,rfl,fun h hp=>hp⟩,⟨⟨_,rfl,by first | exact front_a (by omega) | exact front_b (by omega) (by omega)⟩,trivial⟩⟩⟩⟩,?_⟩
     refine (T9 16 rfl rfl (Pn9 rfl rfl rfl (run_addW _ _ _ _ _)) (T9 21 rfl rfl (Pn9 rfl rfl rfl (run_addW _ _ _ _ _)) (T9 22 rfl rfl (Pu_idxA rfl Try.runUnderlying74 Try.sizeOf73 rfl rfl (by omega)) (Y9 [23] ?_))))
     refine AHs_cons0I rfl rfl rfl (OpT_storeB1 (r:=103) rfl Try.sizeOf73 rfl rfl rfl rfl (by rw [ws_length,hzl]; omega) (ws_set _ _ _) ?_) ?_
     ·
      refine ⟨⟨⟨_,rfl,fun h hp=>hp⟩,⟨⟨_,rfl,fun h hp=>hp⟩,⟨⟨_,rfl,fun h hp=>hp⟩,⟨⟨_,rfl,by first | exact front_a (by omega) | exact front_b (by omega) (by omega)⟩,trivial⟩⟩⟩⟩,?_⟩
      refine (Ad9 (by kernel_rfl) (X_block (X9 ?_)))
      refine R9 (M9 rfl rfl (L9 rfl (Pn9 rfl rfl rfl (run_add _ _ _ _ _ (by omega))) (G9 rfl rfl (N9 ?_))))
      refine X_turn (P':=blk g103 74 (ws (schZ b 0 (x + 1)))) 103 rfl (fun h hp=>by rw [← schZ_set (t:=x) (z:=(x:Int)) (by omega) (by omega) (schZ_next h16)]; exact hp) ?_
      exact Xr9 (x + 1) (by omega) (by omega) (a9 rfl) (a9 rfl)
     exact An9
    exact An9
   exact An9
  ·
   obtain rfl:x=64:=by have:=of_decide_eq_false hc63; omega
   rw [schZ_full]
   refine W_exit (X_then_exit (X_then_exit (X_block_exit (X9 ?_))))
   refine Q9 (R9 (Lc9 rfl rfl (by decide) (Oc9 200 [0,101,102,103] [] rfl Try.call76 rfl rfl rfl (by decide) (by decide) (consts_spec _) (fun v89 Ps89 hR89=>?_))))
   obtain ⟨rfl,rfl⟩:=hR89
   refine (Lc9 rfl rfl (by decide) (OpT_alloc (r:=201) (cs:=(ws (List.replicate 64 0))) rfl (zero_run (by kernel_rfl:(Try.prog.info? 74).bind (·.zero)=some (.agg (ws (List.replicate 64 0)).toArray))) rfl (fun g201=>(Lc09 rfl rfl (OpT_storeAll (r:=201) rfl Try.sizeOf74 rfl rfl rfl rfl rfl (ws_one _) ?_)))))
   refine (N9 (X9 ?_))
   refine Q9 ?_
   refine W_draw (N:=24) (by kernel_rfl) rfl [(0,_),(101,_),(102,_),(103,_),(201,_)] ⟨rfl,rfl,rfl,rfl,rfl,trivial⟩ ?_
   refine (T9 0 rfl rfl (Pu_idxA rfl Try.runUnderlying76 Try.sizeOf73 rfl rfl (by omega)) (T9 1 rfl rfl (Pb9 (r:=101) rfl Try.isAgg73 rfl rfl rfl) (T9 2 rfl rfl (Pu_idxA rfl Try.runUnderlying76 Try.sizeOf73 rfl rfl (by omega)) (T9 3 rfl rfl (Pb9 (r:=101) rfl Try.isAgg73 rfl rfl rfl) (T9 4 rfl rfl (Pu_idxA rfl Try.runUnderlying76 Try.sizeOf73 rfl rfl (by omega)) (T9 5 rfl rfl (Pb9 (r:=101) rfl Try.isAgg73 rfl rfl rfl) (T9 6 rfl rfl (Pu_idxA rfl Try.runUnderlying76 Try.sizeOf73 rfl rfl (by omega)) (T9 7 rfl rfl (Pb9 (r:=101) rfl Try.isAgg73 rfl rfl rfl) (T9 8 rfl rfl (Pu_idxA rfl Try.runUnderlying76 Try.sizeOf73 rfl rfl (by omega)) (T9 9 rfl rfl (Pb9 (r:=101) rfl Try.isAgg73 rfl rfl rfl) (T9 10 rfl rfl (Pu_idxA rfl Try.runUnderlying76 Try.sizeOf73 rfl rfl (by omega)) (T9 11 rfl rfl (Pb9 (r:=101) rfl Try.isAgg73 rfl rfl rfl) (T9 12 rfl rfl (Pu_idxA rfl Try.runUnderlying76 Try.sizeOf73 rfl rfl (by omega)) (T9 13 rfl rfl (Pb9 (r:=101) rfl Try.isAgg73 rfl rfl rfl) (T9 14 rfl rfl (Pu_idxA rfl Try.runUnderlying76 Try.sizeOf73 rfl rfl (by omega)) (T9 15 rfl rfl (Pb9 (r:=101) rfl Try.isAgg73 rfl rfl rfl) (T9 16 rfl rfl (Pg9 rfl rfl) (T9 17 rfl rfl (Pg9 rfl rfl) (T9 18 rfl rfl (Pg9 rfl rfl) (T9 19 rfl rfl (Pg9 rfl rfl) (T9 20 rfl rfl (Pg9 rfl rfl) (T9 21 rfl rfl (Pg9 rfl rfl) (T9 22 rfl rfl (Pg9 rfl rfl) (T9 23 rfl rfl (Pg9 rfl rfl) (Ad9 (by kernel_rfl) (X9 ?_))))))))))))))))))))))))))
   refine Q9 (Q9 (R9 (L9 rfl (Px9 (r:=103) rfl Try.isAgg74 Try.sizeOf74 rfl rfl ((ws_length _).trans (sch_length b 0 64)) (load_all ((ws_length _).trans (sch_length b 0 64)))) (M9 rfl rfl (N9 (X9 ?_))))))
   refine W_block ?_
   refine W_loop (α:=Nat) (fun x=>[(2,.pointer (some ⟨g101,0,none⟩)),(4,.pointer (some ⟨g102,0,none⟩)),(8,.pointer (some ⟨g201,0,none⟩)),(9,wv (rnds (sch b 0 64) s x).a),(10,wv (rnds (sch b 0 64) s x).b),(11,wv (rnds (sch b 0 64) s x).c),(12,wv (rnds (sch b 0 64) s x).d),(13,wv (rnds (sch b 0 64) s x).e),(14,wv (rnds (sch b 0 64) s x).f),(15,wv (rnds (sch b 0 64) s x).g),(16,wv (rnds (sch b 0 64) s x).h),(106,.agg (ws (sch b 0 64)).toArray),(107,.int .i64 (x:Int))]) (fun x=>[(0,F),(101,blk g101 76 (ws s.list)),(102,blk g102 76 (ws [0,0,0,0,0,0,0,0])),(201,blk g201 74 (ws KS))]) (fun x=>x≤64) (fun x=>64 - x) (0) (by omega) (a9 rfl) (a9 rfl) (fun x hx=>?_)
   have hsl:=sch_length b 0 64
   refine Q9 (R9 (L9 rfl (Pn9 rfl rfl rfl (run_lss _ _ _ _ _ _)) (N9 (X9 (Q9 ?_)))))
   refine C9 rfl (fun hc108=>?_) (fun hc108=>?_)
   ·
    have hlt:x < 64:=by have:=of_decide_eq_true hc108; omega
    refine K9 (X9 ?_)
    refine Q9 ?_
    refine W_block ?_
    refine Q9 (R9 (M9 rfl rfl (L9 rfl (Pu_index rfl Try.runUnderlying74 Try.sizeOf73 Try.isAgg73 rfl rfl (by omega) (ws_atI (k:=x) (by omega) (by omega))) (G9 rfl rfl (G9 rfl rfl (N9 (X9 (Q9 ?_))))))))
    refine W_draw (N:=20) (by kernel_rfl) rfl [(0,_),(101,_),(102,_),(201,_)] ⟨rfl,rfl,rfl,rfl,trivial⟩ ?_
    refine (T9 0 rfl rfl (Pm9 rfl rfl) (T9 1 rfl rfl (Pm9 rfl rfl) (T9 4 rfl rfl (Pm9 rfl rfl) (T9 5 rfl rfl (Pm9 rfl rfl) (T9 6 rfl rfl (Pn9 rfl rfl rfl (run_andW _ _ _ _ _)) (T9 7 rfl rfl (Pm9 rfl rfl) (T9 8 rfl rfl (Pu_un rfl rfl (run_notW _)) (T9 9 rfl rfl (Pm9 rfl rfl) (T9 10 rfl rfl (Pn9 rfl rfl rfl (run_andW _ _ _ _ _)) (T9 11 rfl rfl (Pn9 rfl rfl rfl (run_xorW _ _ _ _ _)) (T9 13 rfl rfl (Pm9 rfl rfl) (T9 14 rfl rfl (Pu_idxA rfl Try.runUnderlying74 Try.sizeOf73 rfl rfl (by omega)) (T9 15 rfl rfl (Pb9 (r:=201) rfl Try.isAgg73 rfl rfl (ws_at0 (k:=x) (by omega) (by rw [KS_length]; omega))) (T9 17 rfl rfl (Pm9 rfl rfl) (Y9 [2] ?_)))))))))))))))
    refine Z9 rfl rfl (Oc9 300 [0,101,102,201] [] rfl Try.call77 rfl rfl rfl (by decide) (by decide) (great1_spec _ _) (fun v113 Ps113 hR113=>?_)) ?_
    ·
     obtain ⟨rfl,rfl⟩:=hR113
     refine ⟨⟨rfl,rfl,rfl,rfl,trivial⟩,?_⟩
     refine (T9 3 rfl rfl (Pn9 rfl rfl rfl (run_addW _ _ _ _ _)) (T9 12 rfl rfl (Pn9 rfl rfl rfl (run_addW _ _ _ _ _)) (T9 16 rfl rfl (Pn9 rfl rfl rfl (run_addW _ _ _ _ _)) (T9 18 rfl rfl (Pn9 rfl rfl rfl (run_addW _ _ _ _ _)) (T9 19 rfl rfl (Pg9 rfl rfl) (Ad9 (by kernel_rfl) (X9 ?_)))))))
     refine Q9 (R9 (M9 rfl rfl (Lc9 rfl rfl (by decide) (Oc9 400 [0,101,102,201] [] rfl Try.call78 rfl rfl rfl (by decide) (by decide) (great0_spec _ _) (fun v131 Ps131 hR131=>?_)))))
     obtain ⟨rfl,rfl⟩:=hR131
     refine (M9 rfl rfl (M9 rfl rfl (L9 rfl (Pn9 rfl rfl rfl (run_andW _ _ _ _ _)) (M9 rfl rfl (M9 rfl rfl (L9 rfl (Pn9 rfl rfl rfl (run_andW _ _ _ _ _)) (L9 rfl (Pn9 rfl rfl rfl (run_xorW _ _ _ _ _)) (M9 rfl rfl (M9 rfl rfl (L9 rfl (Pn9 rfl rfl rfl (run_andW _ _ _ _ _)) (L9 rfl (Pn9 rfl rfl rfl (run_xorW _ _ _ _ _)) (L9 rfl (Pn9 rfl rfl rfl (run_addW _ _ _ _ _)) (G9 rfl rfl (N9 (X9 ?_)))))))))))))))
     refine Q9 (R9 (M9 rfl rfl (M9 rfl rfl (M9 rfl rfl (M9 rfl rfl (M9 rfl rfl (L9 rfl (Pn9 rfl rfl rfl (run_addW _ _ _ _ _)) (G9 rfl rfl (G9 rfl rfl (G9 rfl rfl (G9 rfl rfl (N9 (X9 (R9 (M9 rfl rfl (M9 rfl rfl (M9 rfl rfl (M9 rfl rfl (M9 rfl rfl (L9 rfl (Pn9 rfl rfl rfl (run_addW _ _ _ _ _)) (G9 rfl rfl (G9 rfl rfl (G9 rfl rfl (G9 rfl rfl (N9 (X_block (X9 (R9 (L9 rfl (Pn9 rfl rfl rfl (run_add _ _ _ _ _ (by omega))) (M9 rfl rfl (N9 ?_)))))))))))))))))))))))))))))))
     exact Xr9 (x + 1) (by omega) (by omega) (a9 rfl) (a9 rfl)
    exact An9
   ·
    obtain rfl:x=64:=by have:=of_decide_eq_false hc108; omega
    obtain ⟨r,hr⟩:∃ r,rnds (sch b 0 64) s 64=r:=⟨_,rfl⟩
    rw [hr]
    refine W_exit (X_then_exit (X_then_exit (X_block_exit (X9 ?_))))
    refine Q9 (R9 (L9 rfl (Pu_idxA rfl Try.runUnderlying76 Try.sizeOf73 rfl rfl (by omega)) (L9 rfl (Pb9 (r:=101) rfl Try.isAgg73 rfl rfl rfl) (M9 rfl rfl (L9 rfl (Pn9 rfl rfl rfl (run_addW _ _ _ _ _)) (L9 rfl (Pu_idxA rfl Try.runUnderlying76 Try.sizeOf73 rfl rfl (by omega)) (L9 rfl (Pb9 (r:=101) rfl Try.isAgg73 rfl rfl rfl) (M9 rfl rfl (L9 rfl (Pn9 rfl rfl rfl (run_addW _ _ _ _ _)) (L9 rfl (Pu_idxA rfl Try.runUnderlying76 Try.sizeOf73 rfl rfl (by omega)) (L9 rfl (Pb9 (r:=101) rfl Try.isAgg73 rfl rfl rfl) (M9 rfl rfl (L9 rfl (Pn9 rfl rfl rfl (run_addW _ _ _ _ _)) (L9 rfl (Pu_idxA rfl Try.runUnderlying76 Try.sizeOf73 rfl rfl (by omega)) (L9 rfl (Pb9 (r:=101) rfl Try.isAgg73 rfl rfl rfl) (M9 rfl rfl (L9 rfl (Pn9 rfl rfl rfl (run_addW _ _ _ _ _)) (L9 rfl (Pu_idxA rfl Try.runUnderlying76 Try.sizeOf73 rfl rfl (by omega)) (L9 rfl (Pb9 (r:=101) rfl Try.isAgg73 rfl rfl rfl) (M9 rfl rfl (L9 rfl (Pn9 rfl rfl rfl (run_addW _ _ _ _ _)) (L9 rfl (Pu_idxA rfl Try.runUnderlying76 Try.sizeOf73 rfl rfl (by omega)) (L9 rfl (Pb9 (r:=101) rfl Try.isAgg73 rfl rfl rfl) (M9 rfl rfl (L9 rfl (Pn9 rfl rfl rfl (run_addW _ _ _ _ _)) (L9 rfl (Pu_idxA rfl Try.runUnderlying76 Try.sizeOf73 rfl rfl (by omega)) (L9 rfl (Pb9 (r:=101) rfl Try.isAgg73 rfl rfl rfl) (M9 rfl rfl (L9 rfl (Pn9 rfl rfl rfl (run_addW _ _ _ _ _)) (L9 rfl (Pu_idxA rfl Try.runUnderlying76 Try.sizeOf73 rfl rfl (by omega)) (L9 rfl (Pb9 (r:=101) rfl Try.isAgg73 rfl rfl rfl) (M9 rfl rfl (L9 rfl (Pn9 rfl rfl rfl (run_addW _ _ _ _ _)) (L9 rfl (Pu_built (cells:=ws (addS s r).list) rfl rfl (built8 Try.underlying76 (by kernel_rfl) (by kernel_rfl) _ _ _ _ _ _ _ _)) (Lc09 rfl rfl (OpT_storeAll (r:=102) rfl Try.sizeOf76 rfl rfl rfl rfl rfl (ws_one _) ?_))))))))))))))))))))))))))))))))))))
    refine (N9 (X9 ?_))
    refine W_ret ?_
    exact Xq9 [] (Ps:=[]) (resC1 (r:=102) Try.results67 rfl Try.isAgg76 Try.sizeOf76 rfl rfl) rfl (by decide) ⟨by unfold mixS; rw [hr],rfl⟩
open Go.RowKit
def zs8 (k:Nat):List UInt8:=List.replicate k 0
theorem zs8_length (k:Nat):(zs8 k).length=k:=List.length_replicate
theorem bs_app (a b:List UInt8):bs (a++b)=bs a++bs b:=by simp [bs]
theorem over_zeros {p a:List UInt8} {k off:Nat} {rest:List Value} (ho:off=p.length) (hk:a.length≤k):over (bs (p++zs8 k)++rest) off (bs a)=bs (p++a++zs8 (k - a.length))++rest:=by
  subst ho
  unfold over
  rw [bs_app,List.append_assoc,List.take_left' (bs_length p),bs_length]
  rw [← List.drop_drop,List.drop_left' (bs_length p)]
  have h1:zs8 k=zs8 a.length++zs8 (k - a.length):=by unfold zs8; rw [List.replicate_append_replicate]; congr 1; omega
  rw [h1,bs_app,List.append_assoc,List.drop_left' ((bs_length _).trans (zs8_length _)),bs_app,bs_app]
  simp [List.append_assoc]
theorem set_zero {p:List UInt8} {k off:Nat} {rest:List Value} {x:UInt8} (ho:off=p.length) (hk:1≤k):(bs (p++zs8 k)++rest).set off (bv x)=bs (p++[x]++zs8 (k - 1))++rest:=by
  have h:=over_zeros (p:=p) (a:=[x]) (k:=k) (off:=off) (rest:=rest) ho hk
  rw [show k - 1=k - [x].length from rfl,← h]
  exact (over_one _ _ _ (by simp [bs_length,zs8_length]; omega)).symm
def lenAt (n j:Nat):UInt8:=byte (((n * 8 / 2 ^ (8 * (7 - j)):Nat)):Int)
def tailB (n zc i:Nat):List UInt8:=zs8 (zc - i)++(lenB n).drop (8 - i)
theorem lenB_length (n:Nat):(lenB n).length=8:=by simp [lenB]
theorem lenB_at {n j:Nat} (hj:j < 8):(lenB n)[j]?=some (lenAt n j):=by
  unfold lenB lenAt
  rw [List.getElem?_map,List.getElem?_range hj]
  show some _=some _
  congr 1
  apply UInt8.toNat_inj.1
  have:=byte_toNat ((n * 8 / 2 ^ (8 * (7 - j)):Nat):Int)
  rw [UInt8.toNat_ofNat',Nat.mul_comm 8 n]
  omega
theorem tailB_length {n zc i:Nat} (hi:i≤8) (hz:8≤zc):(tailB n zc i).length=zc:=by
  unfold tailB
  rw [List.length_append,zs8_length,List.length_drop,lenB_length]
  omega
theorem tailB_zero (n zc:Nat):tailB n zc 0=zs8 zc:=by
  unfold tailB
  rw [show 8 - 0=8 from rfl,List.drop_of_length_le (by rw [lenB_length]; exact Nat.le_refl _),List.append_nil]
  rfl
theorem tailB_set {n zc i:Nat} {p:List UInt8} {off:Nat} {rest:List Value} (hi:i < 8) (hz:8≤zc) (ho:off=p.length + (zc - 1 - i)):(bs (p++tailB n zc i)++rest).set off (bv (lenAt n (7 - i)))=bs (p++tailB n zc (i + 1))++rest:=by
  have h1:zs8 (zc - i)=zs8 (zc - (i + 1))++[0]:=by
    unfold zs8
    rw [show zc - i=(zc - (i + 1)) + 1 by omega,List.replicate_succ']
  have h2:(lenB n).drop (8 - (i + 1))=lenAt n (7 - i)::(lenB n).drop (8 - i):=by
    rw [show 8 - (i + 1)=7 - i by omega,show 8 - i=7 - i + 1 by omega]
    have hlt:7 - i < (lenB n).length:=by rw [lenB_length]; omega
    rw [List.drop_eq_getElem_cons hlt]
    congr 1
    have:=lenB_at (n:=n) (j:=7 - i) (by omega)
    rw [List.getElem?_eq_getElem hlt] at this
    injection this
  unfold tailB
  rw [h1,h2]
  have e1:bs (p++(zs8 (zc - (i + 1))++[0]++(lenB n).drop (8 - i)))++rest=(bs (p++zs8 (zc - (i + 1))))++(bv 0::(bs ((lenB n).drop (8 - i))++rest)):=by simp [bs]
  have e2:bs (p++(zs8 (zc - (i + 1))++lenAt n (7 - i)::(lenB n).drop (8 - i)))++rest=(bs (p++zs8 (zc - (i + 1))))++(bv (lenAt n (7 - i))::(bs ((lenB n).drop (8 - i))++rest)):=by simp [bs]
  rw [e1,e2,List.set_append_right _ _ (by simp [bs_length,zs8_length]; omega)]
  have e3:off - (bs (p++zs8 (zc - (i + 1)))).length=0:=by rw [bs_length,List.length_append,zs8_length]; omega
  rw [e3]
  rfl
theorem pad_eq {d:List UInt8} {n N:Nat} (hn:d.length=n) (hN:N=(n + 8) / 64 * 64 + 64):d++[128]++tailB n (N - n - 1) 8=padB d∧(padB d).length=N:=by
  have hl:=padB_length d
  refine ⟨?_,by rw [hl,hn,hN]⟩
  unfold padB tailB
  rw [hn,show 8 - 8=0 from rfl,List.drop_zero]
  have:N - n - 1 - 8=padZ n:=by unfold padZ; omega
  rw [this]
  unfold zs8
  simp
theorem outB_at {s:S8} {i k:Nat} (hi:i < 8) (hk:k < 4):(outB s).getD (4 * i + k) 0=((s.list.getD i 0) >>> UInt32.ofNat (24 - 8 * k)).toUInt8:=by
  have h0:∀ x:UInt32,x >>> UInt32.ofNat 0=x:=fun x=>by simp
  have hi':i=0∨i=1∨i=2∨i=3∨i=4∨i=5∨i=6∨i=7:=by omega
  have hk':k=0∨k=1∨k=2∨k=3:=by omega
  rcases hi' with rfl | rfl | rfl | rfl | rfl | rfl | rfl | rfl <;> rcases hk' with rfl | rfl | rfl | rfl <;> first | rfl | (show _=(_ >>> UInt32.ofNat 0).toUInt8; rw [h0]; rfl)
def outZ (s:S8) (q:Nat):List UInt8:=(outB s).take q++zs8 (32 - q)
theorem outZ_length {s:S8} {q:Nat} (h:q≤32):(outZ s q).length=32:=by unfold outZ; rw [List.length_append,List.length_take,outB_length,zs8_length]; omega
theorem outZ_full (s:S8):outZ s 32=outB s:=by
  unfold outZ
  rw [List.take_of_length_le (by rw [outB_length]; exact Nat.le_refl _)]
  exact List.append_nil _
theorem outZ_set {s:S8} {i k off:Nat} (hi:i < 8) (hk:k < 4) (ho:off=4 * i + k):(bs (outZ s (4 * i + k))).set off (bv ((s.list.getD i 0) >>> UInt32.ofNat (24 - 8 * k)).toUInt8)=bs (outZ s (4 * i + k + 1)):=by
  subst ho
  rw [← outB_at hi hk]
  have hq:4 * i + k < (outB s).length:=by rw [outB_length]; omega
  have e:outZ s (4 * i + k)=(outB s).take (4 * i + k)++(0::zs8 (32 - (4 * i + k + 1))):=by
    unfold outZ zs8
    rw [show 32 - (4 * i + k)=(32 - (4 * i + k + 1)) + 1 by omega,List.replicate_succ]
  have e2:outZ s (4 * i + k + 1)=(outB s).take (4 * i + k)++((outB s).getD (4 * i + k) 0::zs8 (32 - (4 * i + k + 1))):=by
    unfold outZ
    rw [List.take_succ_eq_append_getElem hq,List.append_assoc]
    congr 1
    rw [List.getD_eq_getElem?_getD,List.getElem?_eq_getElem hq]
    rfl
  rw [e,e2,bs_app,bs_app,List.set_append_right _ _ (by rw [bs_length,List.length_take]; omega)]
  congr 1
  rw [bs_length,List.length_take,show 4 * i + k - min (4 * i + k) (outB s).length=0 by omega]
  rfl
theorem piece {d:List UInt8} {p:Nat} {s:S8} (h:p + 64≤d.length):mixS ((d.drop p).take 64) 0 s=mixS d p s∧((d.drop p).take 64).length=64:=by
  refine ⟨mixS_at fun j hj=>?_,by rw [List.length_take,List.length_drop]; omega⟩
  unfold at0
  rw [List.getD_eq_getElem?_getD,List.getD_eq_getElem?_getD,Nat.zero_add,List.getElem?_take,if_pos hj,List.getElem?_drop]
open Go.RowKit
section
variable {P:Program} {E:Env} {n:Nat} {K:Slots} {L:Res} {Q:Exit→Act→World→Prop}
theorem W_cut {x y:Code} {α:Type} (Kf:α→Slots) (Lf:α→Res) (φ:α→Prop) (h1:W P E n x K L (Exit.then (fun a w=>∃ z,φ z∧Agr n (Kf z) a∧Sat E (Lf z) w) Q)) (h2:∀ z,φ z→W P E n y (Kf z) (Lf z) Q):W P E n (.seq x y) K L Q:=fun a w hA hS =>
  wp_seq (Code.wp_mono (fun e a' w' hq=>by
    cases e with
    | normal=>obtain ⟨z,z1,z2,z3⟩:=hq; exact h2 z z1 a' w' z2 z3
    | _=>exact hq) (h1 a w hA hS))
theorem X_cut {α:Type} {Kf:α→Slots} {Lf:α→Res} {φ:α→Prop} (z:α) (hz:φ z) (hK:AllIn K (Kf z)) (hL:AllIn L (Lf z)):X E n (Exit.then (fun a w=>∃ z,φ z∧Agr n (Kf z) a∧Sat E (Lf z) w) Q) .normal K L:=fun a w hA hS=>⟨z,hz,hA.sub hK.look,hS.sub hL.look⟩
end
end Go.Proofs.Ytinamipkpdlphaa
namespace Go.Proofs.Ytinamipkpdlphaa
theorem Ids.drop {l:List (List UInt8)} (h:Ids l) (i:Nat):Ids (l.drop i):=fun x hx=>h x (List.mem_of_mem_drop hx)
theorem int_eq {k:IntKind} {a b:Int} (h:a=b):Value.int k a=Value.int k b:=by rw [h]
theorem Ids.set {l:List (List UInt8)} (h:Ids l) {i:Nat} {x:List UInt8} (hx:x.length=32):Ids (l.set i x):=fun y hy=>by
  rcases List.mem_or_eq_of_mem_set hy with h' | rfl
  · exact h y h'
  · exact hx
section
variable {P:Program} {E:Env} {n:Nat} {K:Slots} {L:Res} {o:Oper}
theorem Pu_lenK {t e:TypeId} {x:Operand} {A:Option Addr} {m c:Nat} (ho:o.op = .call { callee:=.builtin .len,args:=#[x],argTypes:=#[t] }) (hu:∀ w,(underlying t).run P w = .ok (.slice e) w) (hx:evK K x=some (.slice A m c)):Pure P E n o K L (.int .i64 (m:Int)):=fun a w hA hS=>by
  simp [execOp,ho,resolve,invoke,builtin,hA.eval hx,Builtin.len_,hu,goInt]
end
open Go.RowKit
section
variable {P:Program} {E:Env} {n:Nat} {K:Slots} {L:Res} {o:Oper} {Q:Exit→Act→World→Prop} {ex:Exit}
theorem X_openRow (r:Nat) {e:TypeId} {size:Nat} {v:Value} {m:Nat} {xs:List Value} (hr:look L r=some (rowP e size v m xs)) (hm:0 < m)
    (k:∀ g cap cs,v = .slice (some ⟨g,0,none⟩) m cap→m≤cap→cap≤maxLen→cs.length=cap * size→cs.take (m * size)=xs→X E n Q ex K ((r,blk g e cs)::L)):X E n Q ex K L:=fun a w hA hS=>by
  obtain ⟨q,hS2⟩:=hS.ex hr (fun h hp=>rowP_open hp hm)
  obtain ⟨h1,h2,h3,h4,h5⟩:v = .slice (some ⟨q.1,0,none⟩) m q.2.1∧m≤q.2.1∧q.2.1≤maxLen∧q.2.2.length=q.2.1 * size∧q.2.2.take (m * size)=xs:=hS2.get (look_same _ _ _) fun h hp=>⟨hp.1,hp.2.1,hp.2.2.1,hp.2.2.2.1,hp.2.2.2.2.1⟩
  have hS3:=hS2.cons (P':=blk q.1 e q.2.2) (look_same _ _ _) fun h hp=>hp.2.2.2.2.2
  refine k q.1 q.2.1 q.2.2 h1 h2 h3 h4 h5 a w hA (hS3.sub fun r' P' h=>?_)
  by_cases hrr:r=r'
  · subst hrr; rw [look_same] at h ⊢; exact h
  · rw [look_other hrr] at h; rw [look_other hrr,look_other hrr]; exact h
end
theorem copy_front {p a:List UInt8} {k off m:Nat} {rest:List Value} (ho:off=p.length) (hk:a.length≤k) (hm:a.length≤m):over (bs (p++zs8 k)++rest) off ((bs a).take (min a.length m))=bs (p++a++zs8 (k - a.length))++rest:=by
  rw [Nat.min_eq_left hm,List.take_of_length_le (by rw [bs_length]; exact Nat.le_refl _)]
  exact over_zeros ho hk
theorem lenAt_rev {n i:Nat} (hi:i≤7):lenAt n (7 - i)=byte (((n * 8 / 2 ^ (8 * i):Nat)):Int):=by
  unfold lenAt
  rw [show 7 - (7 - i)=i by omega]
theorem tailB_step {n zc i:Nat} {p:List UInt8} {off:Nat} {rest:List Value} (hi:i < 8) (hz:8≤zc) (ho:off=p.length + (zc - 1 - i)):(bs (p++tailB n zc i)++rest).set off (bv (byte (((n * 8 / 2 ^ (8 * i):Nat)):Int)))=bs (p++tailB n zc (i + 1))++rest:=by
  rw [← lenAt_rev (n:=n) (i:=i) (by omega)]
  exact tailB_set hi hz ho
theorem piece_rd {g p c:Nat} {T:TypeId} {d:List UInt8} {rest:List Value} {h:Hlt} (hb:blk g T (bs d++rest) h) (hp:p + 64≤d.length) (hc:64≤c):rdB (.slice (some ⟨g,p * 1,none⟩) (p + 64 - p) c) ((d.drop p).take 64) h:=by
  have hl:=(piece (s:=S8.of HS) hp).2
  have hx:((bs d++rest).drop (p * 1)).take (64 * 1)=bs ((d.drop p).take 64):=by
    rw [Nat.mul_one,Nat.mul_one,List.drop_append_of_le_length (by rw [bs_length]; omega),List.take_append_of_le_length (by rw [List.length_drop,bs_length]; omega)]
    unfold bs
    rw [List.map_take,List.map_drop]
  have:=blk_rd (size:=1) (m:=64) (c:=c) hb hx (by rw [bs_length,hl]) hc
  rw [show p + 64 - p=64 by omega]
  exact rdP_cast this rfl hl.symm
open Go.RowKit
set_option maxRecDepth 8000
set_option maxHeartbeats 2000000 in
theorem pair_spec (va vb:Value) (a b:List UInt8) (hla:a.length≤1000000000) (hlb:b.length≤1000000000) (F:HP) (hFa:∀ h,F h→rdB va a h) (hFb:∀ h,F h→rdB vb b h):CallsS Try.prog 46 #[va,vb] F [] (fun r Ps=>r=idV (sha (a++b))∧Ps=[]):=by
 refine callsS_enter Try.func46 rfl Try.ntmps46 (by simp) (fun E=>?_)
 refine Q9 (R9 (Lc9 rfl rfl (by decide) (OpT_alloc (r:=101) (cs:=(bs zeroId)) rfl (zero_run (by kernel_rfl:(Try.prog.info? 29).bind (·.zero)=some (.agg (bs zeroId).toArray))) rfl (fun g101=>(N9 (X9 (Q9 (R9 (M9 rfl rfl (L9 rfl (Pl9 (r:=0) rfl Try.runUnderlying30 rfl rfl hFa) (M9 rfl rfl (L9 rfl (Pl9 (r:=0) rfl Try.runUnderlying30 rfl rfl hFb) (L9 rfl (Pn9 rfl rfl rfl (run_add _ _ _ _ _ (by omega))) ?_)))))))))))))
 obtain ⟨n,hn⟩:∃ n,a.length + b.length=n:=⟨_,rfl⟩
 rw [show (a.length:Int) + (b.length:Int)=(n:Int) by omega]
 refine (G9 rfl rfl (N9 (X9 ?_)))
 refine Q9 (R9 (Lc9 rfl rfl (by decide) (OpT_alloc (r:=102) (cs:=(bs (zs8 128))) rfl (zero_run (by kernel_rfl:(Try.prog.info? 110).bind (·.zero)=some (.agg (bs (zs8 128)).toArray))) rfl (fun g102=>(N9 (X9 (Q9 (R9 (L9 rfl (Pu_sliceArr rfl Try.runUnderlying110 Try.sizeOf5 rfl) (G9 rfl rfl (N9 (X9 ?_))))))))))))
 obtain ⟨N,hN⟩:∃ N,N=(n + 8) / 64 * 64 + 64:=⟨_,rfl⟩
 refine W_cut (α:=Nat × TypeId × List Value) (fun z=>[(0,va),(1,vb),(4,.pointer (some ⟨g101,0,none⟩)),(5,.int .i64 (n:Int)),(7,.slice (some ⟨z.1,0,none⟩) N (N + z.2.2.length))]) (fun z=>[(0,F),(101,blk g101 29 (bs zeroId)),(150,blk z.1 z.2.1 (bs (zs8 N)++z.2.2))]) (fun z=>True) ?_ (fun z hz=>?_)
 ·
  refine Q9 (R9 (M9 rfl rfl (L9 rfl (Pn9 rfl rfl rfl (run_add _ _ _ _ _ (by omega))) (L9 rfl (Pn9 rfl rfl rfl (run_quo _ _ _ _ _ (by omega))) (L9 rfl (Pn9 rfl rfl rfl (run_mul _ _ _ _ _ (by omega))) (L9 rfl (Pn9 rfl rfl rfl (run_add _ _ _ _ _ (by omega))) ?_))))))
  rw [show ((n:Int) + 8) / 64 * 64 + 64=(N:Int) by omega]
  refine (G9 rfl rfl (N9 (X9 ?_)))
  refine Q9 (R9 (M9 rfl rfl (M9 rfl rfl (L9 rfl (Pu_lenK rfl Try.runUnderlying30 rfl) (L9 rfl (Pn9 rfl rfl rfl (run_leq _ _ _ _ _ _)) (N9 (X9 ?_)))))))
  refine C9 rfl (fun hc30=>?_) (fun hc30=>?_)
  ·
   have hle:N≤128:=by have:=of_decide_eq_true hc30; omega
   refine R9 (M9 rfl rfl (M9 rfl rfl (L9 rfl (Pu_sliceK (a:=0) (b:=N) rfl Try.runUnderlying30 Try.sizeOf5 rfl (.inl ⟨rfl,rfl⟩) (.inr ⟨_,_,_,rfl,rfl,rfl⟩) (Nat.zero_le _) (by omega) (by omega)) (G9 rfl rfl (N9 ?_)))))
   refine X_turn (P':=blk g102 110 (bs (zs8 N)++bs (zs8 (128 - N)))) 102 rfl (fun h hp=>by rw [← bs_app,show zs8 N++zs8 (128 - N)=zs8 128 by unfold zs8; rw [List.replicate_append_replicate,show N + (128 - N)=128 by omega]]; exact hp) ?_
   refine X_ren 102 150 rfl ?_
   exact X_cut (g102,110,bs (zs8 (128 - N))) trivial ⟨rfl,rfl,rfl,rfl,lookV_eq rfl (by rw [bs_length,zs8_length,show N + (128 - N)=128 by omega]; rfl),trivial⟩ ⟨rfl,rfl,rfl,trivial⟩
  ·
   refine R9 (M9 rfl rfl (Lc9 rfl rfl (by decide) (OpT_make (r:=103) (m:=N) rfl Try.underlying30 TI.hi5 TI.hz5 TI.hs5 rfl rfl (by rw [TI.hby5]; omega) (by unfold maxLen; omega) ((made_one _ _).trans (made_bytes N)) (fun v35=>?_))))
   skip
   refine (G9 rfl rfl (N9 ?_))
   refine X_openRow 103 rfl (by omega) (fun g cap cs hv hmc _ hcl hct=>?_)
   rw [Nat.mul_one] at hcl hct
   refine X_turn (P':=blk g 5 (bs (zs8 N)++cs.drop N)) 103 rfl (fun h hp=>by rw [show bs (zs8 N)++cs.drop N=cs by rw [show bs (zs8 N)=cs.take N from hct.symm,List.take_append_drop]]; exact hp) ?_
   refine X_ren 103 150 rfl ?_
   exact X_cut (g,5,cs.drop N) trivial ⟨rfl,rfl,rfl,rfl,lookV_eq rfl (by rw [hv,List.length_drop,hcl,show N + (cap - N)=cap by omega]),trivial⟩ ⟨rfl,rfl,rfl,trivial⟩
 ·
  obtain ⟨g,T,rest⟩:=z
  have hnN:n + 9≤N:=by omega
  obtain ⟨cap,hcap⟩:∃ c,N + rest.length=c:=⟨_,rfl⟩
  refine J9 [(0,va),(1,vb),(4,.pointer (some ⟨g101,0,none⟩)),(5,.int .i64 (n:Int)),(7,.slice (some ⟨g,0,none⟩) N cap)] [(0,F),(101,blk g101 29 (bs zeroId)),(150,blk g T (bs (zs8 N)++rest))] ?_ ⟨rfl,rfl,rfl,rfl,lookV_eq rfl (by rw [← hcap]),trivial⟩ ⟨rfl,rfl,rfl,trivial⟩
  refine Q9 (R9 (M9 rfl rfl (M9 rfl rfl (M9 rfl rfl (Lc9 rfl rfl (by decide) (OpT_copyB (r:=150) (r2:=0) (cs':=bs ([]++a++zs8 (N - a.length))++rest) rfl Try.underlying30 TI.hsm5 rfl rfl rfl rfl hFa (bs_one _) (by simp [bs_length,zs8_length]; omega) (copy_front (p:=[]) rfl (by omega) (by omega)) ?_))))))
  rw [Nat.min_eq_left (show a.length≤N by omega)]
  refine (L9 rfl (Pu_sliceK (a:=a.length) (b:=N) rfl Try.runUnderlying30 Try.sizeOf5 rfl (.inr ⟨_,_,_,rfl,rfl,rfl⟩) (.inl ⟨rfl,rfl⟩) (by omega) (by omega) (by omega)) (M9 rfl rfl (Lc9 rfl rfl (by decide) (OpT_copyB (r:=150) (r2:=0) (cs':=bs (([]++a)++b++zs8 (N - a.length - b.length))++rest) rfl Try.underlying30 TI.hsm5 rfl rfl rfl rfl hFb (bs_one _) (by simp [bs_length,zs8_length]; omega) (copy_front (p:=[]++a) (by simp) (by omega) (by omega)) ?_))))
  refine (N9 (X9 ?_))
  refine Q9 ?_
  obtain ⟨d,hd⟩:∃ d,a++b=d:=⟨_,rfl⟩
  have hdn:d.length=n:=by rw [← hd,List.length_append]; exact hn
  refine Wt9 (P':=blk g T (bs (d++zs8 (N - n))++rest)) 150 rfl (fun h hp=>by rw [← hd,show N - n=N - a.length - b.length by omega]; exact hp) ?_
  obtain ⟨hpad,hpl⟩:=pad_eq hdn hN
  refine R9 (M9 rfl rfl (M9 rfl rfl (L9 rfl (Pu_idxK (r:=150) rfl Try.runUnderlying30 Try.sizeOf5 rfl rfl rfl (by simp [bs_length,zs8_length]; omega) (by omega) (by omega)) (Lc09 rfl rfl (OpT_storeB1 (r:=150) rfl Try.sizeOf5 rfl rfl rfl rfl (by simp [bs_length,zs8_length]; omega) (set_zero (x:=128) (by rw [hdn]; omega) (by omega)) ?_)))))
  refine (N9 (X9 ?_))
  refine Q9 (Q9 (R9 (M9 rfl rfl (N9 (X9 ?_)))))
  refine W_block ?_
  refine Wt9 (P':=blk g T (bs (d++[128]++tailB n (N - n - 1) 0)++rest)) 150 rfl (fun h hp=>by rw [tailB_zero]; exact hp) ?_
  refine W_loop (α:=Nat) (fun x=>[(4,.pointer (some ⟨g101,0,none⟩)),(5,.int .i64 (n:Int)),(7,.slice (some ⟨g,0,none⟩) N cap),(46,.int .i64 (x:Int))]) (fun x=>[(0,F),(101,blk g101 29 (bs zeroId)),(150,blk g T (bs (d++[128]++tailB n (N - n - 1) x)++rest))]) (fun x=>x≤8) (fun x=>8 - x) (0) (by omega) (a9 rfl) (a9 rfl) (fun x hx=>?_)
  have htl:=tailB_length (n:=n) (zc:=N - n - 1) hx (by omega)
  refine Q9 (R9 (L9 rfl (Pn9 rfl rfl rfl (run_lss _ _ _ _ _ _)) (N9 (X9 (Q9 ?_)))))
  refine C9 rfl (fun hc47=>?_) (fun hc47=>?_)
  ·
   have hlt:x < 8:=by have:=of_decide_eq_true hc47; omega
   refine K9 (X9 ?_)
   refine Q9 ?_
   refine W_block ?_
   refine Q9 (R9 (M9 rfl rfl (G9 rfl rfl (N9 (X9 (R9 (M9 rfl rfl (M9 rfl rfl (L9 rfl (Pu_lenK rfl Try.runUnderlying30 rfl) (L9 rfl (Pn9 rfl rfl rfl (run_sub _ _ _ _ _ (by omega))) (M9 rfl rfl (L9 rfl (Pn9 rfl rfl rfl (run_sub _ _ _ _ _ (by omega))) (M9 rfl rfl (L9 rfl (Pu_conv rfl rfl (conv_u64 n Try.runUnderlying3 Try.runUnderlying77 (by omega))) (L9 rfl (Pn9 rfl rfl rfl (run_mulU n 8 _ _ _ (by omega))) (M9 rfl rfl (L9 rfl (Pn9 rfl rfl rfl (run_mul _ _ _ _ _ (by omega))) ?_)))))))))))))))))
   rw [show (8 * (x:Int))=((8 * x:Nat):Int) by omega]
   refine (L9 rfl (Pn9 rfl rfl rfl (run_shrU (n * 8) (8 * x) _ _ _ (by omega))) (L9 rfl (Pu_conv rfl rfl (conv_byte _ _ Try.runUnderlying77 Try.runUnderlying5)) (L9 rfl (Pu_idxK (r:=150) rfl Try.runUnderlying30 Try.sizeOf5 rfl rfl rfl (by rw [List.length_append,bs_length,List.length_append,List.length_append,htl,hdn]; simp; omega) (by omega) (by omega)) (Lc09 rfl rfl (OpT_storeB1 (r:=150) rfl Try.sizeOf5 rfl rfl rfl rfl (by rw [List.length_append,bs_length,List.length_append,List.length_append,htl,hdn]; simp; omega) (tailB_step hlt (by omega) (by rw [List.length_append,hdn]; simp; omega)) ?_)))))
   refine (N9 (X_block (X9 ?_)))
   refine R9 (L9 rfl (Pn9 rfl rfl rfl (run_add _ _ _ _ _ (by omega))) (M9 rfl rfl (N9 ?_)))
   exact Xr9 (x + 1) (by omega) (by omega) (a9 rfl) (a9 rfl)
  ·
   obtain rfl:x=8:=by have:=of_decide_eq_false hc47; omega
   rw [hpad]
   refine W_exit (X_then_exit (X_then_exit (X_block_exit (X9 ?_))))
   refine Q9 (R9 (Lc9 rfl rfl (by decide) (Oc9 200 [0,101,150] [] rfl Try.call66 rfl rfl rfl (by decide) (by decide) (begin_spec _) (fun v64 Ps64 hR64=>?_))))
   obtain ⟨rfl,rfl⟩:=hR64
   refine (Lc9 rfl rfl (by decide) (OpT_alloc (r:=201) (cs:=(ws [0,0,0,0,0,0,0,0])) rfl (zero_run (by kernel_rfl:(Try.prog.info? 76).bind (·.zero)=some (.agg (ws [0,0,0,0,0,0,0,0]).toArray))) rfl (fun g201=>(Lc09 rfl rfl (OpT_storeAll (r:=201) rfl Try.sizeOf76 rfl rfl rfl rfl rfl (ws_one _) ?_)))))
   refine (N9 (X9 ?_))
   refine Q9 (Q9 (R9 (G9 rfl rfl (N9 (X9 ?_)))))
   refine W_block ?_
   refine W_loop (α:=Nat) (fun x=>[(4,.pointer (some ⟨g101,0,none⟩)),(7,.slice (some ⟨g,0,none⟩) N cap),(10,.pointer (some ⟨g201,0,none⟩)),(11,.int .i64 ((64 * x:Nat):Int))]) (fun x=>[(0,F),(101,blk g101 29 (bs zeroId)),(150,blk g T (bs (padB d)++rest)),(201,blk g201 76 (ws (mixes (padB d) (S8.of HS) x).list))]) (fun x=>64 * x≤N) (fun x=>N - 64 * x) (0) (by omega) (a9 rfl) (a9 rfl) (fun x hx=>?_)
   refine Q9 (Q9 (R9 (M9 rfl rfl (M9 rfl rfl (L9 rfl (Pu_lenK rfl Try.runUnderlying30 rfl) (L9 rfl (Pn9 rfl rfl rfl (run_lss _ _ _ _ _ _)) (N9 (X9 ?_))))))))
   refine C9 rfl (fun hc68=>?_) (fun hc68=>?_)
   ·
    have hlt:64 * x + 64≤N:=by have:=of_decide_eq_true hc68; omega
    obtain ⟨hp1,hp2⟩:=piece (d:=padB d) (p:=64 * x) (s:=mixes (padB d) (S8.of HS) x) (by omega)
    refine K9 (X9 ?_)
    refine Q9 ?_
    refine W_block ?_
    refine W_draw (N:=8) (by kernel_rfl) rfl [(0,_),(101,_),(150,_)] ⟨rfl,rfl,rfl,trivial⟩ ?_
    refine (T9 1 rfl rfl (Pm9 rfl rfl) (T9 2 rfl rfl (Pm9 rfl rfl) (T9 3 rfl rfl (Pm9 rfl rfl) (T9 4 rfl rfl (Pn9 rfl rfl rfl (run_add _ _ _ _ _ (by omega))) (T9 5 rfl rfl (Pu_sliceK (a:=64 * x) (b:=64 * x + 64) rfl Try.runUnderlying30 Try.sizeOf5 rfl (.inr ⟨_,_,_,rfl,rfl,rfl⟩) (.inr ⟨_,_,_,rfl,rfl,(by omega)⟩) (by omega) (by omega) (by omega)) (Y9 [0] ?_))))))
    refine Z9 rfl rfl (Or9 (Px9 (r:=201) rfl Try.isAgg76 Try.sizeOf76 rfl rfl rfl (load_all rfl)) ⟨⟨rfl,rfl,rfl,trivial⟩,?_⟩) ?_
    ·
     refine (Y9 [6] ?_)
     refine Z9 rfl rfl (Oc9 300 [0,101,150,201] [] rfl Try.call67 rfl rfl rfl (by decide) (by decide) (mix_spec (mixes (padB d) (S8.of HS) x) _ (((padB d).drop (64 * x)).take 64) hp2 _ (rs9 2 rfl (fun h hp=>piece_rd hp (by omega) (by omega)))) (fun v77 Ps77 hR77=>?_)) ?_
     ·
      obtain ⟨rfl,rfl⟩:=hR77
      refine ⟨⟨rfl,rfl,rfl,trivial⟩,?_⟩
      rw [hp1]
      refine (Y9 [7] ?_)
      refine Ac09 rfl rfl rfl (OpT_storeAll (r:=201) rfl Try.sizeOf76 rfl rfl rfl rfl rfl (ws_one _) ?_) ?_
      ·
       refine ⟨⟨rfl,rfl,rfl,trivial⟩,?_⟩
       refine (Ad9 (by kernel_rfl) (X_block (X9 ?_)))
       refine R9 (M9 rfl rfl (L9 rfl (Pn9 rfl rfl rfl (run_add _ _ _ _ _ (by omega))) (G9 rfl rfl (N9 ?_))))
       exact Xr9 (x + 1) (by omega) (by omega) ⟨rfl,rfl,rfl,lookV_eq rfl (int_eq (by omega)),trivial⟩ ⟨rfl,rfl,rfl,rfl,trivial⟩
      exact An9
     exact An9
    exact An9
   ·
    have hxe:x=(padB d).length / 64:=by have:=of_decide_eq_false hc68; omega
    obtain ⟨S,hS⟩:∃ S,mixes (padB d) (S8.of HS) x=S:=⟨_,rfl⟩
    rw [hS]
    have hsha:sha d=outB S:=by unfold sha; rw [← hxe,hS]
    refine W_exit (X_then_exit (X_then_exit (X_block_exit (X9 ?_))))
    refine Q9 (R9 (Lc9 rfl rfl (by decide) (OpT_alloc (r:=202) (cs:=(bs zeroId)) rfl (zero_run (by kernel_rfl:(Try.prog.info? 29).bind (·.zero)=some (.agg (bs zeroId).toArray))) rfl (fun g202=>(N9 (X9 (Q9 (Q9 (R9 (L9 rfl (Px9 (r:=201) rfl Try.isAgg76 Try.sizeOf76 rfl rfl rfl (load_all rfl)) (M9 rfl rfl (N9 (X9 ?_)))))))))))))
    refine W_block ?_
    refine W_loop (α:=Nat) (fun x=>[(4,.pointer (some ⟨g101,0,none⟩)),(12,.pointer (some ⟨g202,0,none⟩)),(78,.agg (ws S.list).toArray),(79,.int .i64 (x:Int))]) (fun x=>[(0,F),(101,blk g101 29 (bs zeroId)),(202,blk g202 29 (bs (outZ S (4 * x))))]) (fun x=>x≤8) (fun x=>8 - x) (0) (by omega) (a9 rfl) (a9 rfl) (fun x hx=>?_)
    refine Q9 (R9 (L9 rfl (Pn9 rfl rfl rfl (run_lss _ _ _ _ _ _)) (N9 (X9 (Q9 ?_)))))
    refine C9 rfl (fun hc80=>?_) (fun hc80=>?_)
    ·
     have hlx:x < 8:=by have:=of_decide_eq_true hc80; omega
     refine K9 (X9 ?_)
     refine Q9 ?_
     refine W_block ?_
     refine Q9 (R9 (M9 rfl rfl (L9 rfl (Pu_index rfl Try.runUnderlying76 Try.sizeOf73 Try.isAgg73 rfl rfl (by omega) (ws_atI (k:=x) (by omega) (by rw [S8.list_length]; omega))) (G9 rfl rfl (G9 rfl rfl (N9 (X9 (Q9 (R9 (M9 rfl rfl (N9 (X9 ?_))))))))))))
     refine W_block ?_
     refine W_loop (α:=Nat) (fun y=>[(4,.pointer (some ⟨g101,0,none⟩)),(12,.pointer (some ⟨g202,0,none⟩)),(13,.int .i64 (x:Int)),(14,wv (S.list.getD x 0)),(78,.agg (ws S.list).toArray),(79,.int .i64 (x:Int)),(83,.int .i64 (y:Int))]) (fun y=>[(0,F),(101,blk g101 29 (bs zeroId)),(202,blk g202 29 (bs (outZ S (4 * x + y))))]) (fun y=>y≤4) (fun y=>4 - y) (0) (by omega) (a9 rfl) (a9 rfl) (fun y hy=>?_)
     have hzl:=outZ_length (s:=S) (q:=4 * x + y) (by omega)
     refine Q9 (R9 (L9 rfl (Pn9 rfl rfl rfl (run_lss _ _ _ _ _ _)) (N9 (X9 (Q9 ?_)))))
     refine C9 rfl (fun hc84=>?_) (fun hc84=>?_)
     ·
      have hly:y < 4:=by have:=of_decide_eq_true hc84; omega
      refine K9 (X9 ?_)
      refine Q9 ?_
      refine W_block ?_
      refine Q9 (R9 (M9 rfl rfl (G9 rfl rfl (N9 (X9 (R9 (M9 rfl rfl (L9 rfl (Pn9 rfl rfl rfl (run_mul _ _ _ _ _ (by omega))) (M9 rfl rfl (L9 rfl (Pn9 rfl rfl rfl (run_add _ _ _ _ _ (by omega))) (M9 rfl rfl (M9 rfl rfl (L9 rfl (Pn9 rfl rfl rfl (run_mul _ _ _ _ _ (by omega))) (L9 rfl (Pn9 rfl rfl rfl (run_sub _ _ _ _ _ (by omega))) ?_))))))))))))))
      rw [show 24 - 8 * (y:Int)=((24 - 8 * y:Nat):Int) by omega]
      refine (L9 rfl (Pn9 rfl rfl rfl (run_shrW _ (24 - 8 * y) (by omega) _ _ _)) (L9 rfl (Pu_conv rfl rfl (conv_byteW _ Try.runUnderlying73 Try.runUnderlying5)) (L9 rfl (Pu_idxA rfl Try.runUnderlying29 Try.sizeOf5 rfl rfl (by omega)) (Lc09 rfl rfl (OpT_storeB1 (r:=202) rfl Try.sizeOf5 rfl rfl rfl rfl (by rw [bs_length,hzl]; omega) (outZ_set hlx hly (by omega)) ?_)))))
      refine (N9 (X_block (X9 ?_)))
      refine R9 (L9 rfl (Pn9 rfl rfl rfl (run_add _ _ _ _ _ (by omega))) (M9 rfl rfl (N9 ?_)))
      exact Xr9 (y + 1) (by omega) (by omega) (a9 rfl) (a9 rfl)
     ·
      obtain rfl:y=4:=by have:=of_decide_eq_false hc84; omega
      refine W_exit (X_then_exit (X_then_exit (X_block_exit (X_block (X9 ?_)))))
      refine R9 (L9 rfl (Pn9 rfl rfl rfl (run_add _ _ _ _ _ (by omega))) (M9 rfl rfl (N9 ?_)))
      exact Xr9 (x + 1) (by omega) (by omega) ⟨rfl,rfl,rfl,rfl,trivial⟩ ⟨rfl,rfl,look_eq rfl (by rw [show 4 * (x + 1)=4 * x + 4 by omega]),trivial⟩
    ·
     obtain rfl:x=8:=by have:=of_decide_eq_false hc80; omega
     rw [show 4 * 8=32 from rfl,outZ_full]
     refine W_exit (X_then_exit (X_then_exit (X_block_exit (X9 ?_))))
     refine Q9 (R9 (L9 rfl (Px9 (r:=202) rfl Try.isAgg29 Try.sizeOf29 rfl rfl rfl (load_all rfl)) (Lc09 rfl rfl (OpT_storeAll (r:=101) rfl Try.sizeOf29 rfl rfl rfl rfl rfl (bs_one _) ?_))))
     refine (N9 (X9 ?_))
     refine W_ret ?_
     exact Xq9 [] (Ps:=[]) (resC1 (r:=101) Try.results46 rfl Try.isAgg29 Try.sizeOf29 rfl rfl) rfl (by decide) ⟨by rw [hd,hsha]; rfl,rfl⟩
theorem sum_spec (va:Value) (a:List UInt8) (hla:a.length≤1000000000) (F:HP) (hFa:∀ h,F h→rdB va a h):CallsS Try.prog 24 #[va] F [] (fun r Ps=>r=idV (sha a)∧Ps=[]):=by
 refine callsS_enter Try.func24 rfl Try.ntmps24 (by simp) (fun E=>?_)
 refine Q9 (R9 (Lc9 rfl rfl (by decide) (OpT_alloc (r:=101) (cs:=(bs zeroId)) rfl (zero_run (by kernel_rfl:(Try.prog.info? 29).bind (·.zero)=some (.agg (bs zeroId).toArray))) rfl (fun g101=>(N9 (X9 (Q9 (R9 (M9 rfl rfl (Lc9 rfl rfl (by decide) (Oc9 200 [0,101] [] rfl Try.call46 rfl rfl rfl (by decide) (by decide) (pair_spec va (.slice none 0 0) a [] hla (by simp) _ (rs9 0 rfl hFa) (fun h _=>rd_const 0 1 h)) (fun v4 Ps4 hR4=>?_))))))))))))
 obtain ⟨rfl,rfl⟩:=hR4
 rw [List.append_nil]
 refine (Lc09 rfl rfl (OpT_storeAll (r:=101) rfl Try.sizeOf29 rfl rfl rfl rfl ((bs_length _).trans (sha_length a)) (bs_one _) ?_))
 refine (N9 (X9 ?_))
 refine W_ret ?_
 exact Xq9 [] (Ps:=[]) (resC1 (r:=101) Try.results24 rfl Try.isAgg29 Try.sizeOf29 rfl ((bs_length _).trans (sha_length a))) rfl (by decide) ⟨rfl,rfl⟩
end Go.Proofs.Ytinamipkpdlphaa
