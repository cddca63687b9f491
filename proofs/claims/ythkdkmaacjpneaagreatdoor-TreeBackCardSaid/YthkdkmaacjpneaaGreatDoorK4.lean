/- Texts of this proof, one behind the other: RfD, MkL, TreeC, TreeE, TreeD, TreeF, LaySrtE, LaySrtB, SortK, KeyL, Bk, SrtC, SrtD, TreeG, TreeH, TreeI, TiB. -/
import Derived.Test.YthkdkmaacjpneaaGreatDoorK3
import Derived.OrdersIn
import Derived.Test.YthkdkmaacjpneaaGreatDoorProg
import Derived.Shelf.SlSortCmp.WholeK
import Derived.Test.YthkdkmaacjpneaaGreatDoorK2
import Derived.Shelf.SlSortCmp.NoneTotal
import Derived.Test.YthkdkmaacjpneaaGreatDoorK1
import Derived.Lib.BytesEntry
import GoSem.Extern.BytealgCompare
import Derived.Lib.Bytealg
import Derived.IntWalk
import Derived.Laws.StandIn
import Derived.Deep.QuietTactic
import Derived.BigQuiet
set_option linter.unusedVariables false
set_option linter.unusedSimpArgs false
set_option linter.unusedSectionVars false
namespace Go.Proofs.YthkdkmaacjpneaaGreatDoor
open Go.RowKit
def notDefer:Op→Bool
  | .defer _=>false
  | _=>true
theorem notDefer_ne {o:Op} (h:notDefer o=true):∀ c,o≠.defer c:=by
  intro c e
  subst e
  cases h
theorem wpAnyIn_of {P:Program} {ops:Array Oper} {Q:Exit→Act→World→Prop} {md:Region.Mode} {ro:Option Nat} (hnd:∀ (i:Nat) (o:Oper),ops[i]?=some o→∀ c,o.op≠.defer c) (hno:¬ LetsOut Q) :
    ∀ (fuel:Nat) (listed:Array Bool) (a:Act) (w:World),wpAny P md ops Q fuel listed a w→wpAnyIn (wideR ro) 0 P md ops Q fuel listed a w:=by
  intro fuel
  induction fuel with
  | zero=>exact fun listed a w h=>h
  | succ fuel ih =>
    intro listed a w ⟨h0,h1⟩
    refine ⟨h0,fun i hi=>?_⟩
    have h:=h1 i hi
    unfold wpOp at h
    unfold wpOpIn
    cases ho:ops[i]? with
    | none=>rw [ho] at h; exact ih _ _ _ h
    | some o =>
      rw [ho] at h
      dsimp only at h ⊢
      split
      · rename_i hw
        rw [if_pos hw] at h
        rcases h with h | ⟨_,hl⟩
        · exact wpIn_of_wp (hnd i o ho) (Oper.wp_mono (fun a w=>ih _ a w) h)
        · exact absurd hl hno
      · rename_i hw
        rw [if_neg hw] at h
        exact ⟨fun _ _=>trivial,ih _ _ _ h⟩
def OnlyN (Q:Exit→Act→World→Prop):Exit→Act→World→Prop:=fun e a w=>e = .normal∧Q .normal a w
section
variable {P:Program} {E:Env} {n:Nat} {K K':Slots} {L L':Res} {Q:Exit→Act→World→Prop} {ops:Array Oper} {o:Oper} {rest:List Oper} {c x y:Code} {ro:Option Nat}
theorem X_onlyN (h:X E n Q .normal K L):X E n (OnlyN Q) .normal K L:=fun a w hA hS=>⟨rfl,h a w hA hS⟩
theorem WI_draw {id N:Nat} {l:List Oper} (hm:P.follows .mixedOrders=true) (hnd:l.all (fun o=>notDefer o.op)=true) (hN:l.length=N) (S:Res) (hL:AllIn L S) (h:AH P E n l.toArray S N (Array.replicate N false) K L (OnlyN Q)):WI P E n ro (.region id l.toArray true) K L Q:=fun a w hA hS=>by
  have hsz:l.toArray.size=N:=by simpa using hN
  have h1:=wpAny_of_held _ _ _ _ (h a w.drew hA hS.drew (hS.sub hL.look).drew)
  have hno:¬ LetsOut (NoPanic (OnlyN Q)):=by
    rintro ⟨a,w,hq⟩
    have:(.outgrown:Exit) = .normal:=hq.1
    cases this
  have hdf:∀ (i:Nat) (o:Oper),l.toArray[i]?=some o→∀ c,o.op≠.defer c:=fun i o ho=>by
    have hm:o ∈ l:=by
      have:=List.mem_of_getElem? (by simpa using ho:l[i]?=some o)
      exact this
    exact notDefer_ne (List.all_eq_true.1 hnd o hm)
  have h2:=wpAnyIn_of (ro:=ro) hdf hno _ _ _ _ h1
  refine wpIn_mono (wpIn_region_any hm (by rw [hsz]; exact h2)) ?_
  intro e a w hq
  cases e with
  | normal=>exact hq.2
  | _=>first | exact (hq:False).elim | (have:=hq.1; cases this)
theorem WI_seq (h:WI P E n ro x K L (Exit.then (y.wpIn (wideR ro) 0 P Q) Q)):WI P E n ro (.seq x y) K L Q:=fun a w hA hS=>wpIn_seq (h a w hA hS)
theorem XI_then (h:WI P E n ro y K L Q):X E n (Exit.then (y.wpIn (wideR ro) 0 P Q) Q) .normal K L:=h
theorem WI.pre (h:WI P E n ro c K' L' Q) (hK:AllIn K K') (hL:AllIn L L'):WI P E n ro c K L Q:=fun a w hA hS=>h a w (hA.sub hK.look) (hS.sub hL.look)
theorem WLI_turn {P':HP} {l:List Oper} (r:Nat) {Pr:HP} (hr:look L r=some Pr) (hp:∀ h,Pr h→P' h) (k:WLI P E n ro ops l K ((r,P')::L) Q):WLI P E n ro ops l K L Q:=fun a w hA hS=>k a w hA (hS.cons hr hp)
end
section
variable {P:Program} {E:Env} {n:Nat} {ds:List Deferred} {a:Act} {K K':Slots} {L L':Res} {Q:Exit→Act→World→Prop} {ops:Array Oper} {o:Oper} {rest:List Oper} {c x y:Code}
theorem AgrD.eval (h:AgrD ds n K a) {x:Operand} {v:Value} (hx:evK K x=some v):a.eval x=v:=by
  have hev:({ a with defers:=[] }:Act).eval=a.eval:=by funext x; cases x <;> rfl
  rw [← hev]
  exact h.clear.eval hx
theorem AgrD.sub (h:AgrD ds n K a) (hs:∀ k v,look K' k=some v→look K k=some v):AgrD ds n K' a:=⟨h.1,h.2.1,fun k v hk=>h.2.2 k v (hs k v hk)⟩
theorem W_of_WD (h:WD P E n [] c K L Q):W P E n c K L Q:=h
theorem XD_then_exit {N:Act→World→Prop} {id:Nat} (h:XD E n ds Q (.exit id) K L):XD E n ds (Exit.then N Q) (.exit id) K L:=h
theorem WD_block {id:Nat} (h:WD P E n ds c K L (Exit.inBlock id Q)):WD P E n ds (.block id c) K L Q:=fun a w hA hS=>wp_block (h a w hA hS)
theorem XD_block_exit {id:Nat} (h:XD E n ds Q .normal K L):XD E n ds (Exit.inBlock id Q) (.exit id) K L:=fun a w hA hS=>by
  simp only [Exit.inBlock,if_true]; exact h a w hA hS
theorem WD_skip (h:XD E n ds Q .normal K L):WD P E n ds .skip K L Q:=fun a w hA hS=>wp_skip (h a w hA hS)
theorem WD_exit {id:Nat} (h:XD E n ds Q (.exit id) K L):WD P E n ds (.exit id) K L Q:=fun a w hA hS=>wp_exit (h a w hA hS)
theorem WD_cond {c:Operand} {b:Bool} (hc:evK K c=some (.bool b)) (ht:b=true→WD P E n ds x K L Q) (hf:b=false→WD P E n ds y K L Q):WD P E n ds (.cond c x y) K L Q :=
  fun a w hA hS=>wp_cond_split (hA.eval hc) (fun h=>ht h a w hA hS) (fun h=>hf h a w hA hS)
theorem WD_loop {α:Type} (Df:α→List Deferred) (Kf:α→Slots) (Lf:α→Res) (φ:α→Prop) (μ:α→Nat) (x0:α) (h0:φ x0) (hD:Df x0=ds) (hK:AllIn K (Kf x0)) (hL:AllIn L (Lf x0))
    (round:∀ x,φ x→WD P E n (Df x) c (Kf x) (Lf x) (Exit.then (fun a w=>∃ y,φ y∧μ y < μ x∧AgrD (Df y) n (Kf y) a∧Sat E (Lf y) w) Q)):WD P E n ds (.loop c) K L Q :=
  fun a w hA hS=>wp_loop_any (fun x a w=>φ x∧AgrD (Df x) n (Kf x) a∧Sat E (Lf x) w) μ (fun x a w ⟨hx,hA,hS⟩=>Code.wp_mono (fun e a' w' hq=>by
    cases e with
    | normal=>obtain ⟨y,y1,y2,y3,y4⟩:=hq; exact ⟨y,⟨y1,y3,y4⟩,y2⟩
    | _=>exact hq) (round x hx a w hA hS)) x0 a w ⟨h0,by rw [hD]; exact hA.sub hK.look,hS.sub hL.look⟩
theorem XD_round {α:Type} {Df:α→List Deferred} {Kf:α→Slots} {Lf:α→Res} {φ:α→Prop} {μ:α→Nat} {x:α} (y:α) (hy:φ y) (hm:μ y < μ x) (hD:Df y=ds) (hK:AllIn K (Kf y)) (hL:AllIn L (Lf y)) :
    XD E n ds (Exit.then (fun a w=>∃ y,φ y∧μ y < μ x∧AgrD (Df y) n (Kf y) a∧Sat E (Lf y) w) Q) .normal K L:=fun a w hA hS=>⟨y,hy,hm,by rw [hD]; exact hA.sub hK.look,hS.sub hL.look⟩
theorem wp_of_clear {o:Oper} {a:Act} {w:World} {Kc:Act→World→Prop} {Q:Exit→Act→World→Prop} (hd:a.defers=ds)
    (h:o.wp P { a with defers:=[] } w (fun a' w'=>a'.defers=[]∧Kc { a' with defers:=ds } w') (fun e a' w'=>Q e { a' with defers:=ds } w')):o.wp P a w Kc Q:=by
  have hev:({ a with defers:=[] }:Act).eval=a.eval:=by funext x; cases x <;> rfl
  have ha:({ ({ a with defers:=[] }:Act) with defers:=ds }:Act)=a:=by subst hd; rfl
  have hp:∀ v,({ (({ a with defers:=[] }:Act).put o.dst v) with defers:=ds }:Act)=a.put o.dst v:=fun v=>by subst hd; cases hds:o.dst <;> simp [Act.put]
  unfold Oper.wp at h ⊢
  rw [hev] at h
  generalize (execOp a.eval o).run P w=res at h ⊢
  cases res with
  | ok nx w' =>
    cases nx with
    | value v=>have h2:Kc _ w':=h.2; rw [hp v] at h2; exact h2
    | skip=>have h2:Kc _ w':=h.2; rw [hp undef] at h2; exact h2
    | defer d=>exact absurd h.1 (by cases o.dst <;> simp [Act.put])
    | enter f args =>
      refine Calls.mono (show Calls P f args w' _ from h) fun e w'' he=>?_
      cases e with
      | returned v=>have h2:Kc _ w'':=he.2; rw [hp v] at h2; exact h2
      | panicked chain=>have h2:Q _ _ w'':=he; exact ha ▸ h2
      | outgrown=>first | exact he | (obtain ⟨a2,w2,h2⟩:=he; exact ⟨_,w2,h2⟩)
    | row r args=>exact Rows.mono (show Rows P r args w' _ from h) fun v w'' he=>by have h2:Kc _ w'':=he.2; rw [hp v] at h2; exact h2
    | _=>exact h.elim
  | halt x w' =>
    cases x with
    | panic v=>have h2:Q _ _ w':=h; exact ha ▸ h2
    | _=>exact h.elim
theorem Dc9 {d:Nat} (hg:o.guard=none) (hd:o.dst=some d) (hn:d < n) (h:OpT P E n o K L (fun v L'=>WLD P E n ds ops rest ((d,v)::K) L' Q)):WLD P E n ds ops (o::rest) K L Q :=
  fun a w hA hS=>wpList_plain hg fun Kc hK=>wp_of_clear hA.1 (h { a with defers:=[] } w _ _ hA.clear hS fun v L' w' hC hS'=>by
    have e:({ (({ a with defers:=[] }:Act).put o.dst v) with defers:=ds }:Act)=a.put o.dst v:=by have:=hA.1; subst this; rw [hd]; simp [Act.put]
    refine ⟨by rw [hd]; simp [Act.put],?_⟩
    rw [e]
    exact hK _ _ (by rw [hd]; exact hC _ _ (hA.put hn v) hS'))
theorem WLD_cons0 (hg:o.guard=none) (hd:o.dst=none) (h:OpT P E n o K L (fun _ L'=>WLD P E n ds ops rest K L' Q)):WLD P E n ds ops (o::rest) K L Q :=
  fun a w hA hS=>wpList_plain hg fun Kc hK=>wp_of_clear hA.1 (h { a with defers:=[] } w _ _ hA.clear hS fun v L' w' hC hS'=>by
    have e:({ (({ a with defers:=[] }:Act).put o.dst v) with defers:=ds }:Act)=a:=by have:=hA.1; subst this; rw [hd]; simp [Act.put]
    refine ⟨by rw [hd]; simp [Act.put],?_⟩
    rw [e]
    exact hK _ _ (hC _ _ hA hS'))
theorem WD_fact {r:Nat} {Pr:HP} {φ:Prop} (hr:look L r=some Pr) (hp:∀ h,Pr h→φ) (k:φ→WD P E n ds c K L Q):WD P E n ds c K L Q:=fun a w hA hS=>k (hS.get hr hp) a w hA hS
theorem WD_turn {P':HP} (r:Nat) {Pr:HP} (hr:look L r=some Pr) (hp:∀ h,Pr h→P' h) (k:WD P E n ds c K ((r,P')::L) Q):WD P E n ds c K L Q:=fun a w hA hS=>k a w hA (hS.cons hr hp)
theorem XD_turn {e:Exit} (r:Nat) {Pr P':HP} (hr:look L r=some Pr) (hp:∀ h,Pr h→P' h) (k:XD E n ds Q e K ((r,P')::L)):XD E n ds Q e K L:=fun a w hA hS=>k a w hA (hS.cons hr hp)
theorem lookL_of {L:Res}:∀ {ids:List Nat} {Ps:List HP},LookAll L ids Ps→lookL L ids=some Ps
  | [],[],_=>rfl
  | [],_::_,h=>h.elim
  | _::_,[],h=>h.elim
  | r::ids,P::Ps,h=>by rw [lookL,h.1,lookL_of h.2]
theorem WD_join (J:List Nat) {Js:List HP} (r:Nat) (P':HP) (hJ:lookL L J=some Js) (hn:J.Nodup) (hP:∀ h,starL Js h→P' h) (k:WD P E n ds c K ((r,P')::(J.map (·,emp)++L)) Q):WD P E n ds c K L Q:=fun a w hA hS=>k a w hA (hS.join r (.of hJ) hn hP)
theorem XD_join {e:Exit} (J:List Nat) {Js:List HP} (r:Nat) (P':HP) (hJ:lookL L J=some Js) (hn:J.Nodup) (hP:∀ h,starL Js h→P' h) (k:XD E n ds Q e K ((r,P')::(J.map (·,emp)++L))):XD E n ds Q e K L:=fun a w hA hS=>k a w hA (hS.join r (.of hJ) hn hP)
theorem XD_ren {e:Exit} (r b:Nat) {Pr:HP} (hr:look L r=some Pr) (k:XD E n ds Q e K ((b,Pr)::(r,emp)::L)):XD E n ds Q e K L:=fun a w hA hS=>k a w hA (hS.split (b:=b) (Ps:=[Pr]) hr fun h hp=>starL_one hp)
theorem XD_open {e:Exit} {α:Type} {φ:α→Prop} {Ps:α→List HP} (r b:Nat) {Pr:HP} (hr:look L r=some Pr) (hp:∀ h,Pr h→∃ x,φ x∧starL (Ps x) h) (k:∀ x,φ x→XD E n ds Q e K (En b (Ps x)++(r,emp)::L)):XD E n ds Q e K L:=fun a w hA hS=>by
  obtain ⟨x,hS2⟩:=hS.ex hr (Q:=fun x h=>φ x∧starL (Ps x) h) hp
  have hx:=hS2.get (look_same _ _ _) fun h hp=>hp.1
  have hS3:=hS2.split (b:=b) (Ps:=Ps x) (look_same _ _ _) fun h hp=>hp.2
  refine k x hx a w hA (hS3.sub fun r' P' h=>?_)
  rw [look_append] at h ⊢
  cases hl:look (En b (Ps x)) r' with
  | some X=>rw [hl] at h; exact h
  | none =>
    rw [hl] at h
    simp only [Option.none_or] at h ⊢
    by_cases hrr:r=r'
    · subst hrr; rw [look_same] at h ⊢; exact h
    · rw [look_other hrr] at h; rw [look_other hrr,look_other hrr]; exact h
theorem WLI_pure {ro:Option Nat} {d:Nat} {v:Value} (hnd:notDefer o.op=true) (hg:o.guard=none) (hd:o.dst=some d) (hn:d < n) (h:Pure P E n o K L v) (k:WLI P E n ro ops rest ((d,v)::K) L Q):WLI P E n ro ops (o::rest) K L Q:=WLI_cons (notDefer_ne hnd) hg hd hn (Or9 h k)
theorem WD_nilRow (r:Nat) (t:TypeId) (size:Nat) (h:WD P E n ds c K ((r,rowP t size (.slice none 0 0) 0 [])::L) Q):WD P E n ds c K L Q:=fun a w hA hS=>h a w hA (hS.nilRow r t size)
def marks (Ds:List Nat):List Deferred:=Ds.map fun D=>{ target:=.collected D,args:=#[] }
def marksP (Ds:List Nat):HP:=fun h=>Ds.Nodup∧∀ D ∈ Ds,h D=some (.deferred (some []))
theorem marks_more {D:Nat} {Ds:List Nat} {h:Hlt} (hs:starL [objP D (.deferred (some [])),marksP Ds] h):marksP (D::Ds) h:=by
  obtain ⟨f,h1,h2,h3⟩:=hs
  have a0:=h1 0 _ rfl
  have a1:=h1 1 _ rfl
  refine ⟨List.nodup_cons.2 ⟨fun hm=>?_,a1.1⟩,fun x hx=>?_⟩
  · have q1:f 0 D=some (.deferred (some [])):=a0
    have q2:=a1.2 D hm
    have:=h2 0 1 D (by decide) (by rw [q1]; rfl)
    rw [this] at q2
    cases q2
  · rcases List.mem_cons.1 hx with rfl | hx
    · exact h3 0 _ _ a0
    · exact h3 1 _ _ (a1.2 x hx)
theorem XD_retMs {fn:Func} {F:HP} {R:Value→List HP→Prop} (r:Nat) {v:Value} {Ps:List HP} {J:List Nat} :
    ∀ {Ds:List Nat} {L:Res} (hD:look L r=some (marksP Ds)) (hres:∀ a w,Agr n K a→Sat E ((r,emp)::L) w→(results fn a.tmps).run P w = .ok v w) (hR:R v Ps) (hJ:lookL L J=some (F::Ps)) (hn:J.Nodup) (hrJ:r ∉ J),
    XD E n (marks Ds) (bodyPostM Fence.wide 0 P fn (Ret E F R)) .ret K L:=by
  intro Ds
  induction Ds with
  | nil =>
    intro L hD hres hR hJ hn hrJ a w hA hS
    show LeavesInM Fence.wide 0 P fn a.tmps (Ret E F R) a.defers .returning w
    rw [hA.1]
    have hS2:Sat E ((r,emp)::L) w:=hS.cons hD (fun h _=>trivial)
    refine ⟨v,hres { a with defers:=[] } w hA.clear hS2,v,Ps,rfl,hR,?_⟩
    exact hS2.pick ((LookAll.of hJ).same fun j hj=>look_other (fun e=>hrJ (by rw [e]; exact hj)) _ _) hn
  | cons D Ds ih =>
    intro L hD hres hR hJ hn hrJ a w hA hS
    show LeavesInM Fence.wide 0 P fn a.tmps (Ret E F R) a.defers .returning w
    rw [hA.1]
    have hd:w.heap[D]?=some (.deferred (some [])):=by
      obtain ⟨h,hp,hi⟩:=hS.read hD
      exact hi _ _ (hp.2 D (by simp))
    refine ⟨fun h=>(by cases h),.inl ⟨D,_,rfl,run_takeDeferred hd,?_⟩⟩
    have hS2:Sat E ((r,marksP Ds)::L) (w.putObj D (.deferred none)):=hS.step hD fun h hp hin=>by
      have hlt:=lt_of_heap (hin _ _ (hp.2 D (by simp)))
      have hnd:=List.nodup_cons.1 hp.1
      refine ⟨[D],fun g=>if g=D then none else h g,by simp [hp.2 D (by simp)],⟨rfl,rfl,rfl,by simp [World.putObj],fun k hk hm=>World.putObj_heap_other (by simpa using hm)⟩,⟨hnd.2,fun x hx=>?_⟩,fun g o hg=>?_,fun g hg=>?_⟩
      · have hne:x≠D:=fun e=>hnd.1 (e ▸ hx)
        simp only [hne,if_false]
        exact hp.2 x (by simp [hx])
      · by_cases hgd:g=D
        · simp [hgd] at hg
        · simp only [hgd,if_false] at hg
          rw [World.putObj_heap_other hgd]
          exact hin _ _ hg
      · by_cases hgd:g=D
        · simp [hgd] at hg
        · simp only [hgd,if_false] at hg; exact .inl hg
    have key:=ih (L:=(r,marksP Ds)::L) (look_same _ _ _) (fun a' w' hA' hS'=>hres a' w' hA' (hS'.sub fun r' P' hl=>by
      by_cases hrr:r=r'
      · subst hrr; rw [look_same] at hl ⊢; exact hl
      · rw [look_other hrr] at hl ⊢; rw [look_other hrr]; exact hl)) hR (by
        have:=(LookAll.of hJ).same (L':=(r,marksP Ds)::L) fun j hj=>look_other (fun e=>hrJ (by rw [e]; exact hj)) _ _
        exact lookL_of this) hn hrJ { a with defers:=marks Ds } _ ⟨rfl,hA.2.1,hA.2.2⟩ hS2
    exact key
theorem WD_rangeFunc {ds:List Deferred} {α Y:Type} {g:Operand} {p gf N:Nat} {lb:Array Value} {assign body:Code} {enc:α→Value} {G:List α→HP} {S:List α→Prop} {Cs Cs':List HP}
    (hg:evK K g=some (.func (.func gf) #[] lb)) (hp:p < n) (eg:∀ args w,(callFunc gf args).run P w = .ok (.enter gf args) w)
    (J:List Nat) {Js:List HP} (r0:Nat) (J2:List Nat) (b:Nat) (hJ:lookL L J=some Js) (hr0:look L r0=some (G [])) (hJ2:lookL L J2=some Cs) (hnd:(J++r0::J2).Nodup) (hb:∀ j ∈ J++r0::J2,j < b)
    (hseq:∀ F,SeqS P gf lb enc N F Cs S Cs')
    (Km:α→Y→Slots) (Lm:HP→HP→List α→α→Y→Res) (hLm:∀ F LP pre x y,look (Lm F LP pre x y) 2=some LP)
    (hassign:∀ E' F l LP pre x,pre.length < N→WI P E' n (some l) assign ((p,enc x)::K) (En 0 [F,G pre,LP]) (Exit.then (fun a w=>∃ y,Agr n (Km x y) a∧Sat E' (Lm F LP pre x y) w) (fun _ _ _=>False)))
    (hbody:∀ E' F l LP LP' pre x y,pre.length < N→WI P E' n (some l) body (Km x y) ((2,LP')::Lm F LP pre x y) (fun e _ w=>e = .normal∧Sat E' (En 0 [F,G (pre++[x]),LP']) w))
    (k:∀ D xs Lp Lp',S xs→XD E n ({ target:=.collected D,args:=#[] }::ds) Q .normal K ((b + 31,Lp')::(En (b + 30) [G xs,Lp]++(b + 10,emp)::(En (b + 10) (starL [G xs,Lp]::Cs')++zipR (J++[b]) (Js++[objP D (.deferred (some []))]))))) :
    WD P E n ds (.rangeFunc g #[p] assign body) K L Q:=by
  intro a w hA hS
  refine (wpIn_wide (n:=0)).1 (wpIn_rangeFunc ?_)
  intro fn _
  obtain ⟨rec,hrec⟩:∃ rec:LoopState→Option Code→Loop,rec=fun st pe=>{ state:=st,pending:=pe,fn,tmps:=a.tmps,params:=#[p],assign,body,defers:=w.heap.size }:=⟨_,rfl⟩
  have hS2:Sat E ((b + 1,objP (w.heap.size + 1) (.loop (rec .ready none)))::(b,objP w.heap.size (.deferred (some [])))::L) ((w.alloc (.deferred (some []))).alloc (.loop (rec .ready none))):=by
    have h1:=(hS.newObj b (.deferred (some []))).newObj (b + 1) (.loop (rec .ready none))
    rw [World.size_alloc] at h1
    exact h1
  have hround:RoundS P (w.heap.size + 1) enc (fun pre=>starL [G pre,objP (w.heap.size + 1) (.loop (rec .ready none))]) N:=by
    intro E' F pre x w1 hlen hS3
    have hS4:=(hS3.split (r:=1) (b:=2) (Ps:=[G pre,objP (w.heap.size + 1) (.loop (rec .ready none))]) rfl (fun h hh=>hh)).pick (ids:=[0,2,3]) (Ps:=[F,G pre,objP (w.heap.size + 1) (.loop (rec .ready none))]) ⟨rfl,rfl,rfl,trivial⟩ (by decide)
    have hl:=hS4.obj (r:=2) rfl
    have hy:=run_yield (P:=P) (args:=#[enc x]) hl (by rw [hrec]; rfl)
    rw [hrec] at hy
    refine ⟨fn,_,assign,body,hy,roundIn_of_wpIn trivial ?_⟩
    have hag:Agr n ((p,enc x)::K) { tmps:=(#[p].zip #[enc x]).foldl (fun t (p,v)=>t.setIfInBounds p v) a.tmps,defers:=[] }:=by
      have:=hA.put hp (enc x)
      refine ⟨rfl,by simpa using hA.2.1,fun k v hk=>?_⟩
      simpa [Act.put] using this.2.2 k v hk
    refine wpIn_mono (hassign E' F (w.heap.size + 1) _ pre x hlen _ w1 hag hS4) ?_
    rintro e a2 w2 hq
    cases e with
    | normal =>
      obtain ⟨y,hA2,hSy⟩:=hq
      have hl2:=hSy.obj (hLm _ _ _ _ _)
      refine ⟨_,run_beginRound hl2 (by rw [hrec]),?_⟩
      refine wpIn_mono (hbody E' F (w.heap.size + 1) _ _ pre x y hlen a2 _ hA2 (hSy.put (hLm _ _ _ _ _) _)) ?_
      rintro e3 a3 w3 ⟨rfl,hS5⟩
      have hl3:=hS5.obj (r:=2) rfl
      have her:=run_endRound (P:=P) none hl3
      refine ⟨_,_,her,rfl,?_⟩
      have hS6:=hS5.put (r:=2) rfl (.loop (rec .ready none))
      have hS7:=(hS6.pack (J:=[1,2]) (Js:=[G (pre++[x]),objP (w.heap.size + 1) (.loop (rec .ready none))]) (C:=[0]) (Cs:=[F]) ⟨rfl,rfl,trivial⟩ ⟨rfl,trivial⟩ (by decide)).pick (ids:=[1,0]) (Ps:=[F,starL [G (pre++[x]),objP (w.heap.size + 1) (.loop (rec .ready none))]]) ⟨rfl,rfl,trivial⟩ (by decide)
      rw [hrec] at hS7 ⊢
      exact hS7
    | ret=>exact hq.elim
    | exit id=>exact hq.elim
    | goto t=>exact hq.elim
    | panic ch=>exact hq.elim
    | outgrown=>exact hq.elim
  have hneb:∀ j ∈ J++r0::J2,j≠b + 1∧j≠b + 2∧j≠b:=fun j hj=>by have:=hb j hj; omega
  have hr0b:=hb r0 (by simp)
  have hS8:=hS2.join (b + 2) (J:=[r0,b + 1]) (Js:=[G [],objP (w.heap.size + 1) (.loop (rec .ready none))]) (P':=starL [G [],objP (w.heap.size + 1) (.loop (rec .ready none))])
    ⟨by rw [look_other (by omega),look_other (by omega)]; exact hr0,look_same _ _ _,trivial⟩ (by simp; omega) (fun h hh=>hh)
  have hfar:∀ j,j ∈ J∨j ∈ J2→look ((b + 2,starL [G [],objP (w.heap.size + 1) (.loop (rec .ready none))])::([r0,b + 1].map (·,emp)++(b + 1,objP (w.heap.size + 1) (.loop (rec .ready none)))::(b,objP w.heap.size (.deferred (some [])))::L)) j=look L j:=by
    intro j hj
    have h1:=hneb j (by rcases hj with hj | hj <;> simp [hj])
    have h2:r0≠j:=by
      rintro rfl
      rw [List.nodup_append] at hnd
      rcases hj with hj | hj
      · exact hnd.2.2 r0 hj r0 (by simp) rfl
      · exact (List.nodup_cons.1 hnd.2.1).1 hj
    simp only [List.map_cons,List.map_nil,List.cons_append,List.nil_append]
    rw [look_other (by omega),look_other h2,look_other (by omega),look_other (by omega),look_other (by omega)]
  have hnd2:(J++[b]++(b + 2)::J2).Nodup:=by
    simp only [List.append_assoc,List.cons_append,List.nil_append]
    rw [List.nodup_append] at hnd ⊢
    obtain ⟨n1,n2,n3⟩:=hnd
    refine ⟨n1,?_,fun x hx y hy hxy=>?_⟩
    · simp only [List.nodup_cons,List.mem_cons,not_or]
      refine ⟨⟨by omega,fun h=>?_⟩,fun h=>?_,(List.nodup_cons.1 n2).2⟩
      · exact (hneb b (by simp [h])).2.2 rfl
      · exact (hneb (b + 2) (by simp [h])).2.1 rfl
    · subst hxy
      rcases List.mem_cons.1 hy with h | hy
      · exact (hneb x (by simp [hx])).2.2 h
      · rcases List.mem_cons.1 hy with h | hy
        · exact (hneb x (by simp [hx])).2.1 h
        · exact n3 x hx x (by simp [hy]) rfl
  have hJb:LookAll ((b + 2,starL [G [],objP (w.heap.size + 1) (.loop (rec .ready none))])::([r0,b + 1].map (·,emp)++(b + 1,objP (w.heap.size + 1) (.loop (rec .ready none)))::(b,objP w.heap.size (.deferred (some [])))::L)) (J++[b]) (Js++[objP w.heap.size (.deferred (some []))]) :=
    LookAll.append ((LookAll.of hJ).same fun j hj=>hfar j (.inl hj)) ⟨by
      simp only [List.map_cons,List.map_nil,List.cons_append,List.nil_append]
      rw [look_other (by omega),look_other (by omega),look_other (by omega),look_other (by omega),look_same],trivial⟩
  have hS9:=hS8.pack hJb (C:=(b + 2)::J2) (Cs:=starL [G [],objP (w.heap.size + 1) (.loop (rec .ready none))]::Cs) ⟨look_same _ _ _,(LookAll.of hJ2).same fun j hj=>hfar j (.inr hj)⟩ hnd2
  have hent:(Instr.enterLoop fn a.tmps #[p] assign body none).run P w = .ok (w.heap.size + 1,[{ target:=.collected w.heap.size,args:=#[] }]) ((w.alloc (.deferred (some []))).alloc (.loop (rec .ready none))):=by rw [hrec]; exact run_enterLoop_outer _ _ _ _ _
  refine ⟨w.heap.size + 1,[{ target:=.collected w.heap.size,args:=#[] }],(w.alloc (.deferred (some []))).alloc (.loop (rec .ready none)),{ target:=.fn (.func gf) lb,args:=#[.func (.yield (w.heap.size + 1)) #[] #[]] },(w.alloc (.deferred (some []))).alloc (.loop (rec .ready none)),gf,#[.func (.yield (w.heap.size + 1)) #[] #[]]++lb,(w.alloc (.deferred (some []))).alloc (.loop (rec .ready none)),hent,?_,fun _ _=>trivial,?_,fun h=>by simp [Fence.wide] at h,?_⟩
  · simp only [resolve,hA.eval hg]
    simp [Act.eval,Deferred.ofValue]
  · simp [invoke,eg]
  · have hcall:=hseq _ (w.heap.size + 1) _ hround E _ hS9
    refine (callsIn_wide.2 hcall).mono ?_
    rintro e w3 ⟨v,Ps,rfl,⟨xs,hxs,rfl⟩,hS10⟩
    have hndJ:(J++[b]).Nodup:=by rw [List.nodup_append] at hnd2; exact hnd2.1
    have hS11:=hS10.unpack (b + 10) hndJ (fun j hj=>by
      rcases List.mem_append.1 hj with hj | hj
      · have:=hb j (by simp [hj]); omega
      · simp at hj; omega)
    have hS12:=hS11.split (r:=b + 10) (b:=b + 30) (Ps:=[G xs,objP (w.heap.size + 1) (.loop (rec .ready none))]) (by simp [En,look]) (fun h hh=>hh)
    have hlk:look (En (b + 30) [G xs,objP (w.heap.size + 1) (.loop (rec .ready none))]++(b + 10,emp)::(En (b + 10) (starL [G xs,objP (w.heap.size + 1) (.loop (rec .ready none))]::Cs')++zipR (J++[b]) (Js++[objP w.heap.size (.deferred (some []))]))) (b + 31)=some (objP (w.heap.size + 1) (.loop (rec .ready none))):=by
      rw [look_append,show b + 31=(b + 30) + 1 from rfl,look_En _ (b + 30) 1]
      rfl
    have hl:=hS12.obj hlk
    refine ⟨_,_,run_endLoop hl (by rw [hrec]; simp),?_⟩
    rw [show (rec .ready none).pending=none by rw [hrec]]
    have hA':AgrD ({ target:=.collected w.heap.size,args:=#[] }::ds) n K { a with defers:=[{ target:=.collected w.heap.size,args:=#[] }]++a.defers }:=⟨by simp [hA.1],hA.2.1,hA.2.2⟩
    exact k w.heap.size xs _ _ hxs _ _ hA' (hS12.put hlk _)
end
open Go.RowKit
section
variable {P:Program} {E:Env} {n:Nat} {K:Slots} {L:Res} {o:Oper} {C:Value→Res→Prop}
theorem OpT_makeLen {t e r:Nat} (m c:Nat) {x y:Operand} {i:TypeInfo} {z:Value} {kl kc:IntKind} (ho:o.op = .makeSlice t x y) (ht:P.underlying t=some (.slice e)) (hi:P.info? e=some i) (hz:i.zero=some z) (hsize:i.size=1) (hz1:z.cells = #[z])
    (hx:evK K x=some (.int kl (m:Int))) (hy:evK K y=some (.int kc (c:Int))) (hmc:m≤c) (hb:i.bytes * c≤281474976710656) (hm:c≤maxLen) (k:∀ v,C v ((r,rowP e 1 v m (List.replicate m z))::L)):OpT P E n o K L C:=fun a w Kc Q hA hS hK=>by
  have h63':(c:Int)≤9223372036854775807:=by
    have h:=hm
    simp [maxLen] at h
    omega
  have hb':(i.bytes:Int) * (c:Int)≤281474976710656:=by
    have h:((i.bytes * c:Nat):Int)≤281474976710656:=by omega
    rwa [Int.natCast_mul] at h
  have hrun:=run_make (P:=P) w t e i z ht hi hz kl kc m c (by omega) (by omega) hb' h63'
  simp only [Int.toNat_natCast] at hrun
  unfold Oper.wp execOp
  simp only [ho,hA.eval hx,hA.eval hy,Sem.run_bind,hrun,Result.andThen_ok,Sem.run_pure]
  refine hK _ _ _ (k _) ?_
  have hS2:=hS.blk r e (madeCells z.cells (c * i.size))
  have hS3:=hS2.cons (P':=rowP e 1 (.slice (some ⟨w.heap.size,0,none⟩) m c) m (List.replicate m z)) (look_same r _ L) (fun h hb=>by
    refine ⟨by simp,.inr ⟨_,c,madeCells z.cells (c * i.size),rfl,?_,hmc,hm,by simp [size_madeCells,hsize],?_⟩⟩
    · unfold Proofs.YthkdkmaacjpneaaGreatDoor.blk at hb
      simpa using hb
    · rw [hz1]
      apply List.ext_getElem
      · simp [madeCells,hsize,hmc]
      · intro j h1 h2
        simp [madeCells,hsize,Nat.mod_one])
  exact hS3.sub (fun r' P' h=>by
    by_cases hr:r=r'
    · subst hr; rw [look_same] at h ⊢; exact h
    · rw [look_other hr] at h; rw [look_other hr,look_other hr]; exact h)
end
theorem rowB_mk {e m:Nat} {v:Value} {xs:List Value} {l:List UInt8} {h:Hlt} (hp:rowP e 1 v m xs h) (hm:m=l.length) (hx:xs=bs l):rowB e v l h:=by subst hm; subst hx; exact hp
section
variable {P:Program} {E:Env} {n:Nat} {K:Slots} {L:Res} {Q:Exit→Act→World→Prop} {ops:Array Oper} {C:Exit→Act→World→Prop}
theorem AH_turn {P':HP} {S:Res} {fuel:Nat} {listed:Array Bool} (r:Nat) {Pr:HP} (hr:look L r=some Pr) (hp:∀ h,Pr h→P' h) (k:AH P E n ops S fuel listed K ((r,P')::L) Q):AH P E n ops S fuel listed K L Q:=fun a w hA hS hh=>k a w hA (hS.cons hr hp) hh
theorem Lt9 {P':HP} {l:List Oper} (r:Nat) {Pr:HP} (hr:look L r=some Pr) (hp:∀ h,Pr h→P' h) (k:WL P E n ops l K ((r,P')::L) Q):WL P E n ops l K L Q:=fun a w hA hS=>k a w hA (hS.cons hr hp)
end
def blkD (d:List UInt8) (j:Nat):List UInt8:=100::(d.drop (j * 64)).take 64
def rowsD (d:List UInt8):List (List UInt8):=(List.range ((d.length + 63) / 64)).map (blkD d)
def blkI (l:List (List UInt8)) (j:Nat):List UInt8:=innerR ((l.drop (j * 8)).take 8)
def rowsI (l:List (List UInt8)):List (List UInt8):=(List.range ((l.length + 7) / 8)).map (blkI l)
def above:Nat→List (List UInt8)→List (List UInt8) × Nat × List (List UInt8)
  | 0,l=>([],0,l)
  | f + 1,l=>if 1 < l.length then (rowsI l++(above f ((rowsI l).map sha)).1,(above f ((rowsI l).map sha)).2.1 + 1,(above f ((rowsI l).map sha)).2.2) else ([],0,l)
def aboveD (d:List UInt8):List (List UInt8) × Nat × List (List UInt8):=above (d.length + 1) ((rowsD d).map sha)
def topF (d:List UInt8):List UInt8:=(aboveD d).2.2.getD 0 zeroId
def nodeF (kind:Int) (d:List UInt8):List UInt8:=inodeR kind (d.length:Int) ((aboveD d).2.1:Int) (topF d)
def blocksF (kind:Int) (d:List UInt8):List (List UInt8):=rowsD d++(aboveD d).1++[nodeF kind d]
def idF (kind:Int) (d:List UInt8):List UInt8:=sha (nodeF kind d)
theorem ids_sha (l:List (List UInt8)):Ids (l.map sha):=by
  intro y hy
  obtain ⟨x,_,rfl⟩:=List.mem_map.1 hy
  exact sha_length _
theorem above_small {f:Nat} {l:List (List UInt8)} (h:¬ 1 < l.length):above f l=([],0,l):=by
  cases f with
  | zero=>rfl
  | succ f=>rw [above,if_neg h]
theorem above_big {f:Nat} {l:List (List UInt8)} (h:1 < l.length):above (f + 1) l=(rowsI l++(above f ((rowsI l).map sha)).1,(above f ((rowsI l).map sha)).2.1 + 1,(above f ((rowsI l).map sha)).2.2):=by rw [above,if_pos h]
theorem rowsI_length (l:List (List UInt8)):(rowsI l).length=(l.length + 7) / 8:=by simp [rowsI]
theorem rowsD_length (d:List UInt8):(rowsD d).length=(d.length + 63) / 64:=by simp [rowsD]
structure Up (d:List UInt8) (bl:List (List UInt8)) (lv f:Nat) (l:List (List UInt8)):Prop where
  ids:Ids l
  blocks:bl++(above f l).1=rowsD d++(aboveD d).1
  levels:lv + (above f l).2.1=(aboveD d).2.1
  top:(above f l).2.2=(aboveD d).2.2
  fuel:l.length≤f
theorem Up.start (d:List UInt8):Up d (rowsD d) 0 (d.length + 1) ((rowsD d).map sha) where
  ids:=ids_sha _
  blocks:=rfl
  levels:=Nat.zero_add _
  top:=rfl
  fuel:=by rw [List.length_map,rowsD_length]; omega
theorem Up.step {d:List UInt8} {bl:List (List UInt8)} {lv f:Nat} {l:List (List UInt8)} (h:Up d bl lv (f + 1) l) (hl:1 < l.length):Up d (bl++rowsI l) (lv + 1) f ((rowsI l).map sha) where
  ids:=ids_sha _
  blocks:=by rw [← h.blocks,above_big hl,List.append_assoc]
  levels:=by rw [← h.levels,above_big hl]; show lv + 1 + (above f ((rowsI l).map sha)).2.1=lv + ((above f ((rowsI l).map sha)).2.1 + 1); omega
  top:=by rw [← h.top,above_big hl]
  fuel:=by have:=h.fuel; rw [List.length_map,rowsI_length]; omega
theorem Up.done {d:List UInt8} {bl:List (List UInt8)} {lv f:Nat} {l:List (List UInt8)} (h:Up d bl lv f l) (hl:¬ 1 < l.length):bl=rowsD d++(aboveD d).1∧lv=(aboveD d).2.1∧l=(aboveD d).2.2:=by
  have h1:=h.blocks
  have h2:=h.levels
  have h3:=h.top
  rw [above_small hl] at h1 h2 h3
  exact ⟨by rw [← h1,List.append_nil],by omega,h3⟩
theorem pieces_all {n k m:Nat} {α:Type} {f:Nat→α} {xs:List {j:Nat // j * k < n}} (hk:0 < k) (h1:xs.map (·.1)=List.range xs.length) (h2:n≤xs.length * k) (h3:(xs.length - 1) * k < n∨xs.length=0) (hm:(n + (k - 1)) / k=m):xs.map (fun j=>f j.1)=(List.range m).map f:=by
  have hlen:xs.length=m:=by
    subst hm
    have e:(n + (k - 1)) / k=xs.length:=by
      rcases h3 with h3 | h3
      · have hpos:0 < xs.length:=by
          rcases Nat.eq_zero_or_pos xs.length with h0 | h0
          · rw [h0] at h2; rw [h0] at h3; simp at h2 h3; omega
          · exact h0
        apply Nat.div_eq_of_lt_le
        · have:xs.length * k=(xs.length - 1) * k + k:=by
            conv=>lhs; rw [show xs.length=(xs.length - 1) + 1 by omega,Nat.add_mul,Nat.one_mul]
          omega
        · rw [Nat.add_mul,Nat.one_mul]; omega
      · rw [h3] at h2 ⊢
        have:n=0:=by omega
        subst this
        exact Nat.div_eq_of_lt (by omega)
    exact e.symm
  show xs.map (f ∘ (·.1))=_
  rw [← List.map_map,h1,hlen]
def accP (F0:HP) (g g3 gl:Nat) (hist bl:List (List UInt8)):HP:=fun h=>∃ v:Value,v.oneCell'=true∧starL [F0,bldP g (hist++bl),blk g3 85 [.pointer (some ⟨g,0,none⟩)],blk gl 165 [v],rowI 29 v (bl.map sha)] h
open Go.RowKit
set_option maxRecDepth 8000
theorem rd_sh {v:Value} {d:List UInt8} {h:Hlt} (hr:rdB v d h):∃ A c,v = .slice A d.length c∧d.length≤c:=by
  obtain ⟨_,A,c,h2,h3,_⟩:=hr
  exact ⟨A,c,h2,h3⟩
theorem rdI_sh {v:Value} {l:List (List UInt8)} {h:Hlt} (hr:rdI v l h):∃ A c,v = .slice A l.length c∧l.length≤c:=by
  obtain ⟨_,A,c,h2,h3,_⟩:=hr
  exact ⟨A,c,h2,h3⟩
theorem chB_rd {d:List UInt8} {A:Option Addr} {c j:Nat} {h:Hlt} (hr:rdB (.slice A d.length c) d h) (hj:j * 64 < d.length):rdB (chV 1 64 d.length j A) ((d.drop (j * 64)).take 64) h:=by
  have h1:=chV_rd hr hj (by decide)
  have hl:chN 64 d.length j=((d.drop (j * 64)).take 64).length:=by unfold chN; rw [List.length_take,List.length_drop]
  refine rdP_cast h1 ?_ hl
  rw [Nat.mul_one,Nat.mul_one,← bs_drop,← bs_take]
  congr 1
  unfold chN
  rw [List.take_eq_take_iff,List.length_drop]
  omega
theorem chI_rd {l:List (List UInt8)} (hi:Ids l) {A:Option Addr} {c j:Nat} {h:Hlt} (hr:rdI (.slice A l.length c) l h) (hj:j * 8 < l.length):rdI (chV 32 8 l.length j A) ((l.drop (j * 8)).take 8) h:=by
  have h1:=chV_rd hr hj (by decide)
  have hl:chN 8 l.length j=((l.drop (j * 8)).take 8).length:=by unfold chN; rw [List.length_take,List.length_drop]
  have hd:Ids (l.drop (j * 8)):=fun y hy=>hi y (List.mem_of_mem_drop hy)
  refine rdP_cast h1 ?_ hl
  rw [idsC_drop hi,idsC_take hd]
  congr 1
  unfold chN
  rw [List.take_eq_take_iff,List.length_drop]
  omega
theorem rowI_mk {e:TypeId} {v:Value} {l:List (List UInt8)} {m:Nat} {xs:List Value} {h:Hlt} (hp:rowP e 32 v m xs h) (hm:m=l.length) (hx:xs=idsC l):rowI e v l h:=by subst hm; subst hx; exact hp
theorem blkD_len (d:List UInt8) (j:Nat):(blkD d j).length≤65:=by unfold blkD; rw [List.length_cons,List.length_take]; omega
theorem blkI_len {l:List (List UInt8)} (hi:Ids l) (j:Nat):(blkI l j).length≤258:=by
  have hp:Ids ((l.drop (j * 8)).take 8):=fun q hq=>hi q (List.mem_of_mem_drop (List.mem_of_mem_take hq))
  have hl:((l.drop (j * 8)).take 8).length≤8:=by rw [List.length_take]; omega
  unfold blkI innerR
  split
  · rw [innerTo_length hp (Nat.le_refl _)]
    omega
  · simp
theorem inodeR_len (k s l:Int) (top:List UInt8) (h:top.length=32):(inodeR k s l top).length≤39:=by
  unfold inodeR
  split
  · unfold inodeB
    simp [numB_length,h]
  · simp
theorem levels_le {bl:List (List UInt8)} {dd:List UInt8} {lv f:Nat} {l:List (List UInt8)} (h:Up dd bl lv f l):lv≤(aboveD dd).2.1:=by have:=h.levels; omega
theorem above_levels:∀ (f:Nat) (l:List (List UInt8)),(above f l).2.1≤f
  | 0,_=>Nat.le_refl _
  | f + 1,l=>by
    rw [above]
    split
    · have:=above_levels f ((rowsI l).map sha)
      show (above f ((rowsI l).map sha)).2.1 + 1≤f + 1
      omega
    · exact Nat.zero_le _
theorem getD_dflt {α:Type} {l:List α} {k:Nat} {a b:α} (h:k < l.length):l.getD k a=l.getD k b:=by simp [h]
theorem marks_one {D:Nat} {h:Hlt} (hp:objP D (.deferred (some [])) h):marksP [D] h:=⟨by simp,fun x hx=>by simp at hx; subst hx; exact hp⟩
theorem acc_more {F0:HP} {g g3 gl:Nat} {hist bl:List (List UInt8)} {b:List UInt8} {v:Value} (hv:v.oneCell'=true) {h:Hlt} (hs:starL [F0,bldP g (hist++bl++[b]),blk g3 85 [.pointer (some ⟨g,0,none⟩)],blk gl 165 [v],rowI 29 v (bl.map sha++[sha b])] h):accP F0 g g3 gl hist (bl++[b]) h:=by
  refine ⟨v,hv,?_⟩
  rw [← List.append_assoc,List.map_append]
  exact hs
theorem file_spec (g:Nat) (hist:List (List UInt8)) (kind:Int) (v:Value) (d:List UInt8) (hd:d.length≤100000) (F:HP) (hF:∀ h,F h→rdB v d h):CallsS Tryz.prog 64 #[.pointer (some ⟨g,0,none⟩),.int .i64 kind,v] F [bldP g hist] (fun r Ps=>r=idV (idF kind d)∧Ps=[bldP g (hist++blocksF kind d)]):=by
  refine callsS_marks Tryz.func64 rfl Tryz.ntmps64 (by simp) (fun E=>?_)
  refine Q9 ?_
  refine J9 [(0,_),(1,_),(2,_)] [(0,_),(1,_)] ?_ ⟨rfl,rfl,rfl,trivial⟩ ⟨rfl,rfl,trivial⟩
  refine W_fact (r:=0) rfl (fun h hp=>rd_sh (hF h hp)) (fun hsh=>?_)
  obtain ⟨A,c,rfl,hnc⟩:=hsh
  refine R9 (Lc9 rfl rfl (by decide) (OpT_box (r:=101) rfl rfl rfl (fun g101=>(Lc9 rfl rfl (by decide) (OpT_alloc (r:=102) (cs:=(bs zeroId)) rfl (zero_run (by kernel_rfl:(Tryz.prog.info? 29).bind (·.zero)=some (.agg (bs zeroId).toArray))) rfl (fun g102=>(N9 (X9 ?_))))))))
  refine Q9 ?_
  refine J9 [(0,_),(1,_),(2,_),(3,_),(6,_)] [(0,_),(1,_),(101,_),(102,_)] ?_ ⟨rfl,rfl,rfl,rfl,rfl,trivial⟩ ⟨rfl,rfl,rfl,rfl,trivial⟩
  refine R9 (M9 rfl rfl (M9 rfl rfl (L9 rfl (Pl9 (r:=0) rfl Tryz.runUnderlying36 rfl rfl hF) (L9 rfl (Pu_build (V:=nodeV kind (d.length:Int) 0 zeroId) [(0,1),(1,1),(2,1),(3,32)] (nodeC 0 0 0 zeroId) rfl rfl (by kernel_rfl) (by kernel_rfl) (.one rfl rfl (by simp [nodeC,bs_length,zeroId_length]) rfl (.one rfl rfl (by simp [nodeC,bs_length,zeroId_length]) rfl (.nil _))) rfl) (Lc9 rfl rfl (by decide) (OpT_alloc (r:=103) (cs:=(nodeC 0 0 0 zeroId)) rfl (zero_run (by kernel_rfl:(Tryz.prog.info? 42).bind (·.zero)=some (.agg (nodeC 0 0 0 zeroId).toArray))) rfl (fun g103=>(Lc09 rfl rfl (OpT_storeAll (r:=103) rfl Tryz.sizeOf42 rfl rfl rfl rfl rfl (one_node _ _ _ _) ?_)))))))))
  refine (N9 (X9 ?_))
  refine Q9 ?_
  refine J9 [(0,_),(1,_),(2,_),(3,_),(6,_),(7,_)] [(0,_),(1,_),(101,_),(102,_),(103,_)] ?_ ⟨rfl,rfl,rfl,rfl,rfl,rfl,trivial⟩ ⟨rfl,rfl,rfl,rfl,rfl,trivial⟩
  refine R9 (Lc9 rfl rfl (by decide) (OpT_alloc (r:=104) rfl Tryz.zeroValue165 rfl (fun g104=>(N9 (X9 ?_)))))
  refine Q9 ?_
  refine Q9 ?_
  refine J9 [(0,_),(1,_),(2,_),(3,_),(6,_),(7,_),(8,_)] [(0,_),(1,_),(101,_),(102,_),(103,_),(104,_)] ?_ ⟨rfl,rfl,rfl,rfl,rfl,rfl,rfl,trivial⟩ ⟨rfl,rfl,rfl,rfl,rfl,rfl,trivial⟩
  refine R9 (M9 rfl rfl (Lc9 rfl rfl (by decide) (Oc9 200 [0,1,101,102,103,104] [] rfl Tryz.call91 rfl rfl rfl (by decide) (by decide) (chunkB_spec _ rfl _) (fun v22 Ps22 hR22=>?_))))
  obtain ⟨b1,b2,rfl,rfl⟩:=hR22
  skip
  refine (N9 (X9 ?_))
  refine W_block ?_
  refine Wt9 (P':=bldP g (hist++[])) 1 rfl (fun h hp=>by rw [List.append_nil]; exact hp) ?_
  refine W_nilRow 499 29 32 ?_
  refine W_join [0,1,101,104,499] 500 (accP F g g101 g104 hist []) rfl (by decide) (fun h hs=>⟨.slice none 0 0,rfl,hs⟩) ?_
  refine W_of_WD ?_
  refine WD_rangeFunc (α:={j:Nat // j * 64 < d.length}) (Y:=Nat) (enc:=fun j=>chV 1 64 (d.length) j.1 A) (G:=fun pre=>accP (F) g g101 g104 (hist) (pre.map fun j=>blkD d j.1)) (N:=d.length + 1) (S:=(fun xs=>xs.map (·.1)=List.range xs.length∧d.length≤xs.length * 64∧((xs.length - 1) * 64 < d.length∨xs.length=0))) (Cs':=[blk b1 36 [.slice A (d.length) c],blk b2 3 [.int .i64 64]]) rfl (by decide) Tryz.call127 [102,103] 500 [200,201] 600 rfl rfl rfl (by decide) (by decide) (fun F=>chunkB_seq b1 b2 d.length c A hnc (by omega) F) (fun x y0=>[(3,.pointer (some ⟨g101,0,none⟩)),(8,.pointer (some ⟨g104,0,none⟩)),(9,chV 1 64 (d.length) x.1 A)]) (fun F1 LP pre x y0=>[(0,F1),(1,accP (F) g g101 g104 (hist) (pre.map fun j=>blkD d j.1)),(2,LP)]) (fun _ _ _ _ _=>rfl) ?_ ?_ ?_
  ·
    intro E1 F1 l1 LP pre x hlen
    refine WI_regL ?_
    refine WLI_pure (by rfl) rfl rfl (by decide) (Pg9 rfl rfl) ?_
    refine WLI_nil (fun a w hA hS=>⟨0,hA.sub (AllIn.look ⟨rfl,rfl,rfl,trivial⟩),hS.sub (AllIn.look ⟨rfl,rfl,rfl,trivial⟩)⟩)
  ·
    intro E1 F1 l1 LP LP1 pre x y0 hlen
    refine WI_open 1 300 rfl (fun h hp=>hp) (fun lv hlv=>?_)
    have hpl:((d.drop (x.1 * 64)).take 64).length≤64:=by rw [List.length_take]; omega
    have hbl:((pre.map fun j=>blkD d j.1)).length=pre.length:=List.length_map _
    refine WI_block ?_
    refine WI_seq ?_
    refine WI.pre (K':=[(3,_),(8,_),(9,_)]) (L':=[(0,_),(2,_),(300,_),(301,_),(302,_),(303,_),(304,_)]) ?_ ⟨rfl,rfl,rfl,trivial⟩ ⟨rfl,rfl,rfl,rfl,rfl,rfl,rfl,trivial⟩
    refine WI_regL (WLI_pure (by rfl) rfl rfl (by decide) (Pm9 rfl rfl) (WLI_pure (by rfl) rfl rfl (by decide) (Pl9 (r:=300) rfl Tryz.runUnderlying36 rfl rfl (fun h hp=>chB_rd (hF h hp) x.2)) (WLI_pure (by rfl) rfl rfl (by decide) (Pn9 rfl rfl rfl (run_add _ _ _ _ _ (by omega))) ?_)))
    rw [show (1:Int) + (((d.drop (x.1 * 64)).take 64).length:Int)=((1 + ((d.drop (x.1 * 64)).take 64).length:Nat):Int) by omega]
    refine (WLI_cons (by intro c h; cases h) rfl rfl (by decide) (OpT_makeLen (r:=305) 1 (1 + ((d.drop (x.1 * 64)).take 64).length) rfl Tryz.underlying36 TI.hi5 TI.hz5 TI.hs5 rfl rfl rfl (by omega) (by rw [TI.hby5]; omega) (by unfold maxLen; omega) (fun v27=>?_)))
    refine WLI_turn (P':=rowB 5 v27 [0]) (r:=305) rfl (fun h hp=>hp) ?_
    refine (WLI_pure (by rfl) rfl rfl (by decide) (Pg9 rfl rfl) (WLI_nil (XI_then ?_)))
    refine WI_seq ?_
    refine WI.pre (K':=[(3,_),(8,_),(9,_),(10,_)]) (L':=[(0,_),(2,_),(300,_),(301,_),(302,_),(303,_),(304,_),(305,_)]) ?_ ⟨rfl,rfl,rfl,rfl,trivial⟩ ⟨rfl,rfl,rfl,rfl,rfl,rfl,rfl,rfl,trivial⟩
    refine WI_regL (WLI_pure (by rfl) rfl rfl (by decide) (Pm9 rfl rfl) (WLI_pure (by rfl) rfl rfl (by decide) (Pu_idxS1 (r:=305) rfl Tryz.runUnderlying36 Tryz.sizeOf5 rfl rfl rfl rowB_rd (by simp)) (WLI_cons0 (by intro c h; cases h) rfl rfl (OpT_storeS1 (r:=305) rfl Tryz.sizeOf5 rfl rfl rfl rfl (by decide) (show _=bs [100] from rfl) ?_))))
    refine WLI_turn (P':=rowB 5 v27 [100]) (r:=305) rfl (fun h hp=>hp) ?_
    refine (WLI_nil (XI_then ?_))
    refine WI.pre (K':=[(3,_),(8,_),(9,_),(10,_)]) (L':=[(0,_),(2,_),(300,_),(301,_),(302,_),(303,_),(304,_),(305,_)]) ?_ ⟨rfl,rfl,rfl,rfl,trivial⟩ ⟨rfl,rfl,rfl,rfl,rfl,rfl,rfl,rfl,trivial⟩
    refine WI_draw (N:=9) (by kernel_rfl) (by kernel_rfl) rfl [(300,_),(302,_)] ⟨rfl,rfl,trivial⟩ ?_
    refine (T9 1 rfl rfl (Pb9 (r:=302) rfl Tryz.isAgg85 rfl rfl rfl) (T9 2 rfl rfl (Pm9 rfl rfl) (T9 3 rfl rfl (Pm9 rfl rfl) (Y9 [0,4] ?_))))
    refine Z9 rfl rfl (Or9 (Pb9 (r:=303) rfl Tryz.isAgg165 rfl rfl rfl) ⟨⟨rfl,rfl,trivial⟩,?_⟩) ?_
    ·
      refine (Y9 [4] ?_)
      refine Z9 rfl rfl (Oa9 (r:=305) (r2:=300) rfl Tryz.underlying36 TI.hi5 TI.hz5 TI.hs5 TI.hby5 TI.hzs5 (by decide) rfl rfl rfl rfl (fun h hp=>chB_rd (hF h hp) x.2) (bs_one _) (by unfold maxLen; show 1 + _≤_; omega) (by show (1 + _) * 1≤_; omega) (fun v34=>?_)) ?_
      ·
        refine ⟨⟨rfl,rfl,trivial⟩,?_⟩
        refine AH_turn (P':=rowB 5 v34 (blkD d x.1)) 305 rfl (fun h hp=>rowB_mk hp (by unfold blkD; rw [List.length_cons,Nat.add_comm]; rfl) (by unfold blkD; rfl)) ?_
        refine (Y9 [5] ?_)
        refine Z9 rfl rfl (Oc9 400 [0,2,300,302,303,304] [301,305] rfl Tryz.call92 rfl rfl rfl (by decide) (by decide) (lay_spec g _ _ (blkD d x.1) (by have:=blkD_len d x.1; omega) _) (fun v35 Ps35 hR35=>?_)) ?_
        ·
          obtain ⟨rfl,rfl⟩:=hR35
          refine ⟨⟨rfl,rfl,trivial⟩,?_⟩
          skip
          refine (Y9 [6] ?_)
          refine Z9 rfl rfl (OpT_buildRows (r:=401) [bs (sha (blkD d x.1))] rfl rfl Tryz.runUnderlying165 Tryz.sizeOf29 Tryz.zeroValue29 rfl (by decide) rfl (by decide) (by intro r hr; simp at hr; rw [hr]; exact (bs_length _).trans (sha_length _)) rfl (fun v36=>⟨⟨rfl,rfl,trivial⟩,?_⟩)) ?_
          ·
            refine (Y9 [7] ?_)
            refine Z9 rfl rfl (Oa9 (r:=304) (r2:=401) rfl Tryz.underlying165 TI.hi29 TI.hz29 TI.hs29 TI.hby29 TI.hzs29 (by decide) rfl rfl rfl rfl (fun _ h=>rp9 h) (by intro u hu; simp at hu; exact bs_one _ u hu) (by unfold maxLen; rw [List.length_map,List.length_map]; omega) (by rw [List.length_map,List.length_map]; omega) (fun v37=>?_)) ?_
            ·
              refine ⟨⟨rfl,rfl,trivial⟩,?_⟩
              refine AH_turn (P':=rowI 29 v37 ((pre.map fun j=>blkD d j.1).map sha++[sha (blkD d x.1)])) 304 rfl (fun h hp=>rowI_mk hp (by rw [List.length_append]; rfl) (by rw [idsC_append,idsC_one]; simp)) ?_
              refine AH_fact (r:=304) rfl (fun h hp=>rd_one (rp9 hp)) (fun ho37=>?_)
              refine (Y9 [8] ?_)
              refine Ac09 rfl rfl rfl (OpT_storeB1 (r:=303) rfl Tryz.sizeOf165 rfl rfl rfl ho37 (by simp) rfl ?_) ?_
              ·
                refine ⟨⟨rfl,rfl,trivial⟩,?_⟩
                refine (Ad9 (by kernel_rfl) (X_onlyN (X_block ?_)))
                refine X_join [300,400,302,303,304] 400 (accP F g g101 g104 hist ((pre++[x]).map fun j=>blkD d j.1)) rfl (by decide) (fun h hs=>by rw [List.map_append]; exact acc_more ho37 hs) ?_
                exact fun a w hA hS=>⟨rfl,hS.pick (ids:=[0,400,2]) ⟨rfl,rfl,rfl,trivial⟩ (by decide)⟩
              exact An9
            exact An9
          exact An9
        exact An9
      exact An9
    refine Z9 rfl rfl (Oa9 (r:=305) (r2:=300) rfl Tryz.underlying36 TI.hi5 TI.hz5 TI.hs5 TI.hby5 TI.hzs5 (by decide) rfl rfl rfl rfl (fun h hp=>chB_rd (hF h hp) x.2) (bs_one _) (by unfold maxLen; show 1 + _≤_; omega) (by show (1 + _) * 1≤_; omega) (fun v34=>?_)) ?_
    ·
      refine ⟨⟨rfl,rfl,trivial⟩,?_⟩
      refine AH_turn (P':=rowB 5 v34 (blkD d x.1)) 305 rfl (fun h hp=>rowB_mk hp (by unfold blkD; rw [List.length_cons,Nat.add_comm]; rfl) (by unfold blkD; rfl)) ?_
      refine (Y9 [0,5] ?_)
      refine Z9 rfl rfl (Or9 (Pb9 (r:=303) rfl Tryz.isAgg165 rfl rfl rfl) ⟨⟨rfl,rfl,trivial⟩,?_⟩) ?_
      ·
        refine (Y9 [5] ?_)
        refine Z9 rfl rfl (Oc9 400 [0,2,300,302,303,304] [301,305] rfl Tryz.call92 rfl rfl rfl (by decide) (by decide) (lay_spec g _ _ (blkD d x.1) (by have:=blkD_len d x.1; omega) _) (fun v35 Ps35 hR35=>?_)) ?_
        ·
          obtain ⟨rfl,rfl⟩:=hR35
          refine ⟨⟨rfl,rfl,trivial⟩,?_⟩
          skip
          refine (Y9 [6] ?_)
          refine Z9 rfl rfl (OpT_buildRows (r:=401) [bs (sha (blkD d x.1))] rfl rfl Tryz.runUnderlying165 Tryz.sizeOf29 Tryz.zeroValue29 rfl (by decide) rfl (by decide) (by intro r hr; simp at hr; rw [hr]; exact (bs_length _).trans (sha_length _)) rfl (fun v36=>⟨⟨rfl,rfl,trivial⟩,?_⟩)) ?_
          ·
            refine (Y9 [7] ?_)
            refine Z9 rfl rfl (Oa9 (r:=304) (r2:=401) rfl Tryz.underlying165 TI.hi29 TI.hz29 TI.hs29 TI.hby29 TI.hzs29 (by decide) rfl rfl rfl rfl (fun _ h=>rp9 h) (by intro u hu; simp at hu; exact bs_one _ u hu) (by unfold maxLen; rw [List.length_map,List.length_map]; omega) (by rw [List.length_map,List.length_map]; omega) (fun v37=>?_)) ?_
            ·
              refine ⟨⟨rfl,rfl,trivial⟩,?_⟩
              refine AH_turn (P':=rowI 29 v37 ((pre.map fun j=>blkD d j.1).map sha++[sha (blkD d x.1)])) 304 rfl (fun h hp=>rowI_mk hp (by rw [List.length_append]; rfl) (by rw [idsC_append,idsC_one]; simp)) ?_
              refine AH_fact (r:=304) rfl (fun h hp=>rd_one (rp9 hp)) (fun ho37=>?_)
              refine (Y9 [8] ?_)
              refine Ac09 rfl rfl rfl (OpT_storeB1 (r:=303) rfl Tryz.sizeOf165 rfl rfl rfl ho37 (by simp) rfl ?_) ?_
              ·
                refine ⟨⟨rfl,rfl,trivial⟩,?_⟩
                refine (Ad9 (by kernel_rfl) (X_onlyN (X_block ?_)))
                refine X_join [300,400,302,303,304] 400 (accP F g g101 g104 hist ((pre++[x]).map fun j=>blkD d j.1)) rfl (by decide) (fun h hs=>by rw [List.map_append]; exact acc_more ho37 hs) ?_
                exact fun a w hA hS=>⟨rfl,hS.pick (ids:=[0,400,2]) ⟨rfl,rfl,rfl,trivial⟩ (by decide)⟩
              exact An9
            exact An9
          exact An9
        exact An9
      refine Z9 rfl rfl (Oc9 400 [0,2,300,302,303,304] [301,305] rfl Tryz.call92 rfl rfl rfl (by decide) (by decide) (lay_spec g _ _ (blkD d x.1) (by have:=blkD_len d x.1; omega) _) (fun v35 Ps35 hR35=>?_)) ?_
      ·
        obtain ⟨rfl,rfl⟩:=hR35
        refine ⟨⟨rfl,rfl,trivial⟩,?_⟩
        skip
        refine (Y9 [0,6] ?_)
        refine Z9 rfl rfl (Or9 (Pb9 (r:=303) rfl Tryz.isAgg165 rfl rfl rfl) ⟨⟨rfl,rfl,trivial⟩,?_⟩) ?_
        ·
          refine (Y9 [6] ?_)
          refine Z9 rfl rfl (OpT_buildRows (r:=401) [bs (sha (blkD d x.1))] rfl rfl Tryz.runUnderlying165 Tryz.sizeOf29 Tryz.zeroValue29 rfl (by decide) rfl (by decide) (by intro r hr; simp at hr; rw [hr]; exact (bs_length _).trans (sha_length _)) rfl (fun v36=>⟨⟨rfl,rfl,trivial⟩,?_⟩)) ?_
          ·
            refine (Y9 [7] ?_)
            refine Z9 rfl rfl (Oa9 (r:=304) (r2:=401) rfl Tryz.underlying165 TI.hi29 TI.hz29 TI.hs29 TI.hby29 TI.hzs29 (by decide) rfl rfl rfl rfl (fun _ h=>rp9 h) (by intro u hu; simp at hu; exact bs_one _ u hu) (by unfold maxLen; rw [List.length_map,List.length_map]; omega) (by rw [List.length_map,List.length_map]; omega) (fun v37=>?_)) ?_
            ·
              refine ⟨⟨rfl,rfl,trivial⟩,?_⟩
              refine AH_turn (P':=rowI 29 v37 ((pre.map fun j=>blkD d j.1).map sha++[sha (blkD d x.1)])) 304 rfl (fun h hp=>rowI_mk hp (by rw [List.length_append]; rfl) (by rw [idsC_append,idsC_one]; simp)) ?_
              refine AH_fact (r:=304) rfl (fun h hp=>rd_one (rp9 hp)) (fun ho37=>?_)
              refine (Y9 [8] ?_)
              refine Ac09 rfl rfl rfl (OpT_storeB1 (r:=303) rfl Tryz.sizeOf165 rfl rfl rfl ho37 (by simp) rfl ?_) ?_
              ·
                refine ⟨⟨rfl,rfl,trivial⟩,?_⟩
                refine (Ad9 (by kernel_rfl) (X_onlyN (X_block ?_)))
                refine X_join [300,400,302,303,304] 400 (accP F g g101 g104 hist ((pre++[x]).map fun j=>blkD d j.1)) rfl (by decide) (fun h hs=>by rw [List.map_append]; exact acc_more ho37 hs) ?_
                exact fun a w hA hS=>⟨rfl,hS.pick (ids:=[0,400,2]) ⟨rfl,rfl,rfl,trivial⟩ (by decide)⟩
              exact An9
            exact An9
          exact An9
        refine Z9 rfl rfl (OpT_buildRows (r:=401) [bs (sha (blkD d x.1))] rfl rfl Tryz.runUnderlying165 Tryz.sizeOf29 Tryz.zeroValue29 rfl (by decide) rfl (by decide) (by intro r hr; simp at hr; rw [hr]; exact (bs_length _).trans (sha_length _)) rfl (fun v36=>⟨⟨rfl,rfl,trivial⟩,?_⟩)) ?_
        ·
          refine (Y9 [0] ?_)
          refine Z9 rfl rfl (Or9 (Pb9 (r:=303) rfl Tryz.isAgg165 rfl rfl rfl) ⟨⟨rfl,rfl,trivial⟩,?_⟩) ?_
          ·
            refine (Y9 [7] ?_)
            refine Z9 rfl rfl (Oa9 (r:=304) (r2:=401) rfl Tryz.underlying165 TI.hi29 TI.hz29 TI.hs29 TI.hby29 TI.hzs29 (by decide) rfl rfl rfl rfl (fun _ h=>rp9 h) (by intro u hu; simp at hu; exact bs_one _ u hu) (by unfold maxLen; rw [List.length_map,List.length_map]; omega) (by rw [List.length_map,List.length_map]; omega) (fun v37=>?_)) ?_
            ·
              refine ⟨⟨rfl,rfl,trivial⟩,?_⟩
              refine AH_turn (P':=rowI 29 v37 ((pre.map fun j=>blkD d j.1).map sha++[sha (blkD d x.1)])) 304 rfl (fun h hp=>rowI_mk hp (by rw [List.length_append]; rfl) (by rw [idsC_append,idsC_one]; simp)) ?_
              refine AH_fact (r:=304) rfl (fun h hp=>rd_one (rp9 hp)) (fun ho37=>?_)
              refine (Y9 [8] ?_)
              refine Ac09 rfl rfl rfl (OpT_storeB1 (r:=303) rfl Tryz.sizeOf165 rfl rfl rfl ho37 (by simp) rfl ?_) ?_
              ·
                refine ⟨⟨rfl,rfl,trivial⟩,?_⟩
                refine (Ad9 (by kernel_rfl) (X_onlyN (X_block ?_)))
                refine X_join [300,400,302,303,304] 400 (accP F g g101 g104 hist ((pre++[x]).map fun j=>blkD d j.1)) rfl (by decide) (fun h hs=>by rw [List.map_append]; exact acc_more ho37 hs) ?_
                exact fun a w hA hS=>⟨rfl,hS.pick (ids:=[0,400,2]) ⟨rfl,rfl,rfl,trivial⟩ (by decide)⟩
              exact An9
            exact An9
          exact An9
        exact An9
      exact An9
    exact An9
  ·
    intro D0 xs Lp Lp1 hxs
    obtain ⟨hx1,hx2,hx3⟩:=hxs
    refine XD_turn (P':=accP F g g101 g104 hist (rowsD d)) 630 rfl (fun h hp=>by rw [show rowsD d=xs.map fun j=>blkD d j.1 from (pieces_all (by decide) hx1 hx2 hx3 rfl).symm]; exact hp) ?_
    refine XD_turn (P':=marksP [D0]) 600 rfl (fun h hp=>marks_one hp) ?_
    refine XD_ren 600 900 rfl ?_
    refine XD_open 630 700 rfl (fun h hp=>hp) (fun lv0 hlv0=>?_)
    refine XD_ren 700 0 rfl ?_
    refine (XD_block (XD_then ?_))
    refine WD_seq ?_
    refine WD_block ?_
    refine WD_loop (α:=Value × List Nat × List (List UInt8) × Nat × Nat × List (List UInt8)) (fun y=>marks y.2.1) (fun y=>[(3,.pointer (some ⟨g101,0,none⟩)),(6,.pointer (some ⟨g102,0,none⟩)),(7,.pointer (some ⟨g103,0,none⟩)),(8,.pointer (some ⟨g104,0,none⟩))]) (fun y=>[(0,F),(701,bldP g (hist++y.2.2.1)),(702,blk g101 85 [.pointer (some ⟨g,0,none⟩)]),(703,blk g104 165 [y.1]),(704,rowI 29 y.1 y.2.2.2.2.2),(102,blk g102 29 (bs zeroId)),(103,blk g103 42 (nodeC kind (d.length:Int) (y.2.2.2.1:Int) zeroId)),(900,marksP y.2.1)]) (fun y=>y.1.oneCell'=true∧Up d y.2.2.1 y.2.2.2.1 y.2.2.2.2.1 y.2.2.2.2.2∧y.2.2.2.2.1≤d.length + 1) (fun y=>y.2.2.2.2.1) (lv0,[D0],rowsD d,0,d.length + 1,(rowsD d).map sha) ⟨hlv0,Up.start d,Nat.le_refl _⟩ rfl ⟨rfl,rfl,rfl,rfl,trivial⟩ ⟨rfl,rfl,rfl,rfl,rfl,rfl,rfl,rfl,trivial⟩ (fun y hy=>?_)
    obtain ⟨hyo,hu,hyf⟩:=hy
    have hids:=hu.ids
    have hfl:=hu.fuel
    refine WD_seq ?_
    refine WD_seq ?_
    refine WD.pre (K':=[(3,_),(6,_),(7,_),(8,_)]) (L':=[(0,_),(102,_),(103,_),(701,_),(702,_),(703,_),(704,_),(900,_)]) ?_ ⟨rfl,rfl,rfl,rfl,trivial⟩ ⟨rfl,rfl,rfl,rfl,rfl,rfl,rfl,rfl,trivial⟩
    refine Dr9 (Dp9 rfl rfl (by decide) (Pb9 (r:=703) rfl Tryz.isAgg165 rfl rfl rfl) (Dp9 rfl rfl (by decide) (Pl9 (r:=704) rfl Tryz.runUnderlying165 rfl rfl (fun _ h=>rp9 h)) (Dp9 rfl rfl (by decide) (Pn9 rfl rfl rfl (run_gtr _ _ _ _ _ _)) (WLD_nil (XD_then ?_)))))
    refine WD_cond rfl (fun hc40=>?_) (fun hc40=>?_)
    ·
      have hgt:1 < y.2.2.2.2.2.length:=by have:=of_decide_eq_true hc40; omega
      obtain ⟨f1,hf1⟩:∃ f1,y.2.2.2.2.1=f1 + 1:=⟨y.2.2.2.2.1 - 1,by omega⟩
      refine WD_skip (XD_then ?_)
      refine WD_block ?_
      refine WD_seq ?_
      refine WD.pre (K':=[(3,_),(6,_),(7,_),(8,_),(40,_)]) (L':=[(0,_),(102,_),(103,_),(701,_),(702,_),(703,_),(704,_),(900,_)]) ?_ ⟨rfl,rfl,rfl,rfl,rfl,trivial⟩ ⟨rfl,rfl,rfl,rfl,rfl,rfl,rfl,rfl,trivial⟩
      refine Dr9 (Dc9 rfl rfl (by decide) (OpT_alloc (r:=951) rfl Tryz.zeroValue165 rfl (fun g951=>(WLD_nil (XD_then ?_)))))
      refine WD_seq ?_
      refine WD_seq ?_
      refine WD.pre (K':=[(3,_),(6,_),(7,_),(8,_),(11,_),(40,_)]) (L':=[(0,_),(102,_),(103,_),(701,_),(702,_),(703,_),(704,_),(900,_),(951,_)]) ?_ ⟨rfl,rfl,rfl,rfl,rfl,rfl,trivial⟩ ⟨rfl,rfl,rfl,rfl,rfl,rfl,rfl,rfl,rfl,trivial⟩
      refine Dr9 (Dp9 rfl rfl (by decide) (Pb9 (r:=703) rfl Tryz.isAgg165 rfl rfl rfl) (Dc9 rfl rfl (by decide) (Oc9 1000 [0,102,103,701,702,703,704,900,951] [] rfl Tryz.call93 rfl rfl rfl (by decide) (by decide) (chunkI_spec _ (cells_one hyo) _) (fun v42 Ps42 hR42=>?_))))
      obtain ⟨b1i,b2i,rfl,rfl⟩:=hR42
      skip
      refine (WLD_nil (XD_then ?_))
      refine WD_block ?_
      refine WD_fact (r:=704) rfl (fun h hp=>rdI_sh (rp9 hp)) (fun hsh=>?_)
      obtain ⟨A2,c2,hlE,hnc2⟩:=hsh
      refine WD_turn (P':=blk b1i 165 [.slice A2 y.2.2.2.2.2.length c2]) 1000 rfl (fun h hp=>by rw [← hlE]; exact hp) ?_
      refine WD_join [0,704] 705 (starL [F,rowI 29 y.1 y.2.2.2.2.2]) rfl (by decide) (fun h hs=>hs) ?_
      refine WD_turn (P':=bldP g (hist++y.2.2.1++[])) 701 rfl (fun h hp=>by rw [List.append_nil]; exact hp) ?_
      refine WD_nilRow 499 29 32 ?_
      refine WD_join [705,701,702,951,499] 500 (accP (starL [F,rowI 29 y.1 y.2.2.2.2.2]) g g101 g951 (hist++y.2.2.1) []) rfl (by decide) (fun h hs=>⟨.slice none 0 0,rfl,hs⟩) ?_
      refine WD_rangeFunc (α:={j:Nat // j * 8 < y.2.2.2.2.2.length}) (Y:=Nat) (enc:=fun j=>chV 32 8 (y.2.2.2.2.2.length) j.1 A2) (G:=fun pre=>accP (starL [F,rowI 29 y.1 y.2.2.2.2.2]) g g101 g951 (hist++y.2.2.1) (pre.map fun j=>blkI y.2.2.2.2.2 j.1)) (N:=y.2.2.2.2.2.length + 1) (S:=(fun xs=>xs.map (·.1)=List.range xs.length∧y.2.2.2.2.2.length≤xs.length * 8∧((xs.length - 1) * 8 < y.2.2.2.2.2.length∨xs.length=0))) (Cs':=[blk b1i 165 [.slice A2 (y.2.2.2.2.2.length) c2],blk b2i 3 [.int .i64 8]]) rfl (by decide) Tryz.call128 [703,102,103,900] 500 [1000,1001] 1600 rfl rfl rfl (by decide) (by decide) (fun F=>chunkI_seq b1i b2i y.2.2.2.2.2.length c2 A2 hnc2 (by omega) F) (fun x y0=>[(3,.pointer (some ⟨g101,0,none⟩)),(11,.pointer (some ⟨g951,0,none⟩)),(12,chV 32 8 (y.2.2.2.2.2.length) x.1 A2)]) (fun F1 LP pre x y0=>[(0,F1),(1,accP (starL [F,rowI 29 y.1 y.2.2.2.2.2]) g g101 g951 (hist++y.2.2.1) (pre.map fun j=>blkI y.2.2.2.2.2 j.1)),(2,LP)]) (fun _ _ _ _ _=>rfl) ?_ ?_ ?_
      ·
        intro E1 F1 l1 LP pre x hlen
        refine WI_regL ?_
        refine WLI_pure (by rfl) rfl rfl (by decide) (Pg9 rfl rfl) ?_
        refine WLI_nil (fun a w hA hS=>⟨0,hA.sub (AllIn.look ⟨rfl,rfl,rfl,trivial⟩),hS.sub (AllIn.look ⟨rfl,rfl,rfl,trivial⟩)⟩)
      ·
        intro E1 F1 l1 LP LP1 pre x y0 hlen
        refine WI_open 1 300 rfl (fun h hp=>hp) (fun lv hlv=>?_)
        have hbl:((pre.map fun j=>blkI y.2.2.2.2.2 j.1)).length=pre.length:=List.length_map _
        have hpi:Ids ((y.2.2.2.2.2.drop (x.1 * 8)).take 8):=fun q hq=>hids q (List.mem_of_mem_drop (List.mem_of_mem_take hq))
        refine WI_block ?_
        refine WI_seq ?_
        refine WI.pre (K':=[(3,_),(11,_),(12,_)]) (L':=[(0,_),(2,_),(300,_),(301,_),(302,_),(303,_),(304,_)]) ?_ ⟨rfl,rfl,rfl,trivial⟩ ⟨rfl,rfl,rfl,rfl,rfl,rfl,rfl,trivial⟩
        refine WI_regL (WLI_pure (by rfl) rfl rfl (by decide) (Pm9 rfl rfl) (WLI_cons (by intro c h; cases h) rfl rfl (by decide) (Oc9 400 [0,2,300,301,302,303,304] [] rfl Tryz.call94 rfl rfl rfl (by decide) (by decide) (inner_spec _ ((y.2.2.2.2.2.drop (x.1 * 8)).take 8) hpi _ (rs9 2 rfl (fun h hp=>chI_rd hids (rs9 1 rfl (fun h2 hp2=>hlE ▸ rp9 hp2) h hp) x.2))) (fun v46 Ps46 hR46=>?_))))
        obtain ⟨w46,rfl,rfl⟩:=hR46
        refine (WLI_pure (by rfl) rfl rfl (by decide) (Pm9 rfl rfl) (WLI_pure (by rfl) rfl rfl (by decide) (Pe9 rfl rfl rfl) (WLI_pure (by rfl) rfl rfl (by decide) (Pe9 rfl rfl rfl) (WLI_pure (by rfl) rfl rfl (by decide) (Pg9 rfl rfl) (WLI_pure (by rfl) rfl rfl (by decide) (Pg9 rfl rfl) (WLI_nil (XI_then ?_)))))))
        refine WI.pre (K':=[(3,_),(11,_),(12,_),(13,_)]) (L':=[(0,_),(2,_),(300,_),(301,_),(302,_),(303,_),(304,_),(400,_)]) ?_ ⟨rfl,rfl,rfl,rfl,trivial⟩ ⟨rfl,rfl,rfl,rfl,rfl,rfl,rfl,rfl,trivial⟩
        refine WI_draw (N:=7) (by kernel_rfl) (by kernel_rfl) rfl [(300,_),(302,_)] ⟨rfl,rfl,trivial⟩ ?_
        refine (T9 1 rfl rfl (Pb9 (r:=302) rfl Tryz.isAgg85 rfl rfl rfl) (T9 2 rfl rfl (Pm9 rfl rfl) (Y9 [0,3] ?_)))
        refine Z9 rfl rfl (Or9 (Pb9 (r:=303) rfl Tryz.isAgg165 rfl rfl rfl) ⟨⟨rfl,rfl,trivial⟩,?_⟩) ?_
        ·
          refine (Y9 [3] ?_)
          refine Z9 rfl rfl (Oc9 500 [0,2,300,302,303,304] [301,400] rfl Tryz.call92 rfl rfl rfl (by decide) (by decide) (lay_spec g _ _ (blkI y.2.2.2.2.2 x.1) (by have:=blkI_len hids x.1; omega) _) (fun v52 Ps52 hR52=>?_)) ?_
          ·
            obtain ⟨rfl,rfl⟩:=hR52
            refine ⟨⟨rfl,rfl,trivial⟩,?_⟩
            skip
            refine (Y9 [4] ?_)
            refine Z9 rfl rfl (OpT_buildRows (r:=501) [bs (sha (blkI y.2.2.2.2.2 x.1))] rfl rfl Tryz.runUnderlying165 Tryz.sizeOf29 Tryz.zeroValue29 rfl (by decide) rfl (by decide) (by intro r hr; simp at hr; rw [hr]; exact (bs_length _).trans (sha_length _)) rfl (fun v53=>⟨⟨rfl,rfl,trivial⟩,?_⟩)) ?_
            ·
              refine (Y9 [5] ?_)
              refine Z9 rfl rfl (Oa9 (r:=304) (r2:=501) rfl Tryz.underlying165 TI.hi29 TI.hz29 TI.hs29 TI.hby29 TI.hzs29 (by decide) rfl rfl rfl rfl (fun _ h=>rp9 h) (by intro u hu; simp at hu; exact bs_one _ u hu) (by unfold maxLen; rw [List.length_map,List.length_map]; omega) (by rw [List.length_map,List.length_map]; omega) (fun v54=>?_)) ?_
              ·
                refine ⟨⟨rfl,rfl,trivial⟩,?_⟩
                refine AH_turn (P':=rowI 29 v54 ((pre.map fun j=>blkI y.2.2.2.2.2 j.1).map sha++[sha (blkI y.2.2.2.2.2 x.1)])) 304 rfl (fun h hp=>rowI_mk hp (by rw [List.length_append]; rfl) (by rw [idsC_append,idsC_one]; simp)) ?_
                refine AH_fact (r:=304) rfl (fun h hp=>rd_one (rp9 hp)) (fun ho54=>?_)
                refine (Y9 [6] ?_)
                refine Ac09 rfl rfl rfl (OpT_storeB1 (r:=303) rfl Tryz.sizeOf165 rfl rfl rfl ho54 (by simp) rfl ?_) ?_
                ·
                  refine ⟨⟨rfl,rfl,trivial⟩,?_⟩
                  refine (Ad9 (by kernel_rfl) (X_onlyN (X_block ?_)))
                  refine X_join [300,500,302,303,304] 400 (accP (starL [F,rowI 29 y.1 y.2.2.2.2.2]) g g101 g951 (hist++y.2.2.1) ((pre++[x]).map fun j=>blkI y.2.2.2.2.2 j.1)) rfl (by decide) (fun h hs=>by rw [List.map_append]; exact acc_more ho54 hs) ?_
                  exact fun a w hA hS=>⟨rfl,hS.pick (ids:=[0,400,2]) ⟨rfl,rfl,rfl,trivial⟩ (by decide)⟩
                exact An9
              exact An9
            exact An9
          exact An9
        refine Z9 rfl rfl (Oc9 500 [0,2,300,302,303,304] [301,400] rfl Tryz.call92 rfl rfl rfl (by decide) (by decide) (lay_spec g _ _ (blkI y.2.2.2.2.2 x.1) (by have:=blkI_len hids x.1; omega) _) (fun v52 Ps52 hR52=>?_)) ?_
        ·
          obtain ⟨rfl,rfl⟩:=hR52
          refine ⟨⟨rfl,rfl,trivial⟩,?_⟩
          skip
          refine (Y9 [0,4] ?_)
          refine Z9 rfl rfl (Or9 (Pb9 (r:=303) rfl Tryz.isAgg165 rfl rfl rfl) ⟨⟨rfl,rfl,trivial⟩,?_⟩) ?_
          ·
            refine (Y9 [4] ?_)
            refine Z9 rfl rfl (OpT_buildRows (r:=501) [bs (sha (blkI y.2.2.2.2.2 x.1))] rfl rfl Tryz.runUnderlying165 Tryz.sizeOf29 Tryz.zeroValue29 rfl (by decide) rfl (by decide) (by intro r hr; simp at hr; rw [hr]; exact (bs_length _).trans (sha_length _)) rfl (fun v53=>⟨⟨rfl,rfl,trivial⟩,?_⟩)) ?_
            ·
              refine (Y9 [5] ?_)
              refine Z9 rfl rfl (Oa9 (r:=304) (r2:=501) rfl Tryz.underlying165 TI.hi29 TI.hz29 TI.hs29 TI.hby29 TI.hzs29 (by decide) rfl rfl rfl rfl (fun _ h=>rp9 h) (by intro u hu; simp at hu; exact bs_one _ u hu) (by unfold maxLen; rw [List.length_map,List.length_map]; omega) (by rw [List.length_map,List.length_map]; omega) (fun v54=>?_)) ?_
              ·
                refine ⟨⟨rfl,rfl,trivial⟩,?_⟩
                refine AH_turn (P':=rowI 29 v54 ((pre.map fun j=>blkI y.2.2.2.2.2 j.1).map sha++[sha (blkI y.2.2.2.2.2 x.1)])) 304 rfl (fun h hp=>rowI_mk hp (by rw [List.length_append]; rfl) (by rw [idsC_append,idsC_one]; simp)) ?_
                refine AH_fact (r:=304) rfl (fun h hp=>rd_one (rp9 hp)) (fun ho54=>?_)
                refine (Y9 [6] ?_)
                refine Ac09 rfl rfl rfl (OpT_storeB1 (r:=303) rfl Tryz.sizeOf165 rfl rfl rfl ho54 (by simp) rfl ?_) ?_
                ·
                  refine ⟨⟨rfl,rfl,trivial⟩,?_⟩
                  refine (Ad9 (by kernel_rfl) (X_onlyN (X_block ?_)))
                  refine X_join [300,500,302,303,304] 400 (accP (starL [F,rowI 29 y.1 y.2.2.2.2.2]) g g101 g951 (hist++y.2.2.1) ((pre++[x]).map fun j=>blkI y.2.2.2.2.2 j.1)) rfl (by decide) (fun h hs=>by rw [List.map_append]; exact acc_more ho54 hs) ?_
                  exact fun a w hA hS=>⟨rfl,hS.pick (ids:=[0,400,2]) ⟨rfl,rfl,rfl,trivial⟩ (by decide)⟩
                exact An9
              exact An9
            exact An9
          refine Z9 rfl rfl (OpT_buildRows (r:=501) [bs (sha (blkI y.2.2.2.2.2 x.1))] rfl rfl Tryz.runUnderlying165 Tryz.sizeOf29 Tryz.zeroValue29 rfl (by decide) rfl (by decide) (by intro r hr; simp at hr; rw [hr]; exact (bs_length _).trans (sha_length _)) rfl (fun v53=>⟨⟨rfl,rfl,trivial⟩,?_⟩)) ?_
          ·
            refine (Y9 [0] ?_)
            refine Z9 rfl rfl (Or9 (Pb9 (r:=303) rfl Tryz.isAgg165 rfl rfl rfl) ⟨⟨rfl,rfl,trivial⟩,?_⟩) ?_
            ·
              refine (Y9 [5] ?_)
              refine Z9 rfl rfl (Oa9 (r:=304) (r2:=501) rfl Tryz.underlying165 TI.hi29 TI.hz29 TI.hs29 TI.hby29 TI.hzs29 (by decide) rfl rfl rfl rfl (fun _ h=>rp9 h) (by intro u hu; simp at hu; exact bs_one _ u hu) (by unfold maxLen; rw [List.length_map,List.length_map]; omega) (by rw [List.length_map,List.length_map]; omega) (fun v54=>?_)) ?_
              ·
                refine ⟨⟨rfl,rfl,trivial⟩,?_⟩
                refine AH_turn (P':=rowI 29 v54 ((pre.map fun j=>blkI y.2.2.2.2.2 j.1).map sha++[sha (blkI y.2.2.2.2.2 x.1)])) 304 rfl (fun h hp=>rowI_mk hp (by rw [List.length_append]; rfl) (by rw [idsC_append,idsC_one]; simp)) ?_
                refine AH_fact (r:=304) rfl (fun h hp=>rd_one (rp9 hp)) (fun ho54=>?_)
                refine (Y9 [6] ?_)
                refine Ac09 rfl rfl rfl (OpT_storeB1 (r:=303) rfl Tryz.sizeOf165 rfl rfl rfl ho54 (by simp) rfl ?_) ?_
                ·
                  refine ⟨⟨rfl,rfl,trivial⟩,?_⟩
                  refine (Ad9 (by kernel_rfl) (X_onlyN (X_block ?_)))
                  refine X_join [300,500,302,303,304] 400 (accP (starL [F,rowI 29 y.1 y.2.2.2.2.2]) g g101 g951 (hist++y.2.2.1) ((pre++[x]).map fun j=>blkI y.2.2.2.2.2 j.1)) rfl (by decide) (fun h hs=>by rw [List.map_append]; exact acc_more ho54 hs) ?_
                  exact fun a w hA hS=>⟨rfl,hS.pick (ids:=[0,400,2]) ⟨rfl,rfl,rfl,trivial⟩ (by decide)⟩
                exact An9
              exact An9
            exact An9
          exact An9
        exact An9
      ·
        intro D1 xs1 Lp2 Lp3 hxs1
        obtain ⟨hz1,hz2,hz3⟩:=hxs1
        refine XD_turn (P':=accP (starL [F,rowI 29 y.1 y.2.2.2.2.2]) g g101 g951 (hist++y.2.2.1) (rowsI y.2.2.2.2.2)) 1630 rfl (fun h hp=>by rw [show rowsI y.2.2.2.2.2=xs1.map fun j=>blkI y.2.2.2.2.2 j.1 from (pieces_all (by decide) hz1 hz2 hz3 rfl).symm]; exact hp) ?_
        refine XD_open 1630 950 rfl (fun h hp=>hp) (fun lv1 hlv1=>?_)
        refine XD_open (α:=Unit) (φ:=fun _=>True) (Ps:=fun _=>[F,rowI 29 y.1 y.2.2.2.2.2]) 950 970 rfl (fun h hp=>⟨(),trivial,hp⟩) (fun _ _=>?_)
        refine XD_ren 970 0 rfl ?_
        refine (XD_block (XD_then ?_))
        refine WD_seq ?_
        refine WD.pre (K':=[(3,_),(6,_),(7,_),(8,_),(11,_)]) (L':=[(0,_),(102,_),(103,_),(703,_),(900,_),(951,_),(952,_),(953,_),(954,_),(1600,_)]) ?_ ⟨rfl,rfl,rfl,rfl,rfl,trivial⟩ ⟨rfl,rfl,rfl,rfl,rfl,rfl,rfl,rfl,rfl,rfl,trivial⟩
        refine Dr9 (Dp9 rfl rfl (by decide) (Pb9 (r:=953) rfl Tryz.isAgg165 rfl rfl rfl) (WLD_cons0 rfl rfl (OpT_storeB1 (r:=703) rfl Tryz.sizeOf165 rfl rfl rfl hlv1 (by simp) rfl ?_)))
        refine (WLD_nil (XD_then ?_))
        refine WD.pre (K':=[(3,_),(6,_),(7,_),(8,_),(11,_)]) (L':=[(0,_),(102,_),(103,_),(703,_),(900,_),(951,_),(952,_),(953,_),(954,_),(1600,_)]) ?_ ⟨rfl,rfl,rfl,rfl,rfl,trivial⟩ ⟨rfl,rfl,rfl,rfl,rfl,rfl,rfl,rfl,rfl,rfl,trivial⟩
        refine Dr9 (Dp9 rfl rfl (by decide) (F9 2 rfl rfl) (Dp9 rfl rfl (by decide) (Pb9 (r:=103) rfl Tryz.isAgg3 rfl rfl rfl) (Dp9 rfl rfl (by decide) (Pn9 rfl rfl rfl (run_add _ _ _ _ _ (by have:=levels_le hu; have h2:(aboveD d).2.1≤d.length + 1:=above_levels _ _; omega))) (Dp9 rfl rfl (by decide) (F9 2 rfl rfl) (WLD_cons0 rfl rfl (OpT_storeB1 (r:=103) rfl Tryz.sizeOf3 rfl rfl rfl rfl (by rw [nodeC_length zeroId_length]; decide) (show _=nodeC kind (d.length:Int) ((y.2.2.2.1 + 1:Nat):Int) zeroId from rfl) ?_))))))
        refine (WLD_nil (XD_block ?_))
        refine XD_turn (P':=bldP g (hist++(y.2.2.1++rowsI y.2.2.2.2.2))) 951 rfl (fun h hp=>by rw [← List.append_assoc]; exact hp) ?_
        refine XD_ren 951 701 rfl ?_
        refine XD_ren 952 702 rfl ?_
        refine XD_ren 954 704 rfl ?_
        refine XD_join [1600,900] 900 (marksP (D1::y.2.1)) rfl (by decide) (fun h hs=>marks_more hs) ?_
        exact XD_round (lv1,D1::y.2.1,y.2.2.1++rowsI y.2.2.2.2.2,y.2.2.2.1 + 1,f1,(rowsI y.2.2.2.2.2).map sha) ⟨hlv1,(show Up d y.2.2.1 y.2.2.2.1 (f1 + 1) y.2.2.2.2.2 from hf1 ▸ hu).step hgt,by dsimp only; omega⟩ (by show f1 < y.2.2.2.2.1; omega) rfl ⟨rfl,rfl,rfl,rfl,trivial⟩ ⟨rfl,rfl,rfl,rfl,rfl,rfl,rfl,rfl,trivial⟩
    ·
      have hle:¬ 1 < y.2.2.2.2.2.length:=by have:=of_decide_eq_false hc40; omega
      obtain ⟨e1,e2,e3⟩:=hu.done hle
      refine WD_exit (XD_then_exit (XD_then_exit (XD_block_exit (XD_then ?_))))
      refine WD_seq ?_
      refine WD_seq ?_
      refine WD.pre (K':=[(3,_),(6,_),(7,_),(8,_),(40,_)]) (L':=[(0,_),(102,_),(103,_),(701,_),(702,_),(703,_),(704,_),(900,_)]) ?_ ⟨rfl,rfl,rfl,rfl,rfl,trivial⟩ ⟨rfl,rfl,rfl,rfl,rfl,rfl,rfl,rfl,trivial⟩
      refine Dr9 (Dp9 rfl rfl (by decide) (Pb9 (r:=703) rfl Tryz.isAgg165 rfl rfl rfl) (Dp9 rfl rfl (by decide) (Pl9 (r:=704) rfl Tryz.runUnderlying165 rfl rfl (fun _ h=>rp9 h)) (Dp9 rfl rfl (by decide) (Pn9 rfl rfl rfl (run_eql _ _ _ _ _ _)) (WLD_nil (XD_then ?_)))))
      refine WD_cond rfl (fun hc62=>?_) (fun hc62=>?_)
      ·
        have h1l:y.2.2.2.2.2.length=1:=by have:=of_decide_eq_true hc62; omega
        have hid0:=hids.get (show 0 < y.2.2.2.2.2.length by omega)
        refine WD.pre (K':=[(3,_),(6,_),(7,_),(8,_),(40,_),(62,_)]) (L':=[(0,_),(102,_),(103,_),(701,_),(702,_),(703,_),(704,_),(900,_)]) ?_ ⟨rfl,rfl,rfl,rfl,rfl,rfl,trivial⟩ ⟨rfl,rfl,rfl,rfl,rfl,rfl,rfl,rfl,trivial⟩
        refine Dr9 (Dp9 rfl rfl (by decide) (Pb9 (r:=703) rfl Tryz.isAgg165 rfl rfl rfl) (Dp9 rfl rfl (by decide) (Pi9 (r:=704) rfl Tryz.runUnderlying165 Tryz.sizeOf29 rfl rfl rfl (fun _ h=>rp9 h) (by omega)) (Dp9 rfl rfl (by decide) (Pz9 (r:=704) rfl Tryz.isAgg29 Tryz.sizeOf29 rfl rfl (fun _ h=>rp9 h) ((bs_length _).trans hid0) (by decide) (idsC_get (k:=0) hids (by omega))) (Dp9 rfl rfl (by decide) (F9 3 rfl rfl) (WLD_cons0 rfl rfl (OpT_storeF (r:=103) rfl Tryz.sizeOf29 rfl rfl rfl ((bs_length _).trans hid0) (by rw [nodeC_length zeroId_length]; decide) (bs_one _) (node_over zeroId_length hid0) ?_))))))
        refine (WLD_nil (XD_then ?_))
        refine WD_seq ?_
        refine WD.pre (K':=[(3,_),(6,_),(7,_),(8,_),(40,_),(62,_)]) (L':=[(0,_),(102,_),(103,_),(701,_),(702,_),(703,_),(704,_),(900,_)]) ?_ ⟨rfl,rfl,rfl,rfl,rfl,rfl,trivial⟩ ⟨rfl,rfl,rfl,rfl,rfl,rfl,rfl,rfl,trivial⟩
        have htop:topF d=(y.2.2.2.2.2.getD 0 []):=by unfold topF; rw [← e3]; rw [getD_dflt (by omega)]
        have htl:((y.2.2.2.2.2.getD 0 [])).length=32:=hid0
        refine Dr9 (Dp9 rfl rfl (by decide) (Px9 (r:=103) rfl Tryz.isAgg42 Tryz.sizeOf42 rfl rfl (nodeC_length htl) (load_all (nodeC_length htl))) (Dc9 rfl rfl (by decide) (Oc9 1000 [0,102,103,701,702,703,704,900] [] rfl Tryz.call95 rfl rfl rfl (by decide) (by decide) (inode_spec kind (d.length:Int) (y.2.2.2.1:Int) (y.2.2.2.2.2.getD 0 []) htl _) (fun v69 Ps69 hR69=>?_))))
        obtain ⟨w69,rfl,rfl⟩:=hR69
        rw [e2,← htop]
        refine (Dp9 rfl rfl (by decide) (Pm9 rfl rfl) (Dp9 rfl rfl (by decide) (Pe9 rfl rfl rfl) (Dp9 rfl rfl (by decide) (Pe9 rfl rfl rfl) (Dp9 rfl rfl (by decide) (Pg9 rfl rfl) (Dp9 rfl rfl (by decide) (Pg9 rfl rfl) (WLD_nil (XD_then ?_)))))))
        refine WD_seq ?_
        refine WD.pre (K':=[(3,_),(6,_),(7,_),(8,_),(15,_),(40,_),(62,_)]) (L':=[(0,_),(102,_),(103,_),(701,_),(702,_),(703,_),(704,_),(900,_),(1000,_)]) ?_ ⟨rfl,rfl,rfl,rfl,rfl,rfl,rfl,trivial⟩ ⟨rfl,rfl,rfl,rfl,rfl,rfl,rfl,rfl,rfl,trivial⟩
        refine Dr9 (Dp9 rfl rfl (by decide) (Pb9 (r:=702) rfl Tryz.isAgg85 rfl rfl rfl) (Dp9 rfl rfl (by decide) (Pm9 rfl rfl) (Dc9 rfl rfl (by decide) (Oc9 1100 [0,102,103,702,703,704,900] [701,1000] rfl Tryz.call92 rfl rfl rfl (by decide) (by decide) (lay_spec g _ _ (nodeF kind d) (by have:=inodeR_len kind (d.length:Int) ((aboveD d).2.1:Int) (topF d) (by rw [htop]; exact htl); unfold nodeF; omega) _) (fun v74 Ps74 hR74=>?_)))))
        obtain ⟨rfl,rfl⟩:=hR74
        skip
        refine (WLD_cons0 rfl rfl (OpT_storeAll (r:=102) rfl Tryz.sizeOf29 rfl rfl rfl (by first | rfl | (rw [bs_length,htop]; exact htl)) ((bs_length _).trans (sha_length _)) (bs_one _) ?_))
        refine (WLD_nil (XD_then ?_))
        refine WD_ret ?_
        refine XD_turn (P':=bldP g (hist++blocksF kind d)) 1100 rfl (fun h hp=>by unfold blocksF; rw [← e1,← List.append_assoc]; exact hp) ?_
        exact XD_retMs 900 (J:=[0,1100]) (Ps:=[_]) rfl (resC1 (r:=102) Tryz.results64 rfl Tryz.isAgg29 Tryz.sizeOf29 rfl ((bs_length _).trans (sha_length _))) ⟨rfl,rfl⟩ rfl (by decide) (by decide)
      ·
        have h0l:y.2.2.2.2.2.length=0:=by have:=of_decide_eq_false hc62; omega
        refine WD_skip (XD_then ?_)
        refine WD_seq ?_
        refine WD.pre (K':=[(3,_),(6,_),(7,_),(8,_),(40,_),(62,_)]) (L':=[(0,_),(102,_),(103,_),(701,_),(702,_),(703,_),(704,_),(900,_)]) ?_ ⟨rfl,rfl,rfl,rfl,rfl,rfl,trivial⟩ ⟨rfl,rfl,rfl,rfl,rfl,rfl,rfl,rfl,trivial⟩
        have htop:topF d=zeroId:=by unfold topF; rw [← e3]; rw [List.length_eq_zero_iff.1 h0l]; rfl
        have htl:(zeroId).length=32:=zeroId_length
        refine Dr9 (Dp9 rfl rfl (by decide) (Px9 (r:=103) rfl Tryz.isAgg42 Tryz.sizeOf42 rfl rfl (nodeC_length htl) (load_all (nodeC_length htl))) (Dc9 rfl rfl (by decide) (Oc9 1000 [0,102,103,701,702,703,704,900] [] rfl Tryz.call95 rfl rfl rfl (by decide) (by decide) (inode_spec kind (d.length:Int) (y.2.2.2.1:Int) zeroId htl _) (fun v69 Ps69 hR69=>?_))))
        obtain ⟨w69,rfl,rfl⟩:=hR69
        rw [e2,← htop]
        refine (Dp9 rfl rfl (by decide) (Pm9 rfl rfl) (Dp9 rfl rfl (by decide) (Pe9 rfl rfl rfl) (Dp9 rfl rfl (by decide) (Pe9 rfl rfl rfl) (Dp9 rfl rfl (by decide) (Pg9 rfl rfl) (Dp9 rfl rfl (by decide) (Pg9 rfl rfl) (WLD_nil (XD_then ?_)))))))
        refine WD_seq ?_
        refine WD.pre (K':=[(3,_),(6,_),(7,_),(8,_),(15,_),(40,_),(62,_)]) (L':=[(0,_),(102,_),(103,_),(701,_),(702,_),(703,_),(704,_),(900,_),(1000,_)]) ?_ ⟨rfl,rfl,rfl,rfl,rfl,rfl,rfl,trivial⟩ ⟨rfl,rfl,rfl,rfl,rfl,rfl,rfl,rfl,rfl,trivial⟩
        refine Dr9 (Dp9 rfl rfl (by decide) (Pb9 (r:=702) rfl Tryz.isAgg85 rfl rfl rfl) (Dp9 rfl rfl (by decide) (Pm9 rfl rfl) (Dc9 rfl rfl (by decide) (Oc9 1100 [0,102,103,702,703,704,900] [701,1000] rfl Tryz.call92 rfl rfl rfl (by decide) (by decide) (lay_spec g _ _ (nodeF kind d) (by have:=inodeR_len kind (d.length:Int) ((aboveD d).2.1:Int) (topF d) (by rw [htop]; exact htl); unfold nodeF; omega) _) (fun v74 Ps74 hR74=>?_)))))
        obtain ⟨rfl,rfl⟩:=hR74
        skip
        refine (WLD_cons0 rfl rfl (OpT_storeAll (r:=102) rfl Tryz.sizeOf29 rfl rfl rfl (by first | rfl | (rw [bs_length,htop]; exact htl)) ((bs_length _).trans (sha_length _)) (bs_one _) ?_))
        refine (WLD_nil (XD_then ?_))
        refine WD_ret ?_
        refine XD_turn (P':=bldP g (hist++blocksF kind d)) 1100 rfl (fun h hp=>by unfold blocksF; rw [← e1,← List.append_assoc]; exact hp) ?_
        exact XD_retMs 900 (J:=[0,1100]) (Ps:=[_]) rfl (resC1 (r:=102) Tryz.results64 rfl Tryz.isAgg29 Tryz.sizeOf29 rfl ((bs_length _).trans (sha_length _))) ⟨rfl,rfl⟩ rfl (by decide) (by decide)
open Go.RowKit
theorem sV_inj (a b:List UInt8) (h:sV a=sV b):a=b:=by
  injection h with h
  exact strB_inj h
theorem sV_beq (a b:List UInt8):(strB a == strB b)=decide (a=b):=by
  rw [strB_beq]
  by_cases h:a=b <;> simp [h]
theorem findNow_str (z:List UInt8):∀ (es:List (List UInt8 × Value)) (a:List MapEntry) (i:Nat),a.map (fun e=>(e.key,e.val))=es.map (fun p=>(sV p.1,p.2))→Instr.findNow .string (sV z) a i=some (findG z es i)
  | [],a,i,ha=>by simp at ha; subst ha; rfl
  | p::es,a,i,ha=>by
    cases a with
    | nil=>simp at ha
    | cons e a =>
      simp only [List.map_cons,List.cons.injEq,Prod.mk.injEq] at ha
      rw [Instr.findNow,ha.1.1,findG]
      have hs:Instr.sameNow .string (sV z) (sV p.1)=some (decide (z=p.1)):=by
        rw [← sV_beq]
        rfl
      rw [hs]
      by_cases h:z=p.1
      · simp [h,ha.1.2]
      · rw [if_neg h,decide_eq_false h]
        exact findNow_str z es a (i + 1) ha.2
theorem keyT_str {P:Program} {kt:TypeId} (hk:P.underlying kt=some .string):KeyT P kt sV (fun _=>True) where
  check em k w _:=MapKept.run_checkKey (k:=sV k) hk trivial em _
  find k w es a _ _ ha:=MapKept.run_findKey hk (findNow_str k es a 0 ha)
  inj:=sV_inj
  stays k w:=MapKept.run_keyThatStays (d:=.string) (k:=sV k) trivial
theorem keyS:KeyT Tryz.prog 9 sV (fun _=>True):=keyT_str Tryz.underlying9
abbrev mapS (g:Nat) (es:List (List UInt8 × Value)) (it:Option (It (List UInt8))):HP:=mapQ sV (fun _=>True) g es it
theorem starL_out {L1 L2:List HP} {P:HP} {h:Hlt} (hs:starL (L1++P::L2) h):starL [P,starL (L1++L2)] h:=by
  obtain ⟨f,h1,h2,h3⟩:=hs
  have hP:P (f L1.length):=h1 L1.length P (by simp)
  have hsk:∀ i i':Nat,i≠i'→(if i < L1.length then i else i + 1)≠(if i' < L1.length then i' else i' + 1):=fun i i' hne=>by split <;> split <;> omega
  have hsL:∀ i:Nat,(if i < L1.length then i else i + 1)≠L1.length:=fun i=>by split <;> omega
  refine ⟨fun k=>match k with | 0=>f L1.length | 1=>(fun g=>if (f L1.length g).isSome then none else h g) | _=>fun _=>none,?_,?_,?_⟩
  · intro k Q hk
    match k,hk with
    | 0,hk=>simp at hk; subst hk; exact hP
    | 1,hk =>
      simp at hk
      subst hk
      refine ⟨fun j=>f (if j < L1.length then j else j + 1),fun j Q hj=>?_,fun j j' g hne hg=>?_,fun j g o hg=>?_⟩
      · by_cases hjl:j < L1.length
        · simp only [hjl,if_true]
          exact h1 j Q (by rw [List.getElem?_append_left hjl] at hj ⊢; exact hj)
        · simp only [hjl,if_false]
          refine h1 (j + 1) Q ?_
          rw [List.getElem?_append_right (by omega)] at hj ⊢
          rw [show j + 1 - L1.length=(j - L1.length) + 1 by omega]
          simpa using hj
      · exact h2 _ _ g (hsk j j' hne) hg
      · have hg2:f (if j < L1.length then j else j + 1) g=some o:=hg
        have hd:f L1.length g=none:=h2 _ _ g (hsL j) (by rw [hg2]; rfl)
        simp only [hd,Option.isSome_none,Bool.false_eq_true,if_false]
        exact h3 _ _ _ hg2
    | k + 2,hk=>simp at hk
  · intro k k' g hne hg
    match k,k',hne with
    | 0,0,hne=>exact absurd rfl hne
    | 0,1,_=>simp only at hg ⊢; rw [if_pos hg]
    | 1,0,_ =>
      simp only at hg ⊢
      cases hv:f L1.length g with
      | none=>rfl
      | some o=>rw [hv] at hg; simp at hg
    | 1,1,hne=>exact absurd rfl hne
    | 0,k + 2,_=>rfl
    | 1,k + 2,_=>rfl
    | k + 2,k',_=>simp at hg
  · intro k g o hg
    match k with
    | 0=>exact h3 _ _ _ hg
    | 1 =>
      simp only at hg
      split at hg
      · cases hg
      · exact hg
    | k + 2=>cases hg
theorem starL_in {L1 L2:List HP} {P:HP} {h:Hlt} (hs:starL [P,starL (L1++L2)] h):starL (L1++P::L2) h:=by
  obtain ⟨e,h1,h2,h3⟩:=hs
  have hP:=h1 0 _ rfl
  obtain ⟨f,f1,f2,f3⟩:=h1 1 _ rfl
  have hdis:∀ j g,(f j g).isSome=true→e 0 g=none:=fun j g hg=>by
    obtain ⟨o,ho⟩:=Option.isSome_iff_exists.1 hg
    exact h2 1 0 g (by decide) (by rw [f3 _ _ _ ho]; rfl)
  refine ⟨fun j=>if j < L1.length then f j else if j=L1.length then e 0 else f (j - 1),fun j Q hj=>?_,fun j j' g hne hg=>?_,fun j g o hg=>?_⟩
  · by_cases hl:j < L1.length
    · simp only [hl,if_true]
      exact f1 j Q (by rw [List.getElem?_append_left hl] at hj ⊢; exact hj)
    · by_cases he:j=L1.length
      · subst he
        simp at hj
        subst hj
        simpa using hP
      · simp only [hl,he,if_false]
        refine f1 (j - 1) Q ?_
        rw [List.getElem?_append_right (by omega)] at hj ⊢
        rw [show j - L1.length=(j - 1 - L1.length) + 1 by omega] at hj
        simpa using hj
  · by_cases hl:j < L1.length
    · simp only [hl,if_true] at hg
      by_cases hl':j' < L1.length
      · simp only [hl',if_true]; exact f2 j j' g hne hg
      · by_cases he':j'=L1.length
        · simp only [hl',he',if_false,if_true,Nat.lt_irrefl]; exact hdis j g hg
        · simp only [hl',he',if_false]; exact f2 j (j' - 1) g (by omega) hg
    · by_cases he:j=L1.length
      · have hl0:¬ L1.length < L1.length:=Nat.lt_irrefl _
        simp only [he,hl0,if_false,if_true] at hg
        have hx:∀ i,f i g=none:=fun i=>by
          cases hv:f i g with
          | none=>rfl
          | some o=>have:=hdis i g (by rw [hv]; rfl); rw [this] at hg; cases hg
        by_cases hl':j' < L1.length
        · simp only [hl',if_true]; exact hx _
        · have he':j'≠L1.length:=fun q=>hne (he.trans q.symm)
          simp only [hl',he',if_false]; exact hx _
      · simp only [hl,he,if_false] at hg
        by_cases hl':j' < L1.length
        · simp only [hl',if_true]; exact f2 (j - 1) j' g (by omega) hg
        · by_cases he':j'=L1.length
          · simp only [hl',he',if_false,if_true,Nat.lt_irrefl]; exact hdis _ g hg
          · simp only [hl',he',if_false]; exact f2 (j - 1) (j' - 1) g (by omega) hg
  · by_cases hl:j < L1.length
    · simp only [hl,if_true] at hg; exact h3 1 _ _ (f3 _ _ _ hg)
    · by_cases he:j=L1.length
      · have hl0:¬ L1.length < L1.length:=Nat.lt_irrefl _
        simp only [he,hl0,if_false,if_true] at hg; exact h3 0 _ _ hg
      · simp only [hl,he,if_false] at hg; exact h3 1 _ _ (f3 _ _ _ hg)
inductive HT where
  | mk (g gd gf:Nat) (dirs:List (List UInt8 × HT)) (files:List (List UInt8 × Value × List UInt8)):HT
def HT.g:HT→Nat
  | .mk g _ _ _ _=>g
def dirM (dirs:List (List UInt8 × HT)):List (List UInt8 × Value):=dirs.map fun d=>(d.1,.pointer (some ⟨d.2.g,0,none⟩))
def filM (files:List (List UInt8 × Value × List UInt8)):List (List UInt8 × Value):=files.map fun f=>(f.1,f.2.1)
mutual
def htP:HT→HP
  | .mk g gd gf dirs files=>starL [blk g 135 [.map (some gd),.map (some gf)],mapS gd (dirM dirs) none,mapS gf (filM files) none,starL (htsP dirs)]
def htsP:List (List UInt8 × HT)→List HP
  | []=>[]
  | d::ds=>htP d.2::htsP ds
end
theorem htP_mk (g gd gf:Nat) (dirs:List (List UInt8 × HT)) (files:List (List UInt8 × Value × List UInt8)):htP (.mk g gd gf dirs files)=starL [blk g 135 [.map (some gd),.map (some gf)],mapS gd (dirM dirs) none,mapS gf (filM files) none,starL (htsP dirs)]:=by rw [htP]
theorem htsP_nil:htsP []=[]:=by rw [htsP]
theorem htsP_cons (d:List UInt8 × HT) (ds:List (List UInt8 × HT)):htsP (d::ds)=htP d.2::htsP ds:=by rw [htsP]
theorem htsP_app:∀ (a b:List (List UInt8 × HT)),htsP (a++b)=htsP a++htsP b
  | [],b=>by rw [htsP_nil]; rfl
  | d::a,b=>by rw [List.cons_append,htsP_cons,htsP_app a b,htsP_cons]; rfl
theorem kids_out {a c:List (List UInt8 × HT)} {d:List UInt8 × HT} {h:Hlt} (hs:starL (htsP (a++d::c)) h):starL [htP d.2,starL (htsP (a++c))] h:=by
  rw [htsP_app,htsP_cons] at hs
  rw [htsP_app]
  exact starL_out hs
theorem kids_in {a c:List (List UInt8 × HT)} {d:List UInt8 × HT} {h:Hlt} (hs:starL [htP d.2,starL (htsP (a++c))] h):starL (htsP (a++d::c)) h:=by
  rw [htsP_app] at hs
  rw [htsP_app,htsP_cons]
  exact starL_in hs
def lookA {α:Type} (k:List UInt8):List (List UInt8 × α)→Option α
  | []=>none
  | p::es=>if k=p.1 then some p.2 else lookA k es
theorem lookQ_mapA {α:Type} (k:List UInt8) (f:α→Value):∀ es:List (List UInt8 × α),lookQ k (es.map fun e=>(e.1,f e.2))=(lookA k es).map f
  | []=>rfl
  | p::es=>by
    show (if k=p.1 then some (f p.2) else lookQ k (es.map fun e=>(e.1,f e.2)))=_
    rw [lookA,lookQ_mapA k f es]
    split <;> rfl
theorem lookQ_dir (k:List UInt8) (dirs:List (List UInt8 × HT)):lookQ k (dirM dirs)=(lookA k dirs).map fun t=>.pointer (some ⟨t.g,0,none⟩):=lookQ_mapA k (fun t:HT=>Value.pointer (some ⟨t.g,0,none⟩)) dirs
theorem lookQ_fil (k:List UInt8) (files:List (List UInt8 × Value × List UInt8)):lookQ k (filM files)=(lookA k files).map (·.1):=lookQ_mapA k (fun p:Value × List UInt8=>p.1) files
theorem lookA_split {α:Type} {k:List UInt8} {t:α}:∀ {es:List (List UInt8 × α)},lookA k es=some t→∃ a c,es=a++(k,t)::c∧lookA k a=none
  | [],h=>by cases h
  | p::es,h=>by
    rw [lookA] at h
    by_cases hk:k=p.1
    · rw [if_pos hk] at h; injection h with h; subst h; exact ⟨[],es,by rw [hk]; rfl,rfl⟩
    · rw [if_neg hk] at h
      obtain ⟨a,c,rfl,h2⟩:=lookA_split h
      exact ⟨p::a,c,rfl,by rw [lookA,if_neg hk,h2]⟩
def canPut:List (List UInt8)→HT→Bool
  | [],_=>false
  | [n],.mk _ _ _ dirs files=>(lookA n files).isNone && (lookA n dirs).isNone
  | n::m::q,.mk _ _ _ dirs files=>(lookA n files).isNone && (match lookA n dirs with
    | none=>true
    | some t=>canPut (m::q) t)
def Put:List (List UInt8)→Value→List UInt8→HT→HT→Prop
  | [],_,_,_,_=>False
  | [n],v,d,.mk g gd gf dirs files,T'=>T' = .mk g gd gf dirs (files++[(n,v,d)])
  | n::m::q,v,d,.mk g gd gf dirs files,T' =>
    (∃ a c t t',dirs=a++(n,t)::c∧lookA n a=none∧Put (m::q) v d t t'∧T' = .mk g gd gf (a++(n,t')::c) files) ∨
    (lookA n dirs=none∧∃ g1 gd1 gf1 t',Put (m::q) v d (.mk g1 gd1 gf1 [] []) t'∧T' = .mk g gd gf (dirs++[(n,t')]) files)
open Go.RowKit
set_option maxRecDepth 8000
theorem starL_emp {Ps:List HP} {h:Hlt} (hs:starL Ps h):starL (Ps++[starL []]) h:=by
  obtain ⟨f,h1,h2,h3⟩:=hs
  refine ⟨fun k=>if k < Ps.length then f k else fun _=>none,fun k Q hk=>?_,fun k k' g hne hg=>?_,fun k g o hg=>?_⟩
  · by_cases hl:k < Ps.length
    · simp only [hl,if_true]
      exact h1 k Q (by rwa [List.getElem?_append_left hl] at hk)
    · rw [List.getElem?_append_right (by omega)] at hk
      have hk0:k - Ps.length=0:=by
        cases hkk:k - Ps.length with
        | zero=>rfl
        | succ j=>rw [hkk] at hk; simp at hk
      rw [hk0] at hk
      simp at hk
      subst hk
      exact ⟨fun _ _=>none,by simp,by simp,by simp⟩
  · by_cases hl:k < Ps.length
    · simp only [hl,if_true] at hg
      by_cases hl':k' < Ps.length
      · simp only [hl',if_true]; exact h2 k k' g hne hg
      · simp only [hl',if_false]
    · simp only [hl,if_false] at hg; simp at hg
  · by_cases hl:k < Ps.length
    · simp only [hl,if_true] at hg; exact h3 _ _ _ hg
    · simp only [hl,if_false] at hg; cases hg
section
variable {P:Program} {t e:TypeId}
theorem run_ptrNe (hu:P.underlying t=some (.pointer e)) (A:Addr) (x y:Operand) (w:World):((do eqGuard .neq t x y (.pointer (some A)) (.pointer none); binOp .neq t (.pointer (some A)) (.pointer none):Sem Value)).run P w = .ok (.bool true) w:=by
  have h:(Op.equalIn (9999 + 1) t (.pointer (some A)) (.pointer none)).run P w = .ok false w:=by
    unfold Op.equalIn
    simp [run_underlying hu]
  simp only [eqGuard,binOp,Op.equal,Sem.run_bind,Sem.run_pure,Result.andThen_ok]
  simp [show Op.maxDepth=9999 + 1 from rfl,h]
theorem run_nilEq (hu:P.underlying t=some (.pointer e)) (x y:Operand) (w:World):((do eqGuard .eql t x y (.pointer none) (.pointer none); binOp .eql t (.pointer none) (.pointer none):Sem Value)).run P w = .ok (.bool true) w:=by
  have h:(Op.equalIn (9999 + 1) t (.pointer none) (.pointer none)).run P w = .ok true w:=by
    unfold Op.equalIn
    simp [run_underlying hu]
  simp only [eqGuard,binOp,Op.equal,Sem.run_bind,Sem.run_pure,Result.andThen_ok]
  simp [show Op.maxDepth=9999 + 1 from rfl,h]
theorem run_nilNe (hu:P.underlying t=some (.pointer e)) (x y:Operand) (w:World):((do eqGuard .neq t x y (.pointer none) (.pointer none); binOp .neq t (.pointer none) (.pointer none):Sem Value)).run P w = .ok (.bool false) w:=by
  have h:(Op.equalIn (9999 + 1) t (.pointer none) (.pointer none)).run P w = .ok true w:=by
    unfold Op.equalIn
    simp [run_underlying hu]
  simp only [eqGuard,binOp,Op.equal,Sem.run_bind,Sem.run_pure,Result.andThen_ok]
  simp [show Op.maxDepth=9999 + 1 from rfl,h]
end
theorem put_new {k:List UInt8} {v:Value} {es:List (List UInt8 × Value)} (h:lookQ k es=none):putQ k v es=es++[(k,v)]:=by unfold putQ; rw [h]; rfl
theorem dirM_app (a b:List (List UInt8 × HT)):dirM (a++b)=dirM a++dirM b:=List.map_append
theorem filM_app (a b:List (List UInt8 × Value × List UInt8)):filM (a++b)=filM a++filM b:=List.map_append
theorem W_openHT {P:Program} {E:Env} {n:Nat} {K:Slots} {L:Res} {Q:Exit→Act→World→Prop} {c:Code} (r b:Nat) {g gd gf:Nat} {dirs:List (List UInt8 × HT)} {files:List (List UInt8 × Value × List UInt8)} (hr:look L r=some (htP (.mk g gd gf dirs files)))
    (k:W P E n c K (En b [blk g 135 [.map (some gd),.map (some gf)],mapS gd (dirM dirs) none,mapS gf (filM files) none,starL (htsP dirs)]++(r,emp)::L) Q):W P E n c K L Q :=
  W_split r b _ hr (fun h hp=>by rw [htP_mk] at hp; exact hp) k
theorem empty_spec (F:HP):CallsS Tryz.prog 35 #[] F [] (fun r Ps=>∃ g gd gf,r = .pointer (some ⟨g,0,none⟩)∧Ps=[htP (.mk g gd gf [] [])]):=by
 refine callsS_enter Tryz.func35 rfl Tryz.ntmps35 (by simp) (fun E=>?_)
 refine Q9 (R9 (G9 rfl rfl (N9 (X9 (Q9 (R9 (Lc9 rfl rfl (by decide) (OpT_makeMapQ (r:=150) (enc:=sV) (ok:=fun _=>True) rfl (fun gd=>?_)))))))))
 skip
 refine (Lc9 rfl rfl (by decide) (OpT_makeMapQ (r:=151) (enc:=sV) (ok:=fun _=>True) rfl (fun gf=>?_)))
 skip
 refine (L9 rfl (Pu_build (V:=.agg #[.map (some gd),.map (some gf)]) [(0,1),(1,1)] ([.map none,.map none]) rfl rfl (by kernel_rfl) (by kernel_rfl) (.one rfl rfl (by simp [List.length_cons]) rfl (.one rfl rfl (by simp [List.length_cons]) rfl (.nil _))) rfl) (Lc9 rfl rfl (by decide) (OpT_box (r:=101) rfl rfl rfl (fun g101=>(G9 rfl rfl (N9 (X9 ?_)))))))
 refine W_ret ?_
 refine X_join [101,150,151] 200 (htP (.mk g101 gd gf [] [])) rfl (by decide) (fun h hs=>by rw [htP_mk,htsP_nil]; exact starL_emp hs) ?_
 exact Xe9 [200] (Ps:=[_]) (res1 Tryz.results35 rfl) rfl (by decide) ⟨_,gd,gf,rfl,rfl⟩
theorem rdS_tail {lv:Value} {ls tl:List (List UInt8)} {n:List UInt8} {h:Hlt} (hr:rdS lv ls h) (htl:ls=n::tl):rdS (subV 1 lv 1 ls.length) tl h:=by
  have h1:=rdP_sub hr (a:=1) (b:=ls.length) (by rw [htl,List.length_cons]; omega) (Nat.le_refl _)
  subst htl
  refine rdP_cast h1 ?_ ?_
  · rw [Nat.mul_one,Nat.mul_one]
    show ((ss (n::tl)).drop 1).take _=_
    rw [show (ss (n::tl)).drop 1=ss tl from rfl,List.take_of_length_le]
    rw [ss_length,List.length_cons]
    omega
  · rw [List.length_cons]; omega
theorem dirM_same {a c:List (List UInt8 × HT)} {n:List UInt8} {t T1:HT} (h:T1.g=t.g):dirM (a++(n,T1)::c)=dirM (a++(n,t)::c):=by
  unfold dirM
  rw [List.map_append,List.map_append,List.map_cons,List.map_cons]
  rw [h]
theorem dirM_new {dirs:List (List UInt8 × HT)} {n:List UInt8} {g1:Nat} {T1:HT} (h:T1.g=g1):dirM (dirs++[(n,T1)])=dirM dirs++[(n,.pointer (some ⟨g1,0,none⟩))]:=by rw [dirM_app,← h]; rfl
theorem starL_swap {A B:HP} {h:Hlt} (hs:starL [A,B] h):starL [B,A] h:=by
  obtain ⟨f,h1,h2,h3⟩:=hs
  refine ⟨fun k=>if k=0 then f 1 else if k=1 then f 0 else fun _=>none,fun k Q hk=>?_,fun k k' g hne hg=>?_,fun k g o hg=>?_⟩
  · match k,hk with
    | 0,hk=>simp at hk; subst hk; exact h1 1 _ rfl
    | 1,hk=>simp at hk; subst hk; exact h1 0 _ rfl
    | k + 2,hk=>simp at hk
  · match k,k',hne with
    | 0,0,hne=>exact absurd rfl hne
    | 0,1,_=>exact h2 1 0 g (by decide) hg
    | 1,0,_=>exact h2 0 1 g (by decide) hg
    | 1,1,hne=>exact absurd rfl hne
    | 0,k + 2,_=>rfl
    | 1,k + 2,_=>rfl
    | k + 2,k',_=>simp at hg
  · match k,hg with
    | 0,hg=>exact h3 _ _ _ hg
    | 1,hg=>exact h3 _ _ _ hg
    | k + 2,hg=>simp at hg
theorem kids_new {dirs:List (List UInt8 × HT)} {n:List UInt8} {T1:HT} {h:Hlt} (hs:starL [starL (htsP dirs),htP T1] h):starL (htsP (dirs++[(n,T1)])) h:=by
  have h1:starL [htP T1,starL (htsP dirs++[])] h:=by rw [List.append_nil]; exact starL_swap hs
  have:=starL_in h1
  rw [htsP_app,htsP_cons,htsP_nil]
  exact this
theorem put_file (g gd gf:Nat) (dirs:List (List UInt8 × HT)) (files:List (List UInt8 × Value × List UInt8)) (lv v:Value) (ls:List (List UInt8)) (n d:List UInt8) (hl:0 < ls.length) (hl2:ls.length≤1000000) (hn:ls.getD 0 []=n) (F:HP) (hF:∀ h,F h→rdS lv ls h) {p:Value × List UInt8} (hfil:lookA n files=some p) (hcan:canPut ls (.mk g gd gf dirs files)=false):CallsS Tryz.prog 37 #[.pointer (some ⟨g,0,none⟩),lv,v] F [htP (.mk g gd gf dirs files)] (fun r Ps=>∃ T',T'.g=g∧r = .bool (canPut ls (.mk g gd gf dirs files))∧(canPut ls (.mk g gd gf dirs files)=true→Put ls v d (.mk g gd gf dirs files) T')∧Ps=[htP T']):=by
 refine callsS_enter Tryz.func37 rfl Tryz.ntmps37 (by simp) (fun E=>?_)
 refine Q9 (R9 (G9 rfl rfl (N9 (X9 (Q9 ?_)))))
 refine W_openHT 1 600 rfl ?_
 refine R9 (M9 rfl rfl (L9 rfl (Pu_idxS1 (r:=0) rfl Tryz.runUnderlying63 Tryz.sizeOf9 rfl rfl rfl hF (by omega)) (L9 rfl (Py9 (r:=0) rfl Tryz.isAgg9 rfl rfl hF (ss_at (k:=0) (by omega))) ?_)))
 rw [hn]
 refine (G9 rfl rfl (N9 (X9 ?_)))
 refine Q9 (R9 (M9 rfl rfl (L9 rfl (Pu_nilCheck rfl rfl) (L9 rfl (F9 1 rfl rfl) (L9 rfl (Pb9 (r:=600) rfl Tryz.isAgg133 rfl rfl rfl) (M9 rfl rfl (L9 rfl (Pu_lookupOkQ (r:=602) keyS rfl Tryz.underlying133 Tryz.zeroValue36 rfl rfl trivial rfl) ?_)))))))
 rw [lookQ_fil,hfil]
 refine (M9 rfl rfl (L9 rfl (Pe9 rfl rfl rfl) (L9 rfl (Pe9 rfl rfl rfl) (G9 rfl rfl (G9 rfl rfl (N9 (X9 ?_)))))))
 refine Q9 (R9 (M9 rfl rfl (L9 rfl (Pu_nilCheck rfl rfl) (L9 rfl (F9 0 rfl rfl) (L9 rfl (Pb9 (r:=600) rfl Tryz.isAgg132 rfl rfl rfl) (M9 rfl rfl (L9 rfl (Pu_lookupQ (r:=601) keyS rfl Tryz.underlying132 Tryz.zeroValue81 rfl rfl trivial rfl) ?_)))))))
 rw [lookQ_dir]
 refine (G9 rfl rfl (N9 (X9 ?_)))
 refine Q9 ?_
 refine W_block ?_
 refine Q9 (R9 (M9 rfl rfl (M9 rfl rfl (WL_gF rfl rfl rfl rfl rfl (by decide) (WL_gF rfl rfl rfl rfl rfl (by decide) (WL_gF rfl rfl rfl rfl rfl (by decide) (WL_gF rfl rfl rfl rfl rfl (by decide) (WL_gF rfl rfl rfl rfl rfl (by decide) (WL_gF rfl rfl rfl rfl rfl (by decide) (WL_gF rfl rfl rfl rfl rfl (by decide) (L9 rfl (Pu_pickT rfl rfl rfl rfl) (G9 rfl rfl (N9 (X9 ?_))))))))))))))
 refine W_true rfl (rfl) ?_
 refine Q9 (R9 (G9 rfl rfl (N9 (X9 ?_))))
 refine W_ret (X_block_ret (X_then_ret ?_))
 refine X_join [600,601,602,603] 1 (htP (.mk g gd gf dirs files)) rfl (by decide) (fun h hs=>by rw [htP_mk]; exact hs) ?_
 exact Xq9 [1] (Ps:=[_]) (res1 Tryz.results37 rfl) rfl (by decide) ⟨(.mk g gd gf dirs files),rfl,by rw [hcan],fun h=>absurd (hcan ▸ h) (by simp),rfl⟩
theorem put_one0 (g gd gf:Nat) (dirs:List (List UInt8 × HT)) (files:List (List UInt8 × Value × List UInt8)) (lv v:Value) (ls:List (List UInt8)) (n d:List UInt8) (hl:0 < ls.length) (hl2:ls.length≤1000000) (hn:ls.getD 0 []=n) (F:HP) (hF:∀ h,F h→rdS lv ls h) (hfil:lookA n files=none) {t:HT} (hdir:lookA n dirs=some t) (h1:ls.length=1) (hcan:canPut ls (.mk g gd gf dirs files)=false):CallsS Tryz.prog 37 #[.pointer (some ⟨g,0,none⟩),lv,v] F [htP (.mk g gd gf dirs files)] (fun r Ps=>∃ T',T'.g=g∧r = .bool (canPut ls (.mk g gd gf dirs files))∧(canPut ls (.mk g gd gf dirs files)=true→Put ls v d (.mk g gd gf dirs files) T')∧Ps=[htP T']):=by
 have hL:decide ((ls.length:Int)=1)=true:=decide_eq_true (by omega)
 refine callsS_enter Tryz.func37 rfl Tryz.ntmps37 (by simp) (fun E=>?_)
 refine Q9 (R9 (G9 rfl rfl (N9 (X9 (Q9 ?_)))))
 refine W_openHT 1 600 rfl ?_
 refine R9 (M9 rfl rfl (L9 rfl (Pu_idxS1 (r:=0) rfl Tryz.runUnderlying63 Tryz.sizeOf9 rfl rfl rfl hF (by omega)) (L9 rfl (Py9 (r:=0) rfl Tryz.isAgg9 rfl rfl hF (ss_at (k:=0) (by omega))) ?_)))
 rw [hn]
 refine (G9 rfl rfl (N9 (X9 ?_)))
 refine Q9 (R9 (M9 rfl rfl (L9 rfl (Pu_nilCheck rfl rfl) (L9 rfl (F9 1 rfl rfl) (L9 rfl (Pb9 (r:=600) rfl Tryz.isAgg133 rfl rfl rfl) (M9 rfl rfl (L9 rfl (Pu_lookupOkQ (r:=602) keyS rfl Tryz.underlying133 Tryz.zeroValue36 rfl rfl trivial rfl) ?_)))))))
 rw [lookQ_fil,hfil]
 refine (M9 rfl rfl (L9 rfl (Pe9 rfl rfl rfl) (L9 rfl (Pe9 rfl rfl rfl) (G9 rfl rfl (G9 rfl rfl (N9 (X9 ?_)))))))
 refine Q9 (R9 (M9 rfl rfl (L9 rfl (Pu_nilCheck rfl rfl) (L9 rfl (F9 0 rfl rfl) (L9 rfl (Pb9 (r:=600) rfl Tryz.isAgg132 rfl rfl rfl) (M9 rfl rfl (L9 rfl (Pu_lookupQ (r:=601) keyS rfl Tryz.underlying132 Tryz.zeroValue81 rfl rfl trivial rfl) ?_)))))))
 rw [lookQ_dir,hdir]
 refine (G9 rfl rfl (N9 (X9 ?_)))
 refine Q9 ?_
 refine W_block ?_
 refine Q9 (R9 (M9 rfl rfl (M9 rfl rfl (WL_gPT rfl rfl rfl rfl rfl (by decide) (Pm9 rfl rfl) (WL_gPT rfl rfl rfl rfl rfl (by decide) (Pl9 (r:=0) rfl Tryz.runUnderlying63 rfl rfl hF) (WL_gPT rfl rfl rfl rfl rfl (by decide) (Pn9 rfl rfl rfl (run_eql _ _ _ _ _ _)) (WL_gPT rfl rfl rfl rfl rfl (by decide) (Pm9 rfl rfl) (WL_gPT rfl rfl rfl (by rw [hL]; rfl) rfl (by decide) (Pm9 rfl rfl) (WL_gPT rfl rfl rfl (by rw [hL]; rfl) rfl (by decide) (Pn9 rfl rfl rfl (run_ptrNe Tryz.underlying81 _ _ _)) (WL_gPT rfl rfl rfl rfl rfl (by decide) (Pu_pickT rfl rfl hL rfl) (L9 rfl (Pu_pickF rfl rfl rfl rfl) (G9 rfl rfl (N9 (X9 ?_))))))))))))))
 refine W_true rfl (rfl) ?_
 refine Q9 (R9 (G9 rfl rfl (N9 (X9 ?_))))
 refine W_ret (X_block_ret (X_then_ret ?_))
 refine X_join [600,601,602,603] 1 (htP (.mk g gd gf dirs files)) rfl (by decide) (fun h hs=>by rw [htP_mk]; exact hs) ?_
 exact Xq9 [1] (Ps:=[_]) (res1 Tryz.results37 rfl) rfl (by decide) ⟨(.mk g gd gf dirs files),rfl,by rw [hcan],fun h=>absurd (hcan ▸ h) (by simp),rfl⟩
theorem put_one1 (g gd gf:Nat) (dirs:List (List UInt8 × HT)) (files:List (List UInt8 × Value × List UInt8)) (lv v:Value) (ls:List (List UInt8)) (n d:List UInt8) (hl:0 < ls.length) (hl2:ls.length≤1000000) (hn:ls.getD 0 []=n) (F:HP) (hF:∀ h,F h→rdS lv ls h) (hfil:lookA n files=none) (hdir:lookA n dirs=none) (h1:ls.length=1) (hcan:canPut ls (.mk g gd gf dirs files)=true) (hputs:Put ls v d (.mk g gd gf dirs files) (.mk g gd gf dirs (files++[(n,v,d)]))):CallsS Tryz.prog 37 #[.pointer (some ⟨g,0,none⟩),lv,v] F [htP (.mk g gd gf dirs files)] (fun r Ps=>∃ T',T'.g=g∧r = .bool (canPut ls (.mk g gd gf dirs files))∧(canPut ls (.mk g gd gf dirs files)=true→Put ls v d (.mk g gd gf dirs files) T')∧Ps=[htP T']):=by
 have hL:decide ((ls.length:Int)=1)=true:=decide_eq_true (by omega)
 refine callsS_enter Tryz.func37 rfl Tryz.ntmps37 (by simp) (fun E=>?_)
 refine Q9 (R9 (G9 rfl rfl (N9 (X9 (Q9 ?_)))))
 refine W_openHT 1 600 rfl ?_
 refine R9 (M9 rfl rfl (L9 rfl (Pu_idxS1 (r:=0) rfl Tryz.runUnderlying63 Tryz.sizeOf9 rfl rfl rfl hF (by omega)) (L9 rfl (Py9 (r:=0) rfl Tryz.isAgg9 rfl rfl hF (ss_at (k:=0) (by omega))) ?_)))
 rw [hn]
 refine (G9 rfl rfl (N9 (X9 ?_)))
 refine Q9 (R9 (M9 rfl rfl (L9 rfl (Pu_nilCheck rfl rfl) (L9 rfl (F9 1 rfl rfl) (L9 rfl (Pb9 (r:=600) rfl Tryz.isAgg133 rfl rfl rfl) (M9 rfl rfl (L9 rfl (Pu_lookupOkQ (r:=602) keyS rfl Tryz.underlying133 Tryz.zeroValue36 rfl rfl trivial rfl) ?_)))))))
 rw [lookQ_fil,hfil]
 refine (M9 rfl rfl (L9 rfl (Pe9 rfl rfl rfl) (L9 rfl (Pe9 rfl rfl rfl) (G9 rfl rfl (G9 rfl rfl (N9 (X9 ?_)))))))
 refine Q9 (R9 (M9 rfl rfl (L9 rfl (Pu_nilCheck rfl rfl) (L9 rfl (F9 0 rfl rfl) (L9 rfl (Pb9 (r:=600) rfl Tryz.isAgg132 rfl rfl rfl) (M9 rfl rfl (L9 rfl (Pu_lookupQ (r:=601) keyS rfl Tryz.underlying132 Tryz.zeroValue81 rfl rfl trivial rfl) ?_)))))))
 rw [lookQ_dir,hdir]
 refine (G9 rfl rfl (N9 (X9 ?_)))
 refine Q9 ?_
 refine W_block ?_
 refine Q9 (R9 (M9 rfl rfl (M9 rfl rfl (WL_gPT rfl rfl rfl rfl rfl (by decide) (Pm9 rfl rfl) (WL_gPT rfl rfl rfl rfl rfl (by decide) (Pl9 (r:=0) rfl Tryz.runUnderlying63 rfl rfl hF) (WL_gPT rfl rfl rfl rfl rfl (by decide) (Pn9 rfl rfl rfl (run_eql _ _ _ _ _ _)) (WL_gPT rfl rfl rfl rfl rfl (by decide) (Pm9 rfl rfl) (WL_gPT rfl rfl rfl (by rw [hL]; rfl) rfl (by decide) (Pm9 rfl rfl) (WL_gPT rfl rfl rfl (by rw [hL]; rfl) rfl (by decide) (Pn9 rfl rfl rfl (run_nilNe Tryz.underlying81 _ _)) (WL_gPT rfl rfl rfl rfl rfl (by decide) (Pu_pickT rfl rfl hL rfl) (L9 rfl (Pu_pickF rfl rfl rfl rfl) (G9 rfl rfl (N9 (X9 ?_))))))))))))))
 refine W_false rfl (rfl) ?_
 refine Q9 (R9 (M9 rfl rfl (L9 rfl (Pl9 (r:=0) rfl Tryz.runUnderlying63 rfl rfl hF) (L9 rfl (Pn9 rfl rfl rfl (run_eql _ _ _ _ _ _)) (G9 rfl rfl (N9 (X9 ?_)))))))
 refine W_true rfl (hL) ?_
 refine Q9 (R9 (M9 rfl rfl (L9 rfl (Pu_nilCheck rfl rfl) (L9 rfl (F9 1 rfl rfl) (L9 rfl (Pb9 (r:=600) rfl Tryz.isAgg133 rfl rfl rfl) (M9 rfl rfl (M9 rfl rfl (Lc09 rfl rfl (OpT_mapPutQ (r:=602) (k:=n) (v:=v) (es:=filM files) (g:=gf) keyS rfl Tryz.underlying133 rfl rfl trivial rfl rfl ?_)))))))))
 refine (N9 (X9 ?_))
 refine Q9 (R9 (G9 rfl rfl (N9 (X9 ?_))))
 refine W_ret (X_block_ret (X_then_ret ?_))
 refine X_join [600,601,602,603] 1 (htP (.mk g gd gf dirs (files++[(n,v,d)]))) rfl (by decide) (fun h hs=>by rw [htP_mk,filM_app]; rw [put_new (by rw [lookQ_fil,hfil]; rfl)] at hs; exact hs) ?_
 exact Xq9 [1] (Ps:=[_]) (res1 Tryz.results37 rfl) rfl (by decide) ⟨.mk g gd gf dirs (files++[(n,v,d)]),rfl,by rw [hcan],fun _=>hputs,rfl⟩
theorem put_deepS (g gd gf:Nat) (dirs:List (List UInt8 × HT)) (files:List (List UInt8 × Value × List UInt8)) (lv v:Value) (ls:List (List UInt8)) (n d:List UInt8) (hl:0 < ls.length) (hl2:ls.length≤1000000) (hn:ls.getD 0 []=n) (F:HP) (hF:∀ h,F h→rdS lv ls h) (hfil:lookA n files=none) {t:HT} (hdir:lookA n dirs=some t) (h1:1 < ls.length) (tl:List (List UInt8)) (htl:ls=n::tl) (hcan:canPut ls (.mk g gd gf dirs files)=canPut tl t) {a c:List (List UInt8 × HT)} (hspl:dirs=a++(n,t)::c) (hputs:∀ T1,Put tl v d t T1→Put ls v d (.mk g gd gf dirs files) (.mk g gd gf (a++(n,T1)::c) files)) (ih:∀ (F2:HP),(∀ h,F2 h→rdS (subV 1 lv 1 ls.length) tl h)→CallsS Tryz.prog 37 #[.pointer (some ⟨t.g,0,none⟩),subV 1 lv 1 ls.length,v] F2 [htP t] (fun r Ps=>∃ T',T'.g=t.g∧r = .bool (canPut tl t)∧(canPut tl t=true→Put tl v d t T')∧Ps=[htP T'])):CallsS Tryz.prog 37 #[.pointer (some ⟨g,0,none⟩),lv,v] F [htP (.mk g gd gf dirs files)] (fun r Ps=>∃ T',T'.g=g∧r = .bool (canPut ls (.mk g gd gf dirs files))∧(canPut ls (.mk g gd gf dirs files)=true→Put ls v d (.mk g gd gf dirs files) T')∧Ps=[htP T']):=by
 have hL:decide ((ls.length:Int)=1)=false:=decide_eq_false (by omega)
 refine callsS_enter Tryz.func37 rfl Tryz.ntmps37 (by simp) (fun E=>?_)
 refine Q9 (R9 (G9 rfl rfl (N9 (X9 (Q9 ?_)))))
 refine W_openHT 1 600 rfl ?_
 refine R9 (M9 rfl rfl (L9 rfl (Pu_idxS1 (r:=0) rfl Tryz.runUnderlying63 Tryz.sizeOf9 rfl rfl rfl hF (by omega)) (L9 rfl (Py9 (r:=0) rfl Tryz.isAgg9 rfl rfl hF (ss_at (k:=0) (by omega))) ?_)))
 rw [hn]
 refine (G9 rfl rfl (N9 (X9 ?_)))
 refine Q9 (R9 (M9 rfl rfl (L9 rfl (Pu_nilCheck rfl rfl) (L9 rfl (F9 1 rfl rfl) (L9 rfl (Pb9 (r:=600) rfl Tryz.isAgg133 rfl rfl rfl) (M9 rfl rfl (L9 rfl (Pu_lookupOkQ (r:=602) keyS rfl Tryz.underlying133 Tryz.zeroValue36 rfl rfl trivial rfl) ?_)))))))
 rw [lookQ_fil,hfil]
 refine (M9 rfl rfl (L9 rfl (Pe9 rfl rfl rfl) (L9 rfl (Pe9 rfl rfl rfl) (G9 rfl rfl (G9 rfl rfl (N9 (X9 ?_)))))))
 refine Q9 (R9 (M9 rfl rfl (L9 rfl (Pu_nilCheck rfl rfl) (L9 rfl (F9 0 rfl rfl) (L9 rfl (Pb9 (r:=600) rfl Tryz.isAgg132 rfl rfl rfl) (M9 rfl rfl (L9 rfl (Pu_lookupQ (r:=601) keyS rfl Tryz.underlying132 Tryz.zeroValue81 rfl rfl trivial rfl) ?_)))))))
 rw [lookQ_dir,hdir]
 refine (G9 rfl rfl (N9 (X9 ?_)))
 refine Q9 ?_
 refine W_block ?_
 refine Q9 (R9 (M9 rfl rfl (M9 rfl rfl (WL_gPT rfl rfl rfl rfl rfl (by decide) (Pm9 rfl rfl) (WL_gPT rfl rfl rfl rfl rfl (by decide) (Pl9 (r:=0) rfl Tryz.runUnderlying63 rfl rfl hF) (WL_gPT rfl rfl rfl rfl rfl (by decide) (Pn9 rfl rfl rfl (run_eql _ _ _ _ _ _)) (WL_gPT rfl rfl rfl rfl rfl (by decide) (Pm9 rfl rfl) (WL_gF rfl rfl rfl (by rw [hL]; rfl) rfl (by decide) (WL_gF rfl rfl rfl (by rw [hL]; rfl) rfl (by decide) (WL_gPT rfl rfl rfl rfl rfl (by decide) (Pu_pickF rfl rfl hL rfl) (L9 rfl (Pu_pickF rfl rfl rfl rfl) (G9 rfl rfl (N9 (X9 ?_))))))))))))))
 refine W_false rfl (rfl) ?_
 refine Q9 (R9 (M9 rfl rfl (L9 rfl (Pl9 (r:=0) rfl Tryz.runUnderlying63 rfl rfl hF) (L9 rfl (Pn9 rfl rfl rfl (run_eql _ _ _ _ _ _)) (G9 rfl rfl (N9 (X9 ?_)))))))
 refine W_false rfl (hL) ?_
 refine Q9 (R9 (M9 rfl rfl (L9 rfl (Pn9 rfl rfl rfl (run_ptrNil Tryz.underlying81 _ _ _)) (G9 rfl rfl (N9 (X9 ?_))))))
 refine W_false rfl (rfl) ?_
 refine K9 (X_block (X9 ?_))
 refine Q9 ?_
 refine W_split 603 700 [htP t,starL (htsP (a++c))] rfl (fun h hp=>kids_out (d:=(n,t)) (by rw [← hspl]; exact hp)) ?_
 refine R9 (M9 rfl rfl (M9 rfl rfl (L9 rfl (Pu_slice (r:=0) (a:=1) rfl Tryz.runUnderlying63 Tryz.sizeOf9 rfl rfl hF (.inr ⟨_,_,_,rfl,rfl,rfl⟩) (.inl ⟨rfl,rfl⟩) (by omega) (by omega)) (M9 rfl rfl (Lc9 rfl rfl (by decide) (Oc9 800 [0,600,601,602,701] [700] rfl Tryz.call37 rfl rfl rfl (by decide) (by decide) (ih _ (rs9 0 rfl (fun h hp=>rdS_tail (hF h hp) htl)) ) (fun v64 Ps64 hR64=>?_)))))))
 obtain ⟨T1,hg1,rfl,hput,rfl⟩:=hR64
 skip
 refine (G9 rfl rfl (N9 (X9 ?_)))
 refine W_ret ?_
 refine X_join [800,701] 603 (starL (htsP (a++(n,T1)::c))) rfl (by decide) (fun h hs=>kids_in (d:=(n,T1)) hs) ?_
 refine X_join [600,601,602,603] 1 (htP (.mk g gd gf (a++(n,T1)::c) files)) rfl (by decide) (fun h hs=>by rw [htP_mk,dirM_same hg1]; rw [hspl] at hs; exact hs) ?_
 exact Xe9 [1] (Ps:=[_]) (res1 Tryz.results37 rfl) rfl (by decide) ⟨.mk g gd gf (a++(n,T1)::c) files,rfl,by rw [hcan],fun h=>hputs T1 (hput (hcan ▸ h)),rfl⟩
theorem put_deepN (g gd gf:Nat) (dirs:List (List UInt8 × HT)) (files:List (List UInt8 × Value × List UInt8)) (lv v:Value) (ls:List (List UInt8)) (n d:List UInt8) (hl:0 < ls.length) (hl2:ls.length≤1000000) (hn:ls.getD 0 []=n) (F:HP) (hF:∀ h,F h→rdS lv ls h) (hfil:lookA n files=none) (hdir:lookA n dirs=none) (h1:1 < ls.length) (tl:List (List UInt8)) (htl:ls=n::tl) (hcan:canPut ls (.mk g gd gf dirs files)=true) (hput0:∀ g1 gd1 gf1,canPut tl (.mk g1 gd1 gf1 [] [])=true) (hputs:∀ g1 gd1 gf1 T1,Put tl v d (.mk g1 gd1 gf1 [] []) T1→Put ls v d (.mk g gd gf dirs files) (.mk g gd gf (dirs++[(n,T1)]) files)) (ih:∀ (F2:HP),(∀ h,F2 h→rdS (subV 1 lv 1 ls.length) tl h)→∀ g1 gd1 gf1,CallsS Tryz.prog 37 #[.pointer (some ⟨g1,0,none⟩),subV 1 lv 1 ls.length,v] F2 [htP (.mk g1 gd1 gf1 [] [])] (fun r Ps=>∃ T',T'.g=g1∧r = .bool true∧Put tl v d (.mk g1 gd1 gf1 [] []) T'∧Ps=[htP T'])):CallsS Tryz.prog 37 #[.pointer (some ⟨g,0,none⟩),lv,v] F [htP (.mk g gd gf dirs files)] (fun r Ps=>∃ T',T'.g=g∧r = .bool (canPut ls (.mk g gd gf dirs files))∧(canPut ls (.mk g gd gf dirs files)=true→Put ls v d (.mk g gd gf dirs files) T')∧Ps=[htP T']):=by
 have hL:decide ((ls.length:Int)=1)=false:=decide_eq_false (by omega)
 refine callsS_enter Tryz.func37 rfl Tryz.ntmps37 (by simp) (fun E=>?_)
 refine Q9 (R9 (G9 rfl rfl (N9 (X9 (Q9 ?_)))))
 refine W_openHT 1 600 rfl ?_
 refine R9 (M9 rfl rfl (L9 rfl (Pu_idxS1 (r:=0) rfl Tryz.runUnderlying63 Tryz.sizeOf9 rfl rfl rfl hF (by omega)) (L9 rfl (Py9 (r:=0) rfl Tryz.isAgg9 rfl rfl hF (ss_at (k:=0) (by omega))) ?_)))
 rw [hn]
 refine (G9 rfl rfl (N9 (X9 ?_)))
 refine Q9 (R9 (M9 rfl rfl (L9 rfl (Pu_nilCheck rfl rfl) (L9 rfl (F9 1 rfl rfl) (L9 rfl (Pb9 (r:=600) rfl Tryz.isAgg133 rfl rfl rfl) (M9 rfl rfl (L9 rfl (Pu_lookupOkQ (r:=602) keyS rfl Tryz.underlying133 Tryz.zeroValue36 rfl rfl trivial rfl) ?_)))))))
 rw [lookQ_fil,hfil]
 refine (M9 rfl rfl (L9 rfl (Pe9 rfl rfl rfl) (L9 rfl (Pe9 rfl rfl rfl) (G9 rfl rfl (G9 rfl rfl (N9 (X9 ?_)))))))
 refine Q9 (R9 (M9 rfl rfl (L9 rfl (Pu_nilCheck rfl rfl) (L9 rfl (F9 0 rfl rfl) (L9 rfl (Pb9 (r:=600) rfl Tryz.isAgg132 rfl rfl rfl) (M9 rfl rfl (L9 rfl (Pu_lookupQ (r:=601) keyS rfl Tryz.underlying132 Tryz.zeroValue81 rfl rfl trivial rfl) ?_)))))))
 rw [lookQ_dir,hdir]
 refine (G9 rfl rfl (N9 (X9 ?_)))
 refine Q9 ?_
 refine W_block ?_
 refine Q9 (R9 (M9 rfl rfl (M9 rfl rfl (WL_gPT rfl rfl rfl rfl rfl (by decide) (Pm9 rfl rfl) (WL_gPT rfl rfl rfl rfl rfl (by decide) (Pl9 (r:=0) rfl Tryz.runUnderlying63 rfl rfl hF) (WL_gPT rfl rfl rfl rfl rfl (by decide) (Pn9 rfl rfl rfl (run_eql _ _ _ _ _ _)) (WL_gPT rfl rfl rfl rfl rfl (by decide) (Pm9 rfl rfl) (WL_gF rfl rfl rfl (by rw [hL]; rfl) rfl (by decide) (WL_gF rfl rfl rfl (by rw [hL]; rfl) rfl (by decide) (WL_gPT rfl rfl rfl rfl rfl (by decide) (Pu_pickF rfl rfl hL rfl) (L9 rfl (Pu_pickF rfl rfl rfl rfl) (G9 rfl rfl (N9 (X9 ?_))))))))))))))
 refine W_false rfl (rfl) ?_
 refine Q9 (R9 (M9 rfl rfl (L9 rfl (Pl9 (r:=0) rfl Tryz.runUnderlying63 rfl rfl hF) (L9 rfl (Pn9 rfl rfl rfl (run_eql _ _ _ _ _ _)) (G9 rfl rfl (N9 (X9 ?_)))))))
 refine W_false rfl (hL) ?_
 refine Q9 (R9 (M9 rfl rfl (L9 rfl (Pn9 rfl rfl rfl (run_nilEq Tryz.underlying81 _ _)) (G9 rfl rfl (N9 (X9 ?_))))))
 refine W_true rfl (rfl) ?_
 refine Q9 (R9 (Lc9 rfl rfl (by decide) (Oc9 700 [0,600,601,602,603] [] rfl Tryz.call35 rfl rfl rfl (by decide) (by decide) (empty_spec _) (fun v53 Ps53 hR53=>?_))))
 obtain ⟨g1,gd1,gf1,rfl,rfl⟩:=hR53
 skip
 refine (G9 rfl rfl (N9 (X9 ?_)))
 refine R9 (M9 rfl rfl (L9 rfl (Pu_nilCheck rfl rfl) (L9 rfl (F9 0 rfl rfl) (L9 rfl (Pb9 (r:=600) rfl Tryz.isAgg132 rfl rfl rfl) (M9 rfl rfl (M9 rfl rfl (Lc09 rfl rfl (OpT_mapPutQ (r:=601) (k:=n) (v:=.pointer (some ⟨g1,0,none⟩)) (es:=dirM dirs) (g:=gd) keyS rfl Tryz.underlying132 rfl rfl trivial rfl rfl ?_))))))))
 refine (N9 (X_block (X9 ?_)))
 refine Q9 (R9 (M9 rfl rfl (M9 rfl rfl (L9 rfl (Pu_slice (r:=0) (a:=1) rfl Tryz.runUnderlying63 Tryz.sizeOf9 rfl rfl hF (.inr ⟨_,_,_,rfl,rfl,rfl⟩) (.inl ⟨rfl,rfl⟩) (by omega) (by omega)) (M9 rfl rfl (Lc9 rfl rfl (by decide) (Oc9 800 [0,600,601,602,603] [700] rfl Tryz.call37 rfl rfl rfl (by decide) (by decide) (ih _ (rs9 0 rfl (fun h hp=>rdS_tail (hF h hp) htl)) g1 gd1 gf1) (fun v64 Ps64 hR64=>?_))))))))
 obtain ⟨T1,hg1,rfl,hput,rfl⟩:=hR64
 skip
 refine (G9 rfl rfl (N9 (X9 ?_)))
 refine W_ret ?_
 refine X_join [603,800] 603 (starL (htsP (dirs++[(n,T1)]))) rfl (by decide) (fun h hs=>kids_new (n:=n) hs) ?_
 refine X_join [600,601,602,603] 1 (htP (.mk g gd gf (dirs++[(n,T1)]) files)) rfl (by decide) (fun h hs=>by rw [htP_mk,dirM_new hg1]; rw [put_new (by rw [lookQ_dir,hdir]; rfl)] at hs; exact hs) ?_
 exact Xe9 [1] (Ps:=[_]) (res1 Tryz.results37 rfl) rfl (by decide) ⟨.mk g gd gf (dirs++[(n,T1)]) files,rfl,by rw [hcan],fun _=>hputs _ _ _ T1 hput,rfl⟩
open Go.RowKit
theorem canPut_nil (q:List (List UInt8)) (hq:q≠[]) (g gd gf:Nat):canPut q (.mk g gd gf [] [])=true:=by
  match q,hq with
  | [n],_=>rfl
  | n::m::q,_=>rfl
theorem put_spec:∀ (ls:List (List UInt8)) (T:HT) (lv v:Value) (d:List UInt8) (F:HP),ls≠[]→ls.length≤1000000→(∀ h,F h→rdS lv ls h) →
    CallsS Tryz.prog 37 #[.pointer (some ⟨T.g,0,none⟩),lv,v] F [htP T] (fun r Ps=>∃ T',T'.g=T.g∧r = .bool (canPut ls T)∧(canPut ls T=true→Put ls v d T T')∧Ps=[htP T'])
  | [],_,_,_,_,_,h,_,_=>absurd rfl h
  | n::tl,.mk g gd gf dirs files,lv,v,d,F,_,hl2,hF=>by
    cases hfil:lookA n files with
    | some p=>exact put_file g gd gf dirs files lv v (n::tl) n d (by simp) hl2 rfl F hF hfil (by cases tl <;> simp [canPut,hfil])
    | none =>
      cases tl with
      | nil =>
        cases hdir:lookA n dirs with
        | some t=>exact put_one0 g gd gf dirs files lv v [n] n d (by simp) hl2 rfl F hF hfil hdir rfl (by simp [canPut,hfil,hdir])
        | none=>exact put_one1 g gd gf dirs files lv v [n] n d (by simp) hl2 rfl F hF hfil hdir rfl (by simp [canPut,hfil,hdir]) (by simp [Put])
      | cons m q =>
        have hl3:(m::q).length≤1000000:=by simp only [List.length_cons] at hl2 ⊢; omega
        cases hdir:lookA n dirs with
        | some t =>
          obtain ⟨a,c,hspl,hno⟩:=lookA_split hdir
          exact put_deepS g gd gf dirs files lv v (n::m::q) n d (by simp) hl2 rfl F hF hfil hdir (by simp) (m::q) rfl (by rw [canPut,hfil,hdir]; rfl) hspl (fun T1 h=>by rw [Put]; exact .inl ⟨a,c,t,T1,hspl,hno,h,rfl⟩)
            (fun F2 hF2=>put_spec (m::q) t _ v d F2 (by simp) hl3 hF2)
        | none =>
          exact put_deepN g gd gf dirs files lv v (n::m::q) n d (by simp) hl2 rfl F hF hfil hdir (by simp) (m::q) rfl (by rw [canPut,hfil,hdir]; rfl) (fun _ _ _=>canPut_nil _ (by simp) _ _ _) (fun g1 gd1 gf1 T1 h=>by rw [Put]; exact .inr ⟨hdir,g1,gd1,gf1,T1,h,rfl⟩)
            (fun F2 hF2 g1 gd1 gf1=>(put_spec (m::q) (.mk g1 gd1 gf1 [] []) _ v d F2 (by simp) hl3 hF2).imp fun r Ps ⟨T',h1,h2,h3,h4⟩=>by
              rw [canPut_nil _ (by simp)] at h2 h3
              exact ⟨T',h1,h2,h3 rfl,h4⟩)
theorem lookA_app {α:Type} (k:List UInt8):∀ (a b:List (List UInt8 × α)),lookA k (a++b)=(lookA k a).or (lookA k b)
  | [],b=>by simp [lookA]
  | p::a,b=>by
    rw [List.cons_append,lookA,lookA,lookA_app k a b]
    split <;> rfl
def clash (p r:List (List UInt8)):Bool:=p.isPrefixOf r || r.isPrefixOf p
theorem clash_cons (n:List UInt8) (p r:List (List UInt8)):clash (n::p) (n::r)=clash p r:=by simp [clash,List.isPrefixOf]
theorem clash_ne {n m:List UInt8} (h:m≠n) (p r:List (List UInt8)):clash (n::p) (m::r)=false:=by
  have h2:n≠m:=fun e=>h e.symm
  simp [clash,List.isPrefixOf,h,h2]
theorem canPut_put:∀ (p:List (List UInt8)) (v:Value) (d:List UInt8) (T T':HT),canPut p T=true→Put p v d T T'→∀ r,r≠[]→canPut r T'=(canPut r T && !clash p r)
  | [],_,_,_,_,_,h,_,_=>by simp [Put] at h
  | [n],v,d,.mk g gd gf dirs files,T',hc,hp,r,hr=>by
    simp only [Put] at hp
    subst hp
    simp only [canPut,Bool.and_eq_true,Option.isNone_iff_eq_none] at hc
    match r,hr with
    | [m],_ =>
      by_cases hm:m=n
      · subst hm
        simp [canPut,lookA_app,lookA,hc.1,clash,List.isPrefixOf]
      · rw [clash_ne hm]
        simp [canPut,lookA_app,lookA,hm]
    | m::k::q,_ =>
      by_cases hm:m=n
      · subst hm
        simp [canPut,lookA_app,lookA,hc.1,clash,List.isPrefixOf]
      · rw [clash_ne hm]
        simp [canPut,lookA_app,lookA,hm]
  | n::k0::p,v,d,.mk g gd gf dirs files,T',hc,hp,r,hr=>by
    simp only [Put] at hp
    rw [canPut,Bool.and_eq_true,Option.isNone_iff_eq_none] at hc
    obtain ⟨hc1,hc2⟩:=hc
    rcases hp with ⟨a,c,t,t',rfl,ha,hpt,rfl⟩ | ⟨hno,g1,gd1,gf1,t',hpt,rfl⟩
    · have hat:lookA n (a++(n,t)::c)=some t:=by simp [lookA_app,lookA,ha]
      have hat':lookA n (a++(n,t')::c)=some t':=by simp [lookA_app,lookA,ha]
      have hoth:∀ m,m≠n→lookA m (a++(n,t')::c)=lookA m (a++(n,t)::c):=fun m hm=>by simp [lookA_app,lookA,hm]
      rw [hat] at hc2
      match r,hr with
      | [m],_ =>
        by_cases hm:m=n
        · subst hm
          simp [canPut,hat,hat']
        · rw [clash_ne hm]
          simp [canPut,hoth m hm]
      | m::k::q,_ =>
        by_cases hm:m=n
        · subst hm
          rw [clash_cons]
          simp only [canPut,hat,hat',hc1]
          have:=canPut_put (k0::p) v d t t' hc2 hpt (k::q) (by simp)
          simpa using this
        · rw [clash_ne hm]
          simp [canPut,hoth m hm]
    · have hat':lookA n (dirs++[(n,t')])=some t':=by simp [lookA_app,lookA,hno]
      have hoth:∀ m,m≠n→lookA m (dirs++[(n,t')])=lookA m dirs:=fun m hm=>by simp [lookA_app,lookA,hm]
      match r,hr with
      | [m],_ =>
        by_cases hm:m=n
        · subst hm
          simp [canPut,hat',clash,List.isPrefixOf]
        · rw [clash_ne hm]
          simp [canPut,hoth m hm]
      | m::k::q,_ =>
        by_cases hm:m=n
        · subst hm
          rw [clash_cons]
          simp only [canPut,hat',hno,hc1]
          have:=canPut_put (k0::p) v d _ t' (canPut_nil _ (by simp) g1 gd1 gf1) hpt (k::q) (by simp)
          rw [canPut_nil _ (by simp)] at this
          simpa using this
        · rw [clash_ne hm]
          simp [canPut,hoth m hm]
def fits:List (List (List UInt8))→List (List (List UInt8))→Bool
  | _,[]=>true
  | old,p::ps=>old.all (fun q=>!clash q p) && fits (old++[p]) ps
mutual
def Fit (m:Nat) (R:Value→List UInt8→Prop):HT→Prop
  | .mk _ _ _ dirs files=>dirs.length + files.length≤m∧(∀ x ∈ files,x.1.length≤1000000∧x.2.2.length≤100000∧R x.2.1 x.2.2)∧FitL m R dirs∧(files.map (·.1)++dirs.map (·.1)).Nodup
def FitL (m:Nat) (R:Value→List UInt8→Prop):List (List UInt8 × HT)→Prop
  | []=>True
  | d::ds=>d.1.length≤1000000∧Fit m R d.2∧FitL m R ds
end
theorem Fit_mk {m:Nat} {R:Value→List UInt8→Prop} {g gd gf:Nat} {dirs:List (List UInt8 × HT)} {files:List (List UInt8 × Value × List UInt8)}:Fit m R (.mk g gd gf dirs files) ↔ dirs.length + files.length≤m∧(∀ x ∈ files,x.1.length≤1000000∧x.2.2.length≤100000∧R x.2.1 x.2.2)∧FitL m R dirs∧(files.map (·.1)++dirs.map (·.1)).Nodup:=by rw [Fit]
theorem FitL_iff {m:Nat} {R:Value→List UInt8→Prop}:∀ {ds:List (List UInt8 × HT)},FitL m R ds ↔ ∀ d ∈ ds,d.1.length≤1000000∧Fit m R d.2
  | []=>by simp [FitL]
  | d::ds=>by rw [FitL,FitL_iff]; simp [and_assoc]
theorem Fit_nil (m:Nat) (R:Value→List UInt8→Prop) (g gd gf:Nat):Fit m R (.mk g gd gf [] []):=Fit_mk.2 ⟨by simp,by simp,FitL_iff.2 (by simp),by simp⟩
mutual
theorem Fit_mono {m m':Nat} {R R':Value→List UInt8→Prop} (hm:m≤m') (hR:∀ v d,R v d→R' v d):∀ {T:HT},Fit m R T→Fit m' R' T
  | .mk _ _ _ dirs files,h=>by
    rw [Fit_mk] at h ⊢
    exact ⟨by omega,fun x hx=>⟨(h.2.1 x hx).1,(h.2.1 x hx).2.1,hR _ _ (h.2.1 x hx).2.2⟩,FitL_mono hm hR h.2.2.1,h.2.2.2⟩
theorem FitL_mono {m m':Nat} {R R':Value→List UInt8→Prop} (hm:m≤m') (hR:∀ v d,R v d→R' v d):∀ {ds:List (List UInt8 × HT)},FitL m R ds→FitL m' R' ds
  | [],_=>by rw [FitL]; trivial
  | d::ds,h=>by
    rw [FitL] at h ⊢
    exact ⟨h.1,Fit_mono hm hR h.2.1,FitL_mono hm hR h.2.2⟩
end
theorem lookA_none {α:Type} {k:List UInt8}:∀ {es:List (List UInt8 × α)},lookA k es=none ↔ k ∉ es.map (·.1)
  | []=>by simp [lookA]
  | p::es=>by
    rw [lookA,List.map_cons,List.mem_cons,not_or]
    by_cases h:k=p.1
    · simp [h]
    · rw [if_neg h,lookA_none]
      simp [h]
theorem Fit_put {m:Nat} {R:Value→List UInt8→Prop}:∀ (p:List (List UInt8)) (v:Value) (d:List UInt8) (T T':HT),canPut p T=true→Put p v d T T'→Fit m R T→(∀ x ∈ p,x.length≤1000000)→d.length≤100000→R v d→Fit (m + 1) R T'
  | [],_,_,_,_,_,h,_,_,_,_=>by simp [Put] at h
  | [n],v,d,.mk g gd gf dirs files,T',hc,hp,hf,hx,hd,hv=>by
    simp only [Put] at hp
    subst hp
    simp only [canPut,Bool.and_eq_true,Option.isNone_iff_eq_none] at hc
    rw [lookA_none,lookA_none] at hc
    rw [Fit_mk] at hf ⊢
    refine ⟨by rw [List.length_append,List.length_singleton]; omega,fun x hx2=>?_,FitL_mono (by omega) (fun _ _ h=>h) hf.2.2.1,?_⟩
    rotate_left
    · have hn:=hf.2.2.2
      rw [List.map_append,List.map_cons,List.map_nil,List.append_assoc]
      refine (List.perm_middle.nodup_iff).2 (List.nodup_cons.2 ⟨fun hm=>?_,hn⟩)
      rcases List.mem_append.1 hm with hm | hm
      · exact hc.1 hm
      · exact hc.2 hm
    rcases List.mem_append.1 hx2 with h | h
    · exact hf.2.1 x h
    · rw [List.mem_singleton.1 h]; exact ⟨hx n (by simp),hd,hv⟩
  | n::k::p,v,d,.mk g gd gf dirs files,T',hc,hp,hf,hx,hd,hv=>by
    simp only [Put] at hp
    rw [canPut,Bool.and_eq_true,Option.isNone_iff_eq_none] at hc
    obtain ⟨hc1,hc2⟩:=hc
    have hx':∀ x ∈ k::p,x.length≤1000000:=fun x h=>hx x (List.mem_cons_of_mem _ h)
    rcases hp with ⟨a,c,t,t',rfl,ha,hpt,rfl⟩ | ⟨hno,g1,gd1,gf1,t',hpt,rfl⟩
    · have hat:lookA n (a++(n,t)::c)=some t:=by simp [lookA_app,lookA,ha]
      rw [hat] at hc2
      rw [Fit_mk,FitL_iff] at hf ⊢
      refine ⟨by simp only [List.length_append,List.length_cons] at hf ⊢; omega,hf.2.1,fun x hx2=>?_,by have:=hf.2.2.2; simpa using this⟩
      have ht:=hf.2.2.1 (n,t) (by simp)
      rcases List.mem_append.1 hx2 with h | h
      · have:=hf.2.2.1 x (by simp [h]); exact ⟨this.1,Fit_mono (by omega) (fun _ _ h=>h) this.2⟩
      · rcases List.mem_cons.1 h with rfl | h
        · exact ⟨ht.1,Fit_put (k::p) v d t t' hc2 hpt ht.2 hx' hd hv⟩
        · have:=hf.2.2.1 x (by simp [h]); exact ⟨this.1,Fit_mono (by omega) (fun _ _ h=>h) this.2⟩
    · rw [Fit_mk,FitL_iff] at hf ⊢
      refine ⟨by simp only [List.length_append,List.length_singleton] at hf ⊢; omega,hf.2.1,fun x hx2=>?_,?_⟩
      rotate_left
      · have hn:=hf.2.2.2
        rw [lookA_none] at hc1 hno
        rw [List.map_append,List.map_cons,List.map_nil,← List.append_assoc]
        refine (List.perm_middle.nodup_iff).2 (List.nodup_cons.2 ⟨fun hm=>?_,by rw [List.append_nil]; exact hn⟩)
        rw [List.append_nil] at hm
        rcases List.mem_append.1 hm with hm | hm
        · exact hc1 hm
        · exact hno hm
      rcases List.mem_append.1 hx2 with h | h
      · have:=hf.2.2.1 x h; exact ⟨this.1,Fit_mono (by omega) (fun _ _ h=>h) this.2⟩
      · rw [List.mem_singleton.1 h]
        exact ⟨hx n (by simp),Fit_put (k::p) v d _ t' (canPut_nil _ (by simp) _ _ _) hpt (Fit_nil m R g1 gd1 gf1) hx' hd hv⟩
end Go.Proofs.YthkdkmaacjpneaaGreatDoor
namespace Go.Proofs.YthkdkmaacjpneaaGreatDoor
open Go.RowKit Go.Shelf
def srtRE:Ren:={
  f:=fun n=>match n with
    | 6=>65
    | 14=>96
    | 15=>70
    | 20=>130
    | 21=>131
    | 22=>132
    | 23=>133
    | 24=>134
    | 25=>135
    | 26=>136
    | 27=>137
    | 28=>107
    | 29=>108
    | 46=>157
    | 47=>140
    | 48=>141
    | 49=>158
    | 50=>159
    | 57=>170
    | n=>n,
  t:=fun n=>match n with
    | 0=>0
    | 3=>3
    | 4=>4
    | 5=>5
    | 9=>9
    | 22=>118
    | 24=>122
    | 25=>143
    | 39=>110
    | 45=>177
    | 46=>178
    | 50=>182
    | 53=>105
    | 55=>109
    | 66=>210
    | 70=>214
    | 76=>227
    | 77=>228
    | n=>n,
  g:=fun n=>n }
theorem laysSrtE:SlLaysF0.n6 Tryz.prog srtRE where
  mixed:=by kernel_rfl
  f6:=⟨ "slices.SortFunc[[]lattice/api.Entry,lattice/api.Entry]",by decide,by kernel_rfl⟩
  f14:=⟨ "slices.pdqsortCmpFunc[lattice/api.Entry]",by decide,by kernel_rfl⟩
  f15:=by kernel_rfl
  f20:=⟨ "slices.insertionSortCmpFunc[lattice/api.Entry]",by decide,by kernel_rfl⟩
  f21:=⟨ "slices.heapSortCmpFunc[lattice/api.Entry]",by decide,by kernel_rfl⟩
  f22:=⟨ "slices.breakPatternsCmpFunc[lattice/api.Entry]",by decide,by kernel_rfl⟩
  f23:=⟨ "slices.choosePivotCmpFunc[lattice/api.Entry]",by decide,by kernel_rfl⟩
  f24:=⟨ "slices.reverseRangeCmpFunc[lattice/api.Entry]",by decide,by kernel_rfl⟩
  f25:=⟨ "slices.partialInsertionSortCmpFunc[lattice/api.Entry]",by decide,by kernel_rfl⟩
  f26:=⟨ "slices.partitionEqualCmpFunc[lattice/api.Entry]",by decide,by kernel_rfl⟩
  f27:=⟨ "slices.partitionCmpFunc[lattice/api.Entry]",by decide,by kernel_rfl⟩
  f28:=by kernel_rfl
  f29:=by kernel_rfl
  f46:=⟨ "slices.siftDownCmpFunc[lattice/api.Entry]",by decide,by kernel_rfl⟩
  f47:=by kernel_rfl
  f48:=by kernel_rfl
  f49:=⟨ "slices.medianAdjacentCmpFunc[lattice/api.Entry]",by decide,by kernel_rfl⟩
  f50:=⟨ "slices.medianCmpFunc[lattice/api.Entry]",by decide,by kernel_rfl⟩
  f57:=⟨ "slices.order2CmpFunc[lattice/api.Entry]",by decide,by kernel_rfl⟩
  t0:=Tryz.underlying0
  a0:=Tryz.isAgg0
  z0:=Tryz.sizeOf0
  v0:=Tryz.zeroValue0
  t3:=Tryz.underlying3
  a3:=Tryz.isAgg3
  z3:=Tryz.sizeOf3
  v3:=Tryz.zeroValue3
  t4:=Tryz.underlying4
  a4:=Tryz.isAgg4
  z4:=Tryz.sizeOf4
  v4:=Tryz.zeroValue4
  t5:=Tryz.underlying5
  a5:=Tryz.isAgg5
  z5:=Tryz.sizeOf5
  v5:=Tryz.zeroValue5
  t9:=Tryz.underlying9
  a9:=Tryz.isAgg9
  z9:=Tryz.sizeOf9
  v9:=Tryz.zeroValue9
  t22:=Tryz.underlying118
  a22:=Tryz.isAgg118
  z22:=Tryz.sizeOf118
  v22:=Tryz.zeroValue118
  t25:=Tryz.underlying143
  a25:=Tryz.isAgg143
  z25:=Tryz.sizeOf143
  v25:=Tryz.zeroValue143
  t39:=Tryz.underlying110
  a39:=Tryz.isAgg110
  z39:=Tryz.sizeOf110
  v39:=Tryz.zeroValue110
  t45:=Tryz.underlying177
  a45:=Tryz.isAgg177
  z45:=Tryz.sizeOf177
  v45:=Tryz.zeroValue177
  t46:=Tryz.underlying178
  a46:=Tryz.isAgg178
  z46:=Tryz.sizeOf178
  v46:=Tryz.zeroValue178
  t50:=Tryz.underlying182
  a50:=Tryz.isAgg182
  z50:=Tryz.sizeOf182
  v50:=Tryz.zeroValue182
  t53:=Tryz.underlying105
  a53:=Tryz.isAgg105
  z53:=Tryz.sizeOf105
  v53:=Tryz.zeroValue105
  t55:=Tryz.underlying109
  a55:=Tryz.isAgg109
  z55:=Tryz.sizeOf109
  v55:=Tryz.zeroValue109
  t66:=Tryz.underlying210
  a66:=Tryz.isAgg210
  z66:=Tryz.sizeOf210
  v66:=Tryz.zeroValue210
  t70:=Tryz.underlying214
  a70:=Tryz.isAgg214
  z70:=Tryz.sizeOf214
  v70:=Tryz.zeroValue214
  t76:=Tryz.underlying227
  a76:=Tryz.isAgg227
  z76:=Tryz.sizeOf227
  v76:=Tryz.zeroValue227
  t77:=Tryz.underlying228
  a77:=Tryz.isAgg228
  z77:=Tryz.sizeOf228
  v77:=Tryz.zeroValue228
end Go.Proofs.YthkdkmaacjpneaaGreatDoor
namespace Go.Proofs.YthkdkmaacjpneaaGreatDoor
open Go.RowKit Go.Shelf
def srtRB:Ren:={
  f:=fun n=>match n with
    | 6=>39
    | 14=>69
    | 15=>70
    | 20=>99
    | 21=>100
    | 22=>101
    | 23=>102
    | 24=>103
    | 25=>104
    | 26=>105
    | 27=>106
    | 28=>107
    | 29=>108
    | 46=>139
    | 47=>140
    | 48=>141
    | 49=>142
    | 50=>143
    | 57=>160
    | n=>n,
  t:=fun n=>match n with
    | 0=>0
    | 3=>3
    | 4=>4
    | 5=>5
    | 9=>9
    | 22=>27
    | 24=>59
    | 25=>92
    | 39=>110
    | 45=>177
    | 46=>178
    | 50=>182
    | 53=>105
    | 55=>109
    | 66=>210
    | 70=>214
    | 76=>227
    | 77=>228
    | n=>n,
  g:=fun n=>n }
theorem laysSrtB:SlLaysF0.n6 Tryz.prog srtRB where
  mixed:=by kernel_rfl
  f6:=⟨ "slices.SortFunc[[]lattice/api.Block,lattice/api.Block]",by decide,by kernel_rfl⟩
  f14:=⟨ "slices.pdqsortCmpFunc[lattice/api.Block]",by decide,by kernel_rfl⟩
  f15:=by kernel_rfl
  f20:=⟨ "slices.insertionSortCmpFunc[lattice/api.Block]",by decide,by kernel_rfl⟩
  f21:=⟨ "slices.heapSortCmpFunc[lattice/api.Block]",by decide,by kernel_rfl⟩
  f22:=⟨ "slices.breakPatternsCmpFunc[lattice/api.Block]",by decide,by kernel_rfl⟩
  f23:=⟨ "slices.choosePivotCmpFunc[lattice/api.Block]",by decide,by kernel_rfl⟩
  f24:=⟨ "slices.reverseRangeCmpFunc[lattice/api.Block]",by decide,by kernel_rfl⟩
  f25:=⟨ "slices.partialInsertionSortCmpFunc[lattice/api.Block]",by decide,by kernel_rfl⟩
  f26:=⟨ "slices.partitionEqualCmpFunc[lattice/api.Block]",by decide,by kernel_rfl⟩
  f27:=⟨ "slices.partitionCmpFunc[lattice/api.Block]",by decide,by kernel_rfl⟩
  f28:=by kernel_rfl
  f29:=by kernel_rfl
  f46:=⟨ "slices.siftDownCmpFunc[lattice/api.Block]",by decide,by kernel_rfl⟩
  f47:=by kernel_rfl
  f48:=by kernel_rfl
  f49:=⟨ "slices.medianAdjacentCmpFunc[lattice/api.Block]",by decide,by kernel_rfl⟩
  f50:=⟨ "slices.medianCmpFunc[lattice/api.Block]",by decide,by kernel_rfl⟩
  f57:=⟨ "slices.order2CmpFunc[lattice/api.Block]",by decide,by kernel_rfl⟩
  t0:=Tryz.underlying0
  a0:=Tryz.isAgg0
  z0:=Tryz.sizeOf0
  v0:=Tryz.zeroValue0
  t3:=Tryz.underlying3
  a3:=Tryz.isAgg3
  z3:=Tryz.sizeOf3
  v3:=Tryz.zeroValue3
  t4:=Tryz.underlying4
  a4:=Tryz.isAgg4
  z4:=Tryz.sizeOf4
  v4:=Tryz.zeroValue4
  t5:=Tryz.underlying5
  a5:=Tryz.isAgg5
  z5:=Tryz.sizeOf5
  v5:=Tryz.zeroValue5
  t9:=Tryz.underlying9
  a9:=Tryz.isAgg9
  z9:=Tryz.sizeOf9
  v9:=Tryz.zeroValue9
  t22:=Tryz.underlying27
  a22:=Tryz.isAgg27
  z22:=Tryz.sizeOf27
  v22:=Tryz.zeroValue27
  t25:=Tryz.underlying92
  a25:=Tryz.isAgg92
  z25:=Tryz.sizeOf92
  v25:=Tryz.zeroValue92
  t39:=Tryz.underlying110
  a39:=Tryz.isAgg110
  z39:=Tryz.sizeOf110
  v39:=Tryz.zeroValue110
  t45:=Tryz.underlying177
  a45:=Tryz.isAgg177
  z45:=Tryz.sizeOf177
  v45:=Tryz.zeroValue177
  t46:=Tryz.underlying178
  a46:=Tryz.isAgg178
  z46:=Tryz.sizeOf178
  v46:=Tryz.zeroValue178
  t50:=Tryz.underlying182
  a50:=Tryz.isAgg182
  z50:=Tryz.sizeOf182
  v50:=Tryz.zeroValue182
  t53:=Tryz.underlying105
  a53:=Tryz.isAgg105
  z53:=Tryz.sizeOf105
  v53:=Tryz.zeroValue105
  t55:=Tryz.underlying109
  a55:=Tryz.isAgg109
  z55:=Tryz.sizeOf109
  v55:=Tryz.zeroValue109
  t66:=Tryz.underlying210
  a66:=Tryz.isAgg210
  z66:=Tryz.sizeOf210
  v66:=Tryz.zeroValue210
  t70:=Tryz.underlying214
  a70:=Tryz.isAgg214
  z70:=Tryz.sizeOf214
  v70:=Tryz.zeroValue214
  t76:=Tryz.underlying227
  a76:=Tryz.isAgg227
  z76:=Tryz.sizeOf227
  v76:=Tryz.zeroValue227
  t77:=Tryz.underlying228
  a77:=Tryz.isAgg228
  z77:=Tryz.sizeOf228
  v77:=Tryz.zeroValue228
end Go.Proofs.YthkdkmaacjpneaaGreatDoor
namespace Go.Proofs.YthkdkmaacjpneaaGreatDoor
open Go.RowKit Go.Shelf Go.Lib Go.Sort
section
variable {α:Type} [Inhabited α] {enc:α→List Value} {k:Nat}
theorem flat_rec (hk:∀ x,(enc x).length=k) (xs:List α) (j:Nat) (hj:j < xs.length * k):(recC enc xs)[j]?=some ((flatK enc k xs.toArray)[j]!):=by
  have k0:0 < k:=by
    rcases Nat.eq_zero_or_pos k with h | h
    · subst h; simp at hj
    · exact h
  have hq:j / k < xs.length:=by rw [Nat.div_lt_iff_lt_mul k0]; exact hj
  have hr:j % k < k:=Nat.mod_lt _ k0
  have h:=recC_at (f:=enc) (S:=k) (es:=xs) (d:=default) (fun e _=>hk e) hq hr
  rw [show j / k * k + j % k=j by rw [Nat.mul_comm]; exact Nat.div_add_mod j k] at h
  rw [h,get_flatK _ _ _ _ (by simpa using hj)]
  have e1:xs.getD (j / k) default=xs.toArray[j / k]!:=by simp [hq]
  rw [e1,List.getElem?_eq_getElem (by rw [hk]; exact hr)]
  rw [getElem!_pos (enc xs.toArray[j / k]!) (j % k) (by rw [hk]; exact hr)]
theorem sort_put {E:Env} {L:Res} {w:World} {r g m:Nat} {e:TypeId} {cap:Nat} {xs ys:List α} {os:Array Obj} (hk:∀ x,(enc x).length=k) (hS:Sat E L w) (hr:look L r=some (rowP e k (.slice (some ⟨g,0,none⟩) xs.length cap) xs.length (recC enc xs))) (hl:ys.length=xs.length) :
    Sat E ((r,rowP e k (.slice (some ⟨g,0,none⟩) xs.length cap) ys.length (recC enc ys))::L) (sortWorldK enc k w g 0 m ys.toArray os) :=
  hS.step hr fun h hp hin=>by
    obtain ⟨h1,h2⟩:=hp
    rcases h2 with ⟨h2,_⟩ | ⟨g',cap',cur,hv,hg,hn,hcap,hcs,htk⟩
    · cases h2
    · injection hv with hv1 hv2 hv3
      injection hv1 with hv1
      injection hv1 with hv1 _ _
      subst hv1; subst hv3
      have hw:=hin _ _ hg
      have hlt:=lt_of_heap hw
      have hnk:xs.length * k≤cur.size:=by rw [hcs]; exact Nat.mul_le_mul_right k hn
      have hw':(sortWorldK enc k w g 0 m ys.toArray os).heap[g]?=some (.cells (putCells id 0 (flatK enc k ys.toArray) cur) e (0,0)):=by
        unfold sortWorldK grow putRowK putRow mapBlock Sort.ahead
        simp only
        rw [Array.getElem?_append_left (by rw [Array.size_modify]; exact hlt),Array.getElem?_modify,if_pos rfl,hw]
        rfl
      refine ⟨[g],single g (.cells (putCells id 0 (flatK enc k ys.toArray) cur) e (0,0)),by simp [hg],⟨rfl,rfl,rfl,?_,fun q hq hm=>?_⟩,⟨?_,.inr ⟨g,cap,putCells id 0 (flatK enc k ys.toArray) cur,by rw [hl],single_same _ _,by omega,hcap,by simp [putCells,hcs],?_⟩⟩,single_in hw',fun q hq=>.inl (by rw [single_dom hq,hg]; rfl)⟩
      · unfold sortWorldK grow putRowK putRow mapBlock Sort.ahead
        simp
      · unfold sortWorldK grow putRowK putRow mapBlock Sort.ahead
        simp only
        rw [Array.getElem?_append_left (by rw [Array.size_modify]; exact hq),Array.getElem?_modify,if_neg (fun h=>hm (by simp [h]))]
      · exact recC_length fun e _=>hk e
      · apply List.ext_getElem?
        intro j
        rw [List.getElem?_take]
        split
        · rename_i hj
          rw [flat_rec hk ys j hj,Array.getElem?_toList]
          unfold putCells
          rw [Array.getElem?_mapIdx,Array.getElem?_eq_getElem (show j < cur.size by rw [hl] at hj; omega),Option.map_some,if_pos ⟨Nat.zero_le _,by simpa using hj⟩]
          rfl
        · rename_i hj
          rw [List.getElem?_eq_none (by rw [recC_length fun e _=>hk e]; omega)]
theorem sortFunc_S {P:Program} {ρ:Ren} (L:SlLaysF0.n6 P ρ) {e:TypeId} (aE:∀ w,(isAgg (ρ.t 24)).run P w = .ok true w) (zE:∀ w,(Go.sizeOf (ρ.t 24)).run P w = .ok k w) (hk:∀ x,(enc x).length=k) (h1:∀ x,∀ v ∈ enc x,v.oneCell'=true) (cf:α→α→Int) (hO:SWO (ltOf cf)) (g:Nat) (cb:Array Value)
    (eg:∀ args w,(callFunc g args).run P w = .ok (.enter g args) w) (hcmp:∀ blk off size w,CmpLays P g cb enc k cf blk off size w) (v:Value) (xs:List α) (hlen:xs.length < 4611686018427387904) (F:HP) :
    CallsS P (ρ.f 6) #[v,.func (.func g) #[] cb] F [rowP e k v xs.length (recC enc xs)] (fun r Ps=>r = .tuple #[]∧∃ ys,ys.Perm xs∧ys.Pairwise (fun a b=>ltOf cf b a=false)∧Ps=[rowP e k v ys.length (recC enc ys)]):=by
  intro E w hS
  obtain ⟨h,q1,q2⟩:=hS.read (r:=1) rfl
  obtain ⟨h2,h3⟩:=q1
  rcases h3 with ⟨rfl,h4⟩ | ⟨gb,cap,cur,rfl,hg,hn,hcap,hcs,htk⟩
  · have hx:xs=[]:=List.length_eq_zero_iff.1 h4
    subst hx
    refine (AnyF.slices_SortFunc_none L none 0 _ w).mono ?_
    rintro e' w' ⟨rfl,rfl⟩
    exact ⟨_,_,rfl,⟨rfl,[],List.Perm.refl _,List.Pairwise.nil,rfl⟩,hS⟩
  · have hw:=q2 _ _ hg
    have hnk:xs.length * k≤cur.size:=by rw [hcs]; exact Nat.mul_le_mul_right k hn
    have hH:HoldsK enc k w gb 0 xs.toArray:=by
      intro j hj
      have hj':j < xs.length * k:=by simpa using hj
      refine ⟨?_,by simp [World.frozen?,hw]⟩
      have hx:=flat_rec hk xs j hj'
      rw [← htk,List.getElem?_take,if_pos hj',Array.getElem?_toList] at hx
      simp only [World.cell?,hw,Nat.zero_add,Option.isSome_none,Bool.false_eq_true,if_false]
      exact hx
    have:=AnyQ.slices_SortFunc L k aE zE enc hk h1 cf hO g cb gb 0 cap xs.toArray w eg (hcmp _ _ _ _) hH (lt_of_heap hw) (by simpa using hlen)
    rw [show xs.toArray.size=xs.length by simp] at this
    refine this.mono ?_
    rintro e' w' ⟨rfl,d',m,os,hp,hs,rfl⟩
    have hd:d'.size=xs.length:=by have:=hp.1; simpa using this
    refine ⟨_,_,rfl,⟨rfl,d'.toList,?_,?_,rfl⟩,?_⟩
    · have:=hp.2.2
      rw [show d'.extract 0 xs.length=d' by rw [← hd]; simp,show xs.toArray.extract 0 xs.length=xs.toArray by simp] at this
      simpa using this
    · rw [List.pairwise_iff_getElem]
      intro i j hi hj hij
      have:=hs i j (Nat.zero_le _) hij (by simpa [hd] using hj)
      rw [getElem!_pos d' i (by simpa using hi),getElem!_pos d' j (by simpa using hj)] at this
      simpa using this
    · have:=(sort_put (m:=m) (os:=os) hk hS (r:=1) rfl (ys:=d'.toList) (by simpa using hd)).pick (ids:=[0,1]) (Ps:=[F,rowP e k (.slice (some ⟨gb,0,none⟩) xs.length cap) d'.toList.length (recC enc d'.toList)]) ⟨rfl,rfl,trivial⟩ (by decide)
      simpa using this
end
open Go.RowKit
def ltK:List UInt8→List UInt8→Bool
  | [],[]=>false
  | [],_::_=>true
  | _::_,[]=>false
  | x::a,y::b=>decide (x < y) || (decide (x=y) && ltK a b)
theorem u8_lt_irrefl (x:UInt8):¬ x < x:=by rw [UInt8.lt_iff_toNat_lt]; omega
theorem ltK_irrefl:∀ a,ltK a a=false
  | []=>rfl
  | x::a=>by simp [ltK,ltK_irrefl a,u8_lt_irrefl]
theorem ltK_trans:∀ a b c,ltK a b=true→ltK b c=true→ltK a c=true
  | [],[],c,h,_=>by simp [ltK] at h
  | [],y::b,[],_,h=>by simp [ltK] at h
  | [],y::b,z::c,_,_=>rfl
  | x::a,[],c,h,_=>by simp [ltK] at h
  | x::a,y::b,[],_,h=>by simp [ltK] at h
  | x::a,y::b,z::c,h1,h2=>by
    simp only [ltK,Bool.or_eq_true,Bool.and_eq_true,decide_eq_true_eq,UInt8.lt_iff_toNat_lt,← UInt8.toNat_inj] at h1 h2 ⊢
    rcases h1 with h1 | ⟨h1,h1'⟩ <;> rcases h2 with h2 | ⟨h2,h2'⟩
    · left; omega
    · left; omega
    · left; omega
    · right; exact ⟨by omega,ltK_trans a b c h1' h2'⟩
theorem ltK_tri:∀ a b,a.length=b.length→ltK a b=false→ltK b a=false→a=b
  | [],[],_,_,_=>rfl
  | [],_::_,h,_,_=>by simp at h
  | _::_,[],h,_,_=>by simp at h
  | x::a,y::b,h,h1,h2=>by
    simp only [ltK,Bool.or_eq_false_iff,Bool.and_eq_false_iff,decide_eq_false_iff_not,UInt8.lt_iff_toNat_lt,← UInt8.toNat_inj] at h1 h2
    have hxy:x=y:=UInt8.toNat_inj.1 (by omega)
    subst hxy
    rw [ltK_tri a b (by simpa using h) (by simpa using h1.2) (by simpa using h2.2)]
theorem ltK_ntrans (a b c:List UInt8) (h1:a.length=b.length) (h2:b.length=c.length) (hab:ltK a b=false) (hbc:ltK b c=false):ltK a c=false:=by
  cases h:ltK a c with
  | false=>rfl
  | true =>
    exfalso
    cases hba:ltK b a with
    | false=>rw [ltK_tri a b h1 hab hba] at h; rw [h] at hbc; cases hbc
    | true =>
      cases hcb:ltK c b with
      | false =>
        rw [← ltK_tri b c h2 hbc hcb] at h
        rw [h] at hab; cases hab
      | true =>
        have:=ltK_trans a c b h hcb
        rw [this] at hab; cases hab
theorem ltK_at:∀ (p:List UInt8) (x y:UInt8) (a b:List UInt8),x≠y→ltK (p++x::a) (p++y::b)=decide (x < y)
  | [],x,y,a,b,h=>by simp [ltK,h]
  | z::p,x,y,a,b,h=>by simp [ltK,u8_lt_irrefl,ltK_at p x y a b h]
theorem split_at (a b:List UInt8) (i:Nat) (ha:i < a.length) (hb:i < b.length) (h:∀ j,j < i→a[j]?=b[j]?):a.take i=b.take i:=by
  apply List.ext_getElem?
  intro j
  rw [List.getElem?_take,List.getElem?_take]
  split
  · rename_i hj; exact h j hj
  · rfl
theorem ba_get (l:List UInt8) (i:Nat) (h:i < l.length):(⟨l.toArray⟩:ByteArray)[i]! = l[i]:=by
  rw [getElem!_pos (⟨l.toArray⟩:ByteArray) i (by show i < l.toArray.size; simpa using h)]
  rfl
theorem cmp_lt (a b:List UInt8) (h:a.length=b.length):decide (Extern.BytealgCompare.cmp ⟨a.toArray⟩ ⟨b.toArray⟩ < 0)=ltK a b:=by
  unfold Extern.BytealgCompare.cmp
  rw [show (⟨a.toArray⟩:ByteArray).size=a.length by show a.toArray.size=_; simp,show (⟨b.toArray⟩:ByteArray).size=b.length by show b.toArray.size=_; simp,h,Nat.min_self]
  cases hf:(List.range b.length).find? fun i=>(⟨a.toArray⟩:ByteArray)[i]! != (⟨b.toArray⟩:ByteArray)[i]! with
  | none =>
    rw [List.find?_eq_none] at hf
    have:a=b:=by
      apply List.ext_getElem h
      intro i h1 h2
      have:=hf i (List.mem_range.2 h2)
      rw [ba_get a i h1,ba_get b i h2] at this
      simpa using this
    subst this
    simp [ltK_irrefl]
  | some i =>
    have hi:i < b.length:=List.mem_range.1 (List.mem_of_find?_eq_some hf)
    have hne:=List.find?_some hf
    have hbef:∀ j,j < i→a[j]?=b[j]?:=by
      intro j hj
      rw [List.find?_range_eq_some] at hf
      have:=hf.2.2 j hj
      rw [ba_get a j (by omega),ba_get b j (by omega)] at this
      rw [List.getElem?_eq_getElem (by omega),List.getElem?_eq_getElem (by omega)]
      simpa using this
    rw [ba_get a i (by omega),ba_get b i hi] at hne
    have hne:a[i]≠b[i]:=by simpa using hne
    have ea:a=a.take i++a[i]::a.drop (i + 1):=by rw [← List.drop_eq_getElem_cons,List.take_append_drop]
    have eb:b=a.take i++b[i]::b.drop (i + 1):=by rw [split_at a b i (by omega) hi hbef,← List.drop_eq_getElem_cons,List.take_append_drop]
    have hk:ltK a b=decide (a[i] < b[i]):=(congr (congrArg ltK ea) eb).trans (ltK_at _ _ _ _ _ hne)
    rw [hk]
    simp only [ba_get a i (by omega),ba_get b i hi]
    by_cases hlt:a[i] < b[i] <;> simp [hlt]
theorem run_loadL {P:Program} (w:World):∀ (l:List UInt8) (a:Addr) (acc:ByteArray),(∀ j x,l[j]?=some x→w.cell? (a.add j)=some (bv x))→(Extern.Bytes.loadBytes a l.length acc).run P w = .ok ⟨acc.data++l.toArray⟩ w
  | [],a,acc,_=>by simp [Extern.Bytes.loadBytes]
  | x::l,a,acc,h=>by
    have h0:w.cell? a=some (.int .u8 (x.toNat:Int)):=by
      have:=h 0 x rfl
      simpa [Addr.add,bv] using this
    have ih:=run_loadL (P:=P) w l (a.add 1) (acc.push x) (fun j y hy=>by
      have:=h (j + 1) y (by simpa using hy)
      rw [add_of_add,Nat.add_comm 1 j]
      exact this)
    simp only [List.length_cons,Extern.Bytes.loadBytes,Sem.run_bind,run_load,h0,Result.andThen]
    have e:((x.toNat:Int).toNat.toUInt8)=x:=by simp
    rw [e,ih]
    congr 1
    apply ByteArray.ext
    simp [ByteArray.push]
open Go.RowKit
def bkC (k:List UInt8) (v:Value) (s e:Int):List Value:=bs k++[v,.int .i64 s,.int .i64 e]
abbrev BV:={ m:List UInt8 × Value × Int × Int // m.1.length=32∧m.2.1.oneCell'=true }
def BV.key (x:BV):List UInt8:=x.1.1
def BV.sl (x:BV):Value:=x.1.2.1
def BV.src (x:BV):Int:=x.1.2.2.1
def BV.exp (x:BV):Int:=x.1.2.2.2
instance:Inhabited BV:=⟨⟨(zeroId,.slice none 0 0,0,0),by decide,rfl⟩⟩
def bvC (x:BV):List Value:=bkC x.key x.sl x.src x.exp
theorem BV.len (x:BV):x.key.length=32:=x.2.1
theorem BV.one (x:BV):x.sl.oneCell'=true:=x.2.2
theorem bkC_length {k:List UInt8} {v:Value} {s e:Int} (h:k.length=32):(bkC k v s e).length=35:=by simp [bkC,bs_length,h]
theorem bvC_length (x:BV):(bvC x).length=35:=bkC_length x.len
theorem bkC_one {k:List UInt8} {v:Value} {s e:Int} (h:v.oneCell'=true):∀ u ∈ bkC k v s e,u.oneCell'=true:=by
  intro u hu
  rcases List.mem_append.1 hu with hu | hu
  · exact bs_one k u hu
  · simp at hu
    rcases hu with rfl | rfl | rfl
    · exact h
    · rfl
    · rfl
theorem bvC_one:∀ x:BV,∀ u ∈ bvC x,u.oneCell'=true:=fun x=>bkC_one x.one
section
variable {k:List UInt8} {v:Value} {s e:Int} (h:k.length=32)
include h
theorem bk_data:(bkC k v s e)[32]?=some v:=by
  unfold bkC; rw [List.getElem?_append_right (by rw [bs_length]; omega),bs_length,h]; rfl
theorem bk_src:(bkC k v s e)[33]?=some (.int .i64 s):=by
  unfold bkC; rw [List.getElem?_append_right (by rw [bs_length]; omega),bs_length,h]; rfl
theorem bk_exp:(bkC k v s e)[34]?=some (.int .i64 e):=by
  unfold bkC; rw [List.getElem?_append_right (by rw [bs_length]; omega),bs_length,h]; rfl
theorem bk_key:((bkC k v s e).drop 0).take 32=bs k:=by
  unfold bkC; rw [List.drop_zero,List.take_append_of_le_length (by rw [bs_length]; omega)]
  exact List.take_of_length_le (by rw [bs_length]; omega)
end
end Go.Proofs.YthkdkmaacjpneaaGreatDoor
namespace Go.Proofs.YthkdkmaacjpneaaGreatDoor
open Go.RowKit Go.Shelf Go.Lib Go.Sort
set_option maxRecDepth 8000
theorem cmp_less:∀ a b:List UInt8,decide (Lib.compareBytes a b < 0)=Op.bytesLess a b
  | [],[]=>rfl
  | [],_::_=>rfl
  | _::_,[]=>rfl
  | x::a,y::b=>by
    have ih:=cmp_less a b
    simp only [Lib.compareBytes,Op.bytesLess]
    rcases Nat.lt_trichotomy x.toNat y.toNat with h | h | h
    · have h1:x < y:=UInt8.lt_iff_toNat_lt.2 h
      simp [h1]
    · have h0:x=y:=UInt8.toNat_inj.1 h
      subst h0
      have h1:¬ x < x:=fun hc=>by have:=UInt8.lt_iff_toNat_lt.1 hc; omega
      simp only [h1,if_false,beq_self_eq_true,Bool.true_and,decide_false,Bool.false_or]
      exact ih
    · have h1:y < x:=UInt8.lt_iff_toNat_lt.2 h
      have h2:¬ x < y:=fun hc=>by have:=UInt8.lt_iff_toNat_lt.1 hc; omega
      have h3:(x == y)=false:=by simp; intro hc; subst hc; omega
      simp [h1,h2,h3]
theorem less_trans:∀ a b c:List UInt8,Op.bytesLess a b=true→Op.bytesLess b c=true→Op.bytesLess a c=true
  | a,[],c,h,_=>by cases a <;> cases h
  | [],y::b,[],_,h=>by cases h
  | [],y::b,z::c,_,_=>rfl
  | x::a,y::b,[],_,h=>by cases h
  | x::a,y::b,z::c,h1,h2=>by
    simp only [Op.bytesLess,Bool.or_eq_true,Bool.and_eq_true,decide_eq_true_eq,beq_iff_eq] at h1 h2 ⊢
    rcases h1 with h1 | ⟨rfl,h1⟩
    · rcases h2 with h2 | ⟨rfl,h2⟩
      · exact .inl (by rw [UInt8.lt_iff_toNat_lt] at *; omega)
      · exact .inl h1
    · rcases h2 with h2 | ⟨rfl,h2⟩
      · exact .inl h2
      · exact .inr ⟨rfl,less_trans a b c h1 h2⟩
theorem less_ntrans (a b c:List UInt8) (h1:Op.bytesLess a b=false) (h2:Op.bytesLess b c=false):Op.bytesLess a c=false:=by
  cases h:Op.bytesLess a c with
  | false=>rfl
  | true =>
    have:=less_tri b c
    rw [h2] at this
    rcases Bool.eq_false_or_eq_true (Op.bytesLess c b) with h3 | h3
    · rw [less_trans a c b h h3] at h1; cases h1
    · rw [h3] at this
      have hcb:c=b:=by simpa using this
      subst hcb
      rw [h] at h1; cases h1
theorem less_anti {a b:List UInt8} (h1:Op.bytesLess a b=false) (h2:Op.bytesLess b a=false):a=b:=by
  have:=less_tri b a
  rw [h1,h2] at this
  simpa using this
abbrev EV:={ e:Ent // e.2.length=32 }
instance:Inhabited EV:=⟨⟨([],zeroId),by decide⟩⟩
def evC (x:EV):List Value:=entF x.1
theorem evC_length (x:EV):(evC x).length=33:=entC_length x.2
theorem evC_one (x:EV):∀ u ∈ evC x,u.oneCell'=true:=entC_one _ _
def cfE (x y:EV):Int:=Lib.compareBytes x.1.1 y.1.1
theorem lt_cfE (x y:EV):ltOf cfE x y=Op.bytesLess x.1.1 y.1.1:=cmp_less _ _
theorem swoE:SWO (ltOf cfE) where
  irrefl x:=by rw [lt_cfE,less_irr]
  trans x y z h1 h2:=by rw [lt_cfE] at *; exact less_trans _ _ _ h1 h2
  ntrans x y z h1 h2:=by rw [lt_cfE] at *; exact less_ntrans _ _ _ h1 h2
theorem cmpStr_run (a b:ByteArray) (W:World):(callFunc 138 #[.string a,.string b]).run Tryz.prog W = .ok (.value (.int .i64 (Lib.compareBytes a.data.toList b.data.toList))) W:=by
  rw [run_callFunc_standIn (e:=Extern.BytealgCompare.compare) Tryz.func138 (by kernel_rfl) (by kernel_rfl) (by kernel_rfl) (by kernel_rfl)]
  simp [Lib.run_compareString,Result.andThen]
theorem closureE_any (cx cy:Array Value) (a b:ByteArray) (W:World) (ha:cx[0]?=some (.string a)) (hb:cy[0]?=some (.string b)) :
    Calls Tryz.prog 66 #[.agg cx,.agg cy] W fun e w'=>e = .returned (.int .i64 (Lib.compareBytes a.data.toList b.data.toList))∧∃ q os',w'=grow (W.drewN q) os':=by
  go_enter Tryz.func66,Tryz.ntmps66
  have h0:(((W.alloc (.cells cx 122)).alloc (.cells cy 122))).heap[W.heap.size]?=some (.cells cx 122 (0,0)):=by
    rw [heap_alloc_old _ _ (by simp)]; exact heap_alloc_new W _
  have h1:(((W.alloc (.cells cx 122)).alloc (.cells cy 122))).heap[W.heap.size + 1]?=some (.cells cy 122 (0,0)):=by
    have:=heap_alloc_new (W.alloc (.cells cx 122)) (.cells cy 122)
    rwa [World.size_alloc] at this
  have c0:(((W.alloc (.cells cx 122)).alloc (.cells cy 122))).cell? ⟨W.heap.size,0,none⟩=some (.string a):=by
    simp only [World.cell?,h0]; exact ha
  have c1:(((W.alloc (.cells cx 122)).alloc (.cells cy 122))).cell? ⟨W.heap.size + 1,0,none⟩=some (.string b):=by
    simp only [World.cell?,h1]; exact hb
  clear h0 h1
  go_wp2
  rw [cmpStr_run,Oper.upon_value]
  go_wp2
  go_ret
  exact ⟨rfl,0,_,by rw [alloc_eq_grow,alloc_eq_grow,grow_grow]; rfl⟩
end Go.Proofs.YthkdkmaacjpneaaGreatDoor
namespace Go.Proofs.YthkdkmaacjpneaaGreatDoor
open Go.RowKit Go.Shelf Go.Lib Go.Sort
set_option maxRecDepth 8000
theorem cmpLaysE (blk off size:Nat) (w:World):CmpLays Tryz.prog 66 #[] evC 33 cfE blk off size w:=fun m os dk hs x y =>
  closureE_any (evC x).toArray (evC y).toArray (strB x.1.1) (strB y.1.1) _ rfl rfl
theorem sortE_spec (v:Value) (xs:List EV) (hlen:xs.length < 4611686018427387904) (F:HP):CallsS Tryz.prog 65 #[v,.func (.func 66) #[] #[]] F [rowP 122 33 v xs.length (recC evC xs)]
    (fun r Ps=>r = .tuple #[]∧∃ ys,ys.Perm xs∧ys.Pairwise (fun a b=>Op.bytesLess b.1.1 a.1.1=false)∧Ps=[rowP 122 33 v ys.length (recC evC ys)]) :=
  (sortFunc_S laysSrtE (k:=33) (e:=122) (enc:=evC) Tryz.isAgg122 Tryz.sizeOf122 evC_length evC_one cfE swoE 66 #[] (enters_of Tryz.func66 (by kernel_rfl) rfl) cmpLaysE v xs hlen F).imp fun r Ps ⟨h1,ys,h2,h3,h4⟩ =>
    ⟨h1,ys,h2,h3.imp fun h=>by rw [← lt_cfE]; exact h,h4⟩
theorem ltK_less:∀ a b:List UInt8,ltK a b=Op.bytesLess a b
  | [],[]=>rfl
  | [],_::_=>rfl
  | _::_,[]=>rfl
  | x::a,y::b=>by
    simp only [ltK,Op.bytesLess,ltK_less a b]
    by_cases h:x=y <;> simp [h]
theorem compare_any (va vb:Value) (A B:ByteArray) (W:World) (hA:(Extern.Bytes.bytesOf va).run Tryz.prog W = .ok A W) (hB:(Extern.Bytes.bytesOf vb).run Tryz.prog W = .ok B W):Calls Tryz.prog 41 #[va,vb] W fun e w'=>e = .returned (.int .i64 (Extern.BytealgCompare.cmp A B))∧w'=W:=by
  have hrun:(callFunc 71 #[va,vb]).run Tryz.prog W = .ok (.value (.int .i64 (Extern.BytealgCompare.cmp A B))) W:=by
    rw [run_callFunc_standIn (e:=Extern.BytealgCompare.compare) Tryz.func71 (by kernel_rfl) (by kernel_rfl) (by kernel_rfl) (by kernel_rfl)]
    rw [show Extern.BytealgCompare.compare #[va,vb]=(do pure (goInt (Extern.BytealgCompare.cmp (← Extern.Bytes.bytesOf va) (← Extern.Bytes.bytesOf vb)))) from rfl]
    simp [hA,hB,Result.andThen,goInt]
  go_enter Tryz.func41,Tryz.ntmps41
  go_wp2
  go_ret
  exact ⟨rfl,rfl⟩
theorem closure_any (cx cy:Array Value) (z:Int) (W:World) (hc:∀ W':World,W'.heap[W.heap.size]?=some (.cells cx 59 (0,0))→W'.heap[W.heap.size + 1]?=some (.cells cy 59 (0,0)) →
      Calls Tryz.prog 41 #[.slice (some ⟨W.heap.size,0,none⟩) 32 32,.slice (some ⟨W.heap.size + 1,0,none⟩) 32 32] W' fun e w'=>e = .returned (.int .i64 z)∧w'=W') :
    Calls Tryz.prog 40 #[.agg cx,.agg cy] W fun e w'=>e = .returned (.int .i64 z)∧∃ q os',w'=grow (W.drewN q) os':=by
  go_enter Tryz.func40,Tryz.ntmps40
  have h0:(((W.alloc (.cells cx 59)).alloc (.cells cy 59))).heap[W.heap.size]?=some (.cells cx 59 (0,0)):=by
    rw [heap_alloc_old _ _ (by simp)]; exact heap_alloc_new W _
  have h1:(((W.alloc (.cells cx 59)).alloc (.cells cy 59))).heap[W.heap.size + 1]?=some (.cells cy 59 (0,0)):=by
    have:=heap_alloc_new (W.alloc (.cells cx 59)) (.cells cy 59)
    rwa [World.size_alloc] at this
  have hcq:∀ n,Calls Tryz.prog 41 #[.slice (some ⟨W.heap.size,0,none⟩) 32 32,.slice (some ⟨W.heap.size + 1,0,none⟩) 32 32] ((((W.alloc (.cells cx 59)).alloc (.cells cy 59))).drewN n) fun e w''=>e = .returned (.int .i64 z)∧w''=((((W.alloc (.cells cx 59)).alloc (.cells cy 59))).drewN n):=fun n=>hc _ h0 h1
  clear hc h0 h1
  go_wp2_with (fail)
  go_quiet (first | (go_at_call 41; exact Calls.quiet_of_same (hcq _)))

  go_wp2
  go_ret
  exact ⟨rfl,nq,_,by rw [alloc_eq_grow,alloc_eq_grow,grow_grow]; rfl⟩
def cfB (x y:BV):Int:=Extern.BytealgCompare.cmp ⟨x.key.toArray⟩ ⟨y.key.toArray⟩
theorem lt_cfB (x y:BV):ltOf cfB x y=ltK x.key y.key:=cmp_lt _ _ (x.len.trans y.len.symm)
theorem swoB:SWO (ltOf cfB) where
  irrefl x:=by rw [lt_cfB,ltK_irrefl]
  trans x y z h1 h2:=by rw [lt_cfB] at *; exact ltK_trans _ _ _ h1 h2
  ntrans x y z h1 h2:=by rw [lt_cfB] at *; exact ltK_ntrans _ _ _ (x.len.trans y.len.symm) (y.len.trans z.len.symm) h1 h2
theorem key_bytes (x:BV) (b:Nat) (e:TypeId) (W:World) (h:W.heap[b]?=some (.cells (bvC x).toArray e (0,0))):(Extern.Bytes.bytesOf (.slice (some ⟨b,0,none⟩) 32 32)).run Tryz.prog W = .ok ⟨x.key.toArray⟩ W:=by
  have:=run_loadL (P:=Tryz.prog) W x.key ⟨b,0,none⟩ .empty (fun j u hj=>by
    have hjl:j < x.key.length:=(List.getElem?_eq_some_iff.1 hj).1
    rw [addr_add0]
    simp only [World.cell?,h,Option.isSome_none,Bool.false_eq_true,if_false]
    rw [List.getElem?_toArray]
    unfold bvC bkC
    rw [List.getElem?_append_left (by rw [bs_length]; exact hjl),bs_get,hj]
    rfl)
  rw [x.len] at this
  unfold Extern.Bytes.bytesOf
  rw [this]
  congr 1
  apply ByteArray.ext
  show #[]++x.key.toArray=_
  simp
theorem cmpLaysB (blk off size:Nat) (w:World):CmpLays Tryz.prog 40 #[] bvC 35 cfB blk off size w:=fun m os dk hs x y =>
  closure_any (bvC x).toArray (bvC y).toArray (cfB x y) _ fun W' h0 h1=>compare_any _ _ _ _ W' (key_bytes x _ _ W' h0) (key_bytes y _ _ W' h1)
theorem sortB_spec (v:Value) (xs:List BV) (hlen:xs.length < 4611686018427387904) (F:HP):CallsS Tryz.prog 39 #[v,.func (.func 40) #[] #[]] F [rowP 59 35 v xs.length (recC bvC xs)]
    (fun r Ps=>r = .tuple #[]∧∃ ys,ys.Perm xs∧ys.Pairwise (fun a b=>ltK b.key a.key=false)∧Ps=[rowP 59 35 v ys.length (recC bvC ys)]) :=
  (sortFunc_S laysSrtB (k:=35) (e:=59) (enc:=bvC) Tryz.isAgg59 Tryz.sizeOf59 bvC_length bvC_one cfB swoB 40 #[] (enters_of Tryz.func40 (by kernel_rfl) rfl) cmpLaysB v xs hlen F).imp fun r Ps ⟨h1,ys,h2,h3,h4⟩ =>
    ⟨h1,ys,h2,h3.imp fun h=>by rw [← lt_cfB]; exact h,h4⟩
open Go.RowKit
theorem pick_map {α κ:Type} {f:α→κ × Value} {l2:List α} {left left':List (κ × Value)} {p:κ × Value} (h1:left.Perm (l2.map f)) (h2:left.Perm (p::left')):∃ b l3,p=f b∧l2.Perm (b::l3)∧left'.Perm (l3.map f):=by
  have hm:p ∈ l2.map f:=(h2.symm.trans h1).mem_iff.1 (by simp)
  obtain ⟨b,hb,rfl⟩:=List.mem_map.1 hm
  obtain ⟨a,c,rfl⟩:=List.append_of_mem hb
  refine ⟨b,a++c,rfl,List.perm_middle,?_⟩
  have h3:((a++b::c).map f).Perm (f b::(a++c).map f):=List.Perm.map _ List.perm_middle
  exact (h2.symm.trans (h1.trans h3)).cons_inv
theorem nil_map {α κ:Type} {f:α→κ × Value} {l2:List α} (h:([]:List (κ × Value)).Perm (l2.map f)):l2=[]:=by
  have:=h.length_eq
  simp only [List.length_nil,List.length_map] at this
  exact List.length_eq_zero_iff.1 this.symm
def insN (e:Ent):List Ent→List Ent
  | []=>[e]
  | x::l=>if Op.bytesLess x.1 e.1=true then x::insN e l else e::x::l
def sortN:List Ent→List Ent
  | []=>[]
  | e::l=>insN e (sortN l)
theorem insN_perm (e:Ent):∀ l:List Ent,(insN e l).Perm (e::l)
  | []=>List.Perm.refl _
  | x::l=>by
    rw [insN]
    split
    · exact ((insN_perm e l).cons x).trans (List.Perm.swap _ _ _)
    · exact List.Perm.refl _
theorem sortN_perm:∀ l:List Ent,(sortN l).Perm l
  | []=>List.Perm.refl _
  | e::l=>(insN_perm e (sortN l)).trans ((sortN_perm l).cons e)
abbrev SortN (l:List Ent):Prop:=l.Pairwise fun a b=>Op.bytesLess a.1 b.1=true
theorem less_of_not {a b:List UInt8} (h:¬ Op.bytesLess a b=true) (hne:a≠b):Op.bytesLess b a=true:=by
  cases h2:Op.bytesLess b a with
  | true=>rfl
  | false=>exact absurd (less_anti (by simpa using h) h2) hne
theorem insN_sort {e:Ent}:∀ {l:List Ent},SortN l→(∀ x ∈ l,x.1≠e.1)→SortN (insN e l)
  | [],_,_=>List.pairwise_singleton _ _
  | x::l,h,hk=>by
    have h1:=(List.pairwise_cons.1 h).1
    rw [insN]
    split
    · rename_i hl
      refine List.pairwise_cons.2 ⟨fun y hy=>?_,insN_sort (List.pairwise_cons.1 h).2 fun y hy=>hk y (by simp [hy])⟩
      rcases List.mem_cons.1 ((insN_perm e l).mem_iff.1 hy) with rfl | hy
      · exact hl
      · exact h1 y hy
    · rename_i hl
      have hex:Op.bytesLess e.1 x.1=true:=less_of_not hl (hk x (by simp))
      refine List.pairwise_cons.2 ⟨fun y hy=>?_,h⟩
      rcases List.mem_cons.1 hy with rfl | hy
      · exact hex
      · exact less_trans _ _ _ hex (h1 y hy)
theorem sortN_sort:∀ {l:List Ent},(l.map (·.1)).Nodup→SortN (sortN l)
  | [],_=>List.Pairwise.nil
  | e::l,h=>by
    rw [List.map_cons,List.nodup_cons] at h
    refine insN_sort (sortN_sort h.2) fun x hx he=>h.1 ?_
    rw [← he]
    exact List.mem_map_of_mem ((sortN_perm l).mem_iff.1 hx)
theorem sortN_uniq:∀ {a b:List Ent},SortN a→SortN b→a.Perm b→a=b
  | [],b,_,_,h=>(List.Perm.nil_eq h)
  | x::a,[],_,_,h=>absurd h.length_eq (by simp)
  | x::a,y::b,ha,hb,h=>by
    have hxy:x=y:=by
      rcases List.mem_cons.1 (h.mem_iff.1 (List.mem_cons_self)) with h1 | h1
      · exact h1
      · rcases List.mem_cons.1 (h.symm.mem_iff.1 (List.mem_cons_self)) with h2 | h2
        · exact h2.symm
        · have h3:=less_trans _ _ _ ((List.pairwise_cons.1 ha).1 _ h2) ((List.pairwise_cons.1 hb).1 _ h1)
          rw [less_irr] at h3
          cases h3
    subst hxy
    rw [sortN_uniq (List.pairwise_cons.1 ha).2 (List.pairwise_cons.1 hb).2 h.cons_inv]
theorem nodup_ne {α:Type} {l:List α} (h:l.Nodup):l.Pairwise (·≠·):=h
theorem sorted_is {ys:List Ent} {xs:List Ent} (hp:ys.Perm xs) (hs:ys.Pairwise fun a b=>Op.bytesLess b.1 a.1=false) (hn:(xs.map (·.1)).Nodup):ys=sortN xs:=by
  have hn2:(ys.map (·.1)).Nodup:=((hp.map (·.1)).nodup_iff).2 hn
  refine sortN_uniq ?_ (sortN_sort hn) (hp.trans (sortN_perm xs).symm)
  have h2:ys.Pairwise fun a b=>a.1≠b.1:=by
    have:=nodup_ne hn2
    rwa [List.pairwise_map] at this
  exact (hs.and h2).imp fun h=>less_of_not (by rw [h.1]; simp) (Ne.symm h.2)
abbrev F3:=List UInt8 × Value × List UInt8
def fileE (f:F3):EV:=⟨(f.1,idF 1 f.2.2),sha_length _⟩
def fileEs (fs:List F3):List Ent:=fs.map fun f=>(f.1,idF 1 f.2.2)
def fileBs (fs:List F3):List (List UInt8):=(fs.map fun f=>blocksF 1 f.2.2).flatten
mutual
def idT:HT→List UInt8
  | .mk _ _ _ dirs files=>idF 2 (dirR (sortN (fileEs files++entsD dirs)))
def entsD:List (List UInt8 × HT)→List Ent
  | []=>[]
  | d::ds=>(d.1,idT d.2)::entsD ds
end
mutual
def blocksT:HT→List (List UInt8)
  | .mk _ _ _ dirs files=>fileBs files++blocksDs dirs++blocksF 2 (dirR (sortN (fileEs files++entsD dirs)))
def blocksDs:List (List UInt8 × HT)→List (List UInt8)
  | []=>[]
  | d::ds=>blocksT d.2++blocksDs ds
end
theorem idT_length:∀ T:HT,(idT T).length=32
  | .mk _ _ _ _ _=>by rw [idT]; exact sha_length _
def dirEV (d:List UInt8 × HT):EV:=⟨(d.1,idT d.2),idT_length d.2⟩
theorem entsD_map:∀ ds:List (List UInt8 × HT),entsD ds=ds.map fun d=>(d.1,idT d.2)
  | []=>by rw [entsD]; rfl
  | d::ds=>by rw [entsD,entsD_map ds]; rfl
theorem blocksDs_map:∀ ds:List (List UInt8 × HT),blocksDs ds=(ds.map fun d=>blocksT d.2).flatten
  | []=>by rw [blocksDs]; rfl
  | d::ds=>by rw [blocksDs,blocksDs_map ds]; rfl
theorem fileBs_app (a:List F3) (f:F3):fileBs (a++[f])=fileBs a++blocksF 1 f.2.2:=by simp [fileBs]
theorem blocksDs_app (a:List (List UInt8 × HT)) (d:List UInt8 × HT):blocksDs (a++[d])=blocksDs a++blocksT d.2:=by simp [blocksDs_map]
theorem fileBs_perm {a b:List F3} (h:a.Perm b):(fileBs a).Perm (fileBs b):=(h.map _).flatten
theorem blocksDs_perm {a b:List (List UInt8 × HT)} (h:a.Perm b):(blocksDs a).Perm (blocksDs b):=by rw [blocksDs_map,blocksDs_map]; exact (h.map _).flatten
theorem ents_done {g gd gf m:Nat} {R:Value→List UInt8→Prop} {dirs:List (List UInt8 × HT)} {files:List F3} (hf:Fit m R (.mk g gd gf dirs files)) {sf:List F3} {sd:List (List UInt8 × HT)} (h1:sf.Perm files) (h2:sd.Perm dirs) {ys:List EV} (hp:ys.Perm (sf.map fileE++sd.map dirEV)) (hs:ys.Pairwise fun a b=>Op.bytesLess b.1.1 a.1.1=false) :
    ys.map (·.1)=sortN (fileEs files++entsD dirs):=by
  rw [Fit_mk] at hf
  have hp2:(ys.map (·.1)).Perm (fileEs files++entsD dirs):=by
    refine (hp.map (·.1)).trans ?_
    rw [List.map_append,List.map_map,List.map_map,entsD_map]
    exact (h1.map _).append (h2.map _)
  refine sorted_is hp2 (by rw [List.pairwise_map]; exact hs) ?_
  rw [List.map_append,entsD_map,fileEs,List.map_map,List.map_map]
  exact hf.2.2.2
theorem dirR_len5 {es:List Ent} (hE:Ents es):(dirR es).length≤100000:=by
  unfold dirR
  split
  · rename_i h
    obtain ⟨h1,h2⟩:=dirE_zero h
    have:=dirTo_len hE h1 es.length
    rw [dirTo_all] at this
    have h3:(48 + 33) * es.length≤81 * 20:=Nat.mul_le_mul_left 81 h2
    omega
  · simp
theorem recC_EV (ys:List EV):recC evC ys=recC entF (ys.map (·.1)):=by unfold recC evC; rw [List.map_map]; rfl
theorem ents_EV (ys:List EV):Ents (ys.map (·.1)):=fun e he=>by
  obtain ⟨y,_,rfl⟩:=List.mem_map.1 he
  exact y.2
open Go.RowKit
set_option maxRecDepth 8000
def wrongI (p d:List UInt8):Nat:=if (splitN p).2≠0 then (splitN p).2 else if (splitN p).1.length=0 then 10 else if 1000 < d.length then 5 else 0
theorem ent_build0 {nm id:List UInt8} (h:id.length=32):over ((entC [] zeroId).set 0 (sV nm)) 1 (bs id)=entC nm id:=by
  have hz:(bs zeroId).length=32:=by rw [bs_length,zeroId_length]
  have:=over_mid [sV nm] (bs zeroId) (bs id) [] (by rw [hz,bs_length,h])
  simpa [entC] using this
theorem row_ev {v:Value} {xs:List F3} {b:F3} {h:Hlt} (hp:rowP 122 33 v (xs.length + 1) (recC evC (xs.map fileE)++[evC (fileE b)].flatten) h):rowP 122 33 v (xs++[b]).length (recC evC ((xs++[b]).map fileE)) h:=by
  rw [List.length_append,List.map_append,recC_append,List.map_cons,List.map_nil,recC_one]
  simpa using hp
theorem row_ed {v:Value} {xs:List F3} {ds:List (List UInt8 × HT)} {b:List UInt8 × HT} {h:Hlt} (hp:rowP 122 33 v (xs.length + ds.length + 1) (recC evC (xs.map fileE++ds.map dirEV)++[evC (dirEV b)].flatten) h):rowP 122 33 v (xs.length + (ds++[b]).length) (recC evC (xs.map fileE++(ds++[b]).map dirEV)) h:=by
  rw [List.length_append,List.map_append,← List.append_assoc,recC_append (a:=_++_),List.map_cons,List.map_nil,recC_one]
  simpa [Nat.add_assoc] using hp
theorem ents_short {g gd gf m:Nat} {R:Value→List UInt8→Prop} {dirs:List (List UInt8 × HT)} {files:List F3} (hf:Fit m R (.mk g gd gf dirs files)):∀ e ∈ fileEs files++entsD dirs,e.1.length≤1000000:=fun e he=>by
  rw [Fit_mk,FitL_iff] at hf
  rw [entsD_map] at he
  rcases List.mem_append.1 he with he | he
  · obtain ⟨f,hf2,rfl⟩:=List.mem_map.1 he; exact (hf.2.1 f hf2).1
  · obtain ⟨d,hd,rfl⟩:=List.mem_map.1 he; exact (hf.2.2.1 d hd).1
theorem wrongI_spec (p d:List UInt8) (v:Value) (hp:p.length≤1000000000) (hd:d.length≤100000000000) (F:HP) (hF:∀ h,F h→rdB v d h) (hT:∀ h,F h→tabsP h):CallsS Tryz.prog 34 #[.agg #[sV p,v]] F [] (fun r Ps=>r = .int .i64 (wrongI p d:Int)∧Ps=[]):=by
 refine callsS_enter Tryz.func34 rfl Tryz.ntmps34 (by simp) (fun E=>?_)
 refine Q9 (R9 (Lc9 rfl rfl (by decide) (OpT_box (r:=101) rfl rfl rfl (fun g101=>(G9 rfl rfl (N9 (X9 (Q9 (R9 (L9 rfl (F9 0 rfl rfl) (L9 rfl (Pb9 (r:=101) rfl Tryz.isAgg9 rfl rfl rfl) (Lc9 rfl rfl (by decide) (Oc9 200 [0,101] [] rfl Tryz.call36 rfl rfl rfl (by decide) (by decide) (split_nspec p (by omega) _ (ts9 0 rfl hT)) (fun v8 Ps8 hR8=>?_))))))))))))))
 obtain ⟨vs8,rfl,rfl⟩:=hR8
 refine (M9 rfl rfl (L9 rfl (Pe9 rfl rfl rfl) (L9 rfl (Pe9 rfl rfl rfl) (G9 rfl rfl (G9 rfl rfl (N9 (X9 ?_)))))))
 refine Q9 ?_
 refine W_block ?_
 refine Q9 (R9 (M9 rfl rfl (L9 rfl (Pn9 rfl rfl rfl (run_neq _ _ _ _ _ _)) (G9 rfl rfl (N9 (X9 ?_))))))
 refine C9 rfl (fun hc11=>?_) (fun hc11=>?_)
 ·
  have hw:wrongI p d=(splitN p).2:=by unfold wrongI; rw [if_pos (by simpa using hc11)]
  refine Q9 (R9 (M9 rfl rfl (G9 rfl rfl (N9 (X9 ?_)))))
  refine W_ret (X_block_ret (X_then_ret ?_))
  exact Xq9 [] (Ps:=[]) (res1 Tryz.results34 rfl) rfl (by decide) ⟨by rw [hw] <;> rfl,rfl⟩
 ·
  have h0:(splitN p).2=0:=by simpa using hc11
  refine Q9 (R9 (M9 rfl rfl (L9 rfl (Pl9 (r:=200) rfl Tryz.runUnderlying63 rfl rfl rowS_rd) (L9 rfl (Pn9 rfl rfl rfl (run_eql _ _ _ _ _ _)) (G9 rfl rfl (N9 (X9 ?_)))))))
  refine C9 rfl (fun hc15=>?_) (fun hc15=>?_)
  ·
   have hw:wrongI p d=10:=by unfold wrongI; rw [if_neg (fun h=>h h0),if_pos (by simpa using hc15)]
   refine Q9 (R9 (G9 rfl rfl (N9 (X9 ?_))))
   refine W_ret (X_block_ret (X_then_ret ?_))
   exact Xq9 [] (Ps:=[]) (res1 Tryz.results34 rfl) rfl (by decide) ⟨by rw [hw] <;> rfl,rfl⟩
  ·
   have h1:¬ (splitN p).1.length=0:=by simpa using hc15
   refine Q9 (R9 (L9 rfl (F9 1 rfl rfl) (L9 rfl (Pb9 (r:=101) rfl Tryz.isAgg36 rfl rfl rfl) (L9 rfl (Pl9 (r:=0) rfl Tryz.runUnderlying36 rfl rfl hF) (L9 rfl (Pn9 rfl rfl rfl (run_gtr _ _ _ _ _ _)) (G9 rfl rfl (N9 (X9 ?_))))))))
   refine C9 rfl (fun hc19=>?_) (fun hc19=>?_)
   ·
    have hw:wrongI p d=5:=by unfold wrongI; rw [if_neg (fun h=>h h0),if_neg h1,if_pos (by have:=of_decide_eq_true hc19; omega)]
    refine Q9 (R9 (G9 rfl rfl (N9 (X9 ?_))))
    refine W_ret (X_block_ret (X_then_ret ?_))
    exact Xq9 [] (Ps:=[]) (res1 Tryz.results34 rfl) rfl (by decide) ⟨by rw [hw] <;> rfl,rfl⟩
   ·
    have hw:wrongI p d=0:=by unfold wrongI; rw [if_neg (fun h=>h h0),if_neg h1,if_neg (by have:=of_decide_eq_false hc19; omega)]
    refine K9 (X_block (X9 ?_))
    refine Q9 (R9 (G9 rfl rfl (N9 (X9 ?_))))
    refine W_ret ?_
    exact Xq9 [] (Ps:=[]) (res1 Tryz.results34 rfl) rfl (by decide) ⟨by rw [hw] <;> rfl,rfl⟩
theorem folder_walk (g m:Nat) (R:Value→List UInt8→Prop) (hm:m≤1000) (gT gd gf:Nat) (dirs:List (List UInt8 × HT)) (files:List F3) (hF0:Fit m R (.mk gT gd gf dirs files)) (ih:∀ d ∈ dirs,∀ (hist:List (List UInt8)) (F:HP),(∀ v x,R v x→∀ h,F h→rdB v x h)→(∀ h,F h→tabsP h)→CallsS Tryz.prog 38 #[.pointer (some ⟨g,0,none⟩),.pointer (some ⟨d.2.g,0,none⟩)] F [bldP g hist,htP d.2] (fun r Ps=>r=idV (idT d.2)∧∃ hs:List (List UInt8),hs.Perm (blocksT d.2)∧Ps=[bldP g (hist++hs),htP d.2])) (hist:List (List UInt8)) (F:HP) (hR:∀ v x,R v x→∀ h,F h→rdB v x h) (hT:∀ h,F h→tabsP h):CallsS Tryz.prog 38 #[.pointer (some ⟨g,0,none⟩),.pointer (some ⟨gT,0,none⟩)] F [bldP g hist,htP (.mk gT gd gf dirs files)] (fun r Ps=>r=idV (idT (.mk gT gd gf dirs files))∧∃ hs:List (List UInt8),hs.Perm (blocksT (.mk gT gd gf dirs files))∧Ps=[bldP g (hist++hs),htP (.mk gT gd gf dirs files)]):=by
 have hfit:=Fit_mk.1 hF0
 have hfl:=hfit.1
 refine callsS_enter Tryz.func38 rfl Tryz.ntmps38 (by simp) (fun E=>?_)
 refine Q9 (R9 (Lc9 rfl rfl (by decide) (OpT_alloc (r:=101) (cs:=(bs zeroId)) rfl (zero_run (by kernel_rfl:(Tryz.prog.info? 29).bind (·.zero)=some (.agg (bs zeroId).toArray))) rfl (fun g101=>(N9 (X9 (Q9 ?_)))))))
 refine W_nilRow 499 122 33 ?_
 refine R9 (G9 rfl rfl (N9 (X9 (Q9 (Q9 ?_)))))
 refine W_openHT 2 600 rfl ?_
 refine R9 (M9 rfl rfl (L9 rfl (Pu_nilCheck rfl rfl) (L9 rfl (F9 1 rfl rfl) (L9 rfl (Pb9 (r:=600) rfl Tryz.isAgg133 rfl rfl rfl) (Lc9 rfl rfl (by decide) (OpT_rangeQ (r:=602) rfl Tryz.underlying133 rfl rfl (fun it1=>(N9 (X9 ?_)))))))))
 refine W_block ?_
 refine Wt9 (P':=bldP g (hist++fileBs [])) 1 rfl (fun h hp=>by rw [show fileBs []=[] from rfl,List.append_nil]; exact hp) ?_
 refine W_loop (α:=Value × List F3 × List F3 × List (List UInt8 × Value)) (fun x=>[(0,.pointer (some ⟨g,0,none⟩)),(1,.pointer (some ⟨gT,0,none⟩)),(4,.pointer (some ⟨g101,0,none⟩)),(5,x.1),(16,.pointer (some ⟨it1,0,none⟩))]) (fun x=>[(0,F),(1,bldP g (hist++fileBs x.2.1)),(499,rowP 122 33 x.1 x.2.1.length (recC evC (x.2.1.map fileE))),(600,blk gT 135 [.map (some gd),.map (some gf)]),(601,mapS gd (dirM dirs) none),(602,mapS gf (filM files) (some (it1,x.2.2.2,none))),(603,starL (htsP dirs)),(101,blk g101 29 (bs zeroId))]) (fun x=>(x.2.1++x.2.2.1).Perm files∧x.2.2.2.Perm (filM x.2.2.1)) (fun x=>x.2.2.1.length) ((.slice none 0 0,[],files,filM files)) ⟨List.Perm.refl _,List.Perm.refl _⟩ (a9 rfl) (a9 rfl) (fun x hx=>?_)
 obtain ⟨hx1,hx2⟩:=hx
 have hxl:=hx1.length_eq
 rw [List.length_append] at hxl
 refine Q9 ?_
 refine R9 (Lc9 rfl rfl (by decide) (OpT_nextQ (r:=602) keyS rfl rfl rfl (fun hnil=>?_) (fun p left hpe hpm=>?_)))
 ·
  rw [hnil] at hx2
  have hl2:=nil_map hx2
  rw [hl2,List.append_nil] at hx1
  refine (L9 rfl (Pe9 rfl rfl rfl) (N9 (X9 ?_)))
  refine Q9 ?_
  refine W_false rfl (rfl) ?_
  refine W_exit (X_then_exit (X_then_exit (X_block_exit (X9 ?_))))
  refine Q9 (Q9 ?_)
  refine Wt9 602 rfl (fun h hp=>mapQ_none hp) ?_
  refine R9 (M9 rfl rfl (L9 rfl (Pu_nilCheck rfl rfl) (L9 rfl (F9 0 rfl rfl) (L9 rfl (Pb9 (r:=600) rfl Tryz.isAgg132 rfl rfl rfl) (Lc9 rfl rfl (by decide) (OpT_rangeQ (r:=601) rfl Tryz.underlying132 rfl rfl (fun it2=>(N9 (X9 ?_)))))))))
  refine W_block ?_
  refine Wt9 (P':=bldP g (hist++fileBs x.2.1++[])) 1 rfl (fun h hp=>by rw [List.append_nil]; exact hp) ?_
  refine Wt9 (P':=rowP 122 33 x.1 (x.2.1.length + ([]:List (List UInt8 × HT)).length) (recC evC (x.2.1.map fileE++([]:List (List UInt8 × HT)).map dirEV))) 499 rfl (fun h hp=>by rw [List.map_nil,List.append_nil]; exact hp) ?_
  refine W_loop (α:=Value × List (List UInt8 × HT) × List (List UInt8 × HT) × List (List UInt8 × Value) × List (List UInt8)) (fun y=>[(0,.pointer (some ⟨g,0,none⟩)),(4,.pointer (some ⟨g101,0,none⟩)),(5,y.1),(34,.pointer (some ⟨it2,0,none⟩))]) (fun y=>[(0,F),(1,bldP g (hist++fileBs x.2.1++y.2.2.2.2)),(499,rowP 122 33 y.1 (x.2.1.length + y.2.1.length) (recC evC (x.2.1.map fileE++y.2.1.map dirEV))),(600,blk gT 135 [.map (some gd),.map (some gf)]),(601,mapS gd (dirM dirs) (some (it2,y.2.2.2.1,none))),(602,mapS gf (filM files) none),(603,starL (htsP dirs)),(101,blk g101 29 (bs zeroId))]) (fun y=>(y.2.1++y.2.2.1).Perm dirs∧y.2.2.2.1.Perm (dirM y.2.2.1)∧y.2.2.2.2.Perm (blocksDs y.2.1)) (fun y=>y.2.2.1.length) ((x.1,[],dirs,dirM dirs,[])) ⟨List.Perm.refl _,List.Perm.refl _,by rw [blocksDs]⟩ (a9 rfl) (a9 rfl) (fun y hy=>?_)
  obtain ⟨hy1,hy2,hy3⟩:=hy
  have hyl:=hy1.length_eq
  rw [List.length_append] at hyl
  refine Q9 ?_
  refine R9 (Lc9 rfl rfl (by decide) (OpT_nextQ (r:=601) keyS rfl rfl rfl (fun hnil=>?_) (fun p left hpe hpm=>?_)))
  ·
   rw [hnil] at hy2
   have hl2:=nil_map hy2
   rw [hl2,List.append_nil] at hy1
   refine (L9 rfl (Pe9 rfl rfl rfl) (N9 (X9 ?_)))
   refine Q9 ?_
   refine W_false rfl (rfl) ?_
   refine W_exit (X_then_exit (X_then_exit (X_block_exit (X9 ?_))))
   refine Q9 ?_
   refine Wt9 601 rfl (fun h hp=>mapQ_none hp) ?_
   refine Wt9 (P':=rowP 122 33 y.1 (x.2.1.map fileE++y.2.1.map dirEV).length (recC evC (x.2.1.map fileE++y.2.1.map dirEV))) 499 rfl (fun h hp=>by rw [List.length_append,List.length_map,List.length_map]; exact hp) ?_
   refine R9 (M9 rfl rfl (Lc9 rfl rfl (by decide) (Oc9 700 [0,1,101,600,601,602,603] [499] rfl Tryz.call65 rfl rfl rfl (by decide) (by decide) (sortE_spec y.1 (x.2.1.map fileE++y.2.1.map dirEV) (by rw [List.length_append,List.length_map,List.length_map]; omega) _) (fun v49 Ps49 hR49=>?_))))
   obtain ⟨rfl,ys,hys,hsrt,rfl⟩:=hR49
   skip
   refine (N9 (X9 ?_))
   refine Q9 ?_
   have hfin:=ents_done (Fit_mk.2 hfit:Fit m R (.mk gT gd gf dirs files)) hx1 hy1 hys hsrt
   have hyl2:ys.length≤1000000:=by have:=hys.length_eq; rw [List.length_append,List.length_map,List.length_map] at this; omega
   have hel:(sortN (fileEs files++entsD dirs)).length=ys.length:=by rw [← hfin,List.length_map]
   refine Wt9 (P':=rowE 122 y.1 (sortN (fileEs files++entsD dirs))) 700 rfl (fun h hp=>by rw [← hfin]; unfold rowE rowR; rw [← recC_EV,List.length_map]; exact hp) ?_
   have hE:Ents (sortN (fileEs files++entsD dirs)):=by rw [← hfin]; exact ents_EV ys
   have hnml:∀ e ∈ sortN (fileEs files++entsD dirs),e.1.length≤140737488355328:=fun e he=>by have:=ents_short (Fit_mk.2 hfit:Fit m R (.mk gT gd gf dirs files)) e ((sortN_perm _).mem_iff.1 he); omega
   refine R9 (M9 rfl rfl (Lc9 rfl rfl (by decide) (Oc9 800 [0,1,101,600,601,602,603,700] [] rfl Tryz.call68 rfl rfl rfl (by decide) (by decide) (dir_spec y.1 (sortN (fileEs files++entsD dirs)) hE (by omega) hnml _ (rs9 7 rfl rowR_rd) (ts9 0 rfl hT)) (fun v52 Ps52 hR52=>?_))))
   obtain ⟨w52,rfl,rfl⟩:=hR52
   skip
   refine (M9 rfl rfl (L9 rfl (Pe9 rfl rfl rfl) (L9 rfl (Pe9 rfl rfl rfl) (G9 rfl rfl (G9 rfl rfl (N9 (X9 ?_)))))))
   refine Q9 (R9 (M9 rfl rfl (M9 rfl rfl (Lc9 rfl rfl (by decide) (Oc9 900 [0,101,600,601,602,603,700,800] [1] rfl Tryz.call64 rfl rfl rfl (by decide) (by decide) (file_spec g _ 2 _ (dirR (sortN (fileEs files++entsD dirs))) (dirR_len5 hE) _ (rs9 7 rfl rowB_rd)) (fun v57 Ps57 hR57=>?_))))))
   obtain ⟨rfl,rfl⟩:=hR57
   skip
   refine (Lc09 rfl rfl (OpT_storeAll (r:=101) rfl Tryz.sizeOf29 rfl rfl rfl rfl ((bs_length _).trans (sha_length _)) (bs_one _) ?_))
   refine (N9 (X9 ?_))
   refine W_ret ?_
   refine X_join [600,601,602,603] 2 (htP (.mk gT gd gf dirs files)) rfl (by decide) (fun h hs=>by rw [htP_mk]; exact hs) ?_
   refine X_turn (P':=bldP g (hist++(fileBs x.2.1++y.2.2.2.2++blocksF 2 (dirR (sortN (fileEs files++entsD dirs)))))) 900 rfl (fun h hp=>by rw [← List.append_assoc,← List.append_assoc]; exact hp) ?_
   exact Xq9 [900,2] (Ps:=[_,_]) (resC1 (r:=101) Tryz.results38 rfl Tryz.isAgg29 Tryz.sizeOf29 rfl ((bs_length _).trans (sha_length _))) rfl (by decide) ⟨by rw [idT]; rfl,_,by rw [blocksT]; exact ((fileBs_perm hx1).append (hy3.trans (blocksDs_perm hy1))).append_right _,rfl⟩
  ·
   obtain ⟨b,l3,rfl,hb2,hb3⟩:=pick_map hy2 hpm
   have hbm:b ∈ dirs:=hy1.mem_iff.1 (List.mem_append.2 (.inr (hb2.mem_iff.2 (by simp))))
   obtain ⟨a1,c1,hspl⟩:=List.append_of_mem hbm
   refine (L9 rfl (Pe9 rfl rfl rfl) (N9 (X9 ?_)))
   refine Q9 ?_
   refine W_true rfl (rfl) ?_
   refine K9 (X9 ?_)
   refine W_block ?_
   refine Q9 (R9 (L9 rfl (Pu_entryQ (r:=601) rfl rfl rfl) (L9 rfl (Pe9 rfl rfl rfl) (L9 rfl (Pe9 rfl rfl rfl) (G9 rfl rfl (G9 rfl rfl (N9 (X9 ?_))))))))
   refine W_split 603 700 [htP b.2,starL (htsP (a1++c1))] rfl (fun h hp=>kids_out (d:=b) (by rw [← hspl]; exact hp)) ?_
   refine R9 (M9 rfl rfl (M9 rfl rfl (M9 rfl rfl (M9 rfl rfl (Lc9 rfl rfl (by decide) (Oc9 800 [0,101,499,600,601,602,701] [1,700] rfl Tryz.call38 rfl rfl rfl (by decide) (by decide) (ih b hbm (hist++fileBs x.2.1++y.2.2.2.2) _ (fun v0 x0 hq=>rs9 0 rfl (hR v0 x0 hq)) (ts9 0 rfl hT)) (fun v44 Ps44 hR44=>?_)))))))
   obtain ⟨rfl,hs47,hp47,rfl⟩:=hR44
   skip
   refine (L9 rfl (Pu_build (V:=.agg (evC (dirEV b)).toArray) [(0,1),(1,32)] (entC [] zeroId) rfl rfl (by kernel_rfl) (by kernel_rfl) (.one rfl rfl (by simp [entC,bs_length,zeroId_length]) rfl (.many rfl ((bs_length _).trans (idT_length _)) (by simp [entC,bs_length,zeroId_length]) rfl (.nil _))) (congrArg (fun q:List Value=>Value.agg q.toArray) (ent_build0 (idT_length _)))) (Lc9 rfl rfl (by decide) (OpT_buildRows (r:=803) [evC (dirEV b)] rfl rfl Tryz.runUnderlying118 Tryz.sizeOf122 Tryz.zeroValue122 rfl (by decide) rfl (by decide) (by intro r hr; simp at hr; rw [hr]; exact evC_length _) rfl (fun v46=>(Lc9 rfl rfl (by decide) (Oa9 (r:=499) (r2:=803) rfl Tryz.underlying118 TI.hi122 TI.hz122 TI.hs122 TI.hby122 TI.hzs122 (by decide) rfl rfl rfl rfl (fun _ h=>rp9 h) (by intro u hu; simp at hu; exact evC_one _ u hu) (by unfold maxLen; omega) (by omega) (fun v47=>?_)))))))
   refine (G9 rfl rfl (N9 (X_block ?_)))
   refine X_join [801,701] 603 (starL (htsP dirs)) rfl (by decide) (fun h hs=>by rw [hspl]; exact kids_in (d:=b) hs) ?_
   refine X_turn (P':=bldP g (hist++fileBs x.2.1++(y.2.2.2.2++hs47))) 800 rfl (fun h hp=>by rw [← List.append_assoc]; exact hp) ?_
   refine X_ren 800 1 rfl ?_
   refine X_turn 601 rfl (fun h hp=>mapQ_uncur hp) ?_
   refine X_turn (P':=rowP 122 33 v47 (x.2.1.length + (y.2.1++[b]).length) (recC evC (x.2.1.map fileE++(y.2.1++[b]).map dirEV))) 499 rfl (fun h hp=>row_ed hp) ?_
   exact Xr9 (v47,y.2.1++[b],l3,left,y.2.2.2.2++hs47) ⟨by refine List.Perm.trans ?_ hy1; rw [List.append_assoc]; exact List.Perm.append_left _ hb2.symm,hb3,by rw [blocksDs_app]; exact hy3.append hp47⟩ (by have:=hb2.length_eq; simp at this; dsimp only; omega) (a9 rfl) (a9 rfl)
 ·
  obtain ⟨b,l3,rfl,hb2,hb3⟩:=pick_map hx2 hpm
  have hbm:b ∈ files:=hx1.mem_iff.1 (List.mem_append.2 (.inr (hb2.mem_iff.2 (by simp))))
  have hbf:=hfit.2.1 b hbm
  refine (L9 rfl (Pe9 rfl rfl rfl) (N9 (X9 ?_)))
  refine Q9 ?_
  refine W_true rfl (rfl) ?_
  refine K9 (X9 ?_)
  refine W_block ?_
  refine Q9 (R9 (L9 rfl (Pu_entryQ (r:=602) rfl rfl rfl) (L9 rfl (Pe9 rfl rfl rfl) (L9 rfl (Pe9 rfl rfl rfl) (G9 rfl rfl (G9 rfl rfl (N9 (X9 (R9 (M9 rfl rfl (M9 rfl rfl (M9 rfl rfl (M9 rfl rfl (Lc9 rfl rfl (by decide) (Oc9 700 [0,101,499,600,601,602,603] [1] rfl Tryz.call64 rfl rfl rfl (by decide) (by decide) (file_spec g _ 1 _ b.2.2 hbf.2.1 _ (rs9 0 rfl (hR _ _ hbf.2.2))) (fun v26 Ps26 hR26=>?_))))))))))))))))
  obtain ⟨rfl,rfl⟩:=hR26
  skip
  refine (L9 rfl (Pu_build (V:=.agg (evC (fileE b)).toArray) [(0,1),(1,32)] (entC [] zeroId) rfl rfl (by kernel_rfl) (by kernel_rfl) (.one rfl rfl (by simp [entC,bs_length,zeroId_length]) rfl (.many rfl ((bs_length _).trans (sha_length _)) (by simp [entC,bs_length,zeroId_length]) rfl (.nil _))) (congrArg (fun q:List Value=>Value.agg q.toArray) (ent_build0 (sha_length _)))) (Lc9 rfl rfl (by decide) (OpT_buildRows (r:=701) [evC (fileE b)] rfl rfl Tryz.runUnderlying118 Tryz.sizeOf122 Tryz.zeroValue122 rfl (by decide) rfl (by decide) (by intro r hr; simp at hr; rw [hr]; exact evC_length _) rfl (fun v28=>(Lc9 rfl rfl (by decide) (Oa9 (r:=499) (r2:=701) rfl Tryz.underlying118 TI.hi122 TI.hz122 TI.hs122 TI.hby122 TI.hzs122 (by decide) rfl rfl rfl rfl (fun _ h=>rp9 h) (by intro u hu; simp at hu; exact evC_one _ u hu) (by unfold maxLen; omega) (by omega) (fun v29=>?_)))))))
  refine (G9 rfl rfl (N9 (X_block ?_)))
  refine X_turn (P':=bldP g (hist++fileBs (x.2.1++[b]))) 700 rfl (fun h hp=>by rw [fileBs_app,← List.append_assoc]; exact hp) ?_
  refine X_ren 700 1 rfl ?_
  refine X_turn 602 rfl (fun h hp=>mapQ_uncur hp) ?_
  refine X_turn (P':=rowP 122 33 v29 (x.2.1++[b]).length (recC evC ((x.2.1++[b]).map fileE))) 499 rfl (fun h hp=>row_ev hp) ?_
  exact Xr9 (v29,x.2.1++[b],l3,left) ⟨by refine List.Perm.trans ?_ hx1; rw [List.append_assoc]; exact List.Perm.append_left _ hb2.symm,hb3⟩ (by have:=hb2.length_eq; simp at this; dsimp only; omega) (a9 rfl) (a9 rfl)
open Go.RowKit
theorem starL_add {Ps:List HP} {P:HP} (hP:P (fun _=>none)) {h:Hlt} (hs:starL Ps h):starL (Ps++[P]) h:=by
  obtain ⟨f,h1,h2,h3⟩:=hs
  refine ⟨fun k=>if k < Ps.length then f k else fun _=>none,fun k Q hk=>?_,fun k k' g hne hg=>?_,fun k g o hg=>?_⟩
  · by_cases hl:k < Ps.length
    · simp only [hl,if_true]
      exact h1 k Q (by rwa [List.getElem?_append_left hl] at hk)
    · rw [List.getElem?_append_right (by omega)] at hk
      have hk0:k - Ps.length=0:=by
        cases hkk:k - Ps.length with
        | zero=>rfl
        | succ j=>rw [hkk] at hk; simp at hk
      rw [hk0] at hk
      simp at hk
      subst hk
      simp only [hl,if_false]
      exact hP
  · by_cases hl:k < Ps.length
    · simp only [hl,if_true] at hg
      by_cases hl':k' < Ps.length
      · simp only [hl',if_true]; exact h2 k k' g hne hg
      · simp only [hl',if_false]
    · simp only [hl,if_false] at hg; simp at hg
  · by_cases hl:k < Ps.length
    · simp only [hl,if_true] at hg; exact h3 _ _ _ hg
    · simp only [hl,if_false] at hg; cases hg
def itC (x:F3):List Value:=[sV x.1,x.2.1]
def it0:F3:=([],.slice none 0 0,[])
abbrev rdIt (v:Value) (xs:List F3):HP:=rdR itC 2 v xs
def datI (xs:List F3):HP:=fun h=>∀ x ∈ xs,rdB x.2.1 x.2.2 h
theorem its_len (xs:List F3):∀ x ∈ xs,(itC x).length=2:=fun _ _=>rfl
theorem its_all {xs:List F3} {k:Nat} (hk:k < xs.length):((recC itC xs).drop (k * 2)).take 2=itC (xs.getD k it0):=recC_get (d:=it0) (its_len xs) hk
theorem itC_one {x:F3} (h:x.2.1.oneCell'=true):∀ u ∈ itC x,u.oneCell'=true:=by
  intro u hu
  simp [itC] at hu
  rcases hu with rfl | rfl
  · rfl
  · exact h
theorem splitN_len (l:List UInt8):(splitN l).1.length≤l.length + 1:=by
  have:=splitL_len (l.drop 1)
  rw [List.length_drop] at this
  unfold splitN
  repeat' split
  all_goals first
    | (simp; done)
    | (simp at this ⊢; omega)
theorem splitN_mem {l x:List UInt8} (h:x ∈ (splitN l).1):x.length≤l.length:=by
  unfold splitN at h
  split at h
  · simp at h
  · split at h
    · simp at h
    · split at h
      · simp at h
      · have:=splitL_mem h
        rw [List.length_drop] at this
        omega
def pathOf (x:F3):List (List UInt8):=(splitN x.1).1
def firstW:List F3→Nat
  | []=>0
  | x::r=>if wrongI x.1 x.2.2≠0 then wrongI x.1 x.2.2 else firstW r
theorem firstW_at {xs:List F3} {k:Nat} (h:k < xs.length):firstW (xs.drop k)=if wrongI (xs.getD k it0).1 (xs.getD k it0).2.2≠0 then wrongI (xs.getD k it0).1 (xs.getD k it0).2.2 else firstW (xs.drop (k + 1)):=by
  rw [List.drop_eq_getElem_cons h,firstW]
  simp [List.getElem?_eq_getElem h]
theorem firstW_zero:∀ {xs:List F3},firstW xs=0→∀ x ∈ xs,wrongI x.1 x.2.2=0
  | [],_,_,h=>by cases h
  | y::r,h0,x,h=>by
    rw [firstW] at h0
    split at h0
    · omega
    · rename_i hy
      rcases List.mem_cons.1 h with rfl | h
      · omega
      · exact firstW_zero h0 x h
theorem wrongI_zero {p d:List UInt8} (h:wrongI p d=0):(splitN p).2=0∧(splitN p).1≠[]∧d.length≤1000:=by
  unfold wrongI at h
  split at h
  · omega
  · split at h
    · omega
    · split at h
      · omega
      · rename_i h1 h2 h3
        exact ⟨by omega,fun hc=>h2 (by rw [hc]; rfl),by omega⟩
def buildE (xs:List F3):Nat:=if 20 < xs.length then 4 else if firstW xs≠0 then firstW xs else if fits [] (xs.map pathOf) then 0 else 7
inductive Filled:List F3→HT→Prop where
  | nil (g gd gf:Nat):Filled [] (.mk g gd gf [] [])
  | snoc (l:List F3) (x:F3) (T T':HT):Filled l T→canPut (pathOf x) T=true→Put (pathOf x) x.2.1 x.2.2 T T'→Filled (l++[x]) T'
theorem Filled.can {l:List F3} {T:HT} (h:Filled l T):∀ r,r≠[]→canPut r T=l.all fun q=>!clash (pathOf q) r:=by
  induction h with
  | nil g gd gf=>intro r hr; rw [canPut_nil r hr]; rfl
  | snoc l x T T' h1 h2 h3 ih =>
    intro r hr
    rw [canPut_put _ _ _ _ _ h2 h3 r hr,ih r hr,List.all_append]
    simp
theorem Filled.fit {R:Value→List UInt8→Prop} {l:List F3} {T:HT} (h:Filled l T):(∀ x ∈ l,x.1.length≤1000000∧x.2.2.length≤100000∧R x.2.1 x.2.2)→Fit l.length R T:=by
  induction h with
  | nil g gd gf=>intro _; exact Fit_nil _ _ _ _ _
  | snoc l x T T' h1 h2 h3 ih =>
    intro hx
    rw [List.length_append,List.length_singleton]
    have hx0:=hx x (by simp)
    exact Fit_put _ _ _ _ _ h2 h3 (ih fun y hy=>hx y (by simp [hy])) (fun n hn=>by have:=splitN_mem hn; omega) hx0.2.1 hx0.2.2
theorem fits_step {ps:List (List (List UInt8))} {k:Nat} (h:k < ps.length):fits (ps.take k) (ps.drop k)=((ps.take k).all (fun q=>!clash q (ps.getD k [])) && fits (ps.take (k + 1)) (ps.drop (k + 1))):=by
  rw [List.drop_eq_getElem_cons h,fits]
  have e:ps.take k++[ps[k]]=ps.take (k + 1):=by rw [List.take_add_one]; simp [List.getElem?_eq_getElem h]
  rw [e]
  simp [List.getElem?_eq_getElem h]
abbrev TB:=List UInt8 × List UInt8 × Int × Int
abbrev EB:=BV × List UInt8
def toTB (p:EB):TB:=(p.1.key,p.2,p.1.src,p.1.exp)
def datE (es:List EB):HP:=fun h=>∀ p ∈ es,rdB p.1.sl p.2 h
def treeP (v:Value) (l:List TB):HP:=fun h=>∃ es:List EB,es.map toTB=l∧starL [rowP 59 35 v es.length (recC bvC (es.map (·.1))),datE es] h
def treeC (v:Value) (id:List UInt8):List Value:=v::bs id
def lbV (p:LB):EB:=if h:p.1.length=32∧p.2.1.oneCell'=true then (⟨(p.1,p.2.1,0,0),h⟩,p.2.2) else (default,p.2.2)
abbrev LOk (p:LB):Prop:=p.1.length=32∧p.2.1.oneCell'=true
theorem lbV_ok {p:LB} (h:LOk p):lbV p=(⟨(p.1,p.2.1,0,0),h⟩,p.2.2):=by unfold lbV; rw [dif_pos h]
theorem lbV_c {p:LB} (h:LOk p):bvC (lbV p).1=bkC p.1 p.2.1 0 0:=by rw [lbV_ok h]; rfl
theorem lbV_tb {p:LB} (h:LOk p):toTB (lbV p)=(p.1,p.2.2,0,0):=by rw [lbV_ok h]; rfl
theorem lbV_sl {p:LB} (h:LOk p):(lbV p).1.sl=p.2.1∧(lbV p).2=p.2.2:=by rw [lbV_ok h]; exact ⟨rfl,rfl⟩
theorem perm_lift {α β:Type} {f:α→β}:∀ {xs:List β} {es:List α},xs.Perm (es.map f)→∃ ys:List α,ys.Perm es∧ys.map f=xs
  | [],es,h=>⟨[],by have h1:=h.length_eq; simp only [List.length_nil,List.length_map] at h1; rw [List.length_eq_zero_iff.1 h1.symm],rfl⟩
  | x::xs,es,h=>by
    obtain ⟨e,he,rfl⟩:=List.mem_map.1 (h.mem_iff.1 (List.mem_cons_self))
    obtain ⟨a,c,rfl⟩:=List.append_of_mem he
    have h2:(f e::xs).Perm (f e::(a++c).map f):=h.trans (List.Perm.map f List.perm_middle)
    obtain ⟨ys,h3,h4⟩:=perm_lift h2.cons_inv
    exact ⟨e::ys,(h3.cons e).trans List.perm_middle.symm,by rw [List.map_cons,h4]⟩
structure TreeOf (hist:List (List UInt8)) (l:List TB):Prop where
  sorted:l.Pairwise fun a b=>ltK a.1 b.1=true
  from_:∀ p ∈ l,p.1=sha p.2.1∧p.2.1 ∈ hist∧p.2.2=(0,0)
  all:∀ d ∈ hist,sha d ∈ l.map (·.1)
theorem ltK_of_not {a b:List UInt8} (h:ltK b a=false) (hne:a≠b):ltK a b=true:=by
  rw [ltK_less] at *
  exact less_of_not (by rw [h]; simp) (Ne.symm hne)
theorem tree_done {hist hist':List (List UInt8)} {es seen:List LB} (hl:Laid hist es) (hok:∀ p ∈ es,LOk p) (hp:seen.Perm es) (hh:hist.Perm hist') {ys:List BV} (hy:ys.Perm ((seen.map lbV).map (·.1))) (hs:ys.Pairwise fun a b=>ltK b.key a.key=false) :
    ∃ zs:List EB,zs.map (·.1)=ys∧TreeOf hist' (zs.map toTB)∧∀ v (h:Hlt),starL [rowP 59 35 v ys.length (recC bvC ys),datL es] h→treeP v (zs.map toTB) h:=by
  obtain ⟨zs,hz1,hz2⟩:=perm_lift hy
  have hz3:zs.Perm (es.map lbV):=hz1.trans (hp.map _)
  have hmem:∀ z ∈ zs,∃ p ∈ es,z=lbV p:=fun z hz=>by
    obtain ⟨p,hp1,hp2⟩:=List.mem_map.1 (hz3.mem_iff.1 hz)
    exact ⟨p,hp1,hp2.symm⟩
  have hkeys:(zs.map fun z=>z.1.key).Perm (es.map (·.1)):=by
    refine (hz3.map _).trans ?_
    rw [List.map_map]
    refine List.Perm.of_eq (List.map_congr_left fun p hp1=>?_)
    show (lbV p).1.key=p.1
    rw [lbV_ok (hok p hp1)]
    rfl
  refine ⟨zs,hz2,⟨?_,fun t ht=>?_,fun d hd=>?_⟩,fun v h hs2=>⟨zs,rfl,?_⟩⟩
  · rw [List.pairwise_map]
    have h1:zs.Pairwise fun a b=>ltK b.1.key a.1.key=false:=by
      rw [← hz2,List.pairwise_map] at hs
      exact hs
    have h2:zs.Pairwise fun a b=>a.1.key≠b.1.key:=by
      have:=nodup_ne ((hkeys.nodup_iff).2 hl.nodup)
      rwa [List.pairwise_map] at this
    exact (h1.and h2).imp fun h=>ltK_of_not h.1 h.2
  · obtain ⟨z,hz,rfl⟩:=List.mem_map.1 ht
    obtain ⟨p,hp1,rfl⟩:=hmem z hz
    rw [lbV_tb (hok p hp1)]
    obtain ⟨h1,h2⟩:=hl.from_ p hp1
    exact ⟨h1,hh.mem_iff.1 h2,rfl⟩
  · have h1:=hl.all d (hh.mem_iff.2 hd)
    rw [List.map_map]
    exact hkeys.mem_iff.2 h1
  · obtain ⟨f,h1,h2,h3⟩:=hs2
    have hf1:=h1 1 _ rfl
    refine ⟨f,fun k Q hk=>?_,h2,h3⟩
    match k,hk with
    | 0,hk =>
      simp at hk
      subst hk
      rw [hz2,show zs.length=ys.length by rw [← hz2,List.length_map]]
      exact h1 0 _ rfl
    | 1,hk =>
      simp at hk
      subst hk
      intro z hz
      obtain ⟨p,hp1,rfl⟩:=hmem z hz
      rw [(lbV_sl (hok p hp1)).1,(lbV_sl (hok p hp1)).2]
      exact hf1 p hp1
    | k + 2,hk=>simp at hk
theorem laid_ok {hist:List (List UInt8)} {es:List LB} (hl:Laid hist es) {h:Hlt} (hd:datL es h):∀ p ∈ es,LOk p:=fun p hp=>⟨by rw [(hl.from_ p hp).1]; exact sha_length _,rd_one (hd p hp)⟩
theorem treeP_nil {h:Hlt} (hr:rowP 59 35 (.slice none 0 0) 0 [] h):treeP (.slice none 0 0) [] h:=⟨[],rfl,starL_add (Ps:=[_]) (fun p hp=>by cases hp) (starL_one hr)⟩
end Go.Proofs.YthkdkmaacjpneaaGreatDoor
namespace Go.Proofs.YthkdkmaacjpneaaGreatDoor.TI
theorem hi59:Tryz.prog.info? 59=some Tryz.t59:=by kernel_rfl
theorem hz59:Tryz.t59.zero=some (.agg (bkC zeroId (.slice none 0 0) 0 0).toArray):=by kernel_rfl
theorem hs59:Tryz.t59.size=35:=by kernel_rfl
theorem hby59:Tryz.t59.bytes=72:=by kernel_rfl
theorem hzs59:(.agg (bkC zeroId (.slice none 0 0) 0 0).toArray:Value).cells.size=35:=by kernel_rfl
theorem hi38:Tryz.prog.info? 38=some Tryz.t38:=by kernel_rfl
theorem hz38:Tryz.t38.zero=some (.agg #[.string ⟨#[]⟩,.slice none 0 0]):=by kernel_rfl
theorem hs38:Tryz.t38.size=2:=by kernel_rfl
theorem hby38:Tryz.t38.bytes=40:=by kernel_rfl
theorem hzs38:(.agg #[.string ⟨#[]⟩,.slice none 0 0]:Value).cells.size=2:=by kernel_rfl
theorem hi100:Tryz.prog.info? 100=some Tryz.t100:=by kernel_rfl
theorem hz100:Tryz.t100.zero=some (.agg #[.slice none 0 0,.slice none 0 0]):=by kernel_rfl
theorem hs100:Tryz.t100.size=2:=by kernel_rfl
theorem hby100:Tryz.t100.bytes=48:=by kernel_rfl
theorem hzs100:(.agg #[.slice none 0 0,.slice none 0 0]:Value).cells.size=2:=by kernel_rfl
end Go.Proofs.YthkdkmaacjpneaaGreatDoor.TI
