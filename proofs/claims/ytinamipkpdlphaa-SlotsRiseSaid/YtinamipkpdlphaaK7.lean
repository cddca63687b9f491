/- Texts of this proof, one behind the other: LnA, Open, Open2, SlotK. -/
import Derived.Test.YtinamipkpdlphaaLnB00
import Derived.Test.YtinamipkpdlphaaLnB01
import Derived.Test.YtinamipkpdlphaaLnB02
import Derived.Test.YtinamipkpdlphaaLnB03
import Derived.Test.YtinamipkpdlphaaLnB04
import Derived.Test.YtinamipkpdlphaaLnB05
import Derived.Test.YtinamipkpdlphaaLnB06
import Derived.Test.YtinamipkpdlphaaLnB07
import Derived.Test.YtinamipkpdlphaaLnB08
import Derived.Test.YtinamipkpdlphaaLnB09
import Derived.Test.YtinamipkpdlphaaLnB0a
import Derived.Test.YtinamipkpdlphaaLnB0b
import Derived.Test.YtinamipkpdlphaaLnB0c
import Derived.Test.YtinamipkpdlphaaLnB0d
import Derived.Test.YtinamipkpdlphaaLnB0e
import Derived.Test.YtinamipkpdlphaaLnB0f
import Derived.Test.YtinamipkpdlphaaLnB10
import Derived.Test.YtinamipkpdlphaaLnB11
import Derived.Test.YtinamipkpdlphaaLnB12
import Derived.Test.YtinamipkpdlphaaLnB13
import Derived.Test.YtinamipkpdlphaaLnB14
import Derived.Test.YtinamipkpdlphaaLnB15
import Derived.Test.YtinamipkpdlphaaLnB16
import Derived.Test.YtinamipkpdlphaaLnB17
import Derived.Test.YtinamipkpdlphaaLnB18
import Derived.Test.YtinamipkpdlphaaLnB19
import Derived.Test.YtinamipkpdlphaaLnB1a
import Derived.Test.YtinamipkpdlphaaLnB1b
import Derived.Test.YtinamipkpdlphaaLnB1c
import Derived.Test.YtinamipkpdlphaaLnB1d
import Derived.Test.YtinamipkpdlphaaLnB1e
import Derived.Test.YtinamipkpdlphaaLnB1f
import Derived.Test.YtinamipkpdlphaaK6
import Derived.Test.YtinamipkpdlphaaK1
import Derived.ProofKit
import Derived.Deep.Slices
import Derived.Deep.Fields
import Derived.ChangeOld
import Derived.OpenShut
set_option linter.unusedVariables false
set_option linter.unusedSimpArgs false
set_option linter.unusedSectionVars false
namespace Go.Proofs.Ytinamipkpdlphaa
open Go.RowKit
theorem toB_nil:toB []=[]:=rfl
theorem top_four:([136,71,146,251]:List Nat).map UInt8.ofNat=(topT (nameL 1) (seedL 1)).take 4:=by
  rw [top_eq]
  decide +kernel
theorem nr0 {j:Nat} {nm':List Nat} (h6:∀ x ∈ nm',x < 256) (hl:nm'.length=16) (hn:toB nm'=(nameL 1).set j (at0 (nameL 1) j + 1)) (hb:batK 256 0 nmN nm' CN0 [] lfN1 YL0 136 71 146 251=true):∀ t,t < 256→(trnR (nameL 1) ((nameL 1).set j (at0 (nameL 1) j + 1)) (rndO (nameL 1) ((0:Nat):Int) (seedL 1)) [] (leafT (nameL 1) (seedL 1) 1) 0 YL0 t).take 4≠(topT (nameL 1) (seedL 1)).take 4:=by
  intro t ht
  have h:=batK_spec (Nat.le_refl _) (by decide) (by decide) rfl h6 hl (by decide) rfl (by decide) (by decide) rfl (by decide +kernel) (by decide) (by decide) (by decide) (by decide) hb t ht
  rw [nm_eq,hn,toB_nil,top_four] at h
  rw [show rndO (nameL 1) ((0:Nat):Int) (seedL 1)=toB CN0 from facts0.2.1,facts1.2.2]
  exact h
theorem nr1 {j:Nat} {nm':List Nat} (h6:∀ x ∈ nm',x < 256) (hl:nm'.length=16) (hn:toB nm'=(nameL 1).set j (at0 (nameL 1) j + 1)) (hb:batK 256 1 nmN nm' CN1 lfN0 [] YL1 136 71 146 251=true):∀ t,t < 256→(trnR (nameL 1) ((nameL 1).set j (at0 (nameL 1) j + 1)) (rndO (nameL 1) ((1:Nat):Int) (seedL 1)) (leafT (nameL 1) (seedL 1) 0) [] 1 YL1 t).take 4≠(topT (nameL 1) (seedL 1)).take 4:=by
  intro t ht
  have h:=batK_spec (Nat.le_refl _) (by decide) (by decide) rfl h6 hl (by decide) rfl (by decide) (by decide) rfl (by decide +kernel) (by decide) (by decide) (by decide) (by decide) hb t ht
  rw [nm_eq,hn,toB_nil,top_four] at h
  rw [show rndO (nameL 1) ((1:Nat):Int) (seedL 1)=toB CN1 from facts1.2.1,facts0.2.2]
  exact h
theorem noneRight:NoneRight:=fun q hq j hj t ht=>by
  obtain rfl | rfl:q=0∨q=1:=by omega
  · match j,hj with
    | 0,_=>exact nr0 (j:=0) (by decide) rfl (by decide +kernel) bat0_0 t ht
    | 1,_=>exact nr0 (j:=1) (by decide) rfl (by decide +kernel) bat0_1 t ht
    | 2,_=>exact nr0 (j:=2) (by decide) rfl (by decide +kernel) bat0_2 t ht
    | 3,_=>exact nr0 (j:=3) (by decide) rfl (by decide +kernel) bat0_3 t ht
    | 4,_=>exact nr0 (j:=4) (by decide) rfl (by decide +kernel) bat0_4 t ht
    | 5,_=>exact nr0 (j:=5) (by decide) rfl (by decide +kernel) bat0_5 t ht
    | 6,_=>exact nr0 (j:=6) (by decide) rfl (by decide +kernel) bat0_6 t ht
    | 7,_=>exact nr0 (j:=7) (by decide) rfl (by decide +kernel) bat0_7 t ht
    | 8,_=>exact nr0 (j:=8) (by decide) rfl (by decide +kernel) bat0_8 t ht
    | 9,_=>exact nr0 (j:=9) (by decide) rfl (by decide +kernel) bat0_9 t ht
    | 10,_=>exact nr0 (j:=10) (by decide) rfl (by decide +kernel) bat0_10 t ht
    | 11,_=>exact nr0 (j:=11) (by decide) rfl (by decide +kernel) bat0_11 t ht
    | 12,_=>exact nr0 (j:=12) (by decide) rfl (by decide +kernel) bat0_12 t ht
    | 13,_=>exact nr0 (j:=13) (by decide) rfl (by decide +kernel) bat0_13 t ht
    | 14,_=>exact nr0 (j:=14) (by decide) rfl (by decide +kernel) bat0_14 t ht
    | 15,_=>exact nr0 (j:=15) (by decide) rfl (by decide +kernel) bat0_15 t ht
    | j + 16,hj=>exact absurd hj (by omega)
  · match j,hj with
    | 0,_=>exact nr1 (j:=0) (by decide) rfl (by decide +kernel) bat1_0 t ht
    | 1,_=>exact nr1 (j:=1) (by decide) rfl (by decide +kernel) bat1_1 t ht
    | 2,_=>exact nr1 (j:=2) (by decide) rfl (by decide +kernel) bat1_2 t ht
    | 3,_=>exact nr1 (j:=3) (by decide) rfl (by decide +kernel) bat1_3 t ht
    | 4,_=>exact nr1 (j:=4) (by decide) rfl (by decide +kernel) bat1_4 t ht
    | 5,_=>exact nr1 (j:=5) (by decide) rfl (by decide +kernel) bat1_5 t ht
    | 6,_=>exact nr1 (j:=6) (by decide) rfl (by decide +kernel) bat1_6 t ht
    | 7,_=>exact nr1 (j:=7) (by decide) rfl (by decide +kernel) bat1_7 t ht
    | 8,_=>exact nr1 (j:=8) (by decide) rfl (by decide +kernel) bat1_8 t ht
    | 9,_=>exact nr1 (j:=9) (by decide) rfl (by decide +kernel) bat1_9 t ht
    | 10,_=>exact nr1 (j:=10) (by decide) rfl (by decide +kernel) bat1_10 t ht
    | 11,_=>exact nr1 (j:=11) (by decide) rfl (by decide +kernel) bat1_11 t ht
    | 12,_=>exact nr1 (j:=12) (by decide) rfl (by decide +kernel) bat1_12 t ht
    | 13,_=>exact nr1 (j:=13) (by decide) rfl (by decide +kernel) bat1_13 t ht
    | 14,_=>exact nr1 (j:=14) (by decide) rfl (by decide +kernel) bat1_14 t ht
    | 15,_=>exact nr1 (j:=15) (by decide) rfl (by decide +kernel) bat1_15 t ht
    | j + 16,hj=>exact absurd hj (by omega)
end Go.Proofs.Ytinamipkpdlphaa
namespace Go.Proofs.Ytinamipkpdlphaa
open Go.RowKit Go.ChangeShapes Go.WideShapes Go.Deep

theorem wf_i64 {n:Int} (h:(Lit.int .i64 n).wf=true):-9223372036854775808≤n∧n≤9223372036854775807:=by
  simp only [Lit.wf,Bool.and_eq_true,decide_eq_true_eq] at h
  have h1:IntKind.min .i64 = -9223372036854775808:=by decide
  have h2:IntKind.max .i64=9223372036854775807:=by decide
  rw [h1,h2] at h
  exact h
theorem wf_u8 {n:Int} (h:(Lit.int .u8 n).wf=true):0≤n∧n≤255:=by
  simp only [Lit.wf,Bool.and_eq_true,decide_eq_true_eq] at h
  have h1:IntKind.min .u8=0:=by decide
  have h2:IntKind.max .u8=255:=by decide
  rw [h1,h2] at h
  exact h

def RdI (w:World) (v:Value) (zs:List Int):Prop:=Rd w 1 v zs.length (zs.map (Value.int .i64))
def I64 (zs:List Int):Prop:=∀ z ∈ zs,-9223372036854775808≤z∧z≤9223372036854775807
theorem ints_of (vs:List Value) (h:∀ u ∈ vs,∃ n,u = .int .i64 n∧(Lit.int .i64 n).wf=true):∃ zs:List Int,vs=zs.map (Value.int .i64)∧I64 zs:=by
  induction vs with
  | nil=>exact ⟨[],rfl,by simp [I64]⟩
  | cons u vs ih =>
    obtain ⟨zs,rfl,hz⟩:=ih fun x hx=>h x (List.mem_cons_of_mem _ hx)
    obtain ⟨n,rfl,hw⟩:=h u (List.mem_cons_self ..)
    refine ⟨n::zs,rfl,fun z hm=>?_⟩
    rcases List.mem_cons.1 hm with rfl | hm
    · exact wf_i64 hw
    · exact hz z hm
section
variable {H:Type} {enc:TypeId × Value→H} {P:Program} {w:World} {base:Nat} {spare:Nat→Bool} {held:Bool}

theorem slice1_of {t e:TypeId} {fuel:Nat} {v:Value} {x:DataW H × List MemPlace} (ht:P.underlying t=some (.slice e)) (hc:P.cellsOf e=1) (h:DataW.trod enc P w base spare held fuel t [v]=some x) :
    ∃ vs:List Value,Rd w 1 v vs.length vs∧vs.length≤maxLen∧∀ u ∈ vs,∃ n y,DataW.trod enc P w base spare held n e [u]=some y:=by
  rcases open_slice1 ht hc h with ⟨h1,_⟩ | ⟨a,len,cap,m,n,V,D,Pl,h1,hb,hl,hm,hmm,hx,hV⟩
  · injection h1 with h1; subst h1
    exact ⟨[],⟨rfl,none,0,rfl,Nat.le_refl _,fun _=>rfl,fun ad h=>by cases h⟩,by unfold maxLen; simp,by simp⟩
  · injection h1 with h1; subst h1
    have hle:len≤m:=by rw [hmm]; split <;> omega
    refine ⟨(List.range len).map V,⟨by simp,some a,cap,by simp,by simpa using hl,(fun h=>by cases h),fun ad had=>?_⟩,by simp; omega,fun u hu=>?_⟩
    · injection had with had; subst had
      refine ⟨fun hp=>?_,fun j u hu=>?_⟩
      · have:=(hV 0 (by simp at hp; omega)).1
        have:=World.block_lt_of_cell? _ _ this
        rwa [block_of_add] at this
      · simp only [List.getElem?_map] at hu
        have hj:j < len:=by
          rcases Nat.lt_or_ge j len with h | h
          · exact h
          · simp [List.getElem?_eq_none (show (List.range len).length≤j by simpa using h)] at hu
        simp [List.getElem?_range hj] at hu
        subst hu
        exact (hV j (by omega)).1
    · simp only [List.mem_map,List.mem_range] at hu
      obtain ⟨i,hi,rfl⟩:=hu
      exact ⟨n,_,(hV i (by omega)).2⟩

theorem rdI_of {t e:TypeId} {fuel:Nat} {v:Value} {x:DataW H × List MemPlace} (ht:P.underlying t=some (.slice e)) (he:P.underlying e=some (.int .i64)) (hc:P.cellsOf e=1) (h:DataW.trod enc P w base spare held fuel t [v]=some x) :
    ∃ l,RdI w v l∧I64 l∧l.length≤maxLen:=by
  obtain ⟨vs,hr,hm,hu⟩:=slice1_of ht hc h
  obtain ⟨l,rfl,hl⟩:=ints_of vs fun u hmem=>by
    obtain ⟨n,y,hy⟩:=hu u hmem
    obtain ⟨k,h1,_,h3⟩:=DataW.trod_int he hy
    injection h1 with h1
    exact ⟨k,h1,h3⟩
  rw [List.length_map] at hr hm
  exact ⟨l,hr,hl,hm⟩
end

section
variable {H:Type} {enc:TypeId × Value→H} {P:Program} {w:World} {base b0:Nat} {spare:Nat→Bool} {held:Bool} {r:Reach} {t:TypeId} {v:Value} {d:DataW H} {ps:List MemPlace}
theorem op_slice {e:TypeId} (ht:P.underlying t=some (.slice e)) (hv:Value.okWide P w r b0 t v) (h:DataW.Trod enc P w base spare held t v d ps):∃ fuel,DataW.trod enc P w base spare held fuel t [v]=some (d,ps):=by
  obtain ⟨a,len,cap,rfl⟩:=okWide_slice ht hv
  obtain ⟨fuel,hf⟩:=h
  exact ⟨fuel,by simpa [Value.cells] using hf⟩
end
end Go.Proofs.Ytinamipkpdlphaa
namespace Go.Proofs.Ytinamipkpdlphaa
open Go.RowKit Go.ChangeShapes Go.WideShapes Go.Deep
section
variable {H:Type} {enc:TypeId × Value→H} {P:Program} {w:World} {base:Nat} {spare:Nat→Bool} {held:Bool}
def Tr (enc:TypeId × Value→H) (P:Program) (w:World) (base:Nat) (spare:Nat→Bool) (held:Bool) (t:TypeId) (cs:List Value):Prop:=∃ fuel x,DataW.trod enc P w base spare held fuel t cs=some x
theorem Tr.int {t:TypeId} {cs:List Value} (ht:P.underlying t=some (.int .i64)) (h:Tr enc P w base spare held t cs):∃ n,cs=[.int .i64 n]∧-9223372036854775808≤n∧n≤9223372036854775807:=by
  obtain ⟨f,x,h⟩:=h
  obtain ⟨n,rfl,_,hw⟩:=DataW.trod_int ht h
  exact ⟨n,rfl,wf_i64 hw⟩
theorem Tr.bool {t:TypeId} {cs:List Value} (ht:P.underlying t=some .bool) (h:Tr enc P w base spare held t cs):∃ b,cs=[Value.bool b]:=by
  obtain ⟨f,x,h⟩:=h
  obtain ⟨b,rfl,_⟩:=DataW.trod_bool ht h
  exact ⟨b,rfl⟩
theorem Tr.u8 {t:TypeId} {cs:List Value} (ht:P.underlying t=some (.int .u8)) (h:Tr enc P w base spare held t cs):∃ x,cs=[bv x]:=by
  obtain ⟨f,x,h⟩:=h
  obtain ⟨n,rfl,_,hw⟩:=DataW.trod_int ht h
  have:=wf_u8 hw
  refine ⟨UInt8.ofNat n.toNat,?_⟩
  simp only [bv]
  congr 2
  rw [UInt8.toNat_ofNat']
  omega
theorem Tr.struct {t:TypeId} {cs:List Value} {fs:Array Field} (ht:P.underlying t=some (.struct fs)) (h:Tr enc P w base spare held t cs):cs.length=P.cellsOf t∧∀ (i:Nat) (f:Field),fs[i]?=some f→Tr enc P w base spare held f.type ((cs.drop f.offset).take (P.cellsOf f.type)):=by
  obtain ⟨f,x,h⟩:=h
  obtain ⟨xs,n,_,_,hl,hx,hf⟩:=DataW.trod_struct ht h
  refine ⟨hl,fun i f hi=>?_⟩
  have h1:=hf i f hi
  have hlt:i < xs.length:=by rw [hx]; exact (Array.getElem?_eq_some_iff.1 hi).1
  rw [List.getElem?_eq_getElem hlt] at h1
  exact ⟨n,_,h1⟩
theorem Tr.array {t e:TypeId} {n:Nat} {cs:List Value} (ht:P.underlying t=some (.array n e)) (h:Tr enc P w base spare held t cs):cs.length=P.cellsOf t∧∀ i,i < n→Tr enc P w base spare held e ((cs.drop (i * P.cellsOf e)).take (P.cellsOf e)):=by
  obtain ⟨f,x,h⟩:=h
  obtain ⟨xs,m,_,_,hl,hx,hf⟩:=DataW.trod_array ht h
  refine ⟨hl,fun i hi=>?_⟩
  have h1:=hf i hi
  rw [List.getElem?_eq_getElem (by omega)] at h1
  exact ⟨m,_,h1⟩
theorem Tr.bytes {t e:TypeId} {n:Nat} {cs:List Value} (ht:P.underlying t=some (.array n e)) (he:P.underlying e=some (.int .u8)) (hc:P.cellsOf e=1) (hn:P.cellsOf t=n) (h:Tr enc P w base spare held t cs):∃ l,cs=bs l∧l.length=n:=by
  obtain ⟨hl,hf⟩:=h.array ht
  rw [hn] at hl
  rw [hc] at hf
  have key:∀ (cs:List Value),(∀ i,i < cs.length→Tr enc P w base spare held e ((cs.drop (i * 1)).take 1))→∃ l,cs=bs l:=by
    intro cs
    induction cs with
    | nil=>intro _; exact ⟨[],rfl⟩
    | cons u cs ih =>
      intro h
      obtain ⟨l,rfl⟩:=ih (fun i hi=>by
        have:=h (i + 1) (by simpa using hi)
        simpa using this)
      obtain ⟨x,hx⟩:=(h 0 (by simp)).u8 he
      simp at hx
      exact ⟨x::l,by simp [bs,hx]⟩
  obtain ⟨l,rfl⟩:=key cs (fun i hi=>hf i (by omega))
  exact ⟨l,rfl,by rw [← hl,bs_length]⟩
end
section
variable {H:Type} {enc:TypeId × Value→H} {P:Program} {w:World} {base b0:Nat} {spare:Nat→Bool} {held:Bool} {r:Reach} {t:TypeId} {v:Value} {d:DataW H} {ps:List MemPlace}
end
open Go.RowKit
theorem slotsRise_any (W:World) (v0:Value) (l0:List Int) (hr0:RdI W v0 l0) (hz0:I64 l0) (hl0:l0.length≤maxLen) (v1:Value) (l1:List Int) (hr1:RdI W v1 l1) (hz1:I64 l1) (hl1:l1.length≤maxLen) :
    Calls Try.prog 3 #[v0,v1] W fun e W'=>e = .returned (.bool true)∧Chg [] W W' :=
  calls_law (slotsRise_law noneRight v0 l0 v1 l1 (orig W) (fun h hp=>Rd.orig hr0 h hp) (fun h hp=>Rd.orig hr1 h hp))
end Go.Proofs.Ytinamipkpdlphaa
