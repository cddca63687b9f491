/- Texts of this proof, one behind the other: LaySort, Mem, Mem2, Mem4, Sl0, Sl1, Sl2, Sl3, Sl4, Sl5, Sl6, Mem3, Sl7, Sl8, Sl9, SlotC0, Sl10, Sl11, Sl12, Cat, Sl13, Rec, SortK, KeyL, Sk, SlotC1, Ti. -/
import Derived.Test.YtinamipkpdlphaaProg
import Derived.Shelf.SlSortCmp.WholeK
import Derived.Below
import Derived.Laws.OwnMore
import Derived.Deep.Draws
import Derived.Deep.AppendLies
import Derived.Laws.Rows
import Derived.Maps.AppendAt
import Derived.OwnWalk
import Derived.RegionTactic
import Derived.Laws.CopyOwn
import Derived.Deep.RegionHeld3
import Derived.Deep.MidRow
import Derived.WalkKit
import Derived.IntWalk
import Derived.Laws.BitsLemmas
import Derived.Laws.BitsAllLaws
import Derived.Laws.BytesArg
import Derived.Lib.SlBytesConst
import Derived.Laws.Strings
import Derived.Laws.StructEq
import Derived.Lib.AppendZeros
import Derived.MapKept
import Derived.Carry
import Derived.Stop.BytesEq
import Derived.Laws.StandIn
import Derived.Deep.QuietTactic
import Derived.BigQuiet
import Derived.Laws.CopyRow
import Derived.Lib.MapLaws
import Derived.Shelf.SlSortCmp.NoneTotal
import Derived.Lib.BytesEntry
import GoSem.Extern.BytealgCompare
set_option linter.unusedVariables false
set_option linter.unusedSimpArgs false
set_option linter.unusedSectionVars false
namespace Go.Proofs.Ytinamipkpdlphaa
open Go.RowKit Go.Shelf
def srtR:Ren:={
  f:=fun n=>match n with
    | 6=>48
    | 14=>69
    | 15=>70
    | 20=>79
    | 21=>80
    | 22=>81
    | 23=>82
    | 24=>83
    | 25=>84
    | 26=>85
    | 27=>86
    | 28=>87
    | 29=>88
    | 46=>90
    | 47=>91
    | 48=>92
    | 49=>93
    | 50=>94
    | 57=>95
    | n=>n,
  t:=fun n=>match n with
    | 0=>0
    | 3=>3
    | 4=>4
    | 5=>5
    | 9=>9
    | 22=>34
    | 24=>37
    | 25=>69
    | 39=>71
    | 45=>121
    | 46=>122
    | 50=>126
    | 53=>73
    | 55=>77
    | 66=>132
    | 70=>136
    | 76=>138
    | 77=>139
    | n=>n,
  g:=fun n=>n }
theorem laysSort:SlLaysF0.n6 Try.prog srtR where
  mixed:=by kernel_rfl
  f6:=⟨ "slices.SortFunc[[]lattice/slots.Slot,lattice/slots.Slot]",by decide,by kernel_rfl⟩
  f14:=⟨ "slices.pdqsortCmpFunc[lattice/slots.Slot]",by decide,by kernel_rfl⟩
  f15:=by kernel_rfl
  f20:=⟨ "slices.insertionSortCmpFunc[lattice/slots.Slot]",by decide,by kernel_rfl⟩
  f21:=⟨ "slices.heapSortCmpFunc[lattice/slots.Slot]",by decide,by kernel_rfl⟩
  f22:=⟨ "slices.breakPatternsCmpFunc[lattice/slots.Slot]",by decide,by kernel_rfl⟩
  f23:=⟨ "slices.choosePivotCmpFunc[lattice/slots.Slot]",by decide,by kernel_rfl⟩
  f24:=⟨ "slices.reverseRangeCmpFunc[lattice/slots.Slot]",by decide,by kernel_rfl⟩
  f25:=⟨ "slices.partialInsertionSortCmpFunc[lattice/slots.Slot]",by decide,by kernel_rfl⟩
  f26:=⟨ "slices.partitionEqualCmpFunc[lattice/slots.Slot]",by decide,by kernel_rfl⟩
  f27:=⟨ "slices.partitionCmpFunc[lattice/slots.Slot]",by decide,by kernel_rfl⟩
  f28:=by kernel_rfl
  f29:=by kernel_rfl
  f46:=⟨ "slices.siftDownCmpFunc[lattice/slots.Slot]",by decide,by kernel_rfl⟩
  f47:=by kernel_rfl
  f48:=by kernel_rfl
  f49:=⟨ "slices.medianAdjacentCmpFunc[lattice/slots.Slot]",by decide,by kernel_rfl⟩
  f50:=⟨ "slices.medianCmpFunc[lattice/slots.Slot]",by decide,by kernel_rfl⟩
  f57:=⟨ "slices.order2CmpFunc[lattice/slots.Slot]",by decide,by kernel_rfl⟩
  t0:=Try.underlying0
  a0:=Try.isAgg0
  z0:=Try.sizeOf0
  v0:=Try.zeroValue0
  t3:=Try.underlying3
  a3:=Try.isAgg3
  z3:=Try.sizeOf3
  v3:=Try.zeroValue3
  t4:=Try.underlying4
  a4:=Try.isAgg4
  z4:=Try.sizeOf4
  v4:=Try.zeroValue4
  t5:=Try.underlying5
  a5:=Try.isAgg5
  z5:=Try.sizeOf5
  v5:=Try.zeroValue5
  t9:=Try.underlying9
  a9:=Try.isAgg9
  z9:=Try.sizeOf9
  v9:=Try.zeroValue9
  t22:=Try.underlying34
  a22:=Try.isAgg34
  z22:=Try.sizeOf34
  v22:=Try.zeroValue34
  t25:=Try.underlying69
  a25:=Try.isAgg69
  z25:=Try.sizeOf69
  v25:=Try.zeroValue69
  t39:=Try.underlying71
  a39:=Try.isAgg71
  z39:=Try.sizeOf71
  v39:=Try.zeroValue71
  t45:=Try.underlying121
  a45:=Try.isAgg121
  z45:=Try.sizeOf121
  v45:=Try.zeroValue121
  t46:=Try.underlying122
  a46:=Try.isAgg122
  z46:=Try.sizeOf122
  v46:=Try.zeroValue122
  t50:=Try.underlying126
  a50:=Try.isAgg126
  z50:=Try.sizeOf126
  v50:=Try.zeroValue126
  t53:=Try.underlying73
  a53:=Try.isAgg73
  z53:=Try.sizeOf73
  v53:=Try.zeroValue73
  t55:=Try.underlying77
  a55:=Try.isAgg77
  z55:=Try.sizeOf77
  v55:=Try.zeroValue77
  t66:=Try.underlying132
  a66:=Try.isAgg132
  z66:=Try.sizeOf132
  v66:=Try.zeroValue132
  t70:=Try.underlying136
  a70:=Try.isAgg136
  z70:=Try.sizeOf136
  v70:=Try.zeroValue136
  t76:=Try.underlying138
  a76:=Try.isAgg138
  z76:=Try.sizeOf138
  v76:=Try.zeroValue138
  t77:=Try.underlying139
  a77:=Try.isAgg139
  z77:=Try.sizeOf139
  v77:=Try.zeroValue139
open Go.RowKit

def Blk (w:World) (g:Nat) (t:TypeId) (cs:Array Value):Prop:=w.heap[g]?=some (.cells cs t (0,0))

theorem lt_of_heap {w:World} {g:Nat} {o:Obj} (h:w.heap[g]?=some o):g < w.heap.size:=by
  rcases Nat.lt_or_ge g w.heap.size with hlt | hge
  · exact hlt
  · rw [Array.getElem?_eq_none hge] at h; cases h

section
variable {w w':World} {g:Nat} {t:TypeId} {cs:Array Value}
theorem Blk.lt (h:Blk w g t cs):g < w.heap.size:=lt_of_heap h
theorem Blk.cell (h:Blk w g t cs) (i:Nat):w.cell? ⟨g,i,none⟩=cs[i]?:=cell_of_row w g i cs t (0,0) h
theorem Blk.frozen (h:Blk w g t cs) (i:Nat):w.frozen? ⟨g,i,none⟩=false:=by
  unfold Blk at h
  simp [World.frozen?,h]
theorem Blk.new (w:World) (t:TypeId) (cs:Array Value):Blk (w.alloc (.cells cs t)) w.heap.size t cs:=heap_alloc_new w _
theorem Blk.drew (h:Blk w g t cs):Blk w.drew g t cs:=h
theorem Blk.drewN (h:Blk w g t cs) (n:Nat):Blk (w.drewN n) g t cs:=h
theorem Blk.alloc (h:Blk w g t cs) (o:Obj):Blk (w.alloc o) g t cs:=(Below.heap_alloc w o g h.lt).trans h
end

structure Chg (F:List Nat) (w w':World):Prop where
  os:w'.os=w.os
  tape:w'.tape=w.tape
  output:w'.output=w.output
  size:w.heap.size≤w'.heap.size
  block:∀ k,k < w.heap.size→k ∉ F→w'.heap[k]?=w.heap[k]?

section
variable {F G:List Nat} {a w w':World}
theorem Chg.refl (F:List Nat) (w:World):Chg F w w:=⟨rfl,rfl,rfl,Nat.le_refl _,fun _ _ _=>rfl⟩
theorem Chg.trans (h:Chg F a w) (k:Chg G w w') (hs:∀ x,x ∈ G→x ∈ F∨a.heap.size≤x):Chg F a w' :=
  ⟨k.os.trans h.os,k.tape.trans h.tape,k.output.trans h.output,Nat.le_trans h.size k.size,fun i hi hF =>
    (k.block i (Nat.lt_of_lt_of_le hi h.size) (fun hG=>by rcases hs i hG with h1 | h1 <;> first | exact hF h1 | omega)).trans (h.block i hi hF)⟩
theorem Chg.mono (h:Chg F a w) (hs:∀ x,x ∈ F→x ∈ G∨a.heap.size≤x):Chg G a w:=(Chg.refl G a).trans h hs
theorem Chg.alloc (h:Chg F a w) (o:Obj):Chg F a (w.alloc o) :=
  h.trans (G:=[]) ⟨rfl,rfl,rfl,by simp,fun k hk _=>Below.heap_alloc _ _ _ hk⟩ (by simp)
theorem Chg.drew (h:Chg F a w):Chg F a w.drew:=⟨h.os,h.tape,h.output,h.size,h.block⟩
theorem Chg.drewN (h:Chg F a w) (n:Nat):Chg F a (w.drewN n):=⟨h.os,h.tape,h.output,h.size,h.block⟩
theorem Chg.grown {row:Option Nat} (h:Chg F a w) (hg:w.grownBy w' row) (hr:∀ k,row=some k→k ∈ F∨a.heap.size≤k):Chg F a w' :=
  h.trans (G:=row.toList) ⟨hg.os,hg.tape,hg.output,hg.size,fun k hk hn=>hg.block k hk (fun e=>hn (by simp [← e]))⟩ (by simpa using hr)
theorem Chg.to_below {B:Nat} (h:Chg F a w) (hB:B≤a.heap.size) (hF:∀ x,x ∈ F→B≤x):Below B a w :=
  ⟨h.os,h.tape,h.output,h.size,fun k hk=>h.block k (by omega) (fun hm=>by have:=hF k hm; omega)⟩
theorem Blk.chg {g:Nat} {t:TypeId} {cs:Array Value} (h:Blk w g t cs) (hc:Chg F w w') (hg:g ∉ F):Blk w' g t cs:=(hc.block g h.lt hg).trans h
theorem Chg.cell (hc:Chg F w w') {p:Addr} (hp:p.block < w.heap.size) (hn:p.block ∉ F):w'.cell? p=w.cell? p:=World.cell?_of_block (hc.block _ hp hn)
end

def bv (x:UInt8):Value:=.int .u8 (x.toNat:Int)
def bs (l:List UInt8):List Value:=l.map bv
theorem bs_length (l:List UInt8):(bs l).length=l.length:=by simp [bs]
theorem bs_append (l m:List UInt8):bs (l++m)=bs l++bs m:=by simp [bs]
theorem bs_take (l:List UInt8) (n:Nat):bs (l.take n)=(bs l).take n:=by simp [bs,List.map_take]
theorem bs_drop (l:List UInt8) (n:Nat):bs (l.drop n)=(bs l).drop n:=by simp [bs,List.map_drop]
theorem bs_get (l:List UInt8) (j:Nat):(bs l)[j]?=(l[j]?).map bv:=by simp [bs]
theorem bs_one (l:List UInt8):∀ u ∈ bs l,u.oneCell'=true:=by
  intro u hu
  simp only [bs,List.mem_map] at hu
  obtain ⟨x,_,rfl⟩:=hu
  rfl

theorem block_of_add (a:Addr) (n:Nat):(a.add n).block=a.block:=by unfold Addr.add; split <;> rfl
theorem add_of_add (a:Addr) (i j:Nat):(a.add i).add j=a.add (i + j):=by
  unfold Addr.add
  by_cases hi:i=0 <;> by_cases hj:j=0 <;> simp [hi,hj,Nat.add_assoc]

def Rd (w:World) (size:Nat) (v:Value) (n:Nat) (xs:List Value):Prop :=
  xs.length=n * size∧∃ A c,v = .slice A n c∧n≤c∧(A=none→c=0)∧∀ ad,A=some ad→(0 < n→ad.block < w.heap.size)∧∀ j u,xs[j]?=some u→w.cell? (ad.add j)=some u

section
variable {w w':World} {size n:Nat} {v:Value} {xs:List Value} {F:List Nat}
theorem pos_of_get {xs:List Value} {n size j:Nat} {u:Value} (hl:xs.length=n * size) (h:xs[j]?=some u):0 < n:=by
  rcases Nat.eq_zero_or_pos n with h0 | h0
  · subst h0
    have:xs=[]:=List.eq_nil_of_length_eq_zero (by simpa using hl)
    subst this
    simp at h
  · exact h0
theorem Rd.chg (h:Rd w size v n xs) (hc:Chg F w w') (hv:0 < n→∀ k,v.ownBlock=some k→k ∉ F):Rd w' size v n xs:=by
  obtain ⟨hl,A,c,rfl,hn,h0,hr⟩:=h
  refine ⟨hl,A,c,rfl,hn,h0,fun ad had=>?_⟩
  obtain ⟨h1,h2⟩:=hr ad had
  subst had
  refine ⟨fun hp=>Nat.lt_of_lt_of_le (h1 hp) hc.size,fun j u hu=>?_⟩
  rw [hc.cell (by rw [block_of_add]; exact h1 (pos_of_get hl hu)) (by rw [block_of_add]; exact hv (pos_of_get hl hu) _ rfl)]
  exact h2 j u hu
theorem Rd.old (h:Rd w size v n xs) (hc:Chg [] w w'):Rd w' size v n xs:=h.chg hc (by simp)
theorem Rd.of_own {base:Nat} {e:TypeId} (h:w.ownsRow base e size v n xs):Rd w size v n xs:=by
  refine ⟨h.1,?_⟩
  rcases h.2 with ⟨rfl,rfl⟩ | ⟨g,cap,cur,rfl,hb,hgg,hcap,rest⟩
  · exact ⟨none,0,rfl,Nat.le_refl _,fun _=>rfl,fun ad had=>by cases had⟩
  · refine ⟨some ⟨g,0,none⟩,cap,rfl,hcap,(fun h=>by cases h),fun ad had=>?_⟩
    injection had with had
    subst had
    exact ⟨fun _=>lt_of_heap hgg,h.cells (g:=g) rfl⟩
end

def RdB (w:World) (v:Value) (l:List UInt8):Prop:=Rd w 1 v l.length (bs l)
def OwnB (w:World) (e:TypeId) (v:Value) (l:List UInt8):Prop:=w.ownsRow 0 e 1 v l.length (bs l)
theorem OwnB.rd {w:World} {e:TypeId} {v:Value} {l:List UInt8} (h:OwnB w e v l):RdB w v l:=Rd.of_own h

open Go.RowKit
section
variable {P:Program}

theorem run_append_of_nil (w:World) (base:Nat) (t ty e:TypeId) (i:TypeInfo) (size:Nat) (ht:P.underlying t=some (.slice e)) (hi:P.info? e=some i)
    (v:Value) (n:Nat) (xs:List Value) (hown:w.ownsRow base e size v n xs) (c:Nat):(Builtin.append_ #[t,t] ty #[v,.slice none 0 c]).run P w = .ok v w:=by
  rcases hown.2 with ⟨rfl,rfl⟩ | ⟨g,cap,cur,rfl,_,_,hnc,_⟩
  · simp [Builtin.append_,run_underlying ht,sizeOf,typeInfo,hi,Builtin.lenOf,Builtin.firstCells]
  · simp [Builtin.append_,run_underlying ht,sizeOf,typeInfo,hi,Builtin.lenOf,Builtin.firstCells,hnc,storeCells]

theorem run_append_rd (w:World) (t ty e:TypeId) (i:TypeInfo) (z:Value) (size bytes:Nat) (ht:P.underlying t=some (.slice e)) (hi:P.info? e=some i) (hz:i.zero=some z)
    (hsize:i.size=size) (hby:i.bytes=bytes) (hzs:z.cells.size=size) (hsz:0 < size)
    (v:Value) (n:Nat) (xs:List Value) (hown:w.ownsRow 0 e size v n xs) (x:Value) (m:Nat) (news:List Value) (hr:Rd w size x m news) (h1:∀ u ∈ news,u.oneCell'=true)
    (h63:n + m≤maxLen) (hbytes:(n + m) * bytes≤140737488355328) :
    ∃ v' w',(Builtin.append_ #[t,t] ty #[v,x]).run P w = .ok v' w'∧w'.ownsRow 0 e size v' (n + m) (xs++news)∧Chg v.ownBlock.toList w w' ∧
      (v'.ownBlock=v.ownBlock∨v'.ownBlock=some w.heap.size):=by
  obtain ⟨hl,A,c,rfl,hn,h0,hrd⟩:=hr
  cases A with
  | none =>
    have hm:m=0:=by have:=h0 rfl; omega
    subst hm
    have hn':news=[]:=List.eq_nil_of_length_eq_zero (by simpa using hl)
    subst hn'
    exact ⟨v,w,run_append_of_nil w 0 t ty e i size ht hi v n xs hown c,by simpa using hown,Chg.refl _ _,.inl rfl⟩
  | some ad =>
    obtain ⟨_,hc⟩:=hrd ad rfl
    obtain ⟨v',w',hrun,h2,h3,_,h5⟩:=run_append_own_at (P:=P) w 0 t ty e i z size bytes ht hi hz hsize hby hzs hsz v n xs hown ad m c news hl hc h1 h63 hbytes (Nat.zero_le _)
    exact ⟨v',w',hrun,h2,(Chg.refl _ w).grown h3 (by intro k hk; left; simp [hk]),h5⟩

end

open Go.RowKit

open Go.RowKit

def look {α:Type}:List (Nat × α)→Nat→Option α
  | [],_=>none
  | (k,v)::l,j=>match Nat.beq k j with
    | true=>some v
    | false=>look l j
theorem look_same {α:Type} (k:Nat) (v:α) (l:List (Nat × α)):look ((k,v)::l) k=some v:=by simp [look]
theorem look_other {α:Type} {k j:Nat} (h:k≠j) (v:α) (l:List (Nat × α)):look ((k,v)::l) j=look l j:=by
  have:Nat.beq k j=false:=by
    cases hb:Nat.beq k j with
    | false=>rfl
    | true=>exact absurd (Nat.eq_of_beq_eq_true hb) h
  simp [look,this]

abbrev Hlt:=Nat→Option Obj
abbrev HP:=Hlt→Prop
abbrev Res:=List (Nat × HP)
abbrev Slots:=List (Nat × Value)
structure Env where
  os:Os
  tape:Nat→Question→Nat
  output:Array (Nat × ByteArray)
def In (h:Hlt) (w:World):Prop:=∀ g o,h g=some o→w.heap[g]?=some o
theorem In.lt {h:Hlt} {w:World} (hi:In h w) {g:Nat} (hg:(h g).isSome=true):g < w.heap.size:=by
  obtain ⟨o,ho⟩:=Option.isSome_iff_exists.1 hg
  exact lt_of_heap (hi g o ho)
def Sat (E:Env) (L:Res) (w:World):Prop :=
  (w.os=E.os∧w.tape=E.tape∧w.output=E.output)∧∃ hs:Nat→Hlt,(∀ r P,look L r=some P→P (hs r))∧(∀ r r' g,r≠r'→(hs r g).isSome=true→hs r' g=none)∧∀ r,In (hs r) w

section
variable {E:Env} {L L':Res} {w w':World} {r:Nat} {P P':HP}
theorem Sat.read (hS:Sat E L w) (hr:look L r=some P):∃ h,P h∧In h w:=by
  obtain ⟨_,hs,h1,h2,h3⟩:=hS
  exact ⟨hs r,h1 r P hr,h3 r⟩
theorem Sat.step (hS:Sat E L w) (hr:look L r=some P)
    (H:∀ h,P h→In h w→∃ C h',(∀ k ∈ C,(h k).isSome=true)∧Chg C w w'∧P' h'∧In h' w'∧∀ g,(h' g).isSome=true→(h g).isSome=true∨w.heap.size≤g):Sat E ((r,P')::L) w':=by
  obtain ⟨⟨e1,e2,e3⟩,hs,h1,h2,h3⟩:=hS
  obtain ⟨C,h',c1,c2,c3,c4,c5⟩:=H (hs r) (h1 r P hr) (h3 r)
  refine ⟨⟨c2.os.trans e1,c2.tape.trans e2,c2.output.trans e3⟩,fun r'=>if r'=r then h' else hs r',?_,?_,?_⟩
  · intro r' P1 h
    by_cases hrr:r'=r
    · subst hrr
      rw [look_same] at h
      injection h with h
      subst h
      simpa using c3
    · rw [look_other (Ne.symm hrr)] at h
      simpa [hrr] using h1 r' P1 h
  · intro r1 r2 g hne hg
    by_cases q1:r1=r
    · subst q1
      have q2:¬ r2=r1:=Ne.symm hne
      simp only [if_true,q2,if_false] at hg ⊢
      rcases c5 g hg with h | h
      · exact h2 r1 r2 g hne h
      · cases hv:hs r2 g with
        | none=>rfl
        | some o=>have:=lt_of_heap (h3 r2 g o hv); omega
    · simp only [q1,if_false] at hg
      by_cases q2:r2=r
      · subst q2
        simp only [if_true]
        cases hv:h' g with
        | none=>rfl
        | some o =>
          rcases c5 g (by simp [hv]) with h | h
          · have:=h2 r1 r2 g hne hg; simp [this] at h
          · have:=(h3 r1).lt hg; omega
      · simp only [q2,if_false]
        exact h2 r1 r2 g hne hg
  · intro r'
    by_cases hrr:r'=r
    · subst hrr; simpa using c4
    · simp only [hrr,if_false]
      intro g o hg
      rw [c2.block g ((h3 r').lt (by simp [hg])) (fun hm=>by have:=h2 r r' g (Ne.symm hrr) (c1 g hm); simp [this] at hg)]
      exact h3 r' g o hg
theorem Sat.new (hS:Sat E L w) (r:Nat) (hc:Chg [] w w') (h':Hlt) (c3:P' h') (c4:In h' w') (c5:∀ g,(h' g).isSome=true→w.heap.size≤g):Sat E ((r,P')::L) w':=by
  have hS1:Sat E ((r,fun _=>True)::L) w:=by
    obtain ⟨e,hs,h1,h2,h3⟩:=hS
    refine ⟨e,fun r'=>if r'=r then (fun _=>none) else hs r',?_,?_,?_⟩
    · intro r' P1 h
      by_cases hrr:r'=r
      · subst hrr; rw [look_same] at h; injection h with h; subst h; trivial
      · rw [look_other (Ne.symm hrr)] at h; simpa [hrr] using h1 r' P1 h
    · intro r1 r2 g hne hg
      by_cases q1:r1=r
      · simp [q1] at hg
      · simp only [q1,if_false] at hg
        by_cases q2:r2=r
        · simp [q2]
        · simp only [q2,if_false]; exact h2 r1 r2 g hne hg
    · intro r' g o hg
      by_cases hrr:r'=r
      · simp [hrr] at hg
      · simp only [hrr,if_false] at hg; exact h3 r' g o hg
  have hS2:=hS1.step (P':=P') (w':=w') (look_same r _ L) (fun h _ hi=>⟨[],h',by simp,hc,c3,c4,fun g hg=>.inr (c5 g hg)⟩)
  obtain ⟨e,hs,h1,h2,h3⟩:=hS2
  refine ⟨e,hs,fun r' P1 h=>h1 r' P1 ?_,h2,h3⟩
  by_cases hrr:r'=r
  · subst hrr; rw [look_same] at h ⊢; exact h
  · rw [look_other (Ne.symm hrr)] at h; rw [look_other (Ne.symm hrr),look_other (Ne.symm hrr)]; exact h
theorem Sat.same (hS:Sat E L w) (hc:Chg [] w w'):Sat E L w':=by
  obtain ⟨⟨e1,e2,e3⟩,hs,h1,h2,h3⟩:=hS
  exact ⟨⟨hc.os.trans e1,hc.tape.trans e2,hc.output.trans e3⟩,hs,h1,h2,fun r g o hg=>(hc.block g ((h3 r).lt (by simp [hg])) (by simp)).trans (h3 r g o hg)⟩
theorem Sat.drew (hS:Sat E L w):Sat E L w.drew:=hS.same (Chg.refl [] w).drew
theorem Sat.sub (hS:Sat E L w) (h:∀ r P,look L' r=some P→look L r=some P):Sat E L' w:=by
  obtain ⟨e,hs,h1,h2,h3⟩:=hS
  exact ⟨e,hs,fun r P hr=>h1 r P (h r P hr),h2,h3⟩
theorem Sat.cons (hS:Sat E L w) (hr:look L r=some P) (hP:∀ h,P h→P' h):Sat E ((r,P')::L) w :=
  hS.step hr fun h hp hi=>⟨[],h,by simp,Chg.refl _ _,hP h hp,hi,fun g hg=>.inl hg⟩
theorem Sat.get (hS:Sat E L w) (hr:look L r=some P) {φ:Prop} (hP:∀ h,P h→φ):φ:=by
  obtain ⟨h,hp,_⟩:=hS.read hr
  exact hP h hp
theorem Sat.ex {α:Type} {Q:α→HP} (hS:Sat E L w) (hr:look L r=some P) (hP:∀ h,P h→∃ x,Q x h):∃ x,Sat E ((r,Q x)::L) w:=by
  obtain ⟨e,hs,h1,h2,h3⟩:=hS
  obtain ⟨x,hx⟩:=hP (hs r) (h1 r P hr)
  refine ⟨x,e,hs,fun r' P1 h=>?_,h2,h3⟩
  by_cases hrr:r=r'
  · subst hrr; rw [look_same] at h; injection h with h; subst h; exact hx
  · rw [look_other hrr] at h; exact h1 r' P1 h
end

def En (b:Nat):List HP→Res
  | []=>[]
  | P::l=>(b,P)::En (b + 1) l
theorem look_En_lt (Ps:List HP):∀ b r,r < b→look (En b Ps) r=none:=by
  induction Ps with
  | nil=>intro b r _; rfl
  | cons P l ih=>intro b r h; rw [En,look_other (by omega)]; exact ih _ _ (by omega)
theorem look_En (Ps:List HP):∀ b k,look (En b Ps) (b + k)=Ps[k]?:=by
  induction Ps with
  | nil=>intro b k; rfl
  | cons P l ih =>
    intro b k
    rw [En]
    cases k with
    | zero=>exact look_same b P _
    | succ k=>rw [look_other (by omega),show b + (k + 1)=b + 1 + k by omega,ih]; rfl
def LookAll (L:Res):List Nat→List HP→Prop
  | [],[]=>True
  | r::ids,P::Ps=>look L r=some P∧LookAll L ids Ps
  | _,_=>False
def lookL (L:Res):List Nat→Option (List HP)
  | []=>some []
  | r::ids=>match look L r,lookL L ids with
    | some P,some Ps=>some (P::Ps)
    | _,_=>none
theorem LookAll.of {L:Res}:∀ {ids:List Nat} {Ps:List HP},lookL L ids=some Ps→LookAll L ids Ps
  | [],Ps,h=>by simp [lookL] at h; subst h; trivial
  | r::ids,Ps,h=>by
    rw [lookL] at h
    cases h1:look L r with
    | none=>simp [h1] at h
    | some P =>
      cases h2:lookL L ids with
      | none=>simp [h1,h2] at h
      | some Qs =>
        simp [h1,h2] at h
        subst h
        exact ⟨h1,LookAll.of h2⟩
theorem LookAll.get {L:Res}:∀ {ids:List Nat} {Ps:List HP},LookAll L ids Ps→ids.length=Ps.length∧∀ (k r:Nat) (P:HP),ids[k]?=some r→Ps[k]?=some P→look L r=some P
  | [],[],_=>⟨rfl,fun k r P h=>by simp at h⟩
  | r::ids,P::Ps,h=>by
    obtain ⟨h1,h2⟩:=h
    obtain ⟨i1,i2⟩:=LookAll.get h2
    refine ⟨by simp [i1],fun k r' P' hk hP=>?_⟩
    cases k with
    | zero=>simp at hk hP; subst hk; subst hP; exact h1
    | succ k=>exact i2 k r' P' (by simpa using hk) (by simpa using hP)
  | [],_::_,h=>h.elim
  | _::_,[],h=>h.elim
def starL (Ps:List HP):HP:=fun h=>∃ hs:Nat→Hlt,(∀ (k:Nat) (P:HP),Ps[k]?=some P→P (hs k))∧(∀ k k' g,k≠k'→(hs k g).isSome=true→hs k' g=none)∧∀ k g o,hs k g=some o→h g=some o
def zipR:List Nat→List HP→Res
  | r::ids,P::Ps=>(r,P)::zipR ids Ps
  | _,_=>[]

theorem nodup_get {l:List Nat} (h:l.Nodup) {i j:Nat} {x:Nat} (hi:l[i]?=some x) (hj:l[j]?=some x):i=j:=by
  rw [List.getElem?_eq_some_iff] at hi hj
  obtain ⟨h1,h2⟩:=hi
  obtain ⟨h3,h4⟩:=hj
  exact (List.getElem_inj h).1 (h2.trans h4.symm)
def hOf (hs:Nat→Hlt):Option Nat→Hlt
  | some i=>hs i
  | none=>fun _=>none
theorem Sat.pick {E:Env} {L:Res} {w:World} (hS:Sat E L w) {ids:List Nat} {Ps:List HP} (hl:LookAll L ids Ps) (hn:ids.Nodup):Sat E (En 0 Ps) w:=by
  obtain ⟨e,hs,h1,h2,h3⟩:=hS
  obtain ⟨hlen,hget⟩:=hl.get
  refine ⟨e,fun r=>hOf hs ids[r]?,?_,?_,?_⟩
  · intro r P h
    have h':=look_En Ps 0 r
    rw [Nat.zero_add] at h'
    rw [h'] at h
    have hr:r < ids.length:=by rw [hlen]; exact (List.getElem?_eq_some_iff.1 h).1
    have hi:ids[r]?=some ids[r]:=List.getElem?_eq_getElem hr
    simp only [hi,hOf]
    exact h1 _ P (hget r _ P hi h)
  · intro r r' g hne hg
    cases hi:ids[r]? with
    | none=>simp [hi,hOf] at hg
    | some i =>
      simp only [hi,hOf] at hg
      cases hj:ids[r']? with
      | none=>simp only [hOf, *]
      | some j =>
        simp only [hj,hOf]
        exact h2 i j g (fun hij=>hne (nodup_get hn hi (hij ▸ hj))) hg
  · intro r
    cases hi:ids[r]? with
    | none=>intro g o h; simp [hi,hOf] at h
    | some i=>simp only [hi,hOf]; exact h3 i
theorem Sat.pack {E:Env} {L:Res} {w:World} (hS:Sat E L w) {J C:List Nat} {Js Cs:List HP} (hJ:LookAll L J Js) (hC:LookAll L C Cs) (hn:(J++C).Nodup):Sat E (En 0 (starL Js::Cs)) w:=by
  obtain ⟨e,hs,h1,h2,h3⟩:=hS
  obtain ⟨jl,jg⟩:=hJ.get
  obtain ⟨cl,cg⟩:=hC.get
  have nJ:=(List.nodup_append.1 hn).1
  have nC:=(List.nodup_append.1 hn).2.1
  have nJC:=(List.nodup_append.1 hn).2.2
  let hk:Nat→Hlt:=fun k=>hOf hs J[k]?
  have hkd:∀ k k' g,k≠k'→(hk k g).isSome=true→hk k' g=none:=by
    intro k k' g hne hg
    simp only [hk] at hg ⊢
    cases hi:J[k]? with
    | none=>simp [hi,hOf] at hg
    | some i =>
      simp only [hi,hOf] at hg
      cases hj:J[k']? with
      | none=>simp only [hOf, *]
      | some j=>simp only [hOf]; exact h2 i j g (fun hij=>hne (nodup_get nJ hi (hij ▸ hj))) hg
  -- the union of the rest
  let hu:Hlt:=fun g=>match (List.range J.length).find? (fun k=>(hk k g).isSome) with | some k=>hk k g | none=>none
  have hsub:∀ k g o,hk k g=some o→hu g=some o:=by
    intro k g o h
    have hkl:k < J.length:=by
      rcases Nat.lt_or_ge k J.length with h' | h'
      · exact h'
      · simp only [hk,List.getElem?_eq_none h',hOf] at h; cases h
    simp only [hu]
    cases hf:(List.range J.length).find? (fun k=>(hk k g).isSome) with
    | none =>
      have:=List.find?_eq_none.1 hf k (by simpa using hkl)
      simp [h] at this
    | some k' =>
      have hk':(hk k' g).isSome=true:=List.find?_some (p:=fun k=>(hk k g).isSome) hf
      by_cases hkk:k'=k
      · subst hkk; exact h
      · have:=hkd k' k g hkk hk'
        simp [this] at h
  have hfrom:∀ g,(hu g).isSome=true→∃ k,(hk k g).isSome=true∧hu g=hk k g:=by
    intro g hg
    simp only [hu] at hg ⊢
    cases hf:(List.range J.length).find? (fun k=>(hk k g).isSome) with
    | none=>simp [hf] at hg
    | some k'=>exact ⟨k',List.find?_some (p:=fun k=>(hk k g).isSome) hf,rfl⟩
  have hkJ:∀ k g,(hk k g).isSome=true→∃ i,J[k]?=some i∧hk k g=hs i g:=by
    intro k g hg
    simp only [hk] at hg ⊢
    cases hi:J[k]? with
    | none=>simp [hi,hOf] at hg
    | some i=>exact ⟨i,rfl,by simp only [hOf]⟩
  refine ⟨e,fun r=>match r with | 0=>hu | r + 1=>hOf hs C[r]?,?_,?_,?_⟩
  · intro r P h
    cases r with
    | zero =>
      rw [En,look_same] at h
      injection h with h
      subst h
      refine ⟨hk,fun k P hP=>?_,hkd,hsub⟩
      have hkl:k < J.length:=by rw [jl]; exact (List.getElem?_eq_some_iff.1 hP).1
      have hi:J[k]?=some J[k]:=List.getElem?_eq_getElem hkl
      simp only [hk,hi,hOf]
      exact h1 _ P (jg k _ P hi hP)
    | succ r =>
      rw [En,look_other (by omega)] at h
      have h':=look_En Cs 1 r
      rw [show 0 + 1=1 from rfl,show r + 1=1 + r by omega,h'] at h
      have hrl:r < C.length:=by rw [cl]; exact (List.getElem?_eq_some_iff.1 h).1
      have hi:C[r]?=some C[r]:=List.getElem?_eq_getElem hrl
      simp only [hi,hOf]
      exact h1 _ P (cg r _ P hi h)
  · intro r r' g hne hg
    cases r with
    | zero =>
      cases r' with
      | zero=>exact absurd rfl hne
      | succ r' =>
        dsimp only at hg ⊢
        cases hi:C[r']? with
        | none=>simp only [hOf, *]
        | some i =>
          simp only [hOf]
          obtain ⟨k,k1,_⟩:=hfrom g hg
          obtain ⟨j,j1,j2⟩:=hkJ k g k1
          rw [j2] at k1
          exact h2 j i g (fun hij=>nJC j (List.mem_of_getElem? j1) i (List.mem_of_getElem? hi) hij) k1
    | succ r =>
      dsimp only at hg
      cases hi:C[r]? with
      | none=>simp [hi,hOf] at hg
      | some i =>
        simp only [hi,hOf] at hg
        cases r' with
        | zero =>
          dsimp only
          cases hv:hu g with
          | none=>simp only [hOf, *]
          | some o =>
            obtain ⟨k,k1,k2⟩:=hfrom g (by simp [hv])
            obtain ⟨j,j1,j2⟩:=hkJ k g k1
            have:=h2 i j g (fun hij=>nJC j (List.mem_of_getElem? j1) i (List.mem_of_getElem? hi) hij.symm) hg
            rw [j2,this] at k1
            cases k1
        | succ r' =>
          dsimp only
          cases hj:C[r']? with
          | none=>simp only [hOf, *]
          | some j=>simp only [hOf]; exact h2 i j g (fun hij=>hne (by rw [nodup_get nC hi (hij ▸ hj)])) hg
  · intro r
    cases r with
    | zero =>
      intro g o hg
      obtain ⟨k,k1,k2⟩:=hfrom g (by simp [show hu g=some o from hg])
      obtain ⟨j,j1,j2⟩:=hkJ k g k1
      exact h3 j g o (by rw [← j2,← k2]; exact hg)
    | succ r =>
      dsimp only
      cases hi:C[r]? with
      | none=>intro g o h; simp [hi,hOf] at h
      | some i=>exact h3 i
theorem look_append {α:Type}:∀ (l m:List (Nat × α)) (r:Nat),look (l++m) r=(look l r).or (look m r)
  | [],m,r=>by simp [look]
  | (k,v)::l,m,r=>by
    by_cases h:k=r
    · subst h; rw [List.cons_append,look_same,look_same]; rfl
    · rw [List.cons_append,look_other h,look_other h]; exact look_append l m r
theorem look_zipR:∀ {J:List Nat} {Js:List HP} {r:Nat} {P:HP},look (zipR J Js) r=some P→∃ k:Nat,J[k]?=some r∧Js[k]?=some P
  | [],_,_,_,h=>by simp [zipR,look] at h
  | _::_,[],_,_,h=>by simp [zipR,look] at h
  | j::J,Q::Js,r,P,h=>by
    by_cases hj:j=r
    · subst hj; rw [zipR,look_same] at h; injection h with h; subst h; exact ⟨0,rfl,rfl⟩
    · rw [zipR,look_other hj] at h
      obtain ⟨k,h1,h2⟩:=look_zipR h
      exact ⟨k + 1,by simpa using h1,by simpa using h2⟩
theorem Sat.unpack {E:Env} {w:World} {J:List Nat} {Js Cs:List HP} (b:Nat) (hS:Sat E (En 0 (starL Js::Cs)) w) (hn:J.Nodup) (hb:∀ j ∈ J,j < b):Sat E (En b Cs++zipR J Js) w:=by
  obtain ⟨e,hs,h1,h2,h3⟩:=hS
  obtain ⟨hk,k1,k2,k3⟩:=h1 0 _ (look_same _ _ _)
  refine ⟨e,fun r=>if b≤r then hs (r - b + 1) else if r ∈ J then hk (J.idxOf r) else fun _=>none,?_,?_,?_⟩
  · intro r P h
    rw [look_append] at h
    by_cases hbr:b≤r
    · simp only [hbr,if_true]
      obtain ⟨k,rfl⟩:∃ k,r=b + k:=⟨r - b,by omega⟩
      rw [look_En] at h
      cases hc:Cs[k]? with
      | none =>
        rw [hc] at h
        simp at h
        obtain ⟨i,i1,_⟩:=look_zipR h
        have:=hb _ (List.mem_of_getElem? i1)
        omega
      | some Q =>
        rw [hc] at h
        simp at h
        subst h
        refine h1 _ Q ?_
        rw [En,look_other (by omega),show b + k - b + 1=1 + k by omega,look_En]
        exact hc
    · rw [look_En_lt _ _ _ (by omega)] at h
      simp at h
      obtain ⟨i,i1,i2⟩:=look_zipR h
      have hm:=List.mem_of_getElem? i1
      simp only [hbr,if_false,hm,if_true]
      have:J.idxOf r=i:=by
        have hlt:=List.idxOf_lt_length_of_mem hm
        refine nodup_get hn (x:=r) ?_ i1
        rw [List.getElem?_eq_getElem hlt,List.getElem_idxOf]
      rw [this]
      exact k1 i P i2
  · intro r r' g hne hg
    by_cases hbr:b≤r
    · simp only [hbr,if_true] at hg
      by_cases hbr':b≤r'
      · simp only [hbr',if_true]
        exact h2 _ _ g (by omega) hg
      · simp only [hbr',if_false]
        by_cases hm:r' ∈ J
        · simp only [hm,if_true]
          have h0:=h2 _ 0 g (by omega) hg
          cases hv:hk (J.idxOf r') g with
          | none=>rfl
          | some o=>rw [k3 _ _ _ hv] at h0; cases h0
        · simp [hm]
    · simp only [hbr,if_false] at hg
      by_cases hm:r ∈ J
      · simp only [hm,if_true] at hg
        by_cases hbr':b≤r'
        · simp only [hbr',if_true]
          obtain ⟨o,ho⟩:=Option.isSome_iff_exists.1 hg
          exact h2 0 _ g (by omega) (by rw [k3 _ _ _ ho]; rfl)
        · simp only [hbr',if_false]
          by_cases hm':r' ∈ J
          · simp only [hm',if_true]
            refine k2 _ _ g (fun hij=>hne ?_) hg
            have l1:=List.getElem_idxOf (List.idxOf_lt_length_of_mem hm)
            have l2:=List.getElem_idxOf (List.idxOf_lt_length_of_mem hm')
            rw [← l1,← l2]
            simp only [hij]
          · simp [hm']
      · simp [hm] at hg
  · intro r
    by_cases hbr:b≤r
    · simp only [hbr,if_true]; exact h3 _
    · simp only [hbr,if_false]
      by_cases hm:r ∈ J
      · simp only [hm,if_true]
        exact fun g o hg=>h3 0 g o (k3 _ _ _ hg)
      · simp only [hm,if_false]
        intro g o hg; cases hg

def Agr (n:Nat) (K:Slots) (a:Act):Prop:=a.defers=[]∧a.tmps.size=n∧∀ k v,look K k=some v→a.tmps[k]?=some v
def evK (K:Slots):Operand→Option Value
  | .tmp t=>look K t
  | .const v=>some v
  | .global g=>some (.pointer (some ⟨g,0,none⟩))
  | .func f=>some (.func (.func f) #[] #[])
theorem Agr.eval {n:Nat} {K:Slots} {a:Act} (h:Agr n K a) {x:Operand} {v:Value} (hx:evK K x=some v):a.eval x=v:=by
  cases x with
  | tmp t=>simp [Act.eval,h.2.2 t v hx]
  | const c=>simpa [evK,Act.eval] using hx
  | global g=>simpa [evK,Act.eval] using hx
  | func f=>simpa [evK,Act.eval] using hx
theorem Agr.put {n:Nat} {K:Slots} {a:Act} (h:Agr n K a) {d:Nat} (hd:d < n) (v:Value):Agr n ((d,v)::K) (a.put (some d) v):=by
  refine ⟨h.1,by simp [Act.put,h.2.1],fun k u hk=>?_⟩
  have hsz:=h.2.1
  by_cases hdk:d=k
  · subst hdk; rw [look_same] at hk; injection hk with hk; subst hk; simp [Act.put,hsz,hd]
  · rw [look_other hdk] at hk; simp [Act.put,Array.getElem?_setIfInBounds_ne hdk]; exact h.2.2 k u hk
theorem Agr.sub {n:Nat} {K K':Slots} {a:Act} (h:Agr n K a) (hs:∀ k v,look K' k=some v→look K k=some v):Agr n K' a:=⟨h.1,h.2.1,fun k v hk=>h.2.2 k v (hs k v hk)⟩

def AllIn {α:Type} (L:List (Nat × α)):List (Nat × α)→Prop
  | []=>True
  | (r,P)::l=>look L r=some P∧AllIn L l
theorem AllIn.look {α:Type} {L:List (Nat × α)}:∀ {l:List (Nat × α)},AllIn L l→∀ r P,look l r=some P→look L r=some P
  | [],_,r,P,h=>by simp [Proofs.Ytinamipkpdlphaa.look] at h
  | (k,Q)::l,h,r,P,hr=>by
    by_cases hk:k=r
    · subst hk; rw [look_same] at hr; injection hr with hr; subst hr; exact h.1
    · rw [look_other hk] at hr; exact h.2.look r P hr

section
variable (P:Program) (E:Env) (n:Nat)
def W (c:Code) (K:Slots) (L:Res) (Q:Exit→Act→World→Prop):Prop:=∀ a w,Agr n K a→Sat E L w→Code.wp P c Q a w
def X (Q:Exit→Act→World→Prop) (e:Exit) (K:Slots) (L:Res):Prop:=∀ a w,Agr n K a→Sat E L w→Q e a w
def WL (ops:Array Oper) (l:List Oper) (K:Slots) (L:Res) (Q:Exit→Act→World→Prop):Prop:=∀ a w,Agr n K a→Sat E L w→wpList P ops Q l a w
def OpT (o:Oper) (K:Slots) (L:Res) (C:Value→Res→Prop):Prop :=
  ∀ a w (Kc:Act→World→Prop) Q,Agr n K a→Sat E L w→(∀ v L' w',C v L'→Sat E L' w'→Kc (a.put o.dst v) w')→o.wp P a w Kc Q
def Ret (F:HP) (R:Value→List HP→Prop):Ending→World→Prop:=fun e w'=>∃ v Ps,e = .returned v∧R v Ps∧Sat E (En 0 (F::Ps)) w'
end
def CallsS (P:Program) (f:FuncId) (args:Array Value) (F:HP) (Ps:List HP) (R:Value→List HP→Prop):Prop :=
  ∀ E w,Sat E (En 0 (F::Ps)) w→Calls P f args w (Ret E F R)

section
variable {P:Program} {E:Env} {n:Nat} {K K':Slots} {L L':Res} {Q:Exit→Act→World→Prop} {ops:Array Oper} {o:Oper} {rest:List Oper} {C:Value→Res→Prop}
def enumK (b:Nat):List Value→Slots
  | []=>[]
  | v::l=>(b,v)::enumK (b + 1) l
theorem look_enumK (l:List Value):∀ b k v,look (enumK b l) k=some v→b≤k∧l[k - b]?=some v:=by
  induction l with
  | nil=>intro b k v h; simp [enumK,look] at h
  | cons u l ih =>
    intro b k v h
    rw [enumK] at h
    by_cases hb:b=k
    · subst hb; rw [look_same] at h; simpa using h
    · rw [look_other hb] at h
      obtain ⟨h1,h2⟩:=ih _ _ _ h
      refine ⟨by omega,?_⟩
      rw [show k - b=(k - (b + 1)) + 1 by omega]
      simpa using h2
theorem callsS_enter {f:FuncId} {fn:Func} {c:Code} {args:Array Value} {F:HP} {Ps:List HP} {R:Value→List HP→Prop}
  (hf:P.funcs[f]?=some fn) (hb:fn.body=some c) (hn:fn.ntmps=n) (ha:args.size≤n)
  (h:∀ E,W P E n c (enumK 0 args.toList) (En 0 (F::Ps)) (bodyPost P fn (Ret E F R))):CallsS P f args F Ps R:=by
 intro E w hS
 refine calls_of_wp hf hb (h E _ w ⟨rfl,by simp [hn]; omega,fun k v hk=>?_⟩ hS)
 obtain ⟨_,h2⟩:=look_enumK _ _ _ _ hk
 have hlt:k < args.size:=by simpa using (List.getElem?_eq_some_iff.1 h2).1
 rw [Array.getElem?_append_left hlt]
 simpa using h2

theorem W.pre {c:Code} (h:W P E n c K' L' Q) (hK:AllIn K K') (hL:AllIn L L'):W P E n c K L Q:=fun a w hA hS=>h a w (hA.sub hK.look) (hS.sub hL.look)
theorem X.pre {e:Exit} (h:X E n Q e K' L') (hK:AllIn K K') (hL:AllIn L L'):X E n Q e K L:=fun a w hA hS=>h a w (hA.sub hK.look) (hS.sub hL.look)
theorem Q9 {x y:Code} (h:W P E n x K L (Exit.then (y.wp P Q) Q)):W P E n (.seq x y) K L Q:=fun a w hA hS=>wp_seq (h a w hA hS)
theorem X9 {y:Code} (h:W P E n y K L Q):X E n (Exit.then (y.wp P Q) Q) .normal K L:=h
theorem X_then_exit {N:Act→World→Prop} {id:Nat} (h:X E n Q (.exit id) K L):X E n (Exit.then N Q) (.exit id) K L:=h
theorem X_then_ret {N:Act→World→Prop} (h:X E n Q .ret K L):X E n (Exit.then N Q) .ret K L:=h
theorem W_block {id:Nat} {c:Code} (h:W P E n c K L (Exit.inBlock id Q)):W P E n (.block id c) K L Q:=fun a w hA hS=>wp_block (h a w hA hS)
theorem X_block {id:Nat} (h:X E n Q .normal K L):X E n (Exit.inBlock id Q) .normal K L:=h
theorem X_block_ret {id:Nat} (h:X E n Q .ret K L):X E n (Exit.inBlock id Q) .ret K L:=h
theorem X_block_exit {id:Nat} (h:X E n Q .normal K L):X E n (Exit.inBlock id Q) (.exit id) K L:=fun a w hA hS=>by
  simp only [Exit.inBlock,if_true]; exact h a w hA hS
theorem K9 (h:X E n Q .normal K L):W P E n .skip K L Q:=fun a w hA hS=>wp_skip (h a w hA hS)
theorem W_ret (h:X E n Q .ret K L):W P E n .ret K L Q:=fun a w hA hS=>wp_ret (h a w hA hS)
theorem W_exit {id:Nat} (h:X E n Q (.exit id) K L):W P E n (.exit id) K L Q:=fun a w hA hS=>wp_exit (h a w hA hS)
theorem C9 {x y:Code} {c:Operand} {b:Bool} (hc:evK K c=some (.bool b)) (ht:b=true→W P E n x K L Q) (hf:b=false→W P E n y K L Q):W P E n (.cond c x y) K L Q :=
  fun a w hA hS=>wp_cond_split (hA.eval hc) (fun h=>ht h a w hA hS) (fun h=>hf h a w hA hS)
theorem W_true {x y:Code} {c:Operand} {b:Bool} (hc:evK K c=some (.bool b)) (hb:b=true) (ht:W P E n x K L Q):W P E n (.cond c x y) K L Q :=
  C9 hc (fun _=>ht) (fun h=>by rw [hb] at h; cases h)
theorem W_false {x y:Code} {c:Operand} {b:Bool} (hc:evK K c=some (.bool b)) (hb:b=false) (hf:W P E n y K L Q):W P E n (.cond c x y) K L Q :=
  C9 hc (fun h=>by rw [hb] at h; cases h) (fun _=>hf)
theorem wp_loop_any {α:Type} {c:Code} (I:α→Act→World→Prop) (μ:α→Nat) (round:∀ x a w,I x a w→c.wp P (Exit.then (fun a' w'=>∃ y,I y a' w'∧μ y < μ x) Q) a w) (x:α) (a:Act) (w:World) (h₀:I x a w):(Code.loop c).wp P Q a w:=by
  intro b k cs
  have key:∀ m x a w,μ x=m→I x a w→∃ e a' w',Q e a' w'∧Arrives P (lone (b.at a (.code c::.inLoop c::k)) cs w) b k cs e a' w':=by
    intro m
    induction m using Nat.strongRecOn with
    | _ m ih =>
      intro x a w hn hI
      obtain ⟨e,a₁,w₁,hq,harr⟩:=round x a w hI b (.inLoop c::k) cs
      cases e with
      | normal =>
        obtain ⟨y,hI₁,hlt⟩:=hq
        obtain ⟨e₂,a₂,w₂,hq₂,harr₂⟩:=ih (μ y) (hn ▸ hlt) y a₁ w₁ rfl hI₁
        exact ⟨e₂,a₂,w₂,hq₂,.of_steps (Steps.trans harr (.one step_inLoop)) harr₂⟩
      | exit id=>exact ⟨_,a₁,w₁,hq,.pass (x:=.inLoop c) rfl (fun _ _=>.inl (by simp)) harr⟩
      | goto l=>exact ⟨_,a₁,w₁,hq,.pass (x:=.inLoop c) rfl (fun _ _=>.inl (by simp)) harr⟩
      | ret=>exact ⟨_,a₁,w₁,hq,.pass (x:=.inLoop c) rfl (fun _ _=>.inl (by simp)) harr⟩
      | panic ch=>exact ⟨_,a₁,w₁,hq,.pass (x:=.inLoop c) rfl (fun _ _=>.inl (by simp)) harr⟩
      | outgrown=>exact ⟨_,a₁,w₁,hq,.pass (x:=.inLoop c) rfl (fun _ _=>.inl (by simp)) harr⟩
  obtain ⟨e,a',w',hq,harr⟩:=key _ x a w rfl h₀
  exact ⟨e,a',w',hq,.of_steps (.one step_loop) harr⟩
theorem W_loop {α:Type} {c:Code} (Kf:α→Slots) (Lf:α→Res) (φ:α→Prop) (μ:α→Nat) (x0:α) (h0:φ x0) (hK:AllIn K (Kf x0)) (hL:AllIn L (Lf x0))
    (round:∀ x,φ x→W P E n c (Kf x) (Lf x) (Exit.then (fun a w=>∃ y,φ y∧μ y < μ x∧Agr n (Kf y) a∧Sat E (Lf y) w) Q)):W P E n (.loop c) K L Q :=
  fun a w hA hS=>wp_loop_any (fun x a w=>φ x∧Agr n (Kf x) a∧Sat E (Lf x) w) μ (fun x a w ⟨hx,hA,hS⟩=>Code.wp_mono (fun e a' w' hq=>by
    cases e with
    | normal=>obtain ⟨y,y1,y2,y3,y4⟩:=hq; exact ⟨y,⟨y1,y3,y4⟩,y2⟩
    | _=>exact hq) (round x hx a w hA hS)) x0 a w ⟨h0,hA.sub hK.look,hS.sub hL.look⟩
theorem Xr9 {α:Type} {Kf:α→Slots} {Lf:α→Res} {φ:α→Prop} {μ:α→Nat} {x:α} (y:α) (hy:φ y) (hm:μ y < μ x) (hK:AllIn K (Kf y)) (hL:AllIn L (Lf y)) :
    X E n (Exit.then (fun a w=>∃ y,φ y∧μ y < μ x∧Agr n (Kf y) a∧Sat E (Lf y) w) Q) .normal K L:=fun a w hA hS=>⟨y,hy,hm,hA.sub hK.look,hS.sub hL.look⟩

theorem N9 (h:X E n Q .normal K L):WL P E n ops [] K L Q:=h
theorem Lc9 {d:Nat} (hg:o.guard=none) (hd:o.dst=some d) (hn:d < n) (h:OpT P E n o K L (fun v L'=>WL P E n ops rest ((d,v)::K) L' Q)):WL P E n ops (o::rest) K L Q :=
  fun a w hA hS=>wpList_plain hg fun Kc hK=>h a w Kc Q hA hS fun v L' w' hC hS'=>hK _ _ (by rw [hd]; exact hC _ _ (hA.put hn v) hS')
theorem Lc09 (hg:o.guard=none) (hd:o.dst=none) (h:OpT P E n o K L (fun _ L'=>WL P E n ops rest K L' Q)):WL P E n ops (o::rest) K L Q :=
  fun a w hA hS=>wpList_plain hg fun Kc hK=>h a w Kc Q hA hS fun v L' w' hC hS'=>hK _ _ (by rw [hd]; exact hC _ _ hA hS')
def gv (c:Bool) (v:Value):Value:=match c with | true=>v | false=>undef
theorem ev_gv {x:Operand} {c:Bool} {v:Value} (h:evK K x=some (gv c v)) (hc:c=true):evK K x=some v:=by subst hc; exact h
def boolOf:Value→Option Bool
  | .bool b=>some b
  | _=>none
theorem yielded_of {n:Nat} {a:Act} {K:Slots} (hA:Agr n K a) {ops:Array Oper} {j d:Nat} {v:Value} (hj:(ops[j]?).bind (·.dst)=some d) (hb:look K d=some v):yielded ops a.tmps j=boolOf v:=by
  unfold yielded
  rw [hj]
  simp only [Option.bind_some,hA.2.2 d v hb]
  cases v <;> rfl
theorem WL_guard {d j dj:Nat} {want b:Bool} {V:Value} (hg:o.guard=some (j,want)) (hj:(ops[j]?).bind (·.dst)=some dj) (hb:look K dj=some (.bool b)) (hd:o.dst=some d) (hn:d < n)
    (h:(b == want)=true→OpT P E n o K L (fun v L'=>v=V∧∀ w,Sat E L' w→Sat E L w)) (k:WL P E n ops rest ((d,gv (b == want) V)::K) L Q):WL P E n ops (o::rest) K L Q:=by
  intro a w hA hS
  refine wpList_step fun Kc hK=>?_
  have hy:=yielded_of hA hj hb
  simp only [Region.wanted,hg,hy,boolOf]
  cases hbw:(b == want) with
  | true =>
    rw [if_pos (by simpa using hbw)]
    refine h hbw a w Kc Q hA hS fun v L' w' ⟨hv,hL⟩ hS'=>hK _ _ ?_
    rw [hd,hv]
    rw [hbw] at k
    exact k _ _ (hA.put hn V) (hL _ hS')
  | false =>
    rw [if_neg (by simpa using hbw)]
    rw [hbw] at k
    refine hK _ _ ?_
    rw [hd]
    exact k _ _ (hA.put hn undef) hS
end
open Go.RowKit

def cellH (h:Hlt) (a:Addr):Option Value:=match h a.block with
  | some (.cells c _ _)=>if a.spot.isSome then none else c[a.off]?
  | _=>none
theorem cellH_in {h:Hlt} {w:World} (hi:In h w) {a:Addr} {u:Value} (hc:cellH h a=some u):w.cell? a=some u:=by
  unfold cellH at hc
  cases hb:h a.block with
  | none=>simp [hb] at hc
  | some o =>
    have:=hi _ _ hb
    simp only [World.cell?,this]
    rw [hb] at hc
    exact hc
theorem lt_cellH {h:Hlt} {a:Addr} {u:Value} (hc:cellH h a=some u):(h a.block).isSome=true:=by
  unfold cellH at hc
  cases hb:h a.block with
  | none=>simp [hb] at hc
  | some o=>rfl
def blk (g:Nat) (t:TypeId) (cs:List Value):HP:=fun h=>h g=some (.cells cs.toArray t (0,0))
def rowP (e:TypeId) (size:Nat) (v:Value) (n:Nat) (xs:List Value):HP:=fun h=>xs.length=n * size ∧
  ((v = .slice none 0 0∧n=0)∨∃ g cap cur,v = .slice (some ⟨g,0,none⟩) n cap∧h g=some (.cells cur e (0,0))∧n≤cap∧cap≤maxLen∧cur.size=cap * size∧cur.toList.take (n * size)=xs)
def rdP (size:Nat) (v:Value) (n:Nat) (xs:List Value):HP:=fun h=>xs.length=n * size ∧
  ∃ A c,v = .slice A n c∧n≤c∧(A=none→c=0)∧∀ ad,A=some ad→∀ j u,xs[j]?=some u→cellH h (ad.add j)=some u
theorem blk_cell {g:Nat} {t:TypeId} {cs:List Value} {h:Hlt} (hb:blk g t cs h) (j:Nat):cellH h ⟨g,j,none⟩=cs[j]?:=by
  unfold blk at hb
  simp [cellH,hb]
theorem addr_add0 (g j:Nat):(⟨g,0,none⟩:Addr).add j=⟨g,j,none⟩:=by unfold Addr.add; split <;> simp_all
theorem addr_add (g o j:Nat):(⟨g,o,none⟩:Addr).add j=⟨g,o + j,none⟩:=by unfold Addr.add; split <;> simp_all
theorem rp9 {e:TypeId} {size:Nat} {v:Value} {n:Nat} {xs:List Value} {h:Hlt} (hr:rowP e size v n xs h):rdP size v n xs h:=by
  refine ⟨hr.1,?_⟩
  rcases hr.2 with ⟨rfl,rfl⟩ | ⟨g,cap,cur,rfl,hg,hnc,hm,hs,ht⟩
  · exact ⟨none,0,rfl,Nat.le_refl _,fun _=>rfl,fun ad h=>by cases h⟩
  · refine ⟨_,cap,rfl,hnc,fun h=>(by cases h),fun ad h j u hu=>?_⟩
    injection h with h
    subst h
    rw [addr_add0]
    simp only [cellH,hg]
    rw [← ht,List.getElem?_take] at hu
    split at hu
    · simpa using hu
    · cases hu
theorem rdP_Rd {size:Nat} {v:Value} {n:Nat} {xs:List Value} {h:Hlt} {w:World} (hr:rdP size v n xs h) (hi:In h w) (hs:0 < size):Rd w size v n xs:=by
  obtain ⟨h1,A,c,h2,h3,h4,h5⟩:=hr
  refine ⟨h1,A,c,h2,h3,h4,fun ad had=>⟨fun hn=>?_,fun j u hu=>cellH_in hi (h5 ad had j u hu)⟩⟩
  have h0:0 < xs.length:=by rw [h1]; exact Nat.mul_pos hn hs
  have:=h5 ad had 0 xs[0] (List.getElem?_eq_getElem h0)
  have hl:=hi.lt (lt_cellH this)
  rwa [block_of_add] at hl
theorem rowP_own {e:TypeId} {size:Nat} {v:Value} {n:Nat} {xs:List Value} {h:Hlt} {w:World} (hr:rowP e size v n xs h) (hi:In h w):w.ownsRow 0 e size v n xs:=by
  refine ⟨hr.1,?_⟩
  rcases hr.2 with h1 | ⟨g,cap,cur,rfl,hg,rest⟩
  · exact .inl h1
  · exact .inr ⟨g,cap,cur,rfl,Nat.zero_le _,hi _ _ hg,rest⟩
theorem rowP_block {e:TypeId} {size:Nat} {v:Value} {n:Nat} {xs:List Value} {h:Hlt} (hr:rowP e size v n xs h) {k:Nat} (hk:v.ownBlock=some k):(h k).isSome=true:=by
  rcases hr.2 with ⟨rfl,_⟩ | ⟨g,cap,cur,rfl,hg,_⟩
  · cases hk
  · simp [Value.ownBlock] at hk
    subst hk
    simp [hg]
theorem rowP_of_own {e:TypeId} {size:Nat} {v:Value} {n:Nat} {xs:List Value} {w:World} (ho:w.ownsRow 0 e size v n xs):∃ h,rowP e size v n xs h∧In h w∧∀ g,(h g).isSome=true→v.ownBlock=some g:=by
  rcases ho.2 with h1 | ⟨g,cap,cur,rfl,_,hg,rest⟩
  · refine ⟨fun _=>none,⟨ho.1,.inl h1⟩,?_,?_⟩
    · intro g o h; cases h
    · intro g h; cases h
  · refine ⟨fun k=>if k=g then some (.cells cur e (0,0)) else none,⟨ho.1,.inr ⟨g,cap,cur,rfl,by simp,rest⟩⟩,fun k o hk=>?_,fun k hk=>?_⟩
    · by_cases hkg:k=g
      · subst hkg; simp at hk; subst hk; exact hg
      · simp [hkg] at hk
    · by_cases hkg:k=g
      · subst hkg; rfl
      · simp [hkg] at hk
theorem blk_rd {g o m c:Nat} {t:TypeId} {cs xs:List Value} {size:Nat} {h:Hlt} (hb:blk g t cs h) (hx:(cs.drop o).take (m * size)=xs) (hl:xs.length=m * size) (hc:m≤c):rdP size (.slice (some ⟨g,o,none⟩) m c) m xs h:=by
  refine ⟨hl,_,c,rfl,hc,fun h=>(by cases h),fun ad had j u hu=>?_⟩
  injection had with had
  subst had
  rw [addr_add,blk_cell hb]
  rw [← hx,List.getElem?_take] at hu
  split at hu
  · rw [List.getElem?_drop] at hu; exact hu
  · cases hu
theorem rdP_slice {size:Nat} {v:Value} {n:Nat} {xs:List Value} {h:Hlt} (hr:rdP size v n xs h):∃ A c,v = .slice A n c:=by
  obtain ⟨_,A,c,h2,_⟩:=hr
  exact ⟨A,c,h2⟩

def adrOf:Value→Addr
  | .slice (some a) _ _=>a
  | _=>⟨0,0,none⟩
def subV (size:Nat) (v:Value) (a b:Nat):Value:=match v with
  | .slice A _ c=>.slice (if c=a then A else A.map (·.add (a * size))) (b - a) (c - a)
  | v=>v
theorem rdP_sub {size:Nat} {v:Value} {n:Nat} {xs:List Value} {h:Hlt} (hr:rdP size v n xs h) {a b:Nat} (hab:a≤b) (hb:b≤n):rdP size (subV size v a b) (b - a) ((xs.drop (a * size)).take ((b - a) * size)) h:=by
  obtain ⟨h1,A,c,rfl,h3,h4,h5⟩:=hr
  have e1:a * size + (b - a) * size=b * size:=by rw [← Nat.add_mul]; congr 1; omega
  have e2:b * size≤n * size:=Nat.mul_le_mul_right _ hb
  refine ⟨?_,(if c=a then A else A.map (·.add (a * size))),c - a,rfl,by omega,fun hn=>?_,fun ad had j u hu=>?_⟩
  · simp [h1]; omega
  · split at hn
    · omega
    · cases A with
      | none=>have:=h4 rfl; omega
      | some a=>simp at hn
  · rw [List.getElem?_take] at hu
    split at hu
    · rw [List.getElem?_drop] at hu
      split at had
      · have h6:=(List.getElem?_eq_some_iff.1 hu).1
        have h7:a=n:=by omega
        subst h7
        rw [h1] at h6
        omega
      · cases A with
        | none=>simp at had
        | some a' =>
          simp at had
          subst had
          rw [add_of_add]
          exact h5 a' rfl _ _ hu
    · cases hu

section
variable {P:Program} {E:Env} {n:Nat} {K:Slots} {L:Res} {o:Oper} {C:Value→Res→Prop}
def Pure (P:Program) (E:Env) (n:Nat) (o:Oper) (K:Slots) (L:Res) (v:Value):Prop:=∀ a w,Agr n K a→Sat E L w→(execOp a.eval o).run P w = .ok (.value v) w
theorem Or9 {v:Value} (h:Pure P E n o K L v) (k:C v L):OpT P E n o K L C:=fun a w Kc Q hA hS hK=>by
  unfold Oper.wp
  rw [h a w hA hS]
  exact hK v L w k hS
theorem Pm9 {x:Operand} {v:Value} (ho:o.op = .move x) (hx:evK K x=some v):Pure P E n o K L v :=
  (fun a w hA hS=>by simp only [execOp,ho,hA.eval hx,Sem.run_pure])
theorem Pg9 {x:Operand} {v:Value} (ho:o.op = .assign x) (hx:evK K x=some v):Pure P E n o K L v :=
  (fun a w hA hS=>by simp only [execOp,ho,hA.eval hx,Sem.run_pure])
theorem Pn9 {op:BinOp} {t ty:TypeId} {x y:Operand} {vx vy v:Value} (ho:o.op = .binOp op t x y ty) (hx:evK K x=some vx) (hy:evK K y=some vy)
    (h:∀ w,((do eqGuard op t x y vx vy; binOp op t vx vy:Sem Value)).run P w = .ok v w):Pure P E n o K L v :=
  (fun a w hA hS=>by simp only [execOp,ho,hA.eval hx,hA.eval hy,Sem.run_bind] at h ⊢; rw [h w]; rfl)
theorem Pu_un {op:UnOp} {t:TypeId} {x:Operand} {vx v:Value} (ho:o.op = .unOp op t x) (hx:evK K x=some vx)
    (h:∀ w,(Op.unary op vx).run P w = .ok v w):Pure P E n o K L v :=
  (fun a w hA hS=>by simp only [execOp,ho,hA.eval hx,Sem.run_bind,h w]; rfl)
theorem Pu_conv {s d:TypeId} {x:Operand} {vx v:Value} (ho:o.op = .convert s d x) (hx:evK K x=some vx)
    (h:∀ w,(convert s d vx).run P w = .ok v w):Pure P E n o K L v :=
  (fun a w hA hS=>by simp only [execOp,ho,hA.eval hx,Sem.run_bind,h w]; rfl)
theorem Pu_pick {c x y:Operand} {b:Bool} {vx vy v:Value} (ho:o.op = .pick c x y) (hc:evK K c=some (.bool b)) (hx:evK K x=some vx) (hy:evK K y=some vy) (h:(if b then vx else vy)=v):Pure P E n o K L v :=
  (fun a w hA hS=>by simp only [execOp,ho,hA.eval hc,hA.eval hx,hA.eval hy]; subst h; cases b <;> rfl)
theorem Pu_or {c y:Operand} {b e:Bool} (ho:o.op = .pick c (.const (.bool true)) y) (hc:evK K c=some (.bool b)) (hy:evK K y=some (gv (b == false) (.bool e))):Pure P E n o K L (.bool (b || e)) :=
  Pu_pick ho hc rfl hy (by cases b <;> rfl)
theorem Pu_and {c x:Operand} {b e:Bool} (ho:o.op = .pick c x (.const (.bool false))) (hc:evK K c=some (.bool b)) (hx:evK K x=some (gv (b == true) (.bool e))):Pure P E n o K L (.bool (b && e)) :=
  Pu_pick ho hc hx rfl (by cases b <;> rfl)
theorem Pe9 {x:Operand} {i:Nat} {vs:Array Value} {v:Value} (ho:o.op = .extract x i) (hx:evK K x=some (.tuple vs)) (hv:vs[i]?=some v):Pure P E n o K L v :=
  (fun a w hA hS=>by simp only [execOp,ho,hA.eval hx,Instr.extract,hv,Sem.run_bind,Sem.run_pure]; rfl)
theorem Pu_nilCheck {x:Operand} {ad:Addr} (ho:o.op = .nilCheck x) (hx:evK K x=some (.pointer (some ad))):Pure P E n o K L (.pointer (some ad)) :=
  (fun a w hA hS=>by simp only [execOp,ho,hA.eval hx,Sem.run_pure])

def fieldOff (P:Program) (s f:Nat):Option Nat:=match P.underlying s with
  | some (.struct fs)=>match fs[f]? with
    | some fd=>match P.info? fd.type with
      | some i=>if i.size=0 then none else some fd.offset
      | none=>none
    | none=>none
  | _=>none
theorem Pu_fieldAddr {s f off:Nat} {x:Operand} {ad ad':Addr} (ho:o.op = .fieldAddr s x f) (hx:evK K x=some (.pointer (some ad))) (hf:fieldOff P s f=some off) (had:ad.add off=ad'):Pure P E n o K L (.pointer (some ad')):=by
  refine (fun a w hA hS=>?_)
  unfold fieldOff at hf
  cases hu:P.underlying s with
  | none=>simp [hu] at hf
  | some d =>
    rw [hu] at hf
    cases d with
    | struct fs =>
      simp only at hf
      cases hq:fs[f]? with
      | none=>simp [hq] at hf
      | some fd =>
        simp only [hq] at hf
        cases hi:P.info? fd.type with
        | none=>simp [hi] at hf
        | some i =>
          simp only [hi] at hf
          split at hf
          · cases hf
          · rename_i hsz
            injection hf with hf
            subst hf
            simp [execOp,ho,hA.eval hx,Instr.fieldAt,run_underlying hu,hq,Instr.sureAddr,fieldPlace,sizeOf,typeInfo,hi,hsz,had]
    | _=>simp at hf
theorem Pf9 {s f off g b:Nat} {x:Operand} (ho:o.op = .fieldAddr s x f) (hx:evK K x=some (.pointer (some ⟨g,b,none⟩))) (hf:fieldOff P s f=some off):Pure P E n o K L (.pointer (some ⟨g,b + off,none⟩)) :=
  Pu_fieldAddr ho hx hf (addr_add g b off)

theorem Pu_load1 {t r:Nat} {x:Operand} {ad:Addr} {Pr:HP} {v:Value} (ho:o.op = .load t x) (ha:∀ w,(isAgg t).run P w = .ok false w) (hx:evK K x=some (.pointer (some ad))) (hr:look L r=some Pr)
    (hc:∀ h,Pr h→cellH h ad=some v):Pure P E n o K L v :=
  (fun a w hA hS=>by
    obtain ⟨h,h1,h2⟩:=hS.read hr
    have h3:=cellH_in h2 (hc h h1)
    simp [execOp,ho,hA.eval hx,Instr.loadAt,Instr.sureAddr,loadVar,ha,h3])
theorem Pb9 {t r g off te:Nat} {x:Operand} {cs:List Value} {v:Value} (ho:o.op = .load t x) (ha:∀ w,(isAgg t).run P w = .ok false w) (hx:evK K x=some (.pointer (some ⟨g,off,none⟩))) (hr:look L r=some (blk g te cs))
    (hv:cs[off]?=some v):Pure P E n o K L v :=
  Pu_load1 ho ha hx hr (fun h hb=>by rw [blk_cell hb]; exact hv)
theorem Pu_loadN {t r m:Nat} {x:Operand} {ad:Addr} {Pr:HP} {xs:List Value} (ho:o.op = .load t x) (ha:∀ w,(isAgg t).run P w = .ok true w) (hs:∀ w,(sizeOf t).run P w = .ok m w) (hm:xs.length=m) (hx:evK K x=some (.pointer (some ad))) (hr:look L r=some Pr)
    (hc:∀ h,Pr h→∀ j u,xs[j]?=some u→cellH h (ad.add j)=some u):Pure P E n o K L (.agg xs.toArray) :=
  (fun a w hA hS=>by
    obtain ⟨h,h1,h2⟩:=hS.read hr
    have h3:=run_loadCells_list (P:=P) w ad xs (fun j u hu=>cellH_in h2 (hc h h1 j u hu))
    rw [hm] at h3
    simp only [execOp,ho,hA.eval hx,Instr.loadAt,Instr.sureAddr,loadVar,Sem.run_bind,Sem.run_pure,Result.andThen_ok,ha,hs,if_true,h3])
theorem Px9 {t r m g off te:Nat} {x:Operand} {cs xs:List Value} (ho:o.op = .load t x) (ha:∀ w,(isAgg t).run P w = .ok true w) (hs:∀ w,(sizeOf t).run P w = .ok m w) (hx:evK K x=some (.pointer (some ⟨g,off,none⟩))) (hr:look L r=some (blk g te cs))
    (hm:xs.length=m) (hv:(cs.drop off).take m=xs):Pure P E n o K L (.agg xs.toArray) :=
  Pu_loadN ho ha hs hm hx hr (fun h hb j u hu=>by
    rw [addr_add,blk_cell hb]
    rw [← hv,List.getElem?_take] at hu
    split at hu
    · rw [List.getElem?_drop] at hu; exact hu
    · cases hu)

theorem Sat.blk {L:Res} {w:World} (hS:Sat E L w) (r:Nat) (t:TypeId) (cs:Array Value):Sat E ((r,Proofs.Ytinamipkpdlphaa.blk w.heap.size t cs.toList)::L) (w.alloc (.cells cs t)):=by
  refine hS.new r ((Chg.refl [] w).alloc _) (fun g=>if g=w.heap.size then some (.cells cs t (0,0)) else none) ?_ ?_ ?_
  · simp [Proofs.Ytinamipkpdlphaa.blk]
  · intro g o h
    by_cases hg:g=w.heap.size
    · subst hg; simp at h; subst h; exact heap_alloc_new w _
    · simp [hg] at h
  · intro g h
    by_cases hg:g=w.heap.size
    · omega
    · simp [hg] at h
theorem OpT_box {t r:Nat} {x:Operand} {v:Value} {cs:List Value} (ho:o.op = .box t x) (hx:evK K x=some v) (hv:v.cells=cs.toArray) (k:∀ g,C (.pointer (some ⟨g,0,none⟩)) ((r,blk g t cs)::L)):OpT P E n o K L C:=fun a w Kc Q hA hS hK=>by
  have hrun:(execOp a.eval o).run P w = .ok (.value (.pointer (some ⟨w.heap.size,0,none⟩))) (w.alloc (.cells v.cells t)):=by
    simp only [execOp,ho,hA.eval hx,Instr.box,newVar,newRow,newObj,Sem.run,Sem.run_bind,Sem.run_pure,Result.andThen_ok]; rfl
  unfold Oper.wp
  rw [hrun]
  refine hK _ _ _ (k _) ?_
  have:=hS.blk r t v.cells
  rwa [hv,List.toList_toArray,← hv] at this
theorem OpT_alloc {t r:Nat} {z:Value} {cs:List Value} (ho:o.op = .alloc t) (hz:∀ w,(zeroValue t).run P w = .ok z w) (hv:z.cells=cs.toArray) (k:∀ g,C (.pointer (some ⟨g,0,none⟩)) ((r,blk g t cs)::L)):OpT P E n o K L C:=fun a w Kc Q hA hS hK=>by
  have hrun:(execOp a.eval o).run P w = .ok (.value (.pointer (some ⟨w.heap.size,0,none⟩))) (w.alloc (.cells z.cells t)):=by
    simp only [execOp,ho,Instr.alloc,hz,newVar,newRow,newObj,Sem.run,Sem.run_bind,Sem.run_pure,Result.andThen_ok]; rfl
  unfold Oper.wp
  rw [hrun]
  refine hK _ _ _ (k _) ?_
  have:=hS.blk r t z.cells
  rwa [hv,List.toList_toArray,← hv] at this
def evP (K:Slots):List (Nat × Operand)→Option (List (Nat × Value))
  | []=>some []
  | (i,x)::l=>match evK K x,evP K l with
    | some v,some vs=>some ((i,v)::vs)
    | _,_=>none
theorem evP_map {n:Nat} {K:Slots} {a:Act} (hA:Agr n K a):∀ {ps:List (Nat × Operand)} {vs:List (Nat × Value)},evP K ps=some vs→ps.map (fun p=>(p.1,a.eval p.2))=vs
  | [],vs,h=>by simp [evP] at h; subst h; rfl
  | (i,x)::l,vs,h=>by
    rw [evP] at h
    cases h1:evK K x with
    | none=>simp [h1] at h
    | some v =>
      cases h2:evP K l with
      | none=>simp [h1,h2] at h
      | some us =>
        simp [h1,h2] at h
        subst h
        simp [hA.eval h1]
        exact evP_map hA h2
theorem OpT_buildSlice {t e len size r:Nat} {ps:List (Nat × Operand)} {vs:List (Nat × Value)} {cs:List Value} (ho:o.op = .buildSlice t len ps.toArray) (hp:evP K ps=some vs) (hlen:cs.length=len * size) (hm:len≤maxLen)
    (hb:∀ w,(Instr.buildSlice t len vs.toArray).run P w = .ok (.slice (some ⟨w.heap.size,0,none⟩) len len) (w.alloc (.cells cs.toArray e)))
    (k:∀ v,C v ((r,rowP e size v len cs)::L)):OpT P E n o K L C:=fun a w Kc Q hA hS hK=>by
  have hrun:(execOp a.eval o).run P w = .ok (.value (.slice (some ⟨w.heap.size,0,none⟩) len len)) (w.alloc (.cells cs.toArray e)):=by
    have hq:=evP_map hA hp
    have:(ps.toArray.map fun (i,x)=>(i,a.eval x))=vs.toArray:=by simp [← hq]
    simp only [execOp,ho,this,Sem.run_bind,hb w]; rfl
  unfold Oper.wp
  rw [hrun]
  refine hK _ _ _ (k _) ?_
  have hS2:=hS.blk r e cs.toArray
  have hS3:=hS2.cons (P':=rowP e size (.slice (some ⟨w.heap.size,0,none⟩) len len) len cs) (look_same r _ L) (fun h hb=>by
    refine ⟨hlen,.inr ⟨_,len,cs.toArray,rfl,?_,Nat.le_refl _,hm,by simp [hlen],by simp [← hlen]⟩⟩
    unfold Proofs.Ytinamipkpdlphaa.blk at hb
    simpa using hb)
  exact hS3.sub (fun r' P' h=>by
    by_cases hr:r=r'
    · subst hr; rw [look_same] at h ⊢; exact h
    · rw [look_other hr] at h; rw [look_other hr,look_other hr]; exact h)
theorem run_buildSlice_ones {t e sz:Nat} {parts:List (Nat × Value)} (w:World) (hu:∀ w,(underlying t).run P w = .ok (.slice e) w) (hs:∀ w,(sizeOf e).run P w = .ok 1 w) (cs:List Value) (z:Value) (hz:∀ w,(zeroValue e).run P w = .ok z w) (hz1:z.cells = #[z]) (hsz:cs.length=sz) (hsm:sz≤1000)
    (hp:parts=(cs.zipIdx 0).map (fun p=>(p.2,p.1))) (h1:∀ u ∈ cs,u.cells = #[u]):(Instr.buildSlice t sz parts.toArray).run P w = .ok (.slice (some ⟨w.heap.size,0,none⟩) sz sz) (w.alloc (.cells cs.toArray e)):=by
  have key:∀ (l:List Value) (pre suf:List Value),suf.length=l.length→(∀ u ∈ l,u.cells = #[u]) →
      Instr.fill (fun i=>some (i * 1,1)) (pre++suf).toArray ((l.zipIdx pre.length).map fun p=>(p.2,p.1))=some (pre++l).toArray:=by
    intro l
    induction l with
    | nil=>intro pre suf hl _; have:suf=[]:=List.eq_nil_of_length_eq_zero (by simpa using hl); subst this; simp [Instr.fill]
    | cons u l ih =>
      intro pre suf hl h1
      cases suf with
      | nil=>simp at hl
      | cons s suf =>
        have hu1:=h1 u (by simp)
        have:=ih (pre++[u]) suf (by simpa using hl) (fun x hx=>h1 x (by simp [hx]))
        simp only [List.zipIdx_cons,List.map_cons,Instr.fill,hu1]
        simp at this ⊢
        exact this
  subst hsz
  have hk:=key cs [] (List.replicate cs.length z) (by simp) h1
  simp only [List.nil_append,List.length_nil] at hk
  rw [← hp] at hk
  unfold Instr.buildSlice
  simp only [Sem.run_bind,hu,hs,Result.andThen_ok]
  rw [if_neg (by omega)]
  by_cases h0:cs.length=0
  · have hc:cs=[]:=List.eq_nil_of_length_eq_zero h0
    subst hc
    simp at hp
    subst hp
    have hr0:Array.range 0 = #[]:=by apply Array.ext <;> simp
    simp [Instr.fill,newRow,newObj,Sem.run,hr0]
  · have hzc:(Array.range (cs.length * 1)).map (fun x=>(#[z]:Array Value)[x % (#[z]:Array Value).size]!)=(List.replicate cs.length z).toArray:=by
      apply Array.ext
      · simp
      · intro i hi1 hi2
        simp [Nat.mod_one]
    rw [if_neg (by omega)]
    simp only [Sem.run_bind,Sem.run_pure,Result.andThen_ok,hz,hz1,hzc,hk,newRow,newObj,Sem.run]
    rfl

theorem OpT_buildOnes {t e len r:Nat} {ps:List (Nat × Operand)} {vs:List (Nat × Value)} (cs:List Value) {z:Value} (ho:o.op = .buildSlice t len ps.toArray) (hp:evP K ps=some vs) (hu:∀ w,(underlying t).run P w = .ok (.slice e) w) (hs:∀ w,(sizeOf e).run P w = .ok 1 w)
    (hz:∀ w,(zeroValue e).run P w = .ok z w) (hz1:z.cells = #[z]) (hlen:cs.length=len) (hsm:len≤1000) (hv:vs=(cs.zipIdx 0).map (fun p=>(p.2,p.1))) (h1:∀ u ∈ cs,u.cells = #[u]) (k:∀ v,C v ((r,rowP e 1 v len cs)::L)):OpT P E n o K L C :=
  OpT_buildSlice ho hp (by omega) (by unfold maxLen; omega) (fun w=>run_buildSlice_ones w hu hs cs z hz hz1 hlen hsm hv h1) k
theorem Pl9 {t r m:Nat} {size:Nat} {x:Operand} {v:Value} {xs:List Value} {Pr:HP} {e:TypeId} (ho:o.op = .call { callee:=.builtin .len,args:=#[x],argTypes:=#[t] }) (hu:∀ w,(underlying t).run P w = .ok (.slice e) w) (hx:evK K x=some v)
    (hr:look L r=some Pr) (hrd:∀ h,Pr h→rdP size v m xs h):Pure P E n o K L (.int .i64 (m:Int)) :=
  (fun a w hA hS=>by
    obtain ⟨A,c,hv⟩:∃ A c,v = .slice A m c:=hS.get hr (fun h hp=>rdP_slice (hrd h hp))
    subst hv
    simp [execOp,ho,resolve,invoke,builtin,hA.eval hx,Builtin.len_,hu,goInt])
theorem Oa9 {t r r2 m k1 e size bytes:Nat} {x y:Operand} {v vy:Value} {xs news:List Value} {P2:HP} {i:TypeInfo} {z:Value}
    (ho:o.op = .call { callee:=.builtin .append,args:=#[x,y],argTypes:=#[t,t] }) (ht:P.underlying t=some (.slice e)) (hi:P.info? e=some i) (hz:i.zero=some z)
    (hsize:i.size=size) (hby:i.bytes=bytes) (hzs:z.cells.size=size) (hsz:0 < size) (hx:evK K x=some v) (hy:evK K y=some vy) (hr:look L r=some (rowP e size v k1 xs))
    (hr2:look L r2=some P2) (hrd:∀ h,P2 h→rdP size vy m news h) (h1:∀ u ∈ news,u.oneCell'=true) (h63:k1 + m≤maxLen) (hbytes:(k1 + m) * bytes≤140737488355328)
    (k:∀ v',C v' ((r,rowP e size v' (k1 + m) (xs++news))::L)):OpT P E n o K L C:=fun a w Kc Q hA hS hK=>by
  obtain ⟨h2,q1,q2⟩:=hS.read hr2
  have hRd:=rdP_Rd (hrd h2 q1) q2 hsz
  obtain ⟨h3,q3,q4⟩:=hS.read hr
  have hOwn:=rowP_own q3 q4
  obtain ⟨v',w',hrun,g1,g2,g3⟩:=run_append_rd (P:=P) w t o.type e i z size bytes ht hi hz hsize hby hzs hsz v k1 xs hOwn vy m news hRd h1 h63 hbytes
  unfold Oper.wp execOp
  simp only [ho,resolve,invoke,builtin,Sem.run_bind,Sem.run_pure,Result.andThen_ok,List.map_toArray,List.map_cons,List.map_nil,hA.eval hx,hA.eval hy,hrun]
  refine hK _ _ _ (k v') (hS.step hr fun h hp hin=>?_)
  obtain ⟨h',c1,c2,c3⟩:=rowP_of_own g1
  refine ⟨v.ownBlock.toList,h',?_,g2,c1,c2,fun g hg=>?_⟩
  · intro k hk
    simp at hk
    exact rowP_block hp hk
  · have hb:=c3 g hg
    rcases g3 with h4 | h4
    · left; exact rowP_block hp (h4 ▸ hb)
    · right; rw [h4] at hb; injection hb with hb; omega
theorem run_slice_sub (w:World) {t e size m:Nat} {v:Value} {A:Option Addr} {c:Nat} (hv:v = .slice A m c) (hu:∀ w,(underlying t).run P w = .ok (.slice e) w) (hs:∀ w,(sizeOf e).run P w = .ok size w) {lo hi:Option Value} {a b:Nat}
    (hlo:(lo=none∧a=0)∨∃ k i,lo=some (.int k i)∧i=(a:Int)) (hhi:(hi=none∧b=m)∨∃ k i,hi=some (.int k i)∧i=(b:Int)) (hab:a≤b) (hbc:b≤c) :
    (Instr.sliceAt t v lo hi none).run P w = .ok (subV size v a b) w:=by
  subst hv
  have hb:(Instr.sliceBounds true m c lo hi none).run P w = .ok (a,b,c) w:=by
    have sb:∀ (k:IntKind) (a y:Nat) (code:BoundsCode),a≤y→(Instr.sliceBound (.int k (a:Int)) y code).run P w = .ok a w:=by
      intro k a y code h
      simp only [Instr.sliceBound,asIntOf,Sem.run_bind,Sem.run_pure,Result.andThen_ok]
      rw [if_pos (by omega)]
      simp
    unfold Instr.sliceBounds
    rcases hlo with ⟨rfl,rfl⟩ | ⟨k,i,rfl,rfl⟩ <;> rcases hhi with ⟨rfl,rfl⟩ | ⟨k',i',rfl,rfl⟩
    all_goals simp only [Sem.run_bind,Sem.run_pure,Result.andThen_ok,sb _ _ _ _ hbc,sb _ _ _ _ hab,if_true,Bool.false_eq_true,if_false,Option.isSome_none]
  unfold Instr.sliceAt
  simp only [Sem.run_bind,hu,Result.andThen_ok]
  unfold Instr.slice
  simp only [Sem.run_bind,hu,Result.andThen_ok,hb,hs,Sem.run_pure,subV]
theorem Pu_slice {t r e size m a b:Nat} {x:Operand} {lo hi:Option Operand} {v:Value} {xs:List Value} {Pr:HP} (ho:o.op = .slice t x lo hi none) (hu:∀ w,(underlying t).run P w = .ok (.slice e) w) (hs:∀ w,(sizeOf e).run P w = .ok size w)
    (hx:evK K x=some v) (hr:look L r=some Pr) (hrd:∀ h,Pr h→rdP size v m xs h)
    (hlo:(lo=none∧a=0)∨∃ y k i,lo=some y∧evK K y=some (.int k i)∧i=(a:Int)) (hhi:(hi=none∧b=m)∨∃ y k i,hi=some y∧evK K y=some (.int k i)∧i=(b:Int)) (hab:a≤b) (hbm:b≤m):Pure P E n o K L (subV size v a b) :=
  (fun ac w hA hS=>by
    obtain ⟨A,c,hv,hmc⟩:∃ A c,v = .slice A m c∧m≤c:=hS.get hr (fun h hp=>by obtain ⟨_,A,c,h2,h3,_⟩:=hrd h hp; exact ⟨A,c,h2,h3⟩)
    have:=run_slice_sub (P:=P) w hv hu hs (lo:=lo.map ac.eval) (hi:=hi.map ac.eval) (a:=a) (b:=b)
      (by rcases hlo with ⟨rfl,rfl⟩ | ⟨y,k,i,rfl,hy,hi⟩
          · exact .inl ⟨rfl,rfl⟩
          · exact .inr ⟨k,i,by simp [hA.eval hy],hi⟩)
      (by rcases hhi with ⟨rfl,rfl⟩ | ⟨y,k,i,rfl,hy,hi⟩
          · exact .inl ⟨rfl,rfl⟩
          · exact .inr ⟨k,i,by simp [hA.eval hy],hi⟩) hab (by omega)
    simp only [execOp,ho,hA.eval hx,Option.map_none,Sem.run_bind,this]; rfl)
theorem Pu_sliceArr {t e g off m:Nat} {x:Operand} (ho:o.op = .slice t x none none none) (hu:∀ w,(underlying t).run P w = .ok (.array m e) w) (hs:∀ w,(sizeOf e).run P w = .ok 1 w) (hx:evK K x=some (.pointer (some ⟨g,off,none⟩))):Pure P E n o K L (.slice (some ⟨g,off,none⟩) m m) :=
  (fun ac w hA hS=>by
    simp only [execOp,ho,hA.eval hx,Option.map_none,Sem.run_bind,Instr.sliceAt,hu,hs,Result.andThen_ok,Instr.sureAddr,Instr.sliceBounds,Sem.run_pure]
    by_cases hm:m=0 <;> simp [hm,Addr.add])
theorem Pi9 {t r e size m:Nat} {x y:Operand} {v:Value} {xs:List Value} {Pr:HP} {kd:IntKind} {ix:Int} (ho:o.op = .indexAddr t x y) (hu:∀ w,(underlying t).run P w = .ok (.slice e) w) (hs:∀ w,(sizeOf e).run P w = .ok size w)
    (hx:evK K x=some v) (hy:evK K y=some (.int kd ix)) (hr:look L r=some Pr) (hrd:∀ h,Pr h→rdP size v m xs h) (hi:0≤ix∧ix < (m:Int)):Pure P E n o K L (.pointer (some ((adrOf v).add (ix.toNat * size)))) :=
  (fun ac w hA hS=>by
    obtain ⟨ad,c,hv⟩:∃ ad c,v = .slice (some ad) m c:=hS.get hr (fun h hp=>by
      obtain ⟨_,A,c,h2,h3,h4,_⟩:=hrd h hp
      cases A with
      | none=>have:=h4 rfl; omega
      | some ad=>exact ⟨ad,c,h2⟩)
    subst hv
    simp [execOp,ho,hA.eval hx,hA.eval hy,Instr.indexAt,asIntOf,hu,hs,hi,adrOf])
theorem Py9 {t r m k0 size:Nat} {x:Operand} {v u:Value} {xs:List Value} {Pr:HP} (ho:o.op = .load t x) (ha:∀ w,(isAgg t).run P w = .ok false w) (hx:evK K x=some (.pointer (some ((adrOf v).add k0)))) (hr:look L r=some Pr)
    (hrd:∀ h,Pr h→rdP size v m xs h) (hv:xs[k0]?=some u):Pure P E n o K L u :=
  Pu_load1 ho ha hx hr (fun h hp=>by
    obtain ⟨h1,A,c,rfl,h3,h4,h5⟩:=hrd h hp
    cases A with
    | none =>
      have:=h4 rfl
      have:=(List.getElem?_eq_some_iff.1 hv).1
      rw [h1,show m=0 by omega,Nat.zero_mul] at this
      omega
    | some ad=>exact h5 ad rfl _ _ hv)
end

def at0 (l:List UInt8) (k:Nat):UInt8:=l.getD k 0
theorem bs_at {l:List UInt8} {k:Nat} (h:k < l.length):(bs l)[k * 1]?=some (bv (at0 l k)):=by
  rw [Nat.mul_one,bs_get,List.getElem?_eq_getElem h]
  simp [at0,h]

section
variable {P:Program} {E:Env} {n:Nat} {K:Slots} {L:Res} {o:Oper} {C:Value→Res→Prop}
theorem evArgs {n:Nat} {K:Slots} {a:Act} (hA:Agr n K a):∀ {xs:List Operand} {vs:List Value},xs.map (evK K)=vs.map some→xs.map a.eval=vs
  | [],[],_=>rfl
  | x::xs,v::vs,h=>by
    simp only [List.map_cons,List.cons.injEq] at h ⊢
    exact ⟨hA.eval h.1,evArgs hA h.2⟩
  | [],_::_,h=>by simp at h
  | _::_,[],h=>by simp at h
def evL (K:Slots):List Operand→Option (List Value)
  | []=>some []
  | x::xs=>match evK K x,evL K xs with
    | some v,some vs=>some (v::vs)
    | _,_=>none
theorem evL_map {K:Slots}:∀ {xs:List Operand} {vs:List Value},evL K xs=some vs→xs.map (evK K)=vs.map some
  | [],vs,h=>by simp [evL] at h; subst h; rfl
  | x::xs,vs,h=>by
    rw [evL] at h
    cases h1:evK K x with
    | none=>simp [h1] at h
    | some v =>
      cases h2:evL K xs with
      | none=>simp [h1,h2] at h
      | some us =>
        simp [h1,h2] at h
        subst h
        simp [h1,evL_map h2]
theorem evL_nil {K:Slots}:evL K []=some []:=rfl
theorem evL_cons {K:Slots} {x:Operand} {v:Value} {xs:List Operand} {vs:List Value} (h:evK K x=some v) (h2:evL K xs=some vs):evL K (x::xs)=some (v::vs):=by rw [evL,h,h2]
theorem Oc9 {f:FuncId} {xs:List Operand} {vs:List Value} {ts:Array TypeId} {R:Value→List HP→Prop} (b:Nat) (J Cs:List Nat) {Js Ps:List HP}
    (ho:o.op = .call { callee:=.value (.func f),args:=xs.toArray,argTypes:=ts }) (hc:∀ args w,(callFunc f args).run P w = .ok (.enter f args) w) (hx:evL K xs=some vs)
    (hJ:lookL L J=some Js) (hC:lookL L Cs=some Ps) (hn:(J++Cs).Nodup) (hb:∀ j ∈ J,j < b)
    (spec:CallsS P f vs.toArray (starL Js) Ps R) (k:∀ v Ps',R v Ps'→C v (En b Ps'++zipR J Js)):OpT P E n o K L C:=fun a w Kc Q hA hS hK=>by
  have hargs:=evArgs hA (evL_map hx)
  have hrun:(execOp a.eval o).run P w = .ok (.enter f vs.toArray) w:=by
    have:(xs.toArray.map a.eval)=vs.toArray:=by simp [hargs]
    simp only [execOp,ho,resolve,Act.eval,this,Deferred.ofValue,Sem.run_bind,Sem.run_pure,Result.andThen_ok,invoke,Array.append_empty,Array.empty_append,hc]
  unfold Oper.wp
  rw [hrun]
  refine (spec E w (hS.pack (.of hJ) (.of hC) hn)).mono fun e w' ⟨v,Ps',he,hR,hS'⟩=>?_
  subst he
  exact hK _ _ _ (k v Ps' hR) (hS'.unpack b (List.nodup_append.1 hn).1 hb)
end
section
variable {P:Program} {E:Env} {n:Nat} {K:Slots} {L:Res} {F:HP} {R:Value→List HP→Prop} {fn:Func}
theorem Xq9 {v:Value} (ids:List Nat) {Ps:List HP} (hv:∀ a w,Agr n K a→Sat E L w→(results fn a.tmps).run P w = .ok v w) (hl:lookL L (0::ids)=some (F::Ps)) (hn:(0::ids).Nodup) (hR:R v Ps):X E n (bodyPost P fn (Ret E F R)) .ret K L :=
  fun a w hA hS=>⟨hA.1,v,hv a w hA hS,v,Ps,rfl,hR,hS.pick (.of hl) hn⟩
theorem Xe9 {v:Value} (ids:List Nat) {Ps:List HP} (hv:∀ a w,Agr n K a→Sat E L w→(results fn a.tmps).run P w = .ok v w) (hl:lookL L (0::ids)=some (F::Ps)) (hn:(0::ids).Nodup) (hR:R v Ps):X E n (bodyPost P fn (Ret E F R)) .normal K L :=
  fun a w hA hS=>⟨hA.1,v,hv a w hA hS,v,Ps,rfl,hR,hS.pick (.of hl) hn⟩
theorem res1 {t:Nat} {v:Value} (hr:fn.results = #[.tmp t]) (hv:look K t=some v):∀ a w,Agr n K a→Sat E L w→(results fn a.tmps).run P w = .ok v w:=fun a w hA _=>by
  simp [results,hr,hA.2.2 t v hv]
theorem res2 {t u:Nat} {v x:Value} (hr:fn.results = #[.tmp t,.tmp u]) (hv:look K t=some v) (hx:look K u=some x):∀ a w,Agr n K a→Sat E L w→(results fn a.tmps).run P w = .ok (.tuple #[v,x]) w:=fun a w hA _=>by
  simp [results,hr,hA.2.2 t v hv,hA.2.2 u x hx]
theorem res0 (hr:fn.results = #[]):∀ a w,Agr n K a→Sat E L w→(results fn a.tmps).run P w = .ok (.tuple #[]) w:=fun a w hA _=>by
  simp [results,hr]
end
section
variable {P:Program}
theorem int_beq (a b:Int):(a == b)=decide (a=b):=by by_cases h:a=b <;> simp [h]
theorem run_lss (a b:Int) (t:TypeId) (x y:Operand) (kd:IntKind) (w:World):((do eqGuard .lss t x y (.int kd a) (.int kd b); binOp .lss t (.int kd a) (.int kd b):Sem Value)).run P w = .ok (.bool (decide (a < b))) w:=by
  simp [eqGuard,binOp,Op.intCmp]
theorem run_gtr (a b:Int) (t:TypeId) (x y:Operand) (kd:IntKind) (w:World):((do eqGuard .gtr t x y (.int kd a) (.int kd b); binOp .gtr t (.int kd a) (.int kd b):Sem Value)).run P w = .ok (.bool (decide (b < a))) w:=by
  simp [eqGuard,binOp,Op.intCmp]
theorem run_leq (a b:Int) (t:TypeId) (x y:Operand) (kd:IntKind) (w:World):((do eqGuard .leq t x y (.int kd a) (.int kd b); binOp .leq t (.int kd a) (.int kd b):Sem Value)).run P w = .ok (.bool (decide (a≤b))) w:=by
  simp [eqGuard,binOp,Op.intCmp]
theorem run_geq (a b:Int) (t:TypeId) (x y:Operand) (kd:IntKind) (w:World):((do eqGuard .geq t x y (.int kd a) (.int kd b); binOp .geq t (.int kd a) (.int kd b):Sem Value)).run P w = .ok (.bool (decide (b≤a))) w:=by
  simp [eqGuard,binOp,Op.intCmp]
theorem run_eql (a b:Int) (t:TypeId) (x y:Operand) (kd:IntKind) (w:World):((do eqGuard .eql t x y (.int kd a) (.int kd b); binOp .eql t (.int kd a) (.int kd b):Sem Value)).run P w = .ok (.bool (decide (a=b))) w:=by
  simp [eqGuard,binOp,Op.intCmp]
  exact int_beq a b
theorem run_neq (a b:Int) (t:TypeId) (x y:Operand) (kd:IntKind) (w:World):((do eqGuard .neq t x y (.int kd a) (.int kd b); binOp .neq t (.int kd a) (.int kd b):Sem Value)).run P w = .ok (.bool (!decide (a=b))) w:=by
  simp [eqGuard,binOp,Op.intCmp]
  rw [bne,int_beq]
theorem run_add (a b:Int) (t:TypeId) (x y:Operand) (h:-9223372036854775808≤a + b∧a + b < 9223372036854775808) (w:World):((do eqGuard .add t x y (.int .i64 a) (.int .i64 b); binOp .add t (.int .i64 a) (.int .i64 b):Sem Value)).run P w = .ok (.int .i64 (a + b)) w:=by
  have:=IntWalk.i64_in (a + b) (by omega)
  simp [eqGuard,binOp,Op.intArith,this]
theorem run_sub (a b:Int) (t:TypeId) (x y:Operand) (h:-9223372036854775808≤a - b∧a - b < 9223372036854775808) (w:World):((do eqGuard .sub t x y (.int .i64 a) (.int .i64 b); binOp .sub t (.int .i64 a) (.int .i64 b):Sem Value)).run P w = .ok (.int .i64 (a - b)) w:=by
  have:=IntWalk.i64_in (a - b) (by omega)
  simp [eqGuard,binOp,Op.intArith,this]
theorem run_mul (a b:Int) (t:TypeId) (x y:Operand) (h:-9223372036854775808≤a * b∧a * b < 9223372036854775808) (w:World):((do eqGuard .mul t x y (.int .i64 a) (.int .i64 b); binOp .mul t (.int .i64 a) (.int .i64 b):Sem Value)).run P w = .ok (.int .i64 (a * b)) w:=by
  have:=IntWalk.i64_in (a * b) (by omega)
  simp [eqGuard,binOp,Op.intArith,this]
end
open Go.RowKit
section
variable {P:Program} {E:Env} {n:Nat} {K K':Slots} {L L':Res} {Q:Exit→Act→World→Prop} {ops:Array Oper} {o:Oper} {rest:List Oper} {C:Value→Res→Prop} {v:Value}
theorem R9 {id:Nat} {l:List Oper} (h:WL P E n l.toArray l K L Q):W P E n (.region id l.toArray false) K L Q:=fun a w hA hS=>wp_region_lit (h a w hA hS)
theorem WL_pure {d:Nat} (hg:o.guard=none) (hd:o.dst=some d) (hn:d < n) (h:Pure P E n o K L v) (k:WL P E n ops rest ((d,v)::K) L Q):WL P E n ops (o::rest) K L Q :=
  Lc9 hg hd hn (Or9 h k)
theorem Lg9 {d j dj:Nat} {want b:Bool} {V:Value} (hg:o.guard=some (j,want)) (hj:(ops[j]?).bind (·.dst)=some dj) (hb:look K dj=some (.bool b)) (hd:o.dst=some d) (hn:d < n)
    (h:(b == want)=true→Pure P E n o K L V) (k:WL P E n ops rest ((d,gv (b == want) V)::K) L Q):WL P E n ops (o::rest) K L Q :=
  WL_guard hg hj hb hd hn (fun hb=>Or9 (h hb) ⟨rfl,fun _ h=>h⟩) k
def AH (P:Program) (E:Env) (n:Nat) (ops:Array Oper) (S:Res) (fuel:Nat) (listed:Array Bool) (K:Slots) (L:Res) (Q:Exit→Act→World→Prop):Prop :=
  ∀ a w,Agr n K a→Sat E L w→Sat E S w→wpAnyH P .any ops (NoPanic Q) (fun w=>Sat E S w) fuel listed a w
theorem W_draw {id N:Nat} {l:List Oper} (hm:P.follows .mixedOrders=true) (hN:l.length=N) (S:Res) (hL:AllIn L S) (h:AH P E n l.toArray S N (Array.replicate N false) K L Q):W P E n (.region id l.toArray true) K L Q:=fun a w hA hS=>by
  refine wp_region_noPanic (wp_region_held_drew (S:=fun w=>Sat E S w) hm (hS.sub hL.look).drew fun hh=>?_)
  have:l.toArray.size=N:=by simpa using hN
  rw [this]
  exact h a w.drew hA hS.drew hh
variable {S:Res} {fuel:Nat} {listed:Array Bool}
theorem Ad9 (hr:Region.ready .any ops listed=[]) (h:X E n Q .normal K L):AH P E n ops S fuel listed K L Q:=fun a w hA hS _=>wpAnyH_done (Q:=NoPanic Q) hr (NoPanic.normal (h a w hA hS)) fuel
theorem A9 (i:Nat) {d:Nat} (hi:ops[i]?=some o) (hs:Region.noSelect ops=true) (hf:Region.free .any ops listed i=true) (hr:(Region.ready .any ops listed).contains i=true) (hg:o.guard=none) (hd:o.dst=some d) (hn:d < n)
    (h:Pure P E n o K S v) (k:AH P E n ops S fuel (listed.setIfInBounds i true) ((d,v)::K) L Q):AH P E n ops S (fuel + 1) listed K L Q:=fun a w hA hS hh =>
  wpAnyH_take hi hs hf hr (fun _ _ _ h=>h.elim) (.inl ⟨by simp [Region.wanted,hg],fun w' hw'=>h a w' hA hw'⟩) hh (by rw [hd]; exact k _ _ (hA.put hn v) hS hh)
theorem AH_takeG (i:Nat) {d j dj:Nat} {want b:Bool} {V:Value} (hi:ops[i]?=some o) (hs:Region.noSelect ops=true) (hf:Region.free .any ops listed i=true) (hr:(Region.ready .any ops listed).contains i=true)
    (hg:o.guard=some (j,want)) (hj:(ops[j]?).bind (·.dst)=some dj) (hb:look K dj=some (.bool b)) (hd:o.dst=some d) (hn:d < n)
    (h:(b == want)=true→Pure P E n o K S V) (k:AH P E n ops S fuel (listed.setIfInBounds i true) ((d,gv (b == want) V)::K) L Q):AH P E n ops S (fuel + 1) listed K L Q:=fun a w hA hS hh=>by
  have hy:=yielded_of hA hj hb
  refine wpAnyH_take hi hs hf hr (fun _ _ _ h=>h.elim) (v:=gv (b == want) V) ?_ hh (by rw [hd]; exact k _ _ (hA.put hn _) hS hh)
  cases hbw:(b == want) with
  | true=>exact .inl ⟨by simpa [Region.wanted,hg,hy,boolOf] using hbw,fun w' hw'=>h hbw a w' hA hw'⟩
  | false=>exact .inr ⟨by simpa [Region.wanted,hg,hy,boolOf] using hbw,rfl⟩
def AHs (P:Program) (E:Env) (n:Nat) (ops:Array Oper) (S:Res) (fuel:Nat) (listed:Array Bool) (K:Slots) (L:Res) (Q:Exit→Act→World→Prop) (rs:List Nat):Prop :=
  ∀ i ∈ rs,∀ a w,Agr n K a→Sat E L w→Sat E S w→wpOp P ops (NoPanic Q) i (fun a' w'=>Sat E S w'∧wpAnyH P .any ops (NoPanic Q) (fun w=>Sat E S w) fuel (listed.setIfInBounds i true) a' w') a w
theorem Ar9 (rs:List Nat) (hr:Region.ready .any ops listed=rs) (hne:rs≠[]) (h:AHs P E n ops S fuel listed K L Q rs):AH P E n ops S (fuel + 1) listed K L Q:=fun a w hA hS hh =>
  wpAnyH_ready hr hne fun i hi=>h i hi a w hA hS hh
theorem An9:AHs P E n ops S fuel listed K L Q []:=fun i hi=>by cases hi
theorem Ac9 {i d:Nat} {rs:List Nat} (hi:ops[i]?=some o) (hg:o.guard=none) (hd:o.dst=some d) (hn:d < n) (h:OpT P E n o K L (fun v L'=>AllIn L' S∧AH P E n ops S fuel (listed.setIfInBounds i true) ((d,v)::K) L' Q))
    (hs:AHs P E n ops S fuel listed K L Q rs):AHs P E n ops S fuel listed K L Q (i::rs):=fun j hj a w hA hS hh=>by
  rcases List.mem_cons.1 hj with rfl | hj
  · refine wpOp_step hi fun Kc hK=>?_
    rw [if_pos (by simp [Region.wanted,hg])]
    refine h a w Kc _ hA hS fun v L' w' ⟨c1,c2⟩ hS'=>?_
    rw [hd]
    have hh':=hS'.sub c1.look
    exact hK _ _ ⟨hh',c2 _ _ (hA.put hn v) hS' hh'⟩
  · exact hs j hj a w hA hS hh
theorem Ac09 {i:Nat} {rs:List Nat} (hi:ops[i]?=some o) (hg:o.guard=none) (hd:o.dst=none) (h:OpT P E n o K L (fun v L'=>AllIn L' S∧AH P E n ops S fuel (listed.setIfInBounds i true) K L' Q))
    (hs:AHs P E n ops S fuel listed K L Q rs):AHs P E n ops S fuel listed K L Q (i::rs):=fun j hj a w hA hS hh=>by
  rcases List.mem_cons.1 hj with rfl | hj
  · refine wpOp_step hi fun Kc hK=>?_
    rw [if_pos (by simp [Region.wanted,hg])]
    refine h a w Kc _ hA hS fun v L' w' ⟨c1,c2⟩ hS'=>?_
    rw [hd]
    have hh':=hS'.sub c1.look
    exact hK _ _ ⟨hh',c2 _ _ hA hS' hh'⟩
  · exact hs j hj a w hA hS hh
theorem AHs_consG {i d j dj:Nat} {rs:List Nat} {want b:Bool} {V:Value} (hi:ops[i]?=some o) (hg:o.guard=some (j,want)) (hj:(ops[j]?).bind (·.dst)=some dj) (hb:look K dj=some (.bool b)) (hd:o.dst=some d) (hn:d < n)
    (h:(b == want)=true→OpT P E n o K L (fun v L'=>v=V∧∀ w,Sat E L' w→Sat E L w)) (hL:AllIn L S) (k:AH P E n ops S fuel (listed.setIfInBounds i true) ((d,gv (b == want) V)::K) L Q)
    (hs:AHs P E n ops S fuel listed K L Q rs):AHs P E n ops S fuel listed K L Q (i::rs):=fun j' hj' a w hA hS hh=>by
  rcases List.mem_cons.1 hj' with rfl | hj'
  · refine wpOp_step hi fun Kc hK=>?_
    have hy:=yielded_of hA hj hb
    simp only [Region.wanted,hg,hy,boolOf]
    cases hbw:(b == want) with
    | true =>
      rw [if_pos (by simpa using hbw)]
      refine h hbw a w Kc _ hA hS fun v L' w' ⟨c1,c2⟩ hS'=>?_
      rw [hd,c1]
      rw [hbw] at k
      have h2:=c2 w' hS'
      exact hK _ _ ⟨h2.sub hL.look,k _ _ (hA.put hn V) h2 (h2.sub hL.look)⟩
    | false =>
      rw [if_neg (by simpa using hbw)]
      rw [hd]
      rw [hbw] at k
      exact hK _ _ ⟨hh,k _ _ (hA.put hn undef) hS hh⟩
  · exact hs j' hj' a w hA hS hh
end
section
variable {P:Program} {E:Env} {n:Nat} {K:Slots} {L S:Res} {Q:Exit→Act→World→Prop} {ops:Array Oper} {rest:List Oper} {o:Oper} {v:Value} {listed:Array Bool} {fuel:Nat}
theorem M9 {d:Nat} {x:Operand} (h:(o.guard,o.dst,o.op)=(none,some d,.move x)) (hx:evK K x=some v) (k:WL P E n ops rest ((d,v)::K) L Q) (hn:Nat.ble (d + 1) n=true:=by rfl):WL P E n ops (o::rest) K L Q:=by
  simp only [Prod.mk.injEq] at h
  exact WL_pure h.1 h.2.1 (Nat.le_of_ble_eq_true hn) (Pm9 h.2.2 hx) k
theorem G9 {d:Nat} {x:Operand} (h:(o.guard,o.dst,o.op)=(none,some d,.assign x)) (hx:evK K x=some v) (k:WL P E n ops rest ((d,v)::K) L Q) (hn:Nat.ble (d + 1) n=true:=by rfl):WL P E n ops (o::rest) K L Q:=by
  simp only [Prod.mk.injEq] at h
  exact WL_pure h.1 h.2.1 (Nat.le_of_ble_eq_true hn) (Pg9 h.2.2 hx) k
theorem L9 {d:Nat} (h:(o.guard,o.dst)=(none,some d)) (hp:Pure P E n o K L v) (k:WL P E n ops rest ((d,v)::K) L Q) (hn:Nat.ble (d + 1) n=true:=by rfl):WL P E n ops (o::rest) K L Q:=by
  simp only [Prod.mk.injEq] at h
  exact WL_pure h.1 h.2 (Nat.le_of_ble_eq_true hn) hp k
theorem T9 (i:Nat) {d:Nat} (hi:ops[i]?=some o) (hg:(o.guard,o.dst)=(none,some d))
    (h:Pure P E n o K S v) (k:AH P E n ops S fuel (listed.setIfInBounds i true) ((d,v)::K) L Q) (hn:Nat.ble (d + 1) n=true:=by rfl)
    (hb:(Region.noSelect ops && Region.free .any ops listed i && (Region.ready .any ops listed).contains i)=true:=by kernel_rfl):AH P E n ops S (fuel + 1) listed K L Q:=by
  rw [Bool.and_eq_true,Bool.and_eq_true] at hb
  simp only [Prod.mk.injEq] at hg
  exact A9 i hi hb.1.1 hb.1.2 hb.2 hg.1 hg.2 (Nat.le_of_ble_eq_true hn) h k
theorem Y9 (rs:List Nat) (h:AHs P E n ops S fuel listed K L Q rs) (hne:rs.isEmpty=false:=by rfl) (hr:Region.ready .any ops listed=rs:=by kernel_rfl):AH P E n ops S (fuel + 1) listed K L Q :=
  Ar9 rs hr (fun h0=>by rw [h0] at hne; cases hne) h
theorem Z9 {i d:Nat} {rs:List Nat} (hi:ops[i]?=some o) (hg:(o.guard,o.dst)=(none,some d)) (h:OpT P E n o K L (fun v L'=>AllIn L' S∧AH P E n ops S fuel (listed.setIfInBounds i true) ((d,v)::K) L' Q)) (hs:AHs P E n ops S fuel listed K L Q rs) (hn:Nat.ble (d + 1) n=true:=by rfl):AHs P E n ops S fuel listed K L Q (i::rs):=by
  simp only [Prod.mk.injEq] at hg
  exact Ac9 hi hg.1 hg.2 (Nat.le_of_ble_eq_true hn) h hs
theorem F9 (off:Nat) {s f g b:Nat} {x:Operand} (ho:o.op = .fieldAddr s x f) (hx:evK K x=some (.pointer (some ⟨g,b,none⟩))) (hf:fieldOff P s f=some off:=by kernel_rfl):Pure P E n o K L (.pointer (some ⟨g,b + off,none⟩)):=Pf9 ho hx hf
def lkA {α:Type _} (K:List (Nat × α)):List (Nat × α)→List (Option α)
  | []=>[]
  | p::r=>look K p.1::lkA K r
def smA {α:Type _}:List (Nat × α)→List (Option α)
  | []=>[]
  | p::r=>some p.2::smA r
theorem a9 {α:Type _} {K:List (Nat × α)}:∀ {K':List (Nat × α)},lkA K K'=smA K'→AllIn K K'
  | [],_=>trivial
  | p::r,h=>by
    rw [lkA,smA] at h
    injection h with h1 h2
    exact ⟨h1,a9 h2⟩
theorem J9 (K':Slots) (L':Res) {c:Code} (h:W P E n c K' L' Q) (hK:AllIn K K') (hL:AllIn L L'):W P E n c K L Q:=h.pre hK hL
end
open Go.RowKit
theorem rdP_le {h h':Hlt} (hl:∀ g o,h' g=some o→h g=some o) {size:Nat} {v:Value} {n:Nat} {xs:List Value} (hr:rdP size v n xs h'):rdP size v n xs h:=by
  obtain ⟨h1,A,c,h2,h3,h4,h5⟩:=hr
  refine ⟨h1,A,c,h2,h3,h4,fun ad had j u hu=>?_⟩
  have hc:=h5 ad had j u hu
  unfold cellH at hc ⊢
  cases hb:h' (ad.add j).block with
  | none=>simp [hb] at hc
  | some o=>rw [hl _ _ hb]; rw [hb] at hc; exact hc
theorem rs9 {Js:List HP} {P:HP} (k:Nat) (hk:Js[k]?=some P) {size:Nat} {v:Value} {n:Nat} {xs:List Value} (hp:∀ h,P h→rdP size v n xs h):∀ h,starL Js h→rdP size v n xs h:=fun h ⟨hs,h1,_,h3⟩ =>
  rdP_le (h3 k) (hp _ (h1 k P hk))
theorem rdP_cast {size:Nat} {v:Value} {n n':Nat} {xs ys:List Value} {h:Hlt} (hr:rdP size v n xs h) (hx:xs=ys) (hn:n=n'):rdP size v n' ys h:=by subst hx; subst hn; exact hr
theorem rd_const (c:Nat) (size:Nat):∀ h:Hlt,rdP size (.slice none 0 0) 0 [] h:=fun h=>⟨by simp,none,0,rfl,Nat.le_refl _,fun _=>rfl,fun ad h=>by cases h⟩
section
variable {P:Program} {E:Env} {n:Nat} {K:Slots} {L:Res} {o:Oper}
theorem Pu_idxS1 {t r e m:Nat} {x y:Operand} {v:Value} {xs:List Value} {Pr:HP} {kd:IntKind} {ix:Int} (ho:o.op = .indexAddr t x y) (hu:∀ w,(underlying t).run P w = .ok (.slice e) w) (hs:∀ w,(sizeOf e).run P w = .ok 1 w)
    (hx:evK K x=some v) (hy:evK K y=some (.int kd ix)) (hr:look L r=some Pr) (hrd:∀ h,Pr h→rdP 1 v m xs h) (hi:0≤ix∧ix < (m:Int)):Pure P E n o K L (.pointer (some ((adrOf v).add ix.toNat))):=by
  have:=Pi9 (o:=o) (E:=E) (n:=n) ho hu hs hx hy hr hrd hi
  rwa [Nat.mul_one] at this
theorem bs_at1 {l:List UInt8} {k:Nat} (h:k < l.length):(bs l)[k]?=some (bv (at0 l k)):=by have:=bs_at h; rwa [Nat.mul_one] at this
end
abbrev rdB (v:Value) (l:List UInt8):HP:=rdP 1 v l.length (bs l)
theorem rdB_sub {v:Value} {l:List UInt8} {h:Hlt} (hr:rdB v l h) {a b:Nat} (hab:a≤b) (hb:b≤l.length):rdB (subV 1 v a b) ((l.drop a).take (b - a)) h :=
  rdP_cast (rdP_sub hr hab hb) (by simp only [Nat.mul_one,← bs_drop,← bs_take]) (by simp; omega)
theorem bs_cells (l:List UInt8):∀ u ∈ bs l,u.cells = #[u]:=by
  intro u hu
  simp only [bs,List.mem_map] at hu
  obtain ⟨x,_,rfl⟩:=hu
  rfl
theorem load_all {cs:List Value} {m:Nat} (h:cs.length=m):(cs.drop 0).take m=cs:=by rw [List.drop_zero]; exact List.take_of_length_le (by omega)
def rowB (e:TypeId) (v:Value) (l:List UInt8):HP:=rowP e 1 v l.length (bs l)
theorem rowB_of {e:TypeId} {v:Value} {n:Nat} {xs:List Value} (l:List UInt8) (hn:n=l.length) (hx:xs=bs l):rowP e 1 v n xs=rowB e v l:=by subst hn; subst hx; rfl
theorem rowB_rd {e:TypeId} {v:Value} {l:List UInt8}:∀ h,rowB e v l h→rdB v l h:=fun h hr=>rp9 hr
theorem Sat.nilRow {E:Env} {L:Res} {w:World} (hS:Sat E L w) (r:Nat) (e:TypeId) (size:Nat):Sat E ((r,rowP e size (.slice none 0 0) 0 [])::L) w :=
  hS.new r (Chg.refl [] w) (fun _=>none) ⟨by simp,.inl ⟨rfl,rfl⟩⟩ (by intro g o h; cases h) (by intro g h; cases h)
theorem X_nilRow {E:Env} {n:Nat} {K:Slots} {L:Res} {Q:Exit→Act→World→Prop} {e:Exit} (r:Nat) (t:TypeId) (size:Nat) (h:X E n Q e K ((r,rowP t size (.slice none 0 0) 0 [])::L)):X E n Q e K L:=fun a w hA hS=>h a w hA (hS.nilRow r t size)
theorem W_nilRow {P:Program} {E:Env} {n:Nat} {K:Slots} {L:Res} {Q:Exit→Act→World→Prop} {c:Code} (r:Nat) (t:TypeId) (size:Nat) (h:W P E n c K ((r,rowP t size (.slice none 0 0) 0 [])::L) Q):W P E n c K L Q:=fun a w hA hS=>h a w hA (hS.nilRow r t size)
theorem rdB_tail {v:Value} {l:List UInt8} {h:Hlt} (hr:rdB v l h) {a:Nat} (hab:a≤l.length):rdB (subV 1 v a l.length) (l.drop a) h :=
  rdP_cast (rdB_sub hr hab (Nat.le_refl _)) (by rw [List.take_of_length_le (by simp)]) (by simp)
def zeroId:List UInt8:=List.replicate 32 0
def byte (n:Int):UInt8:=UInt8.ofNat (n % 256).toNat
theorem byte_toNat (n:Int):((byte n).toNat:Int)=n % 256:=by
  unfold byte
  rw [UInt8.toNat_ofNat']
  omega
theorem u8_wrap (n:Int):IntKind.u8.wrap n=n % 256:=by simp [IntKind.wrap,IntKind.signed,IntKind.bits]
theorem bv_byte (n:Int):Value.int .u8 (IntKind.u8.wrap n)=bv (byte n):=by unfold bv; rw [byte_toNat,u8_wrap]
theorem lt256 (x:UInt8):(x.toNat:Int) < 256:=by have:=x.toNat_lt; omega
section
variable {P:Program} {s d:TypeId}
theorem conv_u8 (x:UInt8) {k k':IntKind} (hs:∀ w,(underlying s).run P w = .ok (.int k') w) (hd:∀ w,(underlying d).run P w = .ok (.int k) w) (hk:k = .i64∨k = .u64∨k = .u32∨k = .i32:=by simp) (w:World):(convert s d (bv x)).run P w = .ok (.int k (x.toNat:Int)) w:=by
  have h1:=lt256 x
  have hw:k.wrap (x.toNat:Int)=(x.toNat:Int):=by
    rcases hk with rfl | rfl | rfl | rfl <;> simp [IntKind.wrap,IntKind.signed,IntKind.bits] <;> omega
  unfold bv convert
  simp only [Sem.run_bind,hs,hd,Result.andThen_ok,Conv.intToInt,Sem.run_pure,hw]
theorem conv_byte (k0:IntKind) (n:Int) {k':IntKind} (hs:∀ w,(underlying s).run P w = .ok (.int k') w) (hd:∀ w,(underlying d).run P w = .ok (.int .u8) w) (w:World):(convert s d (.int k0 n)).run P w = .ok (bv (byte n)) w:=by
  unfold convert
  simp only [Sem.run_bind,hs,hd,Result.andThen_ok,Conv.intToInt,Sem.run_pure,bv_byte]
theorem conv_int (k0:IntKind) (n:Int) {k k':IntKind} (hs:∀ w,(underlying s).run P w = .ok (.int k') w) (hd:∀ w,(underlying d).run P w = .ok (.int k) w) (w:World):(convert s d (.int k0 n)).run P w = .ok (.int k (k.wrap n)) w:=by
  unfold convert
  simp only [Sem.run_bind,hs,hd,Result.andThen_ok,Conv.intToInt,Sem.run_pure]
theorem run_not (b:Bool) (w:World):(Op.unary .not (.bool b)).run P w = .ok (.bool (!b)) w:=by simp [Op.unary]
theorem run_quo (a b:Int) (t:TypeId) (x y:Operand) (h:0≤a∧a < 9223372036854775808∧0 < b) (w:World):((do eqGuard .quo t x y (.int .i64 a) (.int .i64 b); binOp .quo t (.int .i64 a) (.int .i64 b):Sem Value)).run P w = .ok (.int .i64 (a / b)) w:=by
  have h1:0≤a / b:=Int.ediv_nonneg h.1 (by omega)
  have h2:a / b≤a:=Int.ediv_le_self _ h.1
  have h3:=IntWalk.i64_in (a / b) (by omega)
  have h4:b≠0:=by omega
  simp [eqGuard,binOp,Op.intDiv,h4,Int.tdiv_eq_ediv_of_nonneg h.1,h3]
theorem run_rem (a b:Int) (t:TypeId) (x y:Operand) (h:0≤a∧a < 9223372036854775808∧0 < b∧b < 9223372036854775808) (w:World):((do eqGuard .rem t x y (.int .i64 a) (.int .i64 b); binOp .rem t (.int .i64 a) (.int .i64 b):Sem Value)).run P w = .ok (.int .i64 (a % b)) w:=by
  have h1:0≤a % b:=Int.emod_nonneg _ (by omega)
  have h2:a % b < b:=Int.emod_lt_of_pos _ (by omega)
  have h3:=IntWalk.i64_in (a % b) (by omega)
  have h4:b≠0:=by omega
  simp [eqGuard,binOp,Op.intDiv,h4,Int.tmod_eq_emod_of_nonneg h.1,h3]
theorem run_tmod (a b:Int) (t:TypeId) (x y:Operand) (h:0 < b∧b < 9223372036854775808) (w:World):((do eqGuard .rem t x y (.int .i64 a) (.int .i64 b); binOp .rem t (.int .i64 a) (.int .i64 b):Sem Value)).run P w = .ok (.int .i64 (a.tmod b)) w:=by
  have h1:=Int.tmod_lt_of_pos a h.1
  have h2:-b < a.tmod b:=Int.lt_tmod_of_pos a h.1
  have h3:=IntWalk.i64_in (a.tmod b) (by omega)
  have h4:b≠0:=by omega
  simp [eqGuard,binOp,Op.intDiv,h4,h3]
end
open Go.RowKit

def over {α:Type} (xs:List α) (k:Nat) (ys:List α):List α:=xs.take k++(ys++xs.drop (k + ys.length))
theorem over_length {α:Type} (xs:List α) (k:Nat) (ys:List α) (h:k + ys.length≤xs.length):(over xs k ys).length=xs.length:=by simp [over]; omega
theorem over_mid {α:Type} (a b c d:List α) (h:b.length=c.length):over (a++(b++d)) a.length c=a++(c++d):=by
  unfold over
  rw [List.take_left,← h,← List.append_assoc a b d,show a.length + b.length=(a++b).length by simp,List.drop_left]
theorem over_all {α:Type} (b c:List α) (h:b.length=c.length):over b 0 c=c:=by simp [over,← h]
theorem over_get {α:Type} (xs ys:List α) (k j:Nat) (h:k + ys.length≤xs.length):(over xs k ys)[j]?=if j < k then xs[j]? else if j < k + ys.length then ys[j - k]? else xs[j]?:=by
  unfold over
  by_cases h1:j < k
  · rw [if_pos h1,List.getElem?_append_left (by simp; omega),List.getElem?_take,if_pos h1]
  · rw [if_neg h1,List.getElem?_append_right (by simp; omega),List.length_take,Nat.min_eq_left (by omega)]
    by_cases h2:j < k + ys.length
    · rw [if_pos h2,List.getElem?_append_left (by omega)]
    · rw [if_neg h2,List.getElem?_append_right (by omega),List.getElem?_drop]
      congr 1
      omega
theorem over_one {α:Type} (xs:List α) (k:Nat) (u:α) (h:k < xs.length):over xs k [u]=xs.set k u:=by
  apply List.ext_getElem?
  intro j
  rw [over_get _ _ _ _ (by simp; omega),List.getElem?_set]
  by_cases h1:j < k
  · rw [if_pos h1,if_neg (by omega)]
  · rw [if_neg h1]
    by_cases h2:j=k
    · subst h2; simp [h]
    · rw [if_neg (by simp; omega),if_neg (by omega)]

theorem over_take {α:Type} (cur xs ys:List α) (k m:Nat) (hx:cur.take m=xs) (hm:xs.length=m) (h:k + ys.length≤m):(over cur k ys).take m=over xs k ys:=by
  have hc:m≤cur.length:=by rw [← hm,← hx,List.length_take]; omega
  apply List.ext_getElem?
  intro j
  rw [List.getElem?_take,over_get cur ys k j (by omega),over_get xs ys k j (by omega),← hx,List.getElem?_take]
  by_cases j1:j < m
  · simp only [j1,if_true]
  · rw [if_neg j1,if_neg (by omega),if_neg (by omega),if_neg j1]
def single (g:Nat) (o:Obj):Hlt:=fun k=>if k=g then some o else none
theorem single_same (g:Nat) (o:Obj):single g o g=some o:=by simp [single]
theorem single_in {g:Nat} {o:Obj} {w:World} (h:w.heap[g]?=some o):In (single g o) w:=fun k o' hk=>by
  unfold single at hk
  split at hk
  · rename_i e; subst e; injection hk with hk; subst hk; exact h
  · cases hk
theorem single_dom {g:Nat} {o:Obj} {k:Nat} (h:(single g o k).isSome=true):k=g:=by
  unfold single at h
  split at h
  · assumption
  · cases h
theorem chg_setRow (w:World) (g:Nat) (cs:Array Value):Chg [g] w (w.setRow g cs):=⟨rfl,rfl,rfl,by simp [World.setRow],fun k _ hk=>setRow_other w g k cs (by simpa using hk)⟩

section
variable {P:Program} {E:Env} {n:Nat} {K:Slots} {L:Res} {o:Oper} {C:Value→Res→Prop}
theorem Sat.setRow {L:Res} {w:World} {Pr P':HP} (hS:Sat E L w) {r g:Nat} {e:TypeId} (hr:look L r=some Pr) (new:Array Value)
    (h1:∀ h,Pr h→∃ cur,h g=some (.cells cur e (0,0))) (h2:∀ h,h g=some (.cells new e (0,0))→P' h):Sat E ((r,P')::L) (w.setRow g new):=by
  refine hS.step hr fun h hp hi=>?_
  obtain ⟨cur,hc⟩:=h1 h hp
  have hh:=setRow_heap w g cur new e (0,0) (hi _ _ hc)
  refine ⟨[g],single g (.cells new e (0,0)),?_,chg_setRow w g new,h2 _ (single_same _ _),single_in hh,fun k hk=>?_⟩
  · intro k hk; simp at hk; subst hk; simp [hc]
  · have:=single_dom hk; subst this; left; simp [hc]
theorem run_storeAt_row (w:World) (t g off:Nat) (e:TypeId) (cur:Array Value) (u:Value) (hg:w.heap[g]?=some (.cells cur e (0,0))) (hs:∀ w,(sizeOf t).run P w = .ok u.cells.size w) (hfit:off + u.cells.size≤cur.size) (h1:∀ x ∈ u.cells.toList,x.oneCell'=true) :
    (Instr.storeAt t (.pointer (some ⟨g,off,none⟩)) u).run P w = .ok () (w.setRow g (over cur.toList off u.cells.toList).toArray):=by
  have hst:=run_storeCells_at P g off e u.cells.toList 0 cur w hg (by simpa using hfit) h1
  simp only [Nat.add_zero] at hst
  simp only [Instr.storeAt,Instr.sureAddr,Sem.run_bind,Sem.run_pure,Result.andThen_ok,storeVar,hs,ne_eq,not_true,if_false]
  rw [hst]
  simp [over]
theorem OpT_storeB {t r g off te:Nat} {x y:Operand} {cs cs':List Value} {u:Value} (ho:o.op = .store t x y) (hs:∀ w,(sizeOf t).run P w = .ok u.cells.size w) (hx:evK K x=some (.pointer (some ⟨g,off,none⟩))) (hy:evK K y=some u) (hr:look L r=some (blk g te cs))
    (hfit:off + u.cells.size≤cs.length) (h1:∀ x ∈ u.cells.toList,x.oneCell'=true) (hcs:over cs off u.cells.toList=cs') (k:C undef ((r,blk g te cs')::L)):OpT P E n o K L C:=fun a w Kc Q hA hS hK=>by
  have hg:w.heap[g]?=some (.cells cs.toArray te (0,0)):=by
    obtain ⟨h,q1,q2⟩:=hS.read hr
    exact q2 _ _ q1
  have hrun:=run_storeAt_row (P:=P) w t g off te cs.toArray u hg hs (by simpa using hfit) h1
  unfold Oper.wp execOp
  simp only [ho,hA.eval hx,hA.eval hy,Sem.run_bind,hrun,Result.andThen_ok,Sem.run_pure]
  refine hK _ _ _ k (hS.setRow hr _ (fun h hp=>⟨_,hp⟩) fun h hh=>?_)
  rw [← hcs]
  unfold blk
  simpa using hh
theorem OpT_storeS {t r k0 k1 e size:Nat} {x y:Operand} {v u:Value} {xs xs':List Value} (ho:o.op = .store t x y) (hs:∀ w,(sizeOf t).run P w = .ok u.cells.size w) (hx:evK K x=some (.pointer (some ((adrOf v).add k0)))) (hy:evK K y=some u) (hr:look L r=some (rowP e size v k1 xs))
    (hpos:0 < u.cells.size) (hfit:k0 + u.cells.size≤xs.length) (h1:∀ x ∈ u.cells.toList,x.oneCell'=true) (hxs:over xs k0 u.cells.toList=xs') (k:C undef ((r,rowP e size v k1 xs')::L)):OpT P E n o K L C:=fun a w Kc Q hA hS hK=>by
  obtain ⟨h,q1,q2⟩:=hS.read hr
  obtain ⟨hl,q1⟩:=q1
  rcases q1 with ⟨rfl,rfl⟩ | ⟨g,cap,cur,rfl,hg,hnc,hm,hsz,ht⟩
  · simp at hl; subst hl; rw [List.length_nil] at hfit; omega
  · have hle:xs.length≤cur.size:=by rw [hl,hsz]; exact Nat.mul_le_mul_right _ hnc
    have hx':a.eval x = .pointer (some ⟨g,k0,none⟩):=by rw [hA.eval hx]; simp only [adrOf,addr_add0]
    have hrun:=run_storeAt_row (P:=P) w t g k0 e cur u (q2 _ _ hg) hs (by omega) h1
    unfold Oper.wp execOp
    simp only [ho,hx',hA.eval hy,Sem.run_bind,hrun,Result.andThen_ok,Sem.run_pure]
    refine hK _ _ _ k (hS.setRow (e:=e) hr _ (fun h hp=>?_) fun h hh=>?_)
    · obtain ⟨_,hp⟩:=hp
      rcases hp with ⟨hv,_⟩ | ⟨g',cap',cur',hv,hg',_⟩
      · cases hv
      · injection hv with hv _ _; injection hv with hv; injection hv with hv; subst hv; exact ⟨_,hg'⟩
    · have hol:(over cur.toList k0 u.cells.toList).length=cur.size:=by rw [over_length _ _ _ (by simp; omega)]; simp
      refine ⟨by rw [← hxs,over_length _ _ _ (by simpa using hfit)]; exact hl,.inr ⟨g,cap,_,rfl,hh,hnc,hm,by simp [hol,hsz],?_⟩⟩
      rw [← hxs,List.toList_toArray]
      exact over_take _ _ _ _ _ ht hl (by rw [← hl]; simpa using hfit)
theorem cells_one {u:Value} (h:u.oneCell'=true):u.cells = #[u]:=by cases u <;> first | rfl | cases h
theorem OpT_storeB1 {t r g off te:Nat} {x y:Operand} {cs cs':List Value} {u:Value} (ho:o.op = .store t x y) (hs:∀ w,(sizeOf t).run P w = .ok 1 w) (hx:evK K x=some (.pointer (some ⟨g,off,none⟩))) (hy:evK K y=some u) (hr:look L r=some (blk g te cs))
    (h1:u.oneCell'=true) (hfit:off < cs.length) (hcs:cs.set off u=cs') (k:C undef ((r,blk g te cs')::L)):OpT P E n o K L C :=
  OpT_storeB ho (by rw [cells_one h1]; exact hs) hx hy hr (by rw [cells_one h1]; exact hfit) (by rw [cells_one h1]; intro x hx; simp at hx; subst hx; exact h1) (by rw [cells_one h1,List.toList_toArray,over_one _ _ _ hfit]; exact hcs) k
theorem OpT_storeS1 {t r k0 k1 e size:Nat} {x y:Operand} {v u:Value} {xs xs':List Value} (ho:o.op = .store t x y) (hs:∀ w,(sizeOf t).run P w = .ok 1 w) (hx:evK K x=some (.pointer (some ((adrOf v).add k0)))) (hy:evK K y=some u) (hr:look L r=some (rowP e size v k1 xs))
    (h1:u.oneCell'=true) (hfit:k0 < xs.length) (hxs:xs.set k0 u=xs') (k:C undef ((r,rowP e size v k1 xs')::L)):OpT P E n o K L C :=
  OpT_storeS ho (by rw [cells_one h1]; exact hs) hx hy hr (by rw [cells_one h1]; exact Nat.one_pos) (by rw [cells_one h1]; exact hfit) (by rw [cells_one h1]; intro x hx; simp at hx; subst hx; exact h1) (by rw [cells_one h1,List.toList_toArray,over_one _ _ _ hfit]; exact hxs) k
theorem OpT_make {t e r m size:Nat} {x y:Operand} {i:TypeInfo} {z:Value} {kl kc:IntKind} {xs:List Value} (ho:o.op = .makeSlice t x y) (ht:P.underlying t=some (.slice e)) (hi:P.info? e=some i) (hz:i.zero=some z) (hsize:i.size=size)
    (hx:evK K x=some (.int kl (m:Int))) (hy:evK K y=some (.int kc (m:Int))) (hb:i.bytes * m≤281474976710656) (hm:m≤maxLen) (hxs:(madeCells z.cells (m * size)).toList=xs) (k:∀ v,C v ((r,rowP e size v m xs)::L)):OpT P E n o K L C:=fun a w Kc Q hA hS hK=>by
  obtain ⟨w',hrun,r1,r2⟩:=run_make_full (P:=P) w 0 t e i z size ht hi hz hsize kl kc m hb hm (Nat.zero_le _)
  unfold Oper.wp execOp
  simp only [ho,hA.eval hx,hA.eval hy,Sem.run_bind,hrun,Result.andThen_ok,Sem.run_pure]
  rw [hxs] at r1
  obtain ⟨h',c1,c2,c3⟩:=rowP_of_own r1
  refine hK _ _ _ (k _) (hS.new r ((Chg.refl _ w).grown r2 (by simp)) h' c1 c2 fun g hg=>?_)
  have:=c3 g hg
  simp [Value.ownBlock] at this
  omega
theorem OpT_makeCap {t e r m size:Nat} {x y:Operand} {i:TypeInfo} {z:Value} {kl kc:IntKind} (ho:o.op = .makeSlice t x y) (ht:P.underlying t=some (.slice e)) (hi:P.info? e=some i) (hz:i.zero=some z) (hsize:i.size=size)
    (hx:evK K x=some (.int kl 0)) (hy:evK K y=some (.int kc (m:Int))) (hb:i.bytes * m≤281474976710656) (hm:m≤maxLen) (k:∀ v,C v ((r,rowP e size v 0 [])::L)):OpT P E n o K L C:=fun a w Kc Q hA hS hK=>by
  obtain ⟨w',hrun,r1,r2⟩:=run_make_own (P:=P) w 0 t e i z size ht hi hz hsize kl kc m hb hm (Nat.zero_le _)
  unfold Oper.wp execOp
  simp only [ho,hA.eval hx,hA.eval hy,Sem.run_bind,hrun,Result.andThen_ok,Sem.run_pure]
  obtain ⟨h',c1,c2,c3⟩:=rowP_of_own r1
  refine hK _ _ _ (k _) (hS.new r ((Chg.refl _ w).grown r2 (by simp)) h' c1 c2 fun g hg=>?_)
  have:=c3 g hg
  simp [Value.ownBlock] at this
  omega
theorem OpT_copyB {tD tS r r2 g off te el dl dc m:Nat} {x y:Operand} {cs cs' ys:List Value} {vs:Value} {P2:HP} (ho:o.op = .call { callee:=.builtin .copy,args:=#[x,y],argTypes:=#[tD,tS] }) (hu:P.underlying tD=some (.slice el)) (hsz:(P.info? el).map (·.size)=some 1)
    (hx:evK K x=some (.slice (some ⟨g,off,none⟩) dl dc)) (hy:evK K y=some vs) (hr:look L r=some (blk g te cs)) (hr2:look L r2=some P2) (hrd:∀ h,P2 h→rdP 1 vs m ys h) (h1:∀ x ∈ ys,x.oneCell'=true)
    (hfit:off + min m dl≤cs.length) (hcs:over cs off (ys.take (min m dl))=cs') (k:C (.int .i64 ((min m dl:Nat):Int)) ((r,blk g te cs')::L)):OpT P E n o K L C:=fun a w Kc Q hA hS hK=>by
  have hg:w.heap[g]?=some (.cells cs.toArray te (0,0)):=by
    obtain ⟨h,q1,q2⟩:=hS.read hr
    exact q2 _ _ q1
  obtain ⟨h2,q1,q2⟩:=hS.read hr2
  obtain ⟨hl,A,c,rfl,hmc,h0,hrdc⟩:=hrd h2 q1
  rw [Nat.mul_one] at hl
  have hmin:(ys.take (min m dl)).length=min m dl:=by simp [hl]
  by_cases hz:min m dl=0
  · have hrun:=run_copy_none (P:=P) w tD tS o.type el (some ⟨g,off,none⟩) A dl dc m c hu hsz hz
    unfold Oper.wp execOp
    simp only [ho,resolve,invoke,builtin,Sem.run_bind,Sem.run_pure,Result.andThen_ok,List.map_toArray,List.map_cons,List.map_nil,hA.eval hx,hA.eval hy,hrun]
    have hcs2:cs=cs':=by rw [← hcs,hz]; simp [over]
    subst hcs2
    have hv:goInt 0 = .int .i64 ((min m dl:Nat):Int):=by rw [hz]; rfl
    rw [hv]
    exact hK _ _ _ k (hS.cons hr fun h hp=>hp)
  · cases A with
    | none=>have:=h0 rfl; omega
    | some ad =>
      have hrun:=run_copy_row (P:=P) w tD tS o.type el g off dl dc ad m c cs.toArray te (ys.take (min m dl)) hu hsz hg hmin (fun j v hj=>by
        rw [List.getElem?_take] at hj
        split at hj
        · exact cellH_in q2 (hrdc ad rfl j v hj)
        · cases hj) (by rw [hmin]; simpa using hfit) (fun v hv=>h1 v (List.mem_of_mem_take hv))
      unfold Oper.wp execOp
      simp only [ho,resolve,invoke,builtin,Sem.run_bind,Sem.run_pure,Result.andThen_ok,List.map_toArray,List.map_cons,List.map_nil,hA.eval hx,hA.eval hy,hrun,hmin]
      refine hK _ _ _ k (hS.setRow hr _ (fun h hp=>⟨_,hp⟩) fun h hh=>?_)
      rw [← hcs]
      unfold blk over
      simpa [hmin] using hh
theorem OpT_copyS {tD tS r r2 k0 k1 e el dl dc m size:Nat} {x y:Operand} {v:Value} {xs xs' ys:List Value} {vs:Value} {P2:HP} (ho:o.op = .call { callee:=.builtin .copy,args:=#[x,y],argTypes:=#[tD,tS] }) (hu:P.underlying tD=some (.slice el)) (hsz:(P.info? el).map (·.size)=some 1)
    (hx:evK K x=some (.slice (some ((adrOf v).add k0)) dl dc)) (hy:evK K y=some vs) (hr:look L r=some (rowP e size v k1 xs)) (hr2:look L r2=some P2) (hrd:∀ h,P2 h→rdP 1 vs m ys h) (h1:∀ x ∈ ys,x.oneCell'=true)
    (hfit:k0 + min m dl≤xs.length) (hxs:over xs k0 (ys.take (min m dl))=xs') (k:C (.int .i64 ((min m dl:Nat):Int)) ((r,rowP e size v k1 xs')::L)):OpT P E n o K L C:=fun a w Kc Q hA hS hK=>by
  obtain ⟨h2,q1,q2⟩:=hS.read hr2
  obtain ⟨hl,A,c,rfl,hmc,h0,hrdc⟩:=hrd h2 q1
  rw [Nat.mul_one] at hl
  have hmin:(ys.take (min m dl)).length=min m dl:=by simp [hl]
  by_cases hz:min m dl=0
  · have hrun:=run_copy_none (P:=P) w tD tS o.type el (some ((adrOf v).add k0)) A dl dc m c hu hsz hz
    unfold Oper.wp execOp
    simp only [ho,resolve,invoke,builtin,Sem.run_bind,Sem.run_pure,Result.andThen_ok,List.map_toArray,List.map_cons,List.map_nil,hA.eval hx,hA.eval hy,hrun]
    have hcs2:xs=xs':=by rw [← hxs,hz]; simp [over]
    subst hcs2
    have hv:goInt 0 = .int .i64 ((min m dl:Nat):Int):=by rw [hz]; rfl
    rw [hv]
    exact hK _ _ _ k (hS.cons hr fun h hp=>hp)
  · cases A with
    | none=>have:=h0 rfl; omega
    | some ad =>
      obtain ⟨h,p1,p2⟩:=hS.read hr
      obtain ⟨hxl,p1⟩:=p1
      rcases p1 with ⟨rfl,rfl⟩ | ⟨g,cap,cur,rfl,hg,hnc,hm,hsz2,ht⟩
      · simp at hxl; subst hxl; simp at hfit; omega
      · have hle:xs.length≤cur.size:=by rw [hxl,hsz2]; exact Nat.mul_le_mul_right _ hnc
        have hx':a.eval x = .slice (some ⟨g,k0,none⟩) dl dc:=by rw [hA.eval hx]; simp only [adrOf,addr_add0]
        have hrun:=run_copy_row (P:=P) w tD tS o.type el g k0 dl dc ad m c cur e (ys.take (min m dl)) hu hsz (p2 _ _ hg) hmin (fun j v hj=>by
          rw [List.getElem?_take] at hj
          split at hj
          · exact cellH_in q2 (hrdc ad rfl j v hj)
          · cases hj) (by rw [hmin]; omega) (fun v hv=>h1 v (List.mem_of_mem_take hv))
        unfold Oper.wp execOp
        simp only [ho,resolve,invoke,builtin,Sem.run_bind,Sem.run_pure,Result.andThen_ok,List.map_toArray,List.map_cons,List.map_nil,hx',hA.eval hy,hrun,hmin]
        refine hK _ _ _ k (hS.setRow (e:=e) hr _ (fun h hp=>?_) fun h hh=>?_)
        · obtain ⟨_,hp⟩:=hp
          rcases hp with ⟨hv,_⟩ | ⟨g',cap',cur',hv,hg',_⟩
          · cases hv
          · injection hv with hv _ _; injection hv with hv; injection hv with hv; subst hv; exact ⟨_,hg'⟩
        · have hol:(over cur.toList k0 (ys.take (min m dl))).length=cur.size:=by rw [over_length _ _ _ (by rw [hmin]; simp; omega)]; simp
          have hh2:h g=some (.cells (over cur.toList k0 (ys.take (min m dl))).toArray e (0,0)):=by unfold over; rw [hmin,← List.append_assoc]; exact hh
          refine ⟨by rw [← hxs,over_length _ _ _ (by rw [hmin]; exact hfit)]; exact hxl,.inr ⟨g,cap,_,rfl,hh2,hnc,hm,by simp [hol,hsz2],?_⟩⟩
          rw [← hxs,List.toList_toArray]
          exact over_take _ _ _ _ _ ht hxl (by rw [hmin,← hxl]; exact hfit)
end
theorem made_one (z:Value) (n:Nat):(madeCells #[z] (n * 1)).toList=List.replicate n z:=by rw [Nat.mul_one]; exact toList_madeCells_one _ _
theorem run_shr {P:Program} (a:Int) (k:Nat) (t:TypeId) (x y:Operand) {kd:IntKind} (h:k≤64) (w:World):((do eqGuard .shr t x y (.int .i64 a) (.int kd (k:Int)); binOp .shr t (.int .i64 a) (.int kd (k:Int)):Sem Value)).run P w = .ok (.int .i64 (a.fdiv (2 ^ k))) w:=by
  have h1:¬ ((k:Int) < 0):=by omega
  have h2:min k IntKind.i64.bits=k:=by simp [IntKind.bits]; omega
  simp [eqGuard,binOp,Op.shift,h1,h2]
  rw [Int.fdiv_eq_ediv_of_nonneg _ (by apply Int.pow_nonneg; omega)]
open Go.RowKit

inductive Fills (pl:List (Nat × Nat)):List Value→List (Nat × Value)→List Value→Prop
  | nil (cs):Fills pl cs [] cs
  | cons {cs cs1 cs2:List Value} {i off sz:Nat} {v:Value} {vs:List (Nat × Value)} (hf:pl[i]?=some (off,sz)) (hv:v.cells.size=sz) (hfit:off + sz≤cs.length)
      (hcs:over cs off v.cells.toList=cs1) (rest:Fills pl cs1 vs cs2):Fills pl cs ((i,v)::vs) cs2
theorem Fills.one {pl:List (Nat × Nat)} {cs cs1 cs2:List Value} {i off:Nat} {v:Value} {vs:List (Nat × Value)} (hf:pl[i]?=some (off,1)) (hv:v.oneCell'=true) (hfit:off < cs.length)
      (hcs:cs.set off v=cs1) (rest:Fills pl cs1 vs cs2):Fills pl cs ((i,v)::vs) cs2 :=
  .cons hf (by rw [cells_one hv]; rfl) hfit (by rw [cells_one hv,List.toList_toArray,over_one _ _ _ hfit]; exact hcs) rest
theorem Fills.many {pl:List (Nat × Nat)} {cs cs1 cs2:List Value} {i off sz:Nat} {xs:List Value} {vs:List (Nat × Value)} (hf:pl[i]?=some (off,sz)) (hv:xs.length=sz) (hfit:off + sz≤cs.length)
      (hcs:over cs off xs=cs1) (rest:Fills pl cs1 vs cs2):Fills pl cs ((i,.agg xs.toArray)::vs) cs2 :=
  .cons hf (by simpa [Value.cells] using hv) hfit (by simpa [Value.cells] using hcs) rest
theorem zipIdx_fold (l:List Value):∀ (k:Nat) (off:Nat) (cs:Array Value),off + k + l.length≤cs.size →
    (l.zipIdx k).foldl (fun cs (c,j)=>cs.setIfInBounds (off + j) c) cs=(over cs.toList (off + k) l).toArray:=by
  induction l with
  | nil=>intro k off cs h; simp [over]
  | cons u l ih =>
    intro k off cs h
    simp at h
    rw [List.zipIdx_cons,List.foldl_cons,ih (k + 1) off _ (by simp; omega)]
    congr 1
    apply List.ext_getElem?
    intro j
    rw [over_get _ _ _ _ (by simp; omega),over_get _ _ _ _ (by simp; omega)]
    simp only [Array.toList_setIfInBounds,List.getElem?_set,List.length_cons,Array.length_toList]
    by_cases h1:j < off + k
    · rw [if_pos (by omega),if_pos h1,if_neg (by omega)]
    · rw [if_neg h1]
      by_cases h2:j=off + k
      · subst h2
        rw [if_pos (by omega),if_pos rfl,if_pos (by omega),if_pos (by omega),Nat.sub_self]
        rfl
      · rw [if_neg (by omega)]
        by_cases h3:j < off + (k + 1) + l.length
        · rw [if_pos h3,if_pos (by omega),show j - (off + k)=(j - (off + (k + 1))) + 1 by omega]
          rfl
        · rw [if_neg h3,if_neg (by omega),if_neg (by omega)]
theorem Fills.run {pl:List (Nat × Nat)} {cs cs2:List Value} {vs:List (Nat × Value)} (h:Fills pl cs vs cs2):Instr.fill (pl.toArray[·]?) cs.toArray vs=some cs2.toArray:=by
  induction h with
  | nil=>rfl
  | cons hf hv hfit hcs rest ih =>
    rename_i cs cs1 cs2 i off sz v vs
    have hf':pl.toArray[i]?=some (off,sz):=by simpa using hf
    simp only [Instr.fill,hf']
    rw [if_neg (by simp [hv]; omega)]
    have hz:=zipIdx_fold v.cells.toList 0 off cs.toArray (by simp [hv]; omega)
    rw [Nat.add_zero] at hz
    rw [← Array.foldl_toList,Array.toList_zipIdx,hz,List.toList_toArray,hcs]
    exact ih
def placesOf (P:Program) (t:TypeId):Option (List (Nat × Nat)):=match P.underlying t with
  | some (.struct fields)=>fields.toList.mapM (fun f=>(P.info? f.type).map fun i=>(f.offset,i.size))
  | _=>none
section
variable {P:Program} {E:Env} {n:Nat} {K:Slots} {L:Res} {o:Oper} {C:Value→Res→Prop}
theorem Pu_build {t:TypeId} {ps:List (Nat × Operand)} {vs:List (Nat × Value)} {V:Value} (pl:List (Nat × Nat)) (zs:List Value) {cs:List Value} (ho:o.op = .build t ps.toArray) (hp:evP K ps=some vs) (hpl:placesOf P t=some pl)
    (hz:(P.info? t).bind (·.zero)=some (.agg zs.toArray)) (hf:Fills pl zs vs cs) (hV:.agg cs.toArray=V):Pure P E n o K L V:=fun a w hA hS=>by
  have hq:=evP_map hA hp
  have hm:(ps.toArray.map fun (i,x)=>(i,a.eval x))=vs.toArray:=by simp [← hq]
  subst hV
  have hb:P.built t vs.toArray.toList=some cs.toArray:=by
    unfold Program.built
    cases hi:P.info? t with
    | none=>simp [hi] at hz
    | some it =>
      simp only [hi,Option.bind_some] at hz
      unfold placesOf at hpl
      cases hu:P.underlying t with
      | none=>simp [hu] at hpl
      | some d =>
        cases d <;> simp only [hu] at hpl <;> first | cases hpl | skip
        simp only [hz,hpl,Value.cells]
        exact hf.run
  simp only [execOp,ho,hm,Sem.run_bind,run_build w t _ _ hb,Result.andThen_ok,Sem.run_pure]
theorem zero_run {t:TypeId} {z:Value} (h:(P.info? t).bind (·.zero)=some z):∀ w,(zeroValue t).run P w = .ok z w:=fun w=>by
  cases hi:P.info? t with
  | none=>simp [hi] at h
  | some i =>
    simp only [hi,Option.bind_some] at h
    simp [zeroValue,typeInfo,hi,h]
theorem OpT_storeAll {t r g te m:Nat} {x y:Operand} {cs vs:List Value} (ho:o.op = .store t x y) (hs:∀ w,(sizeOf t).run P w = .ok m w) (hx:evK K x=some (.pointer (some ⟨g,0,none⟩))) (hy:evK K y=some (.agg vs.toArray)) (hr:look L r=some (blk g te cs))
    (hl:cs.length=m) (hv:vs.length=m) (h1:∀ x ∈ vs,x.oneCell'=true) (k:C undef ((r,blk g te vs)::L)):OpT P E n o K L C :=
  OpT_storeB (u:=.agg vs.toArray) ho (by simp [Value.cells,hv]; exact hs) hx hy hr (by simp [Value.cells]; omega) (by simpa [Value.cells] using h1) (by simp only [Value.cells]; exact over_all _ _ (by omega)) k
theorem run_loadVarB {w:World} {t r g te m:Nat} {cs:List Value} (hS:Sat E L w) (hr:look L r=some (blk g te cs)) (ha:∀ w,(isAgg t).run P w = .ok true w) (hs:∀ w,(sizeOf t).run P w = .ok m w) (hm:cs.length=m):(loadVar t ⟨g,0,none⟩).run P w = .ok (.agg cs.toArray) w:=by
  obtain ⟨h,h1,h2⟩:=hS.read hr
  have h3:=run_loadCells_list (P:=P) w ⟨g,0,none⟩ cs (fun j u hu=>cellH_in h2 (by rw [addr_add0,blk_cell h1]; exact hu))
  rw [hm] at h3
  simp only [loadVar,Sem.run_bind,Sem.run_pure,Result.andThen_ok,ha,hs,if_true,h3]
theorem resC1 {fn:Func} {t d r g te m:Nat} {cs:List Value} (hr:fn.results = #[.cell d t]) (hd:look K d=some (.pointer (some ⟨g,0,none⟩))) (ha:∀ w,(isAgg t).run P w = .ok true w) (hs:∀ w,(sizeOf t).run P w = .ok m w) (hL:look L r=some (blk g te cs)) (hm:cs.length=m) :
    ∀ a w,Agr n K a→Sat E L w→(results fn a.tmps).run P w = .ok (.agg cs.toArray) w:=fun a w hA hS=>by
  have:=run_loadVarB hS hL ha hs hm
  simp [results,hr,hA.2.2 d _ hd,asAddr,this]
theorem resC2 {fn:Func} {t d u r g te m:Nat} {x:Value} {cs:List Value} (hr:fn.results = #[.cell d t,.tmp u]) (hd:look K d=some (.pointer (some ⟨g,0,none⟩))) (hx:look K u=some x) (ha:∀ w,(isAgg t).run P w = .ok true w) (hs:∀ w,(sizeOf t).run P w = .ok m w) (hL:look L r=some (blk g te cs)) (hm:cs.length=m) :
    ∀ a w,Agr n K a→Sat E L w→(results fn a.tmps).run P w = .ok (.tuple #[.agg cs.toArray,x]) w:=fun a w hA hS=>by
  have:=run_loadVarB hS hL ha hs hm
  simp [results,hr,hA.2.2 d _ hd,asAddr,this,hA.2.2 u _ hx]
end
theorem CallsS.imp {P:Program} {f:FuncId} {args:Array Value} {F:HP} {Ps:List HP} {R R':Value→List HP→Prop} (h:CallsS P f args F Ps R) (hR:∀ v Ps,R v Ps→R' v Ps):CallsS P f args F Ps R' :=
  fun E w hS=>(h E w hS).mono fun e w' ⟨v,Ps',h1,h2,h3⟩=>⟨v,Ps',h1,hR _ _ h2,h3⟩
section
variable {P:Program}
theorem run_shl (a k:Nat) (t:TypeId) (x y:Operand) {kd:IntKind} (h:a * 2 ^ k < 9223372036854775808) (hk:k≤64) (w:World):((do eqGuard .shl t x y (.int .i64 (a:Int)) (.int kd (k:Int)); binOp .shl t (.int .i64 (a:Int)) (.int kd (k:Int)):Sem Value)).run P w = .ok (.int .i64 ((a * 2 ^ k:Nat):Int)) w:=by
  have h1:¬ ((k:Int) < 0):=by omega
  have h2:min k IntKind.i64.bits=k:=by simp [IntKind.bits]; omega
  have h3:((a * 2 ^ k:Nat):Int)=(a:Int) * 2 ^ k:=by simp
  have h4:=IntWalk.i64_in ((a:Int) * 2 ^ k) (by rw [← h3]; omega)
  rw [h3]
  simp [eqGuard,binOp,Op.shift,h1,h2,h4]
theorem run_orJoin (a b k:Nat) (t:TypeId) (x y:Operand) (ha:a * 2 ^ k < 4611686018427387904) (hb:b < 2 ^ k) (hk:k≤62) (w:World):((do eqGuard .or t x y (.int .i64 ((a * 2 ^ k:Nat):Int)) (.int .i64 (b:Int)); binOp .or t (.int .i64 ((a * 2 ^ k:Nat):Int)) (.int .i64 (b:Int)):Sem Value)).run P w = .ok (.int .i64 ((a * 2 ^ k + b:Nat):Int)) w:=by
  have hb':b < 2 ^ 62:=Nat.lt_of_lt_of_le hb (Nat.pow_le_pow_right (by omega) hk)
  have p62:(2:Int) ^ 62=4611686018427387904:=by decide
  have q1:∀ n:Int,0≤n→n < 2 ^ 62→IntKind.i64.wrap n=n:=fun n h0 h1=>IntWalk.i64_in _ (by rw [p62] at h1; omega)
  have q2:((a * 2 ^ k:Nat):Int) % 2 ^ k=0:=by rw [Int.natCast_mul,Int.natCast_pow]; exact Int.mul_emod_left _ _
  have q3:((a * 2 ^ k:Nat):Int) < 2 ^ 62:=by rw [p62]; omega
  have e0:=bits_join .i64 62 (by decide) q1 k ((a * 2 ^ k:Nat):Int) (b:Int) (by omega) q2 q3 (by omega) (by exact_mod_cast hb) (by exact_mod_cast hb')
  simp only [eqGuard,Sem.run_bind,Sem.run_pure]
  rw [binOp_or,intBits_or,e0]
  rfl
end
open Go.RowKit
section
variable {P:Program} {E:Env} {n:Nat} {K:Slots} {L:Res} {o:Oper} {C:Value→Res→Prop}
theorem Pu_idxA {t e g off m:Nat} {x y:Operand} {kd:IntKind} {ix:Int} (ho:o.op = .indexAddr t x y) (hu:∀ w,(underlying t).run P w = .ok (.array m e) w) (hs:∀ w,(sizeOf e).run P w = .ok 1 w)
    (hx:evK K x=some (.pointer (some ⟨g,off,none⟩))) (hy:evK K y=some (.int kd ix)) (hi:0≤ix∧ix < (m:Int)):Pure P E n o K L (.pointer (some ⟨g,off + ix.toNat,none⟩)):=fun ac w hA hS=>by
  simp [execOp,ho,hA.eval hx,hA.eval hy,Instr.indexAt,asIntOf,hu,hs,hi,Instr.sureAddr,addr_add]
theorem Pu_index {t e m:Nat} {x y:Operand} {kd:IntKind} {ix:Int} {cs:List Value} {u:Value} (ho:o.op = .index t x y) (hu:∀ w,(underlying t).run P w = .ok (.array m e) w) (hs:∀ w,(sizeOf e).run P w = .ok 1 w) (ha:∀ w,(isAgg e).run P w = .ok false w)
    (hx:evK K x=some (.agg cs.toArray)) (hy:evK K y=some (.int kd ix)) (hi:0≤ix∧ix < (m:Int)) (hv:cs[ix.toNat]?=some u):Pure P E n o K L u:=fun ac w hA hS=>by
  simp [execOp,ho,hA.eval hx,hA.eval hy,Instr.index,asIntOf,hu,hs,hi,part,ha,hv]
theorem Pz9 {t r m k0 size sz:Nat} {x:Operand} {v:Value} {xs ys:List Value} {Pr:HP} (ho:o.op = .load t x) (ha:∀ w,(isAgg t).run P w = .ok true w) (hs:∀ w,(sizeOf t).run P w = .ok sz w) (hx:evK K x=some (.pointer (some ((adrOf v).add k0)))) (hr:look L r=some Pr)
    (hrd:∀ h,Pr h→rdP size v m xs h) (hl:ys.length=sz) (hpos:0 < sz) (hv:(xs.drop k0).take sz=ys):Pure P E n o K L (.agg ys.toArray) :=
  Pu_loadN ho ha hs hl hx hr (fun h hp j u hu=>by
    obtain ⟨h1,A,c,rfl,h3,h4,h5⟩:=hrd h hp
    have hu2:xs[k0 + j]?=some u:=by
      rw [← hv,List.getElem?_take] at hu
      split at hu
      · rw [List.getElem?_drop] at hu; exact hu
      · cases hu
    cases A with
    | none =>
      have:=h4 rfl
      have:=(List.getElem?_eq_some_iff.1 hu2).1
      rw [h1,show m=0 by omega,Nat.zero_mul] at this
      omega
    | some ad =>
      have:=h5 ad rfl _ _ hu2
      simp only [adrOf,add_of_add]
      exact this)
theorem run_or (a b k:Nat) (t:TypeId) (x y:Operand) (ha:a % 2 ^ k=0) (ha2:a < 4611686018427387904) (hb:b < 2 ^ k) (hk:k≤62) (w:World):((do eqGuard .or t x y (.int .i64 (a:Int)) (.int .i64 (b:Int)); binOp .or t (.int .i64 (a:Int)) (.int .i64 (b:Int)):Sem Value)).run P w = .ok (.int .i64 ((a + b:Nat):Int)) w:=by
  have e:a=a / 2 ^ k * 2 ^ k:=by have:=Nat.div_add_mod a (2 ^ k); rw [Nat.mul_comm]; omega
  have:=run_orJoin (P:=P) (a / 2 ^ k) b k t x y (by rw [← e]; exact ha2) hb hk w
  rw [← e] at this
  exact this
end
def orig (W:World):HP:=fun h=>∀ g o,W.heap[g]?=some o→h g=some o
theorem Rd.orig {W:World} {size:Nat} {v:Value} {n:Nat} {xs:List Value} (hr:Rd W size v n xs):∀ h,orig W h→rdP size v n xs h:=fun h ho=>by
  obtain ⟨h1,A,c,h2,h3,h4,h5⟩:=hr
  refine ⟨h1,A,c,h2,h3,h4,fun ad had j u hu=>?_⟩
  have hc:=(h5 ad had).2 j u hu
  unfold World.cell? at hc
  unfold cellH
  cases hb:W.heap[(ad.add j).block]? with
  | none=>simp [hb] at hc
  | some ob=>rw [ho _ _ hb]; rw [hb] at hc; exact hc
theorem calls_law {P:Program} {f:FuncId} {args:Array Value} {W:World} {r:Value} (spec:CallsS P f args (orig W) [] (fun v Ps=>v=r)):Calls P f args W (fun e W'=>e = .returned r∧Chg [] W W'):=by
  have hS:Sat ⟨W.os,W.tape,W.output⟩ (En 0 [orig W]) W:=by
    refine ⟨⟨rfl,rfl,rfl⟩,fun r g=>if r=0 then W.heap[g]? else none,?_,?_,?_⟩
    · intro r P hr
      rw [En] at hr
      by_cases h0:0=r
      · subst h0; rw [look_same] at hr; injection hr with hr; subst hr; intro g o h; simpa using h
      · rw [look_other h0] at hr; simp [En,look] at hr
    · intro r r' g hne hg
      by_cases h0:r=0
      · subst h0; simp [Ne.symm hne]
      · simp [h0] at hg
    · intro r g o h
      by_cases h0:r=0
      · simpa [h0] using h
      · simp [h0] at h
  refine (spec _ W hS).mono fun e W' ⟨v,Ps,he,hv,hS'⟩=>?_
  subst hv
  refine ⟨he,?_⟩
  obtain ⟨⟨e1,e2,e3⟩,hs,h1,h2,h3⟩:=hS'
  have ho:=h1 0 _ (look_same _ _ _)
  have hb:∀ k,k < W.heap.size→W'.heap[k]?=W.heap[k]?:=fun k hk=>by
    rw [Array.getElem?_eq_getElem hk]
    exact h3 0 k _ (ho k _ (Array.getElem?_eq_getElem hk))
  refine ⟨e1,e2,e3,?_,fun k hk _=>hb k hk⟩
  rcases Nat.lt_or_ge W'.heap.size W.heap.size with hlt | hge
  · have:=hb W'.heap.size hlt
    rw [Array.getElem?_eq_none (Nat.le_refl _),Array.getElem?_eq_getElem hlt] at this
    cases this
  · exact hge
def idsC (l:List (List UInt8)):List Value:=(l.map bs).flatten
def Ids (l:List (List UInt8)):Prop:=∀ x ∈ l,x.length=32
theorem idsC_length {l:List (List UInt8)} (h:Ids l):(idsC l).length=l.length * 32:=by
  induction l with
  | nil=>rfl
  | cons x l ih =>
    have h1:=ih (fun y hy=>h y (List.mem_cons_of_mem _ hy))
    have h2:=h x (List.mem_cons_self ..)
    simp only [idsC,List.map_cons,List.flatten_cons,List.length_append,bs_length,List.length_cons] at h1 ⊢
    rw [h1,h2]
    omega
theorem idsC_append (l m:List (List UInt8)):idsC (l++m)=idsC l++idsC m:=by simp [idsC]
theorem idsC_one (x:List UInt8):idsC [x]=bs x:=by simp [idsC]
theorem Ids.take {l:List (List UInt8)} (h:Ids l) (k:Nat):Ids (l.take k):=fun x hx=>h x (List.mem_of_mem_take hx)
theorem idsC_get {l:List (List UInt8)} (h:Ids l) {k:Nat} (hk:k < l.length):((idsC l).drop (k * 32)).take 32=bs (l.getD k []):=by
  have e:l=l.take k++(l.getD k []::l.drop (k + 1)):=by
    rw [show l.getD k []=l[k] by simp [hk]]
    rw [← List.drop_eq_getElem_cons hk,List.take_append_drop]
  have hx:(l.getD k []).length=32:=h _ (by rw [show l.getD k []=l[k] by simp [hk]]; exact List.getElem_mem hk)
  have hl:(idsC (l.take k)).length=k * 32:=by rw [idsC_length (h.take k),List.length_take,Nat.min_eq_left (by omega)]
  rw [congrArg idsC e,idsC_append,← hl,List.drop_left]
  show ((idsC ([l.getD k []]++l.drop (k + 1)))).take 32=_
  rw [idsC_append,idsC_one,List.take_append,bs_length,hx]
  rw [List.take_of_length_le (show (bs (l.getD k [])).length≤32 by rw [bs_length,hx]; omega),Nat.sub_self,List.take_zero,List.append_nil]
theorem Ids.get {l:List (List UInt8)} (h:Ids l) {k:Nat} (hk:k < l.length):(l.getD k []).length=32:=h _ (by rw [show l.getD k []=l[k] by simp [hk]]; exact List.getElem_mem hk)
abbrev rdI (v:Value) (l:List (List UInt8)):HP:=rdP 32 v l.length (idsC l)
theorem emod_neg {a n:Int} (hn:0 < n) (h:a.tmod n < 0):a.tmod n + n=a % n:=by
  have hb2:-n < a.tmod n:=by have:=Int.lt_tmod_of_pos a hn; omega
  have h1:=Int.mul_tdiv_add_tmod a n
  have h2:a % n=(a.tmod n) % n:=by
    conv=>lhs; rw [← h1]
    rw [Int.add_comm,Int.add_mul_emod_self_left]
  rw [h2,← Int.add_emod_right,Int.emod_eq_of_lt (by omega) (by omega)]
theorem emod_pos {a n:Int} (hn:0 < n) (h:¬ a.tmod n < 0):a.tmod n=a % n:=by
  have hb1:=Int.tmod_lt_of_pos a hn
  have h1:=Int.mul_tdiv_add_tmod a n
  have h2:a % n=(a.tmod n) % n:=by
    conv=>lhs; rw [← h1]
    rw [Int.add_comm,Int.add_mul_emod_self_left]
  rw [h2,Int.emod_eq_of_lt (by omega) (by omega)]
theorem tmod_bounds (a:Int) {n:Int} (hn:0 < n):-n < a.tmod n∧a.tmod n < n:=⟨by have:=Int.lt_tmod_of_pos a hn; omega,Int.tmod_lt_of_pos a hn⟩
theorem look_eq {L:Res} {r:Nat} {P P':HP} (h:look L r=some P) (e:P=P'):look L r=some P':=e ▸ h
theorem lookV_eq {K:Slots} {r:Nat} {v v':Value} (h:look K r=some v) (e:v=v'):look K r=some v':=e ▸ h
def rowI (e:TypeId) (v:Value) (l:List (List UInt8)):HP:=rowP e 32 v l.length (idsC l)
theorem rowI_of {e:TypeId} {v:Value} {n:Nat} {xs:List Value} (l:List (List UInt8)) (hn:n=l.length) (hx:xs=idsC l):rowP e 32 v n xs=rowI e v l:=by subst hn; subst hx; rfl
theorem rowI_rd {e:TypeId} {v:Value} {l:List (List UInt8)}:∀ h,rowI e v l h→rdI v l h:=fun h hr=>rp9 hr
theorem rd_id {v:Value} {l:List (List UInt8)} {k:Nat} {h:Hlt} (hr:rdI v l h) (hi:Ids l) (hk:k < l.length):rdB (.slice (some ((adrOf v).add (k * 32))) 32 32) (l.getD k []) h:=by
  have hx:=hi.get hk
  obtain ⟨h1,A,c,rfl,h3,h4,h5⟩:=hr
  unfold rdB
  rw [hx]
  refine ⟨by rw [bs_length,hx],some ((adrOf (.slice A l.length c)).add (k * 32)),32,rfl,Nat.le_refl _,fun h=>(by cases h),fun ad had j u hu=>?_⟩
  injection had with had
  subst had
  cases A with
  | none=>have:=h4 rfl; omega
  | some ad =>
    have hg:=idsC_get hi hk
    have hu2:(idsC l)[k * 32 + j]?=some u:=by
      rw [← hg,List.getElem?_take] at hu
      split at hu
      · rw [List.getElem?_drop] at hu; exact hu
      · cases hu
    simp only [adrOf,add_of_add]
    exact h5 ad rfl _ _ hu2
theorem idsC_set {l:List (List UInt8)} (h:Ids l) {k:Nat} (hk:k < l.length) {x:List UInt8} (hx:x.length=32):over (idsC l) (k * 32) (bs x)=idsC (l.set k x):=by
  have e:l=l.take k++(l.getD k []::l.drop (k + 1)):=by
    rw [show l.getD k []=l[k] by simp [hk]]
    rw [← List.drop_eq_getElem_cons hk,List.take_append_drop]
  have hl:(idsC (l.take k)).length=k * 32:=by rw [idsC_length (h.take k),List.length_take,Nat.min_eq_left (by omega)]
  have e2:l.set k x=l.take k++([x]++l.drop (k + 1)):=by
    rw [List.set_eq_take_append_cons_drop,if_pos hk]; rfl
  rw [e2,idsC_append,idsC_append,idsC_one]
  conv=>lhs; rw [congrArg idsC e]
  rw [idsC_append,← hl]
  show over (idsC (l.take k)++idsC ([l.getD k []]++l.drop (k + 1))) _ _=_
  rw [idsC_append,idsC_one]
  exact over_mid _ _ _ _ (by rw [bs_length,bs_length,h.get hk,hx])
section
variable {P:Program} {E:Env} {n:Nat} {K:Slots} {L:Res} {o:Oper} {C:Value→Res→Prop}
theorem Pu_sliceArrE {t e m:Nat} {x:Operand} {ad:Addr} (ho:o.op = .slice t x none none none) (hu:∀ w,(underlying t).run P w = .ok (.array m e) w) (hs:∀ w,(sizeOf e).run P w = .ok 1 w) (hx:evK K x=some (.pointer (some ad))):Pure P E n o K L (.slice (some ad) m m):=fun ac w hA hS=>by
  simp only [execOp,ho,hA.eval hx,Option.map_none,Sem.run_bind,Instr.sliceAt,hu,hs,Result.andThen_ok,Instr.sureAddr,Instr.sliceBounds,Sem.run_pure]
  by_cases hm:m=0 <;> simp [hm,Addr.add]
theorem fill_cons {place:Nat→Option (Nat × Nat)} {i off sz:Nat} {v:Value} {cs:Array Value} {rest:List (Nat × Value)} (h:place i=some (off,sz)) (hv:v.cells.size=sz) (hfit:off + sz≤cs.size) :
    Instr.fill place cs ((i,v)::rest)=Instr.fill place (v.cells.zipIdx.foldl (fun cs (c,j)=>cs.setIfInBounds (off + j) c) cs) rest:=by
  simp only [Instr.fill,h]
  rw [if_neg (by simp [hv]; omega)]
theorem flatten_len {rows:List (List Value)} {sz:Nat} (hr:∀ r ∈ rows,r.length=sz):rows.flatten.length=rows.length * sz:=by
  induction rows with
  | nil=>simp
  | cons r l ih =>
    rw [List.flatten_cons,List.length_append,hr r (by simp),ih (fun x hx=>hr x (by simp [hx])),List.length_cons,Nat.add_mul]
    omega
theorem run_buildSlice_rows {t e sz m:Nat} {parts:List (Nat × Value)} (w:World) (hu:∀ w,(underlying t).run P w = .ok (.slice e) w) (hs:∀ w,(sizeOf e).run P w = .ok sz w) (rows:List (List Value)) (z:Value) (hz:∀ w,(zeroValue e).run P w = .ok z w) (hz1:z.cells.size=sz) (hpos:0 < sz) (hm:rows.length=m) (hsm:m * sz≤16777216)
    (hr:∀ r ∈ rows,r.length=sz) (hp:parts=((rows.map fun r=>Value.agg r.toArray).zipIdx 0).map (fun p=>(p.2,p.1))):(Instr.buildSlice t m parts.toArray).run P w = .ok (.slice (some ⟨w.heap.size,0,none⟩) m m) (w.alloc (.cells rows.flatten.toArray e)):=by
  have key:∀ (l:List (List Value)) (pre:List Value) (k:Nat) (suf:List Value),pre.length=k * sz→suf.length=l.length * sz→(∀ r ∈ l,r.length=sz) →
      Instr.fill (fun i=>some (i * sz,sz)) (pre++suf).toArray (((l.map fun r=>Value.agg r.toArray).zipIdx k).map fun p=>(p.2,p.1))=some (pre++l.flatten).toArray:=by
    intro l
    induction l with
    | nil=>intro pre k suf h1 h2 _; have:suf=[]:=List.eq_nil_of_length_eq_zero (by simpa using h2); subst this; simp [Instr.fill]
    | cons r l ih =>
      intro pre k suf h1 h2 h3
      have hr:=h3 r (by simp)
      have hsl:suf.length=sz + l.length * sz:=by rw [h2]; simp [Nat.add_mul]; omega
      rw [List.map_cons,List.zipIdx_cons,List.map_cons]
      rw [fill_cons (off:=k * sz) (sz:=sz) rfl (by simpa [Value.cells] using hr) (by simp [h1]; omega)]
      simp only [Value.cells]
      have hzf:=zipIdx_fold r 0 (k * sz) (pre++suf).toArray (by simp [hr,h1]; omega)
      rw [Nat.add_zero] at hzf
      rw [← Array.foldl_toList,Array.toList_zipIdx,List.toList_toArray,hzf,List.toList_toArray]
      have e:over (pre++suf) (k * sz) r=(pre++r)++suf.drop sz:=by
        rw [← h1]
        conv=>lhs; rw [← List.take_append_drop sz suf]
        rw [over_mid pre (suf.take sz) r (suf.drop sz) (by rw [List.length_take,hr]; omega),List.append_assoc]
      rw [e]
      have:=ih (pre++r) (k + 1) (suf.drop sz) (by simp [h1,hr,Nat.add_mul]) (by simp; omega) (fun x hx=>h3 x (by simp [hx]))
      rw [this]
      simp
  unfold Instr.buildSlice
  simp only [Sem.run_bind,hu,hs,Result.andThen_ok]
  rw [if_neg (by omega)]
  by_cases h0:m * sz=0
  · have hm0:m=0:=by rcases Nat.mul_eq_zero.1 h0 with h | h <;> omega
    subst hm0
    have hc:rows=[]:=List.eq_nil_of_length_eq_zero hm
    subst hc
    simp at hp
    subst hp
    have hr0:Array.range 0 = #[]:=by apply Array.ext <;> simp
    simp [Instr.fill,newRow,newObj,Sem.run,hr0]
  · have hzl:(((Array.range (m * sz)).map (fun x=>z.cells[x % z.cells.size]!)).toList).length=rows.length * sz:=by simp [hm]
    have:=key rows [] 0 ((Array.range (m * sz)).map (fun x=>z.cells[x % z.cells.size]!)).toList (by simp) hzl hr
    rw [← hp] at this
    simp only [List.nil_append,Array.toArray_toList] at this
    rw [if_neg h0]
    simp only [Sem.run_bind,Sem.run_pure,Result.andThen_ok,hz,this,newRow,newObj,Sem.run]
    rfl
theorem OpT_buildRows {t e len sz r:Nat} {ps:List (Nat × Operand)} {vs:List (Nat × Value)} (rows:List (List Value)) {z:Value} (ho:o.op = .buildSlice t len ps.toArray) (hp:evP K ps=some vs) (hu:∀ w,(underlying t).run P w = .ok (.slice e) w) (hs:∀ w,(sizeOf e).run P w = .ok sz w)
    (hz:∀ w,(zeroValue e).run P w = .ok z w) (hz1:z.cells.size=sz) (hpos:0 < sz) (hlen:rows.length=len) (hsm:len * sz≤16777216) (hr:∀ r ∈ rows,r.length=sz) (hv:vs=((rows.map fun r=>Value.agg r.toArray).zipIdx 0).map (fun p=>(p.2,p.1)))
    (k:∀ v,C v ((r,rowP e sz v len rows.flatten)::L)):OpT P E n o K L C:=by
  have hfl:rows.flatten.length=len * sz:=by rw [← hlen]; exact flatten_len hr
  have hle:len≤len * sz:=Nat.le_mul_of_pos_right _ hpos
  exact OpT_buildSlice ho hp hfl (by unfold maxLen; omega) (fun w=>run_buildSlice_rows w hu hs rows z hz hz1 hpos hlen hsm hr hv) k
end
theorem made_ids (n:Nat):(madeCells (Value.agg (bs zeroId).toArray).cells (n * 32)).toList=idsC (List.replicate n zeroId):=by
  apply List.ext_getElem?
  intro j
  have hl:(idsC (List.replicate n zeroId)).length=n * 32:=by rw [idsC_length (fun x hx=>by rw [List.eq_of_mem_replicate hx]; rfl),List.length_replicate]
  by_cases hj:j < n * 32
  · have hz:∀ x ∈ idsC (List.replicate n zeroId),x = .int .u8 0:=by
      intro x hx
      simp only [idsC,List.mem_flatten,List.mem_map] at hx
      obtain ⟨ys,⟨y,hy,rfl⟩,hx⟩:=hx
      rw [List.eq_of_mem_replicate hy] at hx
      simp only [bs,List.mem_map,zeroId] at hx
      obtain ⟨b,hb,rfl⟩:=hx
      rw [List.eq_of_mem_replicate hb]
      rfl
    rw [List.getElem?_eq_getElem (l:=idsC (List.replicate n zeroId)) (by rw [hl]; exact hj),hz _ (List.getElem_mem _)]
    have h32:j % 32 < 32:=Nat.mod_lt _ (by omega)
    simp only [madeCells,Value.cells,Array.toList_map,Array.toList_range,List.getElem?_map,List.getElem?_range hj,Option.map_some]
    have hsz:(bs zeroId).toArray.size=32:=rfl
    rw [hsz]
    have hget:(bs zeroId).toArray[j % 32]! = .int .u8 0:=by
      have:∀ k,k < 32→(bs zeroId).toArray[k]! = .int .u8 0:=by
        intro k hk
        have:(bs zeroId)[k]?=some (.int .u8 0):=by rw [bs_get,show zeroId[k]?=some 0 from by unfold zeroId; rw [List.getElem?_replicate,if_pos hk]]; rfl
        simp [getElem!_def,this]
      exact this _ h32
    rw [hget]
  · rw [List.getElem?_eq_none (by simp [madeCells]; omega),List.getElem?_eq_none (by omega)]
open Go.RowKit

def strB (l:List UInt8):ByteArray:=⟨l.toArray⟩
theorem strB_toList (l:List UInt8):(strB l).toList=l:=by rw [ByteArray.toList_eq]; simp [strB]

section
variable {P:Program} {w:World}
theorem conv_rd {v:Value} {l:List UInt8} (h:RdB w v l) (src e:TypeId) (hs:P.underlying src=some (.slice e)) (he:P.underlying e=some (.int .u8)) (dst:TypeId) (hd:P.underlying dst=some .string) :
    (convert src dst v).run P w = .ok (.string (strB l)) w:=by
  obtain ⟨hlen,A,c,rfl,hnc,h0,hrd⟩:=h
  cases A with
  | none =>
    have hc:=h0 rfl
    have hl0:l.length=0:=by omega
    have hnil:l=[]:=List.eq_nil_of_length_eq_zero hl0
    subst hnil
    exact run_convert_bytes_nil w src e hs he _ _ dst hd
  | some ad =>
    obtain ⟨_,hc⟩:=hrd ad rfl
    have hl:(loadCells ad l.length).run P w = .ok ((l.map fun x=>(x.toNat:Int)).map (Value.int .u8)).toArray w:=by
      have:=run_loadCells_list (P:=P) w ad (bs l) hc
      rw [bs_length] at this
      rw [this]
      simp [bs,bv,Function.comp_def]
    rw [run_convert_bytes_string w src dst e _ _ _ hs he hd,run_bytesToString w _ _ _ _ hl,foldl_push_bytes]
    simp [strB,ByteArray.empty,ByteArray.emptyWithCapacity,Function.comp_def]
    rfl
theorem RdB.mark (w:World) (e:TypeId) (C:Array Value) (k:Nat × Nat) (l:List UInt8) (n:Nat) (hC:C=(bs l).toArray) (hn:l.length=n):RdB (w.alloc (.cells C e k)) (.slice (some ⟨w.heap.size,0,none⟩) n n) l:=by
  subst hn; subst hC
  refine ⟨by simp [bs_length],some ⟨w.heap.size,0,none⟩,l.length,rfl,Nat.le_refl _,(fun h=>by cases h),fun ad had=>?_⟩
  injection had with had
  subst had
  refine ⟨fun _=>by simp,fun j u hu=>?_⟩
  have hadd:(⟨w.heap.size,0,none⟩:Addr).add j=⟨w.heap.size,j,none⟩:=by unfold Addr.add; split <;> simp_all
  have hh:(w.alloc (.cells (bs l).toArray e k)).heap[w.heap.size]?=some (.cells (bs l).toArray e k):=heap_alloc_new w _
  rw [hadd]
  simp only [World.cell?,hh]
  simpa using hu
end
open Go.RowKit
section
variable {P:Program} {E:Env} {n:Nat} {K:Slots} {L:Res} {Q:Exit→Act→World→Prop} {o:Oper} {C:Value→Res→Prop} {ops:Array Oper} {l:List Oper} {c:Code}
theorem W_fact {r:Nat} {Pr:HP} {φ:Prop} (hr:look L r=some Pr) (hp:∀ h,Pr h→φ) (k:φ→W P E n c K L Q):W P E n c K L Q:=fun a w hA hS=>k (hS.get hr hp) a w hA hS
theorem WL_fact {r:Nat} {Pr:HP} {φ:Prop} (hr:look L r=some Pr) (hp:∀ h,Pr h→φ) (k:φ→WL P E n ops l K L Q):WL P E n ops l K L Q:=fun a w hA hS=>k (hS.get hr hp) a w hA hS
theorem X_fact {e:Exit} {r:Nat} {Pr:HP} {φ:Prop} (hr:look L r=some Pr) (hp:∀ h,Pr h→φ) (k:φ→X E n Q e K L):X E n Q e K L:=fun a w hA hS=>k (hS.get hr hp) a w hA hS
theorem rd_one {size:Nat} {v:Value} {n:Nat} {xs:List Value} {h:Hlt} (hr:rdP size v n xs h):v.oneCell'=true:=by
  obtain ⟨_,A,c,rfl,_⟩:=hr
  rfl
theorem Wt9 {P':HP} (r:Nat) {Pr:HP} (hr:look L r=some Pr) (hp:∀ h,Pr h→P' h) (k:W P E n c K ((r,P')::L) Q):W P E n c K L Q:=fun a w hA hS=>k a w hA (hS.cons hr hp)
theorem X_turn {P':HP} {e:Exit} (r:Nat) {Pr:HP} (hr:look L r=some Pr) (hp:∀ h,Pr h→P' h) (k:X E n Q e K ((r,P')::L)):X E n Q e K L:=fun a w hA hS=>k a w hA (hS.cons hr hp)
theorem rdB_RdB {v:Value} {l:List UInt8} {h:Hlt} {w:World} (hr:rdB v l h) (hi:In h w):RdB w v l:=rdP_Rd hr hi Nat.one_pos
theorem Pu_convBS {s d e r:Nat} {x:Operand} {v:Value} {l:List UInt8} {Pr:HP} (ho:o.op = .convert s d x) (hs:P.underlying s=some (.slice e)) (he:P.underlying e=some (.int .u8)) (hd:P.underlying d=some .string) (hx:evK K x=some v)
    (hr:look L r=some Pr) (hrd:∀ h,Pr h→rdB v l h):Pure P E n o K L (.string (strB l)):=fun a w hA hS=>by
  obtain ⟨h,h1,h2⟩:=hS.read hr
  have:=conv_rd (P:=P) (rdB_RdB (hrd h h1) h2) s e hs he d hd
  simp only [execOp,ho,hA.eval hx,Sem.run_bind,this]; rfl
theorem run_strNe (a b:List UInt8) (t:TypeId) (x y:Operand) (w:World):((do eqGuard .neq t x y (.string (strB a)) (.string (strB b)); binOp .neq t (.string (strB a)) (.string (strB b)):Sem Value)).run P w = .ok (.bool (!(a == b))) w:=by
  simp [eqGuard,binOp,Op.stringOp,bne,strB_toList]
theorem run_addU8 (a b:UInt8) (t:TypeId) (x y:Operand) (w:World):((do eqGuard .add t x y (bv a) (bv b); binOp .add t (bv a) (bv b):Sem Value)).run P w = .ok (bv (a + b)) w:=by
  have:IntKind.u8.wrap ((a.toNat:Int) + (b.toNat:Int))=((a + b).toNat:Int):=by
    rw [u8_wrap,UInt8.toNat_add]; omega
  simp [bv,eqGuard,binOp,Op.intArith,this]
end
def Within (G:HP) (Js:List HP):Prop:=∀ h,G h→starL Js h
theorem Within.rd {G:HP} {Js:List HP} {P:HP} (hw:Within G Js) (k:Nat) (hk:Js[k]?=some P) {size:Nat} {v:Value} {n:Nat} {xs:List Value} (hp:∀ h,P h→rdP size v n xs h):∀ h,G h→rdP size v n xs h:=fun h hg=>rs9 k hk hp h (hw h hg)
theorem Within.orig {G:HP} {Js:List HP} {W:World} (hw:Within G Js) (k:Nat) (hk:Js[k]?=some (Proofs.Ytinamipkpdlphaa.orig W)):∀ h,G h→Proofs.Ytinamipkpdlphaa.orig W h:=fun h hg g o hgo=>by
  obtain ⟨hs,h1,_,h3⟩:=hw h hg
  exact h3 k g o (h1 k _ hk g o hgo)
inductive EqF (P:Program) (d:Nat) (xs ys:Array Value) (w:World):List (String × Nat × Nat)→Bool→Prop
  | nil:EqF P d xs ys w [] true
  | cons {nm:String} {t off:Nat} {fs:List (String × Nat × Nat)} {a b:Value} {r r':Bool} (hn:nm ≠ "_") (ha:(part t xs off).run P w = .ok a w) (hb:(part t ys off).run P w = .ok b w) (hr:(Op.equalIn d t a b).run P w = .ok r w) (h:EqF P d xs ys w fs r'):EqF P d xs ys w ((nm,t,off)::fs) (r && r')
theorem EqF.run {P:Program} {d:Nat} {xs ys:Array Value} {w:World}:∀ {fs:List Field} {gs:List (String × Nat × Nat)} {r:Bool},fs.map (fun f=>(f.name,f.type,f.offset))=gs→EqF P d xs ys w gs r→(Op.eqFields d xs ys fs).run P w = .ok r w
  | [],gs,r,hg,h=>by
    simp at hg
    subst hg
    cases h
    simp [Op.eqFields]
  | f::fs,gs,r,hg,h=>by
    rw [List.map_cons] at hg
    subst hg
    cases h with
    | cons hn ha hb hr h =>
      have ih:=EqF.run rfl h
      rename_i a b r r'
      simp only [Op.eqFields,hn,ne_eq,not_false_eq_true,if_true,Sem.run_bind,ha,hb,hr,Result.andThen_ok]
      cases r with
      | false=>simp
      | true=>simpa using ih
def is (l:List Int):List Value:=l.map (Value.int .i64)
theorem is_at {l:List Int} {k:Nat} (h:k < l.length):(is l)[k]?=some (.int .i64 (l.getD k 0)):=by simp [is,h]
abbrev rdN (v:Value) (l:List Int):HP:=rdP 1 v l.length (is l)
open Go.RowKit
section
variable {P:Program} {E:Env} {n:Nat} {K:Slots} {L:Res} {o:Oper} {C:Value→Res→Prop}
def nilV:Value→Bool
  | .slice none _ _=>true
  | _=>false
theorem rdP_nil {size n:Nat} {v:Value} {xs:List Value} {h:Hlt} (hr:rdP size v n xs h) (hn:nilV v=true):n=0:=by
  obtain ⟨_,A,c,rfl,h3,h4,_⟩:=hr
  cases A with
  | none=>have:=h4 rfl; omega
  | some a=>cases hn
theorem run_equalNil {t e:TypeId} (hu:P.underlying t=some (.slice e)) (d:Nat) (A:Option Addr) (m c:Nat) (w:World):(Op.equalIn (d + 1) t (.slice A m c) (.slice none 0 0)).run P w = .ok A.isNone w:=by
  unfold Op.equalIn
  cases A <;> simp [run_underlying hu]
theorem run_eqNil {t e:TypeId} (hu:P.underlying t=some (.slice e)) (A:Option Addr) (m c:Nat) (x y:Operand) (w:World):((do eqGuard .eql t x y (.slice A m c) (.slice none 0 0); binOp .eql t (.slice A m c) (.slice none 0 0):Sem Value)).run P w = .ok (.bool A.isNone) w:=by
  have h:=run_equalNil (P:=P) hu 9999 A m c w
  simp only [eqGuard,binOp,Op.equal,Sem.run_bind,Sem.run_pure,Result.andThen_ok]
  simp [show Op.maxDepth=9999 + 1 from rfl,h]
theorem Pu_eqNil {t e r m:Nat} {size:Nat} {x y:Operand} {v:Value} {xs:List Value} {Pr:HP} {ty:TypeId} (ho:o.op = .binOp .eql t x y ty) (hu:P.underlying t=some (.slice e)) (hx:evK K x=some v) (hy:evK K y=some (.slice none 0 0))
    (hr:look L r=some Pr) (hrd:∀ h,Pr h→rdP size v m xs h):Pure P E n o K L (.bool (nilV v)):=fun a w hA hS=>by
  obtain ⟨A,c,hv⟩:∃ A c,v = .slice A m c:=hS.get hr (fun h hp=>rdP_slice (hrd h hp))
  subst hv
  have h2:nilV (.slice A m c)=A.isNone:=by cases A <;> rfl
  rw [h2]
  exact Pn9 ho hx hy (fun w=>run_eqNil (P:=P) hu A m c x y w) a w hA hS
theorem AH_fact {Q:Exit→Act→World→Prop} {ops:Array Oper} {S:Res} {fuel:Nat} {listed:Array Bool} {r:Nat} {Pr:HP} {φ:Prop} (hr:look L r=some Pr) (hp:∀ h,Pr h→φ) (k:φ→AH P E n ops S fuel listed K L Q):AH P E n ops S fuel listed K L Q:=fun a w hA hS hh=>k (hS.get hr hp) a w hA hS hh
end
open Go.RowKit
def emp:HP:=fun _=>True
theorem Sat.split {E:Env} {L:Res} {w:World} (hS:Sat E L w) {r b:Nat} {Pr:HP} {Ps:List HP} (hr:look L r=some Pr) (hp:∀ h,Pr h→starL Ps h):Sat E (En b Ps++(r,emp)::L) w:=by
  obtain ⟨e,hs,h1,h2,h3⟩:=hS
  obtain ⟨hk,k1,k2,k3⟩:=hp _ (h1 r Pr hr)
  refine ⟨e,fun q=>if b≤q∧q < b + Ps.length then hk (q - b) else if q=r then fun _=>none else hs q,?_,?_,?_⟩
  · intro q P h
    rw [look_append] at h
    by_cases hq:b≤q∧q < b + Ps.length
    · simp only [hq,and_self,if_true]
      have hl:=look_En Ps b (q - b)
      rw [show b + (q - b)=q by omega,List.getElem?_eq_getElem (show q - b < Ps.length by omega)] at hl
      rw [hl] at h
      simp at h
      subst h
      exact k1 _ _ (List.getElem?_eq_getElem (show q - b < Ps.length by omega))
    · simp only [hq,if_false]
      have hl:look (En b Ps) q=none:=by
        rcases Nat.lt_or_ge q b with h' | h'
        · exact look_En_lt _ _ _ h'
        · have:=look_En Ps b (q - b)
          rw [show b + (q - b)=q by omega] at this
          rw [this,List.getElem?_eq_none (by omega)]
      rw [hl] at h
      simp at h
      by_cases hqr:q=r
      · subst hqr
        rw [look_same] at h
        injection h with h
        subst h
        trivial
      · rw [look_other (Ne.symm hqr)] at h
        simpa [hqr] using h1 q P h
  · intro q q' g hne hg
    by_cases hq:b≤q∧q < b + Ps.length
    · simp only [hq,and_self,if_true] at hg
      by_cases hq':b≤q'∧q' < b + Ps.length
      · simp only [hq',and_self,if_true]
        exact k2 _ _ g (by omega) hg
      · simp only [hq',if_false]
        by_cases hqr:q'=r
        · simp [hqr]
        · simp only [hqr,if_false]
          obtain ⟨o,ho⟩:=Option.isSome_iff_exists.1 hg
          exact h2 r q' g (Ne.symm hqr) (by rw [k3 _ _ _ ho]; rfl)
    · simp only [hq,if_false] at hg
      by_cases hqr:q=r
      · simp [hqr] at hg
      · simp only [hqr,if_false] at hg
        by_cases hq':b≤q'∧q' < b + Ps.length
        · simp only [hq',and_self,if_true]
          cases hv:hk (q' - b) g with
          | none=>rfl
          | some o =>
            have:=h2 q r g hqr hg
            rw [k3 _ _ _ hv] at this
            cases this
        · simp only [hq',if_false]
          by_cases hqr':q'=r
          · simp [hqr']
          · simp only [hqr',if_false]
            exact h2 q q' g hne hg
  · intro q g o hg
    by_cases hq:b≤q∧q < b + Ps.length
    · simp only [hq,and_self,if_true] at hg
      exact h3 r g o (k3 _ _ _ hg)
    · simp only [hq,if_false] at hg
      by_cases hqr:q=r
      · simp [hqr] at hg
      · simp only [hqr,if_false] at hg
        exact h3 q g o hg
theorem Sat.join {E:Env} {L:Res} {w:World} (hS:Sat E L w) {J:List Nat} {Js:List HP} (r:Nat) (hJ:LookAll L J Js) (hn:J.Nodup) {P':HP} (hP:∀ h,starL Js h→P' h):Sat E ((r,P')::(J.map (·,emp)++L)) w:=by
  obtain ⟨e,hs,h1,h2,h3⟩:=hS
  obtain ⟨jl,jg⟩:=hJ.get
  have uJ:∀ j g o,j ∈ J→hs j g=some o→J.findSome? (fun j=>hs j g)=some o:=by
    intro j g o hj ho
    cases hf:J.findSome? (fun j=>hs j g) with
    | none =>
      have:=List.findSome?_eq_none_iff.1 hf j hj
      rw [ho] at this
      cases this
    | some o' =>
      obtain ⟨j',hj',ho'⟩:=List.exists_of_findSome?_eq_some hf
      by_cases hjj:j=j'
      · subst hjj; rw [ho] at ho'; rw [ho']
      · have:=h2 j j' g hjj (by rw [ho]; rfl)
        rw [this] at ho'
        cases ho'
  refine ⟨e,fun q=>if q=r then (fun g=>J.findSome? (fun j=>hs j g)) else if q ∈ J then (fun _=>none) else hs q,?_,?_,?_⟩
  · intro q P h
    by_cases hqr:q=r
    · subst hqr
      rw [look_same] at h
      injection h with h
      subst h
      simp only [if_true]
      refine hP _ ⟨fun k=>hOf hs J[k]?,fun k P hk=>?_,fun k k' g hne hg=>?_,fun k g o ho=>?_⟩
      · have hkl:k < J.length:=by rw [jl]; exact (List.getElem?_eq_some_iff.1 hk).1
        have hi:J[k]?=some J[k]:=List.getElem?_eq_getElem hkl
        simp only [hi,hOf]
        exact h1 _ P (jg k _ P hi hk)
      · cases hi:J[k]? with
        | none=>simp [hi,hOf] at hg
        | some i =>
          simp only [hi,hOf] at hg
          cases hj:J[k']? with
          | none=>simp only [hOf, *]
          | some j=>simp only [hj,hOf]; exact h2 i j g (fun hij=>hne (nodup_get hn hi (hij ▸ hj))) hg
      · cases hi:J[k]? with
        | none=>simp [hi,hOf] at ho
        | some i =>
          simp only [hi,hOf] at ho
          exact uJ i g o (List.mem_of_getElem? hi) ho
    · rw [look_other (Ne.symm hqr),look_append] at h
      simp only [hqr,if_false]
      have hl:∀ J:List Nat,look (J.map (·,emp)) q=if q ∈ J then some emp else none:=by
        intro J
        induction J with
        | nil=>rfl
        | cons j J ih =>
          rw [List.map_cons]
          by_cases hjq:j=q
          · subst hjq; rw [look_same]; simp
          · rw [look_other hjq,ih]
            by_cases hm:q ∈ J
            · simp [hm]
            · simp [hm,Ne.symm hjq]
      rw [hl] at h
      by_cases hm:q ∈ J
      · simp [hm] at h ⊢
        subst h
        trivial
      · simp [hm] at h ⊢
        exact h1 q P h
  · intro q q' g hne hg
    by_cases hq:q=r
    · subst hq
      simp only [if_true] at hg
      have hq':¬ q'=q:=Ne.symm hne
      simp only [hq',if_false]
      by_cases hm:q' ∈ J
      · simp [hm]
      · simp only [hm,if_false]
        obtain ⟨o,ho⟩:=Option.isSome_iff_exists.1 hg
        obtain ⟨j,hj,ho'⟩:=List.exists_of_findSome?_eq_some ho
        exact h2 j q' g (fun h=>hm (h ▸ hj)) (by rw [ho']; rfl)
    · simp only [hq,if_false] at hg
      by_cases hm:q ∈ J
      · simp [hm] at hg
      · simp only [hm,if_false] at hg
        by_cases hq':q'=r
        · simp only [hq',if_true]
          cases hv:J.findSome? (fun j=>hs j g) with
          | none=>rfl
          | some o =>
            obtain ⟨j,hj,ho'⟩:=List.exists_of_findSome?_eq_some hv
            have:=h2 q j g (fun h=>hm (h ▸ hj)) hg
            rw [this] at ho'
            cases ho'
        · simp only [hq',if_false]
          by_cases hm':q' ∈ J
          · simp [hm']
          · simp only [hm',if_false]
            exact h2 q q' g hne hg
  · intro q g o hg
    by_cases hq:q=r
    · simp only [hq,if_true] at hg
      obtain ⟨j,hj,ho'⟩:=List.exists_of_findSome?_eq_some hg
      exact h3 j g o ho'
    · simp only [hq,if_false] at hg
      by_cases hm:q ∈ J
      · simp [hm] at hg
      · simp only [hm,if_false] at hg
        exact h3 q g o hg
section
variable {P:Program} {E:Env} {n:Nat} {K:Slots} {L:Res} {Q:Exit→Act→World→Prop} {c:Code} {e:Exit}
theorem W_join (J:List Nat) {Js:List HP} (r:Nat) (P':HP) (hJ:lookL L J=some Js) (hn:J.Nodup) (hP:∀ h,starL Js h→P' h) (k:W P E n c K ((r,P')::(J.map (·,emp)++L)) Q):W P E n c K L Q:=fun a w hA hS=>k a w hA (hS.join r (.of hJ) hn hP)
theorem X_join (J:List Nat) {Js:List HP} (r:Nat) (P':HP) (hJ:lookL L J=some Js) (hn:J.Nodup) (hP:∀ h,starL Js h→P' h) (k:X E n Q e K ((r,P')::(J.map (·,emp)++L))):X E n Q e K L:=fun a w hA hS=>k a w hA (hS.join r (.of hJ) hn hP)
end
theorem starL_one {P:HP} {h:Hlt} (hp:P h):starL [P] h:=by
  refine ⟨fun k=>if k=0 then h else fun _=>none,fun k Q hk=>?_,fun k k' g hne hg=>?_,fun k g o ho=>?_⟩
  · cases k with
    | zero=>simp at hk; subst hk; simpa using hp
    | succ k=>simp at hk
  · by_cases h1:k=0
    · simp [h1] at hne; simp [Ne.symm hne]
    · simp [h1] at hg
  · by_cases h1:k=0
    · simpa [h1] using ho
    · simp [h1] at ho
theorem X_ren {E:Env} {n:Nat} {K:Slots} {L:Res} {Q:Exit→Act→World→Prop} {e:Exit} (r b:Nat) {Pr:HP} (hr:look L r=some Pr) (k:X E n Q e K ((b,Pr)::(r,emp)::L)):X E n Q e K L:=fun a w hA hS=>k a w hA (hS.split (b:=b) (Ps:=[Pr]) hr fun h hp=>starL_one hp)
theorem W_ren {P:Program} {E:Env} {n:Nat} {K:Slots} {L:Res} {Q:Exit→Act→World→Prop} {c:Code} (r b:Nat) {Pr:HP} (hr:look L r=some Pr) (k:W P E n c K ((b,Pr)::(r,emp)::L) Q):W P E n c K L Q:=fun a w hA hS=>k a w hA (hS.split (b:=b) (Ps:=[Pr]) hr fun h hp=>starL_one hp)
def idV (k:List UInt8):Value:=.agg (bs k).toArray
def findI (k:List UInt8):List (List UInt8 × Value)→Nat→Option (Nat × Value)
  | [],_=>none
  | p::es,i=>if k == p.1 then some (i,p.2) else findI k es (i + 1)
section
variable {P:Program} {kt bt:TypeId} (hk:P.underlying kt=some (.array 32 bt)) (hb:P.underlying bt=some (.int .u8)) (hsz:∀ w,(sizeOf bt).run P w = .ok 1 w)
include hk hb hsz
theorem run_checkId (em:Bool) (k:List UInt8) (hl:k.length=32) (w:World):(Instr.checkKey em 10000 kt (idV k)).run P w = .ok () w:=by
  rw [show (10000:Nat)=9998 + 1 + 1 from rfl,Instr.checkKey]
  simp only [Sem.run_bind,run_underlying hk,Result.andThen_ok,idV,hsz,Std.Legacy.Range.forIn_eq_forIn_range',Std.Legacy.Range.size,Nat.sub_zero,Nat.add_sub_cancel,Nat.div_one]
  have hl:∀ i ∈ List.range' 0 32 1,i < 32:=fun i hi=>by simpa using (List.mem_range'_1.1 hi).2
  generalize List.range' 0 32 1=l at hl ⊢
  induction l with
  | nil=>simp
  | cons i l ih =>
    have hi:i < 32:=hl i (by simp)
    have px:(part bt (bs k).toArray (i * 1)).run P w = .ok (bv (at0 k i)) w:=by
      have:(bs k)[i]?=some (bv (at0 k i)):=by rw [bs_get]; simp [at0,List.getElem?_eq_getElem (show i < k.length by omega)]
      have h2:i < (bs k).length:=by rw [bs_length]; omega
      rw [List.getElem?_eq_getElem h2] at this
      injection this with this
      simp [part,isAgg,run_underlying hb,h2,this]
    have pc:(Instr.checkKey em (9998 + 1) bt (bv (at0 k i))).run P w = .ok () w:=by
      rw [Instr.checkKey]
      simp [run_underlying hb,bv]
    simp only [List.forIn_cons,Sem.run_bind,hsz,px,pc,Result.andThen_ok,Sem.run_pure]
    exact ih fun j hj=>hl j (by simp [hj])
theorem run_findId (k:List UInt8) (hl:k.length=32) (w:World):∀ (es:List (List UInt8 × Value)) (a:List MapEntry) (i:Nat),Ids (es.map (·.1))→a.map (fun e=>(e.key,e.val))=es.map (fun p=>(idV p.1,p.2))→(Instr.findAsking kt (idV k) a i).run P w = .ok (findI k es i) w
  | [],a,i,_,ha=>by
    simp at ha
    subst ha
    rfl
  | p::es,a,i,hi,ha=>by
    cases a with
    | nil=>simp at ha
    | cons e a =>
      simp only [List.map_cons,List.cons.injEq,Prod.mk.injEq] at ha
      have h1:=run_equalIn_bytes w 9998 kt bt 32 hk hb hsz k p.1 hl (hi p.1 (by simp))
      rw [show List.map Extern.Stop.cell k=bs k from rfl,show List.map Extern.Stop.cell p.1=bs p.1 from rfl] at h1
      have h2:(Op.equal kt (idV k) e.key).run P w = .ok (k == p.1) w:=by rw [ha.1.1]; exact h1
      have ih:=run_findId k hl w es a (i + 1) (fun x hx=>hi x (by simp at hx ⊢; exact .inr hx)) ha.2
      rw [Instr.findAsking,findI]
      simp only [Sem.run_bind,h2,Result.andThen_ok]
      cases h:k == p.1 with
      | true=>simp [ha.1.2]
      | false=>simpa using ih
theorem run_findKeyId (k:List UInt8) (hl:k.length=32) (w:World) (es:List (List UInt8 × Value)) (a:List MapEntry) (hi:Ids (es.map (·.1))) (ha:a.map (fun e=>(e.key,e.val))=es.map (fun p=>(idV p.1,p.2))):(Instr.findKey kt (idV k) a).run P w = .ok (findI k es 0) w:=by
  unfold Instr.findKey
  simp only [Sem.run_bind,run_underlying hk,Result.andThen_ok]
  cases a with
  | nil =>
    simp at ha
    subst ha
    rfl
  | cons e a' =>
    have h:=run_findId hk hb hsz k hl w es (e::a') 0 hi ha
    have hn:Instr.findNow (.array 32 bt) (idV k) (e::a') 0=none:=by
      rw [Instr.findNow]
      have:Instr.sameNow (.array 32 bt) (idV k) e.key=none:=by
        unfold Instr.sameNow
        split <;> simp_all
      rw [this]
    rw [hn]
    exact h
end
section
variable {P:Program} {E:Env} {n:Nat} {K:Slots} {L:Res} {o:Oper} {C:Value→Res→Prop} {kt bt mt et:TypeId}
theorem setObj_step {w:World} {g:Nat} {a:Array MapEntry} {clk:Nat} (o':Obj) (hg:w.heap[g]?=some (.map a clk)):Chg [g] w { w with heap:=w.heap.setIfInBounds g o' }∧({ w with heap:=w.heap.setIfInBounds g o' }:World).heap[g]?=some o':=by
  have hlt:=lt_of_heap hg
  refine ⟨⟨rfl,rfl,rfl,by simp,fun k hk hm=>?_⟩,?_⟩
  · have:g≠k:=fun h=>hm (by simp [h])
    simp [Array.getElem?_setIfInBounds,this]
  · simp [Array.getElem?_setIfInBounds,hlt]
end
end Go.Proofs.Ytinamipkpdlphaa
namespace Go.Proofs.Ytinamipkpdlphaa
open Go.RowKit Go.Shelf Go.Lib Go.Sort
theorem compare_any (va vb:Value) (A B:ByteArray) (W:World) (hA:(Extern.Bytes.bytesOf va).run Try.prog W = .ok A W) (hB:(Extern.Bytes.bytesOf vb).run Try.prog W = .ok B W):Calls Try.prog 29 #[va,vb] W fun e w'=>e = .returned (.int .i64 (Extern.BytealgCompare.cmp A B))∧w'=W:=by
  have hrun:(callFunc 50 #[va,vb]).run Try.prog W = .ok (.value (.int .i64 (Extern.BytealgCompare.cmp A B))) W:=by
    rw [run_callFunc_standIn (e:=Extern.BytealgCompare.compare) Try.func50 (by kernel_rfl) (by kernel_rfl) (by kernel_rfl) (by kernel_rfl)]
    rw [show Extern.BytealgCompare.compare #[va,vb]=(do pure (goInt (Extern.BytealgCompare.cmp (← Extern.Bytes.bytesOf va) (← Extern.Bytes.bytesOf vb)))) from rfl]
    simp [hA,hB,Result.andThen,goInt]
  go_enter Try.func29,Try.ntmps29
  go_wp2
  go_ret
  exact ⟨rfl,rfl⟩
theorem closure_any (cx cy:Array Value) (z:Int) (W:World) (hc:∀ W':World,W'.heap[W.heap.size]?=some (.cells cx 37 (0,0))→W'.heap[W.heap.size + 1]?=some (.cells cy 37 (0,0)) →
      Calls Try.prog 29 #[.slice (some ⟨W.heap.size,0,none⟩) 32 32,.slice (some ⟨W.heap.size + 1,0,none⟩) 32 32] W' fun e w'=>e = .returned (.int .i64 z)∧w'=W') :
    Calls Try.prog 28 #[.agg cx,.agg cy] W fun e w'=>e = .returned (.int .i64 z)∧∃ q os',w'=grow (W.drewN q) os':=by
  go_enter Try.func28,Try.ntmps28
  have h0:(((W.alloc (.cells cx 37)).alloc (.cells cy 37))).heap[W.heap.size]?=some (.cells cx 37 (0,0)):=by
    rw [heap_alloc_old _ _ (by simp)]; exact heap_alloc_new W _
  have h1:(((W.alloc (.cells cx 37)).alloc (.cells cy 37))).heap[W.heap.size + 1]?=some (.cells cy 37 (0,0)):=by
    have:=heap_alloc_new (W.alloc (.cells cx 37)) (.cells cy 37)
    rwa [World.size_alloc] at this
  have hcq:∀ n,Calls Try.prog 29 #[.slice (some ⟨W.heap.size,0,none⟩) 32 32,.slice (some ⟨W.heap.size + 1,0,none⟩) 32 32] ((((W.alloc (.cells cx 37)).alloc (.cells cy 37))).drewN n) fun e w''=>e = .returned (.int .i64 z)∧w''=((((W.alloc (.cells cx 37)).alloc (.cells cy 37))).drewN n):=fun n=>hc _ h0 h1
  clear hc h0 h1
  go_wp2_with (fail)
  go_quiet (first | (go_at_call 29; exact Calls.quiet_of_same (hcq _)))

  go_wp2
  go_ret
  exact ⟨rfl,nq,_,by rw [alloc_eq_grow,alloc_eq_grow,grow_grow]; rfl⟩
open Go.RowKit
theorem rowP_open {e:TypeId} {size:Nat} {v:Value} {n:Nat} {xs:List Value} {h:Hlt} (hr:rowP e size v n xs h) (hn:0 < n) :
    ∃ q:Nat × Nat × List Value,v = .slice (some ⟨q.1,0,none⟩) n q.2.1∧n≤q.2.1∧q.2.1≤maxLen∧q.2.2.length=q.2.1 * size∧q.2.2.take (n * size)=xs∧blk q.1 e q.2.2 h:=by
  obtain ⟨h1,h2⟩:=hr
  rcases h2 with ⟨rfl,rfl⟩ | ⟨g,cap,cur,rfl,hg,hnc,hm,hs,ht⟩
  · omega
  · exact ⟨(g,cap,cur.toList),rfl,hnc,hm,by simpa using hs,ht,by simpa [blk] using hg⟩
section
variable {P:Program} {E:Env} {n:Nat} {K:Slots} {L:Res} {o:Oper} {C:Value→Res→Prop} {Q:Exit→Act→World→Prop} {c:Code}
theorem Pu_sliceK {t e size m cap g a b:Nat} {x:Operand} {lo hi:Option Operand} (ho:o.op = .slice t x lo hi none) (hu:∀ w,(underlying t).run P w = .ok (.slice e) w) (hs:∀ w,(sizeOf e).run P w = .ok size w)
    (hx:evK K x=some (.slice (some ⟨g,0,none⟩) m cap)) (hlo:(lo=none∧a=0)∨∃ y k i,lo=some y∧evK K y=some (.int k i)∧i=(a:Int)) (hhi:(hi=none∧b=m)∨∃ y k i,hi=some y∧evK K y=some (.int k i)∧i=(b:Int)) (hab:a≤b) (hbc:b≤cap) (hac:a < cap) :
    Pure P E n o K L (.slice (some ⟨g,a * size,none⟩) (b - a) (cap - a)):=fun ac w hA hS=>by
  have:=run_slice_sub (P:=P) w (v:=.slice (some ⟨g,0,none⟩) m cap) rfl hu hs (lo:=lo.map ac.eval) (hi:=hi.map ac.eval) (a:=a) (b:=b)
    (by rcases hlo with ⟨rfl,rfl⟩ | ⟨y,k,i,rfl,hy,hi⟩
        · exact .inl ⟨rfl,rfl⟩
        · exact .inr ⟨k,i,by simp [hA.eval hy],hi⟩)
    (by rcases hhi with ⟨rfl,rfl⟩ | ⟨y,k,i,rfl,hy,hi⟩
        · exact .inl ⟨rfl,rfl⟩
        · exact .inr ⟨k,i,by simp [hA.eval hy],hi⟩) hab hbc
  have hv:subV size (.slice (some ⟨g,0,none⟩) m cap) a b = .slice (some ⟨g,a * size,none⟩) (b - a) (cap - a):=by
    unfold subV
    simp [show ¬ cap=a by omega,addr_add0]
  rw [hv] at this
  simp only [execOp,ho,hA.eval hx,Sem.run_bind,Option.map_none,this]
  rfl
end
open Go.RowKit
section
variable {P:Program} {E:Env} {n:Nat} {K:Slots} {L:Res} {Q:Exit→Act→World→Prop} {ops:Array Oper} {rest:List Oper} {o:Oper} {v:Value} {S:Res} {fuel:Nat} {listed:Array Bool}
theorem WL_gT {d j dj:Nat} {want b:Bool} (hg:o.guard=some (j,want)) (hj:(ops[j]?).bind (·.dst)=some dj) (hb:look K dj=some (.bool b)) (hw:(b == want)=true) (hd:o.dst=some d) (hn:d < n)
    (h:OpT P E n o K L (fun v L'=>WL P E n ops rest ((d,v)::K) L' Q)):WL P E n ops (o::rest) K L Q:=by
  intro a w hA hS
  refine wpList_step fun Kc hK=>?_
  have hy:=yielded_of hA hj hb
  simp only [Region.wanted,hg,hy,boolOf]
  rw [if_pos (by simpa using hw)]
  refine h a w Kc Q hA hS fun v L' w' hk hS'=>hK _ _ ?_
  rw [hd]
  exact hk _ _ (hA.put hn v) hS'
theorem WL_gF {d j dj:Nat} {want:Bool} {bv:Value} (hg:o.guard=some (j,want)) (hj:(ops[j]?).bind (·.dst)=some dj) (hb:look K dj=some bv) (hw:(boolOf bv == some want)=false) (hd:o.dst=some d) (hn:d < n)
    (k:WL P E n ops rest ((d,undef)::K) L Q):WL P E n ops (o::rest) K L Q:=by
  intro a w hA hS
  refine wpList_step fun Kc hK=>?_
  have hy:=yielded_of hA hj hb
  simp only [Region.wanted,hg,hy]
  rw [if_neg (by simpa using hw)]
  refine hK _ _ ?_
  rw [hd]
  exact k _ _ (hA.put hn undef) hS
theorem WL_gPT {d j dj:Nat} {want b:Bool} (hg:o.guard=some (j,want)) (hj:(ops[j]?).bind (·.dst)=some dj) (hb:look K dj=some (.bool b)) (hw:(b == want)=true) (hd:o.dst=some d) (hn:d < n)
    (h:Pure P E n o K L v) (k:WL P E n ops rest ((d,v)::K) L Q):WL P E n ops (o::rest) K L Q:=WL_gT hg hj hb hw hd hn (Or9 h k)
theorem Pu_pickT {c x y:Operand} {b:Bool} (ho:o.op = .pick c x y) (hc:evK K c=some (.bool b)) (hb:b=true) (hx:evK K x=some v):Pure P E n o K L v:=fun a w hA hS=>by
  subst hb
  simp [execOp,ho,hA.eval hc,hA.eval hx,asBool]
theorem Pu_pickF {c x y:Operand} {b:Bool} (ho:o.op = .pick c x y) (hc:evK K c=some (.bool b)) (hb:b=false) (hy:evK K y=some v):Pure P E n o K L v:=fun a w hA hS=>by
  subst hb
  simp [execOp,ho,hA.eval hc,hA.eval hy,asBool]
theorem AH_takeT (i:Nat) {d j dj:Nat} {want b:Bool} (hi:ops[i]?=some o) (hs:Region.noSelect ops=true) (hf:Region.free .any ops listed i=true) (hr:(Region.ready .any ops listed).contains i=true)
    (hg:o.guard=some (j,want)) (hj:(ops[j]?).bind (·.dst)=some dj) (hb:look K dj=some (.bool b)) (hw:(b == want)=true) (hd:o.dst=some d) (hn:d < n)
    (h:Pure P E n o K S v) (k:AH P E n ops S fuel (listed.setIfInBounds i true) ((d,v)::K) L Q):AH P E n ops S (fuel + 1) listed K L Q:=fun a w hA hS hh=>by
  have hy:=yielded_of hA hj hb
  exact wpAnyH_take hi hs hf hr (fun _ _ _ h=>h.elim) (.inl ⟨by simpa [Region.wanted,hg,hy,boolOf] using hw,fun w' hw'=>h a w' hA hw'⟩) hh (by rw [hd]; exact k _ _ (hA.put hn _) hS hh)
theorem AH_takeF (i:Nat) {d j dj:Nat} {want:Bool} {bv:Value} (hi:ops[i]?=some o) (hs:Region.noSelect ops=true) (hf:Region.free .any ops listed i=true) (hr:(Region.ready .any ops listed).contains i=true)
    (hg:o.guard=some (j,want)) (hj:(ops[j]?).bind (·.dst)=some dj) (hb:look K dj=some bv) (hw:(boolOf bv == some want)=false) (hd:o.dst=some d) (hn:d < n)
    (k:AH P E n ops S fuel (listed.setIfInBounds i true) ((d,undef)::K) L Q):AH P E n ops S (fuel + 1) listed K L Q:=fun a w hA hS hh=>by
  have hy:=yielded_of hA hj hb
  exact wpAnyH_take hi hs hf hr (fun _ _ _ h=>h.elim) (v:=undef) (.inr ⟨by simpa [Region.wanted,hg,hy] using hw,rfl⟩) hh (by rw [hd]; exact k _ _ (hA.put hn _) hS hh)
theorem AHs_gT {i d j dj:Nat} {rs:List Nat} {want b:Bool} (hi:ops[i]?=some o) (hg:o.guard=some (j,want)) (hj:(ops[j]?).bind (·.dst)=some dj) (hb:look K dj=some (.bool b)) (hw:(b == want)=true) (hd:o.dst=some d) (hn:d < n)
    (h:OpT P E n o K L (fun v L'=>AllIn L' S∧AH P E n ops S fuel (listed.setIfInBounds i true) ((d,v)::K) L' Q)) (hs:AHs P E n ops S fuel listed K L Q rs):AHs P E n ops S fuel listed K L Q (i::rs):=fun j' hj' a w hA hS hh=>by
  rcases List.mem_cons.1 hj' with rfl | hj'
  · refine wpOp_step hi fun Kc hK=>?_
    have hy:=yielded_of hA hj hb
    simp only [Region.wanted,hg,hy,boolOf]
    rw [if_pos (by simpa using hw)]
    refine h a w Kc _ hA hS fun v L' w' ⟨c1,c2⟩ hS'=>?_
    rw [hd]
    have hh':=hS'.sub c1.look
    exact hK _ _ ⟨hh',c2 _ _ (hA.put hn v) hS' hh'⟩
  · exact hs j' hj' a w hA hS hh
theorem AHs_gF {i d j dj:Nat} {rs:List Nat} {want:Bool} {bv:Value} (hi:ops[i]?=some o) (hg:o.guard=some (j,want)) (hj:(ops[j]?).bind (·.dst)=some dj) (hb:look K dj=some bv) (hw:(boolOf bv == some want)=false) (hd:o.dst=some d) (hn:d < n)
    (k:AH P E n ops S fuel (listed.setIfInBounds i true) ((d,undef)::K) L Q) (hs:AHs P E n ops S fuel listed K L Q rs):AHs P E n ops S fuel listed K L Q (i::rs):=fun j' hj' a w hA hS hh=>by
  rcases List.mem_cons.1 hj' with rfl | hj'
  · refine wpOp_step hi fun Kc hK=>?_
    have hy:=yielded_of hA hj hb
    simp only [Region.wanted,hg,hy]
    rw [if_neg (by simpa using hw)]
    rw [hd]
    exact hK _ _ ⟨hh,k _ _ (hA.put hn undef) hS hh⟩
  · exact hs j' hj' a w hA hS hh
theorem Pu_fieldAddrE {s f off k0:Nat} {x:Operand} {A:Addr} (ho:o.op = .fieldAddr s x f) (hx:evK K x=some (.pointer (some (A.add k0)))) (hf:fieldOff P s f=some off):Pure P E n o K L (.pointer (some (A.add (k0 + off)))) :=
  Pu_fieldAddr ho hx hf (add_of_add A k0 off)
theorem run_ptrNil {t e:TypeId} (hu:P.underlying t=some (.pointer e)) (A:Addr) (x y:Operand) (w:World):((do eqGuard .eql t x y (.pointer (some A)) (.pointer none); binOp .eql t (.pointer (some A)) (.pointer none):Sem Value)).run P w = .ok (.bool false) w:=by
  have h:(Op.equalIn (9999 + 1) t (.pointer (some A)) (.pointer none)).run P w = .ok false w:=by
    unfold Op.equalIn
    simp [run_underlying hu]
  simp only [eqGuard,binOp,Op.equal,Sem.run_bind,Sem.run_pure,Result.andThen_ok]
  simp [show Op.maxDepth=9999 + 1 from rfl,h]
end
theorem made_bytes (n:Nat):List.replicate n (Value.int .u8 0)=bs (List.replicate n 0):=by simp [bs,bv]
open Go.RowKit
section
variable {P:Program} {E:Env} {n:Nat} {K:Slots} {L:Res} {o:Oper} {C:Value→Res→Prop}
end
end Go.Proofs.Ytinamipkpdlphaa
namespace Go.Proofs.Ytinamipkpdlphaa
open Go.RowKit
section
variable {P:Program} {E:Env} {n:Nat} {K:Slots} {L:Res} {o:Oper} {C:Value→Res→Prop}
end
open Go.RowKit
def recC {α:Type} (f:α→List Value) (es:List α):List Value:=(es.map f).flatten
section
variable {α:Type} {f:α→List Value} {S:Nat} {es:List α} {d:α}
theorem recC_append (a b:List α):recC f (a++b)=recC f a++recC f b:=by simp [recC]
theorem recC_one (x:α):recC f [x]=f x:=by simp [recC]
theorem recC_length (h:∀ e ∈ es,(f e).length=S):(recC f es).length=es.length * S:=by
  induction es with
  | nil=>simp [recC]
  | cons e es ih =>
    have h1:=ih fun x hx=>h x (by simp [hx])
    have h2:=h e (by simp)
    simp only [recC,List.map_cons,List.flatten_cons,List.length_append,List.length_cons] at h1 ⊢
    rw [h1,h2,Nat.add_mul]
    omega
theorem getD_split {k:Nat} (hk:k < es.length):es=es.take k++([es.getD k d]++es.drop (k + 1)):=by
  rw [show es.getD k d=es[k] by simp [hk],List.singleton_append,← List.drop_eq_getElem_cons hk,List.take_append_drop]
theorem getD_mem' {k:Nat} (hk:k < es.length):es.getD k d ∈ es:=by rw [show es.getD k d=es[k] by simp [hk]]; exact List.getElem_mem hk
theorem recC_at (h:∀ e ∈ es,(f e).length=S) {k j:Nat} (hk:k < es.length) (hj:j < S):(recC f es)[k * S + j]?=(f (es.getD k d))[j]?:=by
  have hx:=h _ (getD_mem' (d:=d) hk)
  have hl:(recC f (es.take k)).length=k * S:=by
    rw [recC_length fun e he=>h e (List.mem_of_mem_take he),List.length_take,Nat.min_eq_left (by omega)]
  conv=>lhs; rw [getD_split (d:=d) hk]
  rw [recC_append,recC_append,recC_one,List.getElem?_append_right (by omega),hl,Nat.add_sub_cancel_left,List.getElem?_append_left (by omega)]
theorem recC_get (h:∀ e ∈ es,(f e).length=S) {k:Nat} (hk:k < es.length):((recC f es).drop (k * S)).take S=f (es.getD k d):=by
  have hx:=h _ (getD_mem' (d:=d) hk)
  apply List.ext_getElem?
  intro j
  rw [List.getElem?_take]
  split
  · rename_i hj; rw [List.getElem?_drop,recC_at (d:=d) h hk hj]
  · rename_i hj; rw [List.getElem?_eq_none (by omega)]
theorem over_in (a b c u:List Value) (off:Nat) (h:off + u.length≤b.length):over (a++(b++c)) (a.length + off) u=a++(over b off u++c):=by
  unfold over
  rw [List.take_append,List.take_of_length_le (by omega),show a.length + off - a.length=off by omega,List.take_append_of_le_length (by omega)]
  rw [List.drop_append,List.drop_of_length_le (show a.length≤a.length + off + u.length by omega),List.nil_append,show a.length + off + u.length - a.length=off + u.length by omega]
  rw [List.drop_append_of_le_length h]
  simp [List.append_assoc]
theorem recC_setF (h:∀ e ∈ es,(f e).length=S) {k off:Nat} (hk:k < es.length) {x:α} {us:List Value} (hu:off + us.length≤S) (hx:over (f (es.getD k d)) off us=f x):over (recC f es) (k * S + off) us=recC f (es.set k x):=by
  have hl:(recC f (es.take k)).length=k * S:=by
    rw [recC_length fun e he=>h e (List.mem_of_mem_take he),List.length_take,Nat.min_eq_left (by omega)]
  have hf:=h _ (getD_mem' (d:=d) hk)
  have e2:es.set k x=es.take k++([x]++es.drop (k + 1)):=by rw [List.set_eq_take_append_cons_drop,if_pos hk]; rfl
  rw [e2,recC_append,recC_append,recC_one]
  conv=>lhs; rw [getD_split (d:=d) hk]
  rw [recC_append,recC_append,recC_one,← hl,over_in _ _ _ _ _ (by omega),hx]
end
section
variable {P:Program} {E:Env} {n:Nat} {K:Slots} {L:Res} {o:Oper} {C:Value→Res→Prop}
end
end Go.Proofs.Ytinamipkpdlphaa
namespace Go.Proofs.Ytinamipkpdlphaa
open Go.RowKit Go.Shelf Go.Lib Go.Sort
section
variable {α:Type} [Inhabited α] {enc:α→List Value} {k:Nat}
theorem flat_rec (hk:∀ x,(enc x).length=k) (xs:List α) (j:Nat) (hj:j < xs.length * k):(recC enc xs)[j]?=some ((flatK enc k xs.toArray)[j]!):=by
  have k0:0 < k:=by
    rcases Nat.eq_zero_or_pos k with h | h
    · subst h; simp at hj
    · exact h
  have hq:j / k < xs.length:=by rw [Nat.div_lt_iff_lt_mul k0]; exact hj
  have hr:j % k < k:=Nat.mod_lt _ k0
  have h:=recC_at (f:=enc) (S:=k) (es:=xs) (d:=default) (fun e _=>hk e) hq hr
  rw [show j / k * k + j % k=j by rw [Nat.mul_comm]; exact Nat.div_add_mod j k] at h
  rw [h,get_flatK _ _ _ _ (by simpa using hj)]
  have e1:xs.getD (j / k) default=xs.toArray[j / k]!:=by simp [hq]
  rw [e1,List.getElem?_eq_getElem (by rw [hk]; exact hr)]
  rw [getElem!_pos (enc xs.toArray[j / k]!) (j % k) (by rw [hk]; exact hr)]
theorem sort_put {E:Env} {L:Res} {w:World} {r g m:Nat} {e:TypeId} {cap:Nat} {xs ys:List α} {os:Array Obj} (hk:∀ x,(enc x).length=k) (hS:Sat E L w) (hr:look L r=some (rowP e k (.slice (some ⟨g,0,none⟩) xs.length cap) xs.length (recC enc xs))) (hl:ys.length=xs.length) :
    Sat E ((r,rowP e k (.slice (some ⟨g,0,none⟩) xs.length cap) ys.length (recC enc ys))::L) (sortWorldK enc k w g 0 m ys.toArray os) :=
  hS.step hr fun h hp hin=>by
    obtain ⟨h1,h2⟩:=hp
    rcases h2 with ⟨h2,_⟩ | ⟨g',cap',cur,hv,hg,hn,hcap,hcs,htk⟩
    · cases h2
    · injection hv with hv1 hv2 hv3
      injection hv1 with hv1
      injection hv1 with hv1 _ _
      subst hv1; subst hv3
      have hw:=hin _ _ hg
      have hlt:=lt_of_heap hw
      have hnk:xs.length * k≤cur.size:=by rw [hcs]; exact Nat.mul_le_mul_right k hn
      have hw':(sortWorldK enc k w g 0 m ys.toArray os).heap[g]?=some (.cells (putCells id 0 (flatK enc k ys.toArray) cur) e (0,0)):=by
        unfold sortWorldK grow putRowK putRow mapBlock Sort.ahead
        simp only
        rw [Array.getElem?_append_left (by rw [Array.size_modify]; exact hlt),Array.getElem?_modify,if_pos rfl,hw]
        rfl
      refine ⟨[g],single g (.cells (putCells id 0 (flatK enc k ys.toArray) cur) e (0,0)),by simp [hg],⟨rfl,rfl,rfl,?_,fun q hq hm=>?_⟩,⟨?_,.inr ⟨g,cap,putCells id 0 (flatK enc k ys.toArray) cur,by rw [hl],single_same _ _,by omega,hcap,by simp [putCells,hcs],?_⟩⟩,single_in hw',fun q hq=>.inl (by rw [single_dom hq,hg]; rfl)⟩
      · unfold sortWorldK grow putRowK putRow mapBlock Sort.ahead
        simp
      · unfold sortWorldK grow putRowK putRow mapBlock Sort.ahead
        simp only
        rw [Array.getElem?_append_left (by rw [Array.size_modify]; exact hq),Array.getElem?_modify,if_neg (fun h=>hm (by simp [h]))]
      · exact recC_length fun e _=>hk e
      · apply List.ext_getElem?
        intro j
        rw [List.getElem?_take]
        split
        · rename_i hj
          rw [flat_rec hk ys j hj,Array.getElem?_toList]
          unfold putCells
          rw [Array.getElem?_mapIdx,Array.getElem?_eq_getElem (show j < cur.size by rw [hl] at hj; omega),Option.map_some,if_pos ⟨Nat.zero_le _,by simpa using hj⟩]
          rfl
        · rename_i hj
          rw [List.getElem?_eq_none (by rw [recC_length fun e _=>hk e]; omega)]
theorem sortFunc_S {P:Program} {ρ:Ren} (L:SlLaysF0.n6 P ρ) {e:TypeId} (aE:∀ w,(isAgg (ρ.t 24)).run P w = .ok true w) (zE:∀ w,(Go.sizeOf (ρ.t 24)).run P w = .ok k w) (hk:∀ x,(enc x).length=k) (h1:∀ x,∀ v ∈ enc x,v.oneCell'=true) (cf:α→α→Int) (hO:SWO (ltOf cf)) (g:Nat) (cb:Array Value)
    (eg:∀ args w,(callFunc g args).run P w = .ok (.enter g args) w) (hcmp:∀ blk off size w,CmpLays P g cb enc k cf blk off size w) (v:Value) (xs:List α) (hlen:xs.length < 4611686018427387904) (F:HP) :
    CallsS P (ρ.f 6) #[v,.func (.func g) #[] cb] F [rowP e k v xs.length (recC enc xs)] (fun r Ps=>r = .tuple #[]∧∃ ys,ys.Perm xs∧ys.Pairwise (fun a b=>ltOf cf b a=false)∧Ps=[rowP e k v ys.length (recC enc ys)]):=by
  intro E w hS
  obtain ⟨h,q1,q2⟩:=hS.read (r:=1) rfl
  obtain ⟨h2,h3⟩:=q1
  rcases h3 with ⟨rfl,h4⟩ | ⟨gb,cap,cur,rfl,hg,hn,hcap,hcs,htk⟩
  · have hx:xs=[]:=List.length_eq_zero_iff.1 h4
    subst hx
    refine (AnyF.slices_SortFunc_none L none 0 _ w).mono ?_
    rintro e' w' ⟨rfl,rfl⟩
    exact ⟨_,_,rfl,⟨rfl,[],List.Perm.refl _,List.Pairwise.nil,rfl⟩,hS⟩
  · have hw:=q2 _ _ hg
    have hnk:xs.length * k≤cur.size:=by rw [hcs]; exact Nat.mul_le_mul_right k hn
    have hH:HoldsK enc k w gb 0 xs.toArray:=by
      intro j hj
      have hj':j < xs.length * k:=by simpa using hj
      refine ⟨?_,by simp [World.frozen?,hw]⟩
      have hx:=flat_rec hk xs j hj'
      rw [← htk,List.getElem?_take,if_pos hj',Array.getElem?_toList] at hx
      simp only [World.cell?,hw,Nat.zero_add,Option.isSome_none,Bool.false_eq_true,if_false]
      exact hx
    have:=AnyQ.slices_SortFunc L k aE zE enc hk h1 cf hO g cb gb 0 cap xs.toArray w eg (hcmp _ _ _ _) hH (lt_of_heap hw) (by simpa using hlen)
    rw [show xs.toArray.size=xs.length by simp] at this
    refine this.mono ?_
    rintro e' w' ⟨rfl,d',m,os,hp,hs,rfl⟩
    have hd:d'.size=xs.length:=by have:=hp.1; simpa using this
    refine ⟨_,_,rfl,⟨rfl,d'.toList,?_,?_,rfl⟩,?_⟩
    · have:=hp.2.2
      rw [show d'.extract 0 xs.length=d' by rw [← hd]; simp,show xs.toArray.extract 0 xs.length=xs.toArray by simp] at this
      simpa using this
    · rw [List.pairwise_iff_getElem]
      intro i j hi hj hij
      have:=hs i j (Nat.zero_le _) hij (by simpa [hd] using hj)
      rw [getElem!_pos d' i (by simpa using hi),getElem!_pos d' j (by simpa using hj)] at this
      simpa using this
    · have:=(sort_put (m:=m) (os:=os) hk hS (r:=1) rfl (ys:=d'.toList) (by simpa using hd)).pick (ids:=[0,1]) (Ps:=[F,rowP e k (.slice (some ⟨gb,0,none⟩) xs.length cap) d'.toList.length (recC enc d'.toList)]) ⟨rfl,rfl,trivial⟩ (by decide)
      simpa using this
end
open Go.RowKit
def ltK:List UInt8→List UInt8→Bool
  | [],[]=>false
  | [],_::_=>true
  | _::_,[]=>false
  | x::a,y::b=>decide (x < y) || (decide (x=y) && ltK a b)
theorem u8_lt_irrefl (x:UInt8):¬ x < x:=by rw [UInt8.lt_iff_toNat_lt]; omega
theorem ltK_irrefl:∀ a,ltK a a=false
  | []=>rfl
  | x::a=>by simp [ltK,ltK_irrefl a,u8_lt_irrefl]
theorem ltK_trans:∀ a b c,ltK a b=true→ltK b c=true→ltK a c=true
  | [],[],c,h,_=>by simp [ltK] at h
  | [],y::b,[],_,h=>by simp [ltK] at h
  | [],y::b,z::c,_,_=>rfl
  | x::a,[],c,h,_=>by simp [ltK] at h
  | x::a,y::b,[],_,h=>by simp [ltK] at h
  | x::a,y::b,z::c,h1,h2=>by
    simp only [ltK,Bool.or_eq_true,Bool.and_eq_true,decide_eq_true_eq,UInt8.lt_iff_toNat_lt,← UInt8.toNat_inj] at h1 h2 ⊢
    rcases h1 with h1 | ⟨h1,h1'⟩ <;> rcases h2 with h2 | ⟨h2,h2'⟩
    · left; omega
    · left; omega
    · left; omega
    · right; exact ⟨by omega,ltK_trans a b c h1' h2'⟩
theorem ltK_tri:∀ a b,a.length=b.length→ltK a b=false→ltK b a=false→a=b
  | [],[],_,_,_=>rfl
  | [],_::_,h,_,_=>by simp at h
  | _::_,[],h,_,_=>by simp at h
  | x::a,y::b,h,h1,h2=>by
    simp only [ltK,Bool.or_eq_false_iff,Bool.and_eq_false_iff,decide_eq_false_iff_not,UInt8.lt_iff_toNat_lt,← UInt8.toNat_inj] at h1 h2
    have hxy:x=y:=UInt8.toNat_inj.1 (by omega)
    subst hxy
    rw [ltK_tri a b (by simpa using h) (by simpa using h1.2) (by simpa using h2.2)]
theorem ltK_ntrans (a b c:List UInt8) (h1:a.length=b.length) (h2:b.length=c.length) (hab:ltK a b=false) (hbc:ltK b c=false):ltK a c=false:=by
  cases h:ltK a c with
  | false=>rfl
  | true =>
    exfalso
    cases hba:ltK b a with
    | false=>rw [ltK_tri a b h1 hab hba] at h; rw [h] at hbc; cases hbc
    | true =>
      cases hcb:ltK c b with
      | false =>
        rw [← ltK_tri b c h2 hbc hcb] at h
        rw [h] at hab; cases hab
      | true =>
        have:=ltK_trans a c b h hcb
        rw [this] at hab; cases hab
theorem ltK_at:∀ (p:List UInt8) (x y:UInt8) (a b:List UInt8),x≠y→ltK (p++x::a) (p++y::b)=decide (x < y)
  | [],x,y,a,b,h=>by simp [ltK,h]
  | z::p,x,y,a,b,h=>by simp [ltK,u8_lt_irrefl,ltK_at p x y a b h]
theorem split_at (a b:List UInt8) (i:Nat) (ha:i < a.length) (hb:i < b.length) (h:∀ j,j < i→a[j]?=b[j]?):a.take i=b.take i:=by
  apply List.ext_getElem?
  intro j
  rw [List.getElem?_take,List.getElem?_take]
  split
  · rename_i hj; exact h j hj
  · rfl
theorem ba_get (l:List UInt8) (i:Nat) (h:i < l.length):(⟨l.toArray⟩:ByteArray)[i]! = l[i]:=by
  rw [getElem!_pos (⟨l.toArray⟩:ByteArray) i (by show i < l.toArray.size; simpa using h)]
  rfl
theorem cmp_lt (a b:List UInt8) (h:a.length=b.length):decide (Extern.BytealgCompare.cmp ⟨a.toArray⟩ ⟨b.toArray⟩ < 0)=ltK a b:=by
  unfold Extern.BytealgCompare.cmp
  rw [show (⟨a.toArray⟩:ByteArray).size=a.length by show a.toArray.size=_; simp,show (⟨b.toArray⟩:ByteArray).size=b.length by show b.toArray.size=_; simp,h,Nat.min_self]
  cases hf:(List.range b.length).find? fun i=>(⟨a.toArray⟩:ByteArray)[i]! != (⟨b.toArray⟩:ByteArray)[i]! with
  | none =>
    rw [List.find?_eq_none] at hf
    have:a=b:=by
      apply List.ext_getElem h
      intro i h1 h2
      have:=hf i (List.mem_range.2 h2)
      rw [ba_get a i h1,ba_get b i h2] at this
      simpa using this
    subst this
    simp [ltK_irrefl]
  | some i =>
    have hi:i < b.length:=List.mem_range.1 (List.mem_of_find?_eq_some hf)
    have hne:=List.find?_some hf
    have hbef:∀ j,j < i→a[j]?=b[j]?:=by
      intro j hj
      rw [List.find?_range_eq_some] at hf
      have:=hf.2.2 j hj
      rw [ba_get a j (by omega),ba_get b j (by omega)] at this
      rw [List.getElem?_eq_getElem (by omega),List.getElem?_eq_getElem (by omega)]
      simpa using this
    rw [ba_get a i (by omega),ba_get b i hi] at hne
    have hne:a[i]≠b[i]:=by simpa using hne
    have ea:a=a.take i++a[i]::a.drop (i + 1):=by rw [← List.drop_eq_getElem_cons,List.take_append_drop]
    have eb:b=a.take i++b[i]::b.drop (i + 1):=by rw [split_at a b i (by omega) hi hbef,← List.drop_eq_getElem_cons,List.take_append_drop]
    have hk:ltK a b=decide (a[i] < b[i]):=(congr (congrArg ltK ea) eb).trans (ltK_at _ _ _ _ _ hne)
    rw [hk]
    simp only [ba_get a i (by omega),ba_get b i hi]
    by_cases hlt:a[i] < b[i] <;> simp [hlt]
theorem run_loadL {P:Program} (w:World):∀ (l:List UInt8) (a:Addr) (acc:ByteArray),(∀ j x,l[j]?=some x→w.cell? (a.add j)=some (bv x))→(Extern.Bytes.loadBytes a l.length acc).run P w = .ok ⟨acc.data++l.toArray⟩ w
  | [],a,acc,_=>by simp [Extern.Bytes.loadBytes]
  | x::l,a,acc,h=>by
    have h0:w.cell? a=some (.int .u8 (x.toNat:Int)):=by
      have:=h 0 x rfl
      simpa [Addr.add,bv] using this
    have ih:=run_loadL (P:=P) w l (a.add 1) (acc.push x) (fun j y hy=>by
      have:=h (j + 1) y (by simpa using hy)
      rw [add_of_add,Nat.add_comm 1 j]
      exact this)
    simp only [List.length_cons,Extern.Bytes.loadBytes,Sem.run_bind,run_load,h0,Result.andThen]
    have e:((x.toNat:Int).toNat.toUInt8)=x:=by simp
    rw [e,ih]
    congr 1
    apply ByteArray.ext
    simp [ByteArray.push]
open Go.RowKit
def bkC (k:List UInt8) (n:Int) (v:Value) (s e:Int):List Value:=bs k++[.int .i64 n,v,.int .i64 s,.int .i64 e]
abbrev BV:={ m:List UInt8 × Int × Value × Int × Int // m.1.length=32∧m.2.2.1.oneCell'=true }
def BV.key (x:BV):List UInt8:=x.1.1
def BV.ver (x:BV):Int:=x.1.2.1
def BV.sl (x:BV):Value:=x.1.2.2.1
def BV.src (x:BV):Int:=x.1.2.2.2.1
def BV.exp (x:BV):Int:=x.1.2.2.2.2
instance:Inhabited BV:=⟨⟨(zeroId,0,.slice none 0 0,0,0),by decide,rfl⟩⟩
def bvC (x:BV):List Value:=bkC x.key x.ver x.sl x.src x.exp
theorem BV.len (x:BV):x.key.length=32:=x.2.1
theorem BV.one (x:BV):x.sl.oneCell'=true:=x.2.2
theorem bkC_length {k:List UInt8} {n:Int} {v:Value} {s e:Int} (h:k.length=32):(bkC k n v s e).length=36:=by simp [bkC,bs_length,h]
theorem bvC_length (x:BV):(bvC x).length=36:=bkC_length x.len
theorem bkC_one {k:List UInt8} {n:Int} {v:Value} {s e:Int} (h:v.oneCell'=true):∀ u ∈ bkC k n v s e,u.oneCell'=true:=by
  intro u hu
  rcases List.mem_append.1 hu with hu | hu
  · exact bs_one k u hu
  · simp at hu
    rcases hu with rfl | rfl | rfl | rfl
    · rfl
    · exact h
    · rfl
    · rfl
theorem bvC_one:∀ x:BV,∀ u ∈ bvC x,u.oneCell'=true:=fun x=>bkC_one x.one
section
variable {k:List UInt8} {n:Int} {v:Value} {s e:Int} (h:k.length=32)
include h
theorem bk_ver:(bkC k n v s e)[32]?=some (.int .i64 n):=by
  unfold bkC; rw [List.getElem?_append_right (by rw [bs_length]; omega),bs_length,h]; rfl
theorem bk_data:(bkC k n v s e)[33]?=some v:=by
  unfold bkC; rw [List.getElem?_append_right (by rw [bs_length]; omega),bs_length,h]; rfl
theorem bk_exp:(bkC k n v s e)[35]?=some (.int .i64 e):=by
  unfold bkC; rw [List.getElem?_append_right (by rw [bs_length]; omega),bs_length,h]; rfl
theorem bk_key:((bkC k n v s e).drop 0).take 32=bs k:=by
  unfold bkC; rw [List.drop_zero,List.take_append_of_le_length (by rw [bs_length]; omega)]
  exact List.take_of_length_le (by rw [bs_length]; omega)
theorem bk_set_exp (e':Int):(bkC k n v s e).set 35 (.int .i64 e')=bkC k n v s e':=by
  unfold bkC; rw [List.set_append_right _ _ (by rw [bs_length]; omega),bs_length,h]; rfl
theorem bk_set_data (v':Value):(bkC k n v s e).set 33 v'=bkC k n v' s e:=by
  unfold bkC; rw [List.set_append_right _ _ (by rw [bs_length]; omega),bs_length,h]; rfl
end
end Go.Proofs.Ytinamipkpdlphaa
namespace Go.Proofs.Ytinamipkpdlphaa
open Go.RowKit Go.Shelf Go.Lib Go.Sort
def cfB (x y:BV):Int:=Extern.BytealgCompare.cmp ⟨x.key.toArray⟩ ⟨y.key.toArray⟩
theorem lt_cfB (x y:BV):ltOf cfB x y=ltK x.key y.key:=cmp_lt _ _ (x.len.trans y.len.symm)
theorem swoB:SWO (ltOf cfB) where
  irrefl x:=by rw [lt_cfB,ltK_irrefl]
  trans x y z h1 h2:=by rw [lt_cfB] at *; exact ltK_trans _ _ _ h1 h2
  ntrans x y z h1 h2:=by rw [lt_cfB] at *; exact ltK_ntrans _ _ _ (x.len.trans y.len.symm) (y.len.trans z.len.symm) h1 h2
theorem key_bytes (x:BV) (b:Nat) (e:TypeId) (W:World) (h:W.heap[b]?=some (.cells (bvC x).toArray e (0,0))):(Extern.Bytes.bytesOf (.slice (some ⟨b,0,none⟩) 32 32)).run Try.prog W = .ok ⟨x.key.toArray⟩ W:=by
  have:=run_loadL (P:=Try.prog) W x.key ⟨b,0,none⟩ .empty (fun j u hj=>by
    have hjl:j < x.key.length:=(List.getElem?_eq_some_iff.1 hj).1
    rw [addr_add0]
    simp only [World.cell?,h,Option.isSome_none,Bool.false_eq_true,if_false]
    rw [List.getElem?_toArray]
    unfold bvC bkC
    rw [List.getElem?_append_left (by rw [bs_length]; exact hjl),bs_get,hj]
    rfl)
  rw [x.len] at this
  unfold Extern.Bytes.bytesOf
  rw [this]
  congr 1
  apply ByteArray.ext
  show #[]++x.key.toArray=_
  simp
theorem cmpLaysB (blk off size:Nat) (w:World):CmpLays Try.prog 28 #[] bvC 36 cfB blk off size w:=fun m os dk hs x y =>
  closure_any (bvC x).toArray (bvC y).toArray (cfB x y) _ fun W' h0 h1=>compare_any _ _ _ _ W' (key_bytes x _ _ W' h0) (key_bytes y _ _ W' h1)
theorem sortB_spec (v:Value) (xs:List BV) (hlen:xs.length < 4611686018427387904) (F:HP):CallsS Try.prog 48 #[v,.func (.func 28) #[] #[]] F [rowP 37 36 v xs.length (recC bvC xs)]
    (fun r Ps=>r = .tuple #[]∧∃ ys,ys.Perm xs∧ys.Pairwise (fun a b=>ltK b.key a.key=false)∧Ps=[rowP 37 36 v ys.length (recC bvC ys)]) :=
  (sortFunc_S laysSort (k:=36) (e:=37) (enc:=bvC) Try.isAgg37 Try.sizeOf37 bvC_length bvC_one cfB swoB 28 #[] (enters_of Try.func28 (by kernel_rfl) rfl) cmpLaysB v xs hlen F).imp fun r Ps ⟨h1,ys,h2,h3,h4⟩ =>
    ⟨h1,ys,h2,h3.imp fun h=>by rw [← lt_cfB]; exact h,h4⟩
end Go.Proofs.Ytinamipkpdlphaa
namespace Go.Proofs.Ytinamipkpdlphaa.TI
theorem hi5:Try.prog.info? 5=some Try.t5:=by kernel_rfl
theorem hz5:Try.t5.zero=some (.int .u8 0):=by kernel_rfl
theorem hs5:Try.t5.size=1:=by kernel_rfl
theorem hby5:Try.t5.bytes=1:=by kernel_rfl
theorem hzs5:(.int .u8 0:Value).cells.size=1:=by kernel_rfl
theorem hsm5:(Try.prog.info? 5).map (·.size)=some 1:=by kernel_rfl
theorem hz3:Try.t3.zero=some (.int .i64 0):=by kernel_rfl
theorem hi29:Try.prog.info? 29=some Try.t29:=by kernel_rfl
theorem hz29:Try.t29.zero=some (.agg (bs zeroId).toArray):=by kernel_rfl
theorem hs29:Try.t29.size=32:=by kernel_rfl
theorem hby29:Try.t29.bytes=32:=by kernel_rfl
theorem hi37:Try.prog.info? 37=some Try.t37:=by kernel_rfl
theorem hz37:Try.t37.zero=some (.agg (bkC zeroId 0 (.slice none 0 0) 0 0).toArray):=by kernel_rfl
theorem hs37:Try.t37.size=36:=by kernel_rfl
theorem hby37:Try.t37.bytes=80:=by kernel_rfl
theorem hzs37:(.agg (bkC zeroId 0 (.slice none 0 0) 0 0).toArray:Value).cells.size=36:=by kernel_rfl
end Go.Proofs.Ytinamipkpdlphaa.TI
