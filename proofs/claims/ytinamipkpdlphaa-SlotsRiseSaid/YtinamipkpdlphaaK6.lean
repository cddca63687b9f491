/- Texts of this proof, one behind the other: Ln5, Ln6, Ln7, LnY0, LnY1, LnT, Ln8, SlotJ. -/
import Derived.Test.YtinamipkpdlphaaK5
set_option linter.unusedVariables false
set_option linter.unusedSimpArgs false
set_option linter.unusedSectionVars false
namespace Go.Proofs.Ytinamipkpdlphaa
open Go.RowKit
def tl97:List Nat:=[128,0,0,0,0,0,0,0,0,0,0,0,0,0,0,0,0,0,0,0,0,0,0,0,0,0,0,0,0,3,8]
theorem tl97_ok:tl97.map UInt8.ofNat=tlB 97:=by decide +kernel
theorem DL.append {N:Nat} {a b:List Nat} {f:Nat→Nat→Nat} (ha:DL N a f) (hb:DL N b (fun i j=>f i (a.length + j))):DL N (a++b) f:=fun j hj=>by
  by_cases h:j < a.length
  · rw [List.getElem_append_left h]
    exact ha j h
  · have h2:j - a.length < b.length:=by rw [List.length_append] at hj; omega
    rw [List.getElem_append_right (by omega)]
    have:=hb (j - a.length) h2
    dsimp only at this
    rw [show a.length + (j - a.length)=j by omega] at this
    exact this
theorem numB_pair (n:Int):numB n 2=[byte (n.fdiv (2 ^ 8)),byte (n.fdiv (2 ^ 0))]:=rfl
theorem dig_left {a b:List UInt8} {j:Nat} (h:j < 4 * a.length):dig (a++b) j=dig a j:=by
  unfold dig at0
  rw [List.getD_eq_getElem?_getD,List.getD_eq_getElem?_getD,List.getElem?_append_left (by omega)]
theorem dig_right {a b:List UInt8} {j:Nat}:dig (a++b) (4 * a.length + j)=dig b j:=by
  unfold dig at0
  rw [List.getD_eq_getElem?_getD,List.getD_eq_getElem?_getD,List.getElem?_append_right (by omega),show (4 * a.length + j) / 4 - a.length=j / 4 by omega,show (4 * a.length + j) % 4=j % 4 by omega]
noncomputable def dgK (M O M8 O3:Nat) (hd c msg:List Nat) (k:List Nat→Bool):Bool :=
  shaK M O M8 2 (app (app hd (app (cst O [129,129]) (app c msg))) (cst O tl97)) fun b=>digsK O3 b fun ds=>sumK O3 ds 0 fun S =>
    frc (Nat.land (Nat.shiftRight S 2) M8) fun hi=>frc (Nat.shiftLeft (Nat.land S O3) 6) fun lo=>digsK O3 [hi,lo] fun ds2=>k (app ds ds2)
theorem sum_bytes {N S:Nat} {s:Nat→Nat} (hS:VB 384 S) (hs:∀ i,i < N→laneN S i=s i):BL N [Nat.land (Nat.shiftRight S 2) (255 * ones N),Nat.shiftLeft (Nat.land S (3 * ones N)) 6] (fun i=>numB ((64 * s i:Nat):Int) 2):=by
  have h3:VB 3 (S &&& 3 * ones N):=VB_and_left (VB_const (by decide) N)
  have hv:=VB_shl h3 (s:=6) (by decide)
  have h1:BL N [Nat.land (Nat.shiftRight S 2) (255 * ones N),Nat.shiftLeft (Nat.land S (3 * ones N)) 6] (fun i=>[UInt8.ofNat (s i / 4),UInt8.ofNat (64 * (s i % 4))]):=by
    refine BL.cons (VB_and_left (VB_const (by decide) N)) (fun i hi=>?_) (BL.cons (hv.le (by decide)) (fun i hi=>?_) (BL.nil N))
    · show UInt8.ofNat (laneN (S >>> 2 &&& 255 * ones N) i)=_
      rw [lane_and,lane_const (by decide),if_pos hi,show (255:Nat)=2 ^ 8 - 1 from rfl,Nat.and_two_pow_sub_one_eq_mod,ofNat8_mod]
      have h:=lane_shr S 2 i (by decide)
      rw [Nat.shiftRight_eq_div_pow (laneN S i),hs i hi] at h
      have hle:=hS i
      rw [hs i hi] at hle
      rw [Nat.mod_eq_of_lt (a:=s i / 2 ^ 2) (by omega)] at h
      refine UInt8.toNat_inj.1 ?_
      rw [UInt8.toNat_ofNat',UInt8.toNat_ofNat']
      omega
    · show UInt8.ofNat (laneN ((S &&& 3 * ones N) <<< 6) i)=_
      rw [lane_shl h3 (by decide),lane_and,lane_const (by decide),if_pos hi,show (3:Nat)=2 ^ 2 - 1 from rfl,Nat.and_two_pow_sub_one_eq_mod,hs i hi]
  refine h1.congr fun i hi=>?_
  have hle:=hS i
  rw [hs i hi] at hle
  rw [numB_pair]
  have e1:UInt8.ofNat (s i / 4)=byte (((64 * s i:Nat):Int).fdiv (2 ^ 8)):=by
    unfold byte
    rw [Int.fdiv_eq_ediv_of_nonneg _ (by decide)]
    congr 1
    omega
  have e2:UInt8.ofNat (64 * (s i % 4))=byte (((64 * s i:Nat):Int).fdiv (2 ^ 0)):=by
    unfold byte
    rw [Int.fdiv_eq_ediv_of_nonneg _ (by decide)]
    congr 1
    omega
  rw [e1,e2]
theorem dgK_spec {N:Nat} {hd c msg:List Nat} {nm C:List UInt8} {q:Int} {m:Nat→List UInt8} (hh:BL N hd (fun _=>hdL nm q)) (hhl:hd.length=20) (hc:BL N c (fun _=>C)) (hcl:c.length=32) (hm:BL N msg m) (hml:msg.length=43) :
    ∃ ds:List Nat,ds.length=136∧DL N ds (fun i j=>digA nm q C (m i) j)∧∀ k:List Nat→Bool,dgK (msk N) (ones N) (255 * ones N) (3 * ones N) hd c msg k=k ds:=by
  have h1:BL N (app hd (app (cst (ones N) [129,129]) (app c msg))) (fun i=>hdL nm q++[129,129]++C++m i):=by
    rw [app_eq,app_eq,app_eq]
    exact (hh.append ((BL.cst (ns:=[129,129]) (by decide)).append (hc.append hm))).congr fun i hi=>by simp only [List.append_assoc]; rfl
  obtain ⟨b,hb,hbl,hbk⟩:=shaM h1 (n:=97) (nb:=2) (by rw [app_eq,app_eq,app_eq,List.length_append,List.length_append,List.length_append,cst_map,List.length_map,hhl,hcl,hml]; rfl) tl97_ok (by decide) rfl
  have hb:BL N b (fun i=>digB nm q C (m i)):=hb
  obtain ⟨ds,hdl,hds,hdk⟩:=digsK_spec hb
  rw [hbl] at hdl
  obtain ⟨S,hS1,hS2,hSk⟩:=sumK_spec (b:=fun i=>digB nm q C (m i)) ds 0 (fun j hj=>by dsimp only; rw [Nat.zero_add]; exact hds j hj) 0 0 (fun i=>by unfold laneN; simp) (by omega) (fun i hi=>by unfold laneN; simp [digSum])
  rw [hdl] at hS1 hS2
  have h2:=sum_bytes (N:=N) (s:=fun i=>digSum (digB nm q C (m i)) 128) (hS1.le (by decide)) hS2
  obtain ⟨ds2,hdl2,hds2,hdk2⟩:=digsK_spec h2
  refine ⟨ds++ds2,by rw [List.length_append,hdl,hdl2]; rfl,DL.append (fun j hj=>?_) (fun j hj=>?_),fun k=>?_⟩
  · have:=hds j hj
    refine ⟨this.1,fun i hi=>(this.2 i hi).trans ?_⟩
    show dig (digB nm q C (m i)) j=dig (digB2 nm q C (m i)) j
    unfold digB2
    have hl:(digB nm q C (m i)).length=32:=sha_length _
    rw [dig_left (by rw [hl]; omega)]
  · have:=hds2 j hj
    refine ⟨this.1,fun i hi=>(this.2 i hi).trans ?_⟩
    show dig _ j=dig (digB2 nm q C (m i)) (ds.length + j)
    unfold digB2
    have hl:(digB nm q C (m i)).length=32:=sha_length _
    rw [show ds.length + j=4 * (digB nm q C (m i)).length + j by rw [hl,hdl],dig_right]
  · unfold dgK
    rw [hbk,hdk,hSk,frc_eq,frc_eq]
    show digsK (3 * ones N) [Nat.land (Nat.shiftRight S 2) (255 * ones N),Nat.shiftLeft (Nat.land S (3 * ones N)) 6] _=_
    rw [hdk2,app_eq]
def bytesN (Y:Nat):Nat→List UInt8
  | 0=>[]
  | n + 1=>UInt8.ofNat (Y / 2 ^ (8 * n) % 256)::bytesN Y n
def pick4 (Y0 Y1 Y2 Y3 a:Nat):Nat:=if a=0 then Y0 else if a=1 then Y1 else if a=2 then Y2 else Y3
def by1 (Y s:Nat):Nat:=Nat.land (Nat.shiftRight Y s) 255
theorem by1_eq (Y s:Nat):by1 Y s=Y / 2 ^ s % 256:=by
  show Y >>> s &&& 255=_
  rw [show (255:Nat)=2 ^ 8 - 1 from rfl,Nat.and_two_pow_sub_one_eq_mod,Nat.shiftRight_eq_div_pow]
def selB (Y0 Y1 Y2 Y3 m0 m1 m2 m3 s:Nat):Nat:=Nat.add (Nat.add (Nat.mul (by1 Y0 s) m0) (Nat.mul (by1 Y1 s) m1)) (Nat.add (Nat.mul (by1 Y2 s) m2) (Nat.mul (by1 Y3 s) m3))
noncomputable def selK (Y0 Y1 Y2 Y3 m0 m1 m2 m3 n:Nat):(List Nat→Bool)→Bool:=@Nat.rec (fun _=>(List Nat→Bool)→Bool) (fun k=>k []) (fun n ih k=>frc (selB Y0 Y1 Y2 Y3 m0 m1 m2 m3 (Nat.mul 8 n)) fun x=>ih fun r=>k (x::r)) n
theorem selK_succ (Y0 Y1 Y2 Y3 m0 m1 m2 m3 n:Nat) (k:List Nat→Bool):selK Y0 Y1 Y2 Y3 m0 m1 m2 m3 (n + 1) k=frc (selB Y0 Y1 Y2 Y3 m0 m1 m2 m3 (8 * n)) fun x=>selK Y0 Y1 Y2 Y3 m0 m1 m2 m3 n fun r=>k (x::r):=rfl
def Msk (N m A d:Nat):Prop:=∀ i,laneN m i=if i < N∧laneN A i=d then 1 else 0
theorem Msk.vb {N m A d:Nat} (h:Msk N m A d):VB 1 m:=fun i=>by rw [h i]; split <;> omega
theorem selB_spec {N A m0 m1 m2 m3:Nat} (hA:VB 3 A) (h0:Msk N m0 A 0) (h1:Msk N m1 A 1) (h2:Msk N m2 A 2) (h3:Msk N m3 A 3) (Y0 Y1 Y2 Y3 s:Nat) :
    VB 255 (selB Y0 Y1 Y2 Y3 m0 m1 m2 m3 s)∧∀ i,i < N→eb i (selB Y0 Y1 Y2 Y3 m0 m1 m2 m3 s)=UInt8.ofNat (pick4 Y0 Y1 Y2 Y3 (laneN A i) / 2 ^ s % 256):=by
  have hb:∀ Y,by1 Y s < 256:=fun Y=>by rw [by1_eq]; exact Nat.mod_lt _ (by decide)
  have hm:∀ {m d:Nat} (Y:Nat),Msk N m A d→VB 255 (by1 Y s * m):=fun {m d} Y h=>by
    have:=hb Y
    exact (VB_mul h.vb (by omega)).le (by omega)
  have hl:∀ i,laneN (selB Y0 Y1 Y2 Y3 m0 m1 m2 m3 s) i=(by1 Y0 s * laneN m0 i + by1 Y1 s * laneN m1 i) + (by1 Y2 s * laneN m2 i + by1 Y3 s * laneN m3 i):=fun i=>by
    have e0:=hb Y0; have e1:=hb Y1; have e2:=hb Y2; have e3:=hb Y3
    show laneN ((by1 Y0 s * m0 + by1 Y1 s * m1) + (by1 Y2 s * m2 + by1 Y3 s * m3)) i=_
    rw [lane_add (VB_add (hm Y0 h0) (hm Y1 h1) (by decide)) (VB_add (hm Y2 h2) (hm Y3 h3) (by decide)) (by decide),lane_add (hm Y0 h0) (hm Y1 h1) (by decide),lane_add (hm Y2 h2) (hm Y3 h3) (by decide),
      lane_mul h0.vb (by omega),lane_mul h1.vb (by omega),lane_mul h2.vb (by omega),lane_mul h3.vb (by omega)]
  have hp:∀ i,i < N→laneN (selB Y0 Y1 Y2 Y3 m0 m1 m2 m3 s) i=by1 (pick4 Y0 Y1 Y2 Y3 (laneN A i)) s:=fun i hi=>by
    have ha:=hA i
    rw [hl,h0 i,h1 i,h2 i,h3 i]
    unfold pick4
    generalize laneN A i=a at ha
    obtain rfl | rfl | rfl | rfl:a=0∨a=1∨a=2∨a=3:=by omega
    all_goals simp [hi]
  refine ⟨fun i=>?_,fun i hi=>?_⟩
  · by_cases hi:i < N
    · rw [hp i hi]
      have:=hb (pick4 Y0 Y1 Y2 Y3 (laneN A i))
      omega
    · rw [hl,h0 i,h1 i,h2 i,h3 i]
      simp [hi]
  · unfold eb
    rw [hp i hi,by1_eq]
theorem selK_spec {N A m0 m1 m2 m3:Nat} (hA:VB 3 A) (h0:Msk N m0 A 0) (h1:Msk N m1 A 1) (h2:Msk N m2 A 2) (h3:Msk N m3 A 3) (Y0 Y1 Y2 Y3:Nat):∀ n,∃ r:List Nat,BL N r (fun i=>bytesN (pick4 Y0 Y1 Y2 Y3 (laneN A i)) n)∧r.length=n∧∀ k:List Nat→Bool,selK Y0 Y1 Y2 Y3 m0 m1 m2 m3 n k=k r
  | 0=>⟨[],BL.nil N,rfl,fun k=>rfl⟩
  | n + 1=>by
    obtain ⟨r,h4,h5,h6⟩:=selK_spec hA h0 h1 h2 h3 Y0 Y1 Y2 Y3 n
    obtain ⟨h7,h8⟩:=selB_spec hA h0 h1 h2 h3 Y0 Y1 Y2 Y3 (8 * n)
    refine ⟨_::r,BL.cons h7 h8 h4,by rw [List.length_cons,h5],fun k=>?_⟩
    rw [selK_succ,frc_eq,h6]
noncomputable def bitsK (O a:Nat) (k:Nat→Nat→Bool):Bool:=frc (Nat.land a O) fun p=>frc (Nat.land (Nat.shiftRight a 1) O) fun q=>k p q
theorem bit_lane {N A s:Nat} (hs:s≤1) (i:Nat):laneN (Nat.land (Nat.shiftRight A s) (ones N)) i=if i < N then laneN A i / 2 ^ s % 2 else 0:=by
  show laneN (A >>> s &&& ones N) i=_
  rw [lane_and,lane_ones]
  split
  · rw [show (1:Nat)=2 ^ 1 - 1 from rfl,Nat.and_two_pow_sub_one_eq_mod]
    have h:=lane_shr A s i (by omega)
    rw [Nat.shiftRight_eq_div_pow (laneN A i)] at h
    have h2:laneN (A >>> s) i % 2 ^ 32 % 2 ^ 1=laneN A i / 2 ^ s % 2 ^ 32 % 2 ^ 1:=by rw [h]
    rw [Nat.mod_mod_of_dvd _ (show 2 ^ 1 ∣ 2 ^ 32 from Nat.pow_dvd_pow 2 (by decide)),Nat.mod_mod_of_dvd _ (show 2 ^ 1 ∣ 2 ^ 32 from Nat.pow_dvd_pow 2 (by decide))] at h2
    exact h2
  · rw [Nat.and_zero]
theorem bitsK_spec {N A:Nat}:∃ p q:Nat,(∀ i,laneN p i=if i < N then laneN A i % 2 else 0)∧(∀ i,laneN q i=if i < N then laneN A i / 2 % 2 else 0)∧∀ k:Nat→Nat→Bool,bitsK (ones N) A k=k p q :=
  ⟨Nat.land A (ones N),Nat.land (Nat.shiftRight A 1) (ones N),fun i=>by have:=bit_lane (N:=N) (A:=A) (s:=0) (by decide) i; simpa using this,fun i=>by have:=bit_lane (N:=N) (A:=A) (s:=1) (by decide) i; simpa using this,fun k=>by unfold bitsK; rw [frc_eq,frc_eq]⟩
theorem bit_msks {N A p q:Nat} (hA:VB 3 A) (hp:∀ i,laneN p i=if i < N then laneN A i % 2 else 0) (hq:∀ i,laneN q i=if i < N then laneN A i / 2 % 2 else 0) :
    Msk N (Nat.xor (ones N) (Nat.lor p q)) A 0∧Msk N (Nat.xor p (Nat.land p q)) A 1∧Msk N (Nat.xor q (Nat.land p q)) A 2∧Msk N (Nat.land p q) A 3:=by
  have hall:∀ i,laneN (ones N ^^^ (p ||| q)) i=(if i < N∧laneN A i=0 then 1 else 0)∧laneN (p ^^^ (p &&& q)) i=(if i < N∧laneN A i=1 then 1 else 0)∧laneN (q ^^^ (p &&& q)) i=(if i < N∧laneN A i=2 then 1 else 0)∧laneN (p &&& q) i=(if i < N∧laneN A i=3 then 1 else 0):=fun i=>by
    have ha:=hA i
    simp only [lane_xor,lane_or,lane_and,lane_ones,hp,hq]
    generalize laneN A i=a at ha
    by_cases hi:i < N
    · simp only [hi,if_true,true_and]
      have:∀ a < 4,(1 ^^^ (a % 2 ||| a / 2 % 2)=if a=0 then 1 else 0)∧(a % 2 ^^^ (a % 2 &&& a / 2 % 2)=if a=1 then 1 else 0)∧(a / 2 % 2 ^^^ (a % 2 &&& a / 2 % 2)=if a=2 then 1 else 0)∧(a % 2 &&& a / 2 % 2=if a=3 then 1 else 0):=by decide
      exact this a (by omega)
    · simp [hi]
  exact ⟨fun i=>(hall i).1,fun i=>(hall i).2.1,fun i=>(hall i).2.2.1,fun i=>(hall i).2.2.2⟩
def Stp (N c A s:Nat):Prop:=∀ i,laneN c i=if i < N∧laneN A i≤s then 1 else 0
theorem bit_stps {N A p q:Nat} (hA:VB 3 A) (hp:∀ i,laneN p i=if i < N then laneN A i % 2 else 0) (hq:∀ i,laneN q i=if i < N then laneN A i / 2 % 2 else 0) :
    Stp N (Nat.xor (ones N) (Nat.lor p q)) A 0∧Stp N (Nat.xor (ones N) q) A 1∧Stp N (Nat.xor (ones N) (Nat.land p q)) A 2:=by
  have hall:∀ i,laneN (ones N ^^^ (p ||| q)) i=(if i < N∧laneN A i≤0 then 1 else 0)∧laneN (ones N ^^^ q) i=(if i < N∧laneN A i≤1 then 1 else 0)∧laneN (ones N ^^^ (p &&& q)) i=(if i < N∧laneN A i≤2 then 1 else 0):=fun i=>by
    have ha:=hA i
    simp only [lane_xor,lane_or,lane_and,lane_ones,hp,hq]
    generalize laneN A i=a at ha
    by_cases hi:i < N
    · simp only [hi,if_true,true_and]
      have:∀ a < 4,(1 ^^^ (a % 2 ||| a / 2 % 2)=if a≤0 then 1 else 0)∧(1 ^^^ a / 2 % 2=if a≤1 then 1 else 0)∧(1 ^^^ (a % 2 &&& a / 2 % 2)=if a≤2 then 1 else 0):=by decide
      exact this a (by omega)
    · simp [hi]
  exact ⟨fun i=>(hall i).1,fun i=>(hall i).2.1,fun i=>(hall i).2.2⟩
def cndP (cm x y:Nat):Nat:=Nat.xor x (Nat.land (Nat.xor x y) cm)
noncomputable def cndK (cm:Nat) (v:List Nat):List Nat→(List Nat→Bool)→Bool:=@List.rec Nat (fun _=>List Nat→(List Nat→Bool)→Bool) (fun _ k=>k [])
  (fun x _ ih h k=>@List.rec Nat (fun _=>Bool) false (fun y h' _=>frc (cndP cm x y) fun z=>ih h' fun r=>k (z::r)) h) v
theorem cndK_cons (cm x y:Nat) (v h:List Nat) (k:List Nat→Bool):cndK cm (x::v) (y::h) k=frc (cndP cm x y) fun z=>cndK cm v h fun r=>k (z::r):=rfl
theorem xor_back {x y:Nat} (hx:x < 2 ^ 8) (hy:y < 2 ^ 8):x ^^^ ((x ^^^ y) &&& 255)=y:=by
  rw [show (255:Nat)=2 ^ 8 - 1 from rfl,Nat.and_two_pow_sub_one_eq_mod,Nat.mod_eq_of_lt (Nat.xor_lt_two_pow hx hy),← Nat.xor_assoc,Nat.xor_self,Nat.zero_xor]
theorem cndK_spec {N cm:Nat} {P:Nat→Bool} (hc:∀ i,laneN cm i=if P i then 255 else 0):∀ {v h:List Nat} {V H:Nat→List UInt8},BL N v V→BL N h H→v.length=h.length→∃ r:List Nat,BL N r (fun i=>if P i then H i else V i)∧r.length=v.length∧∀ k:List Nat→Bool,cndK cm v h k=k r
  | [],[],V,H,hv,hh,hl=>⟨[],⟨fun X hX=>(by cases hX),fun i hi=>by
    have h1:=hv.eq i hi
    have h2:=hh.eq i hi
    show []=if P i then H i else V i
    split
    · exact h2
    · exact h1⟩,rfl,fun k=>rfl⟩
  | [],y::h,V,H,hv,hh,hl=>absurd hl (by simp)
  | x::v,[],V,H,hv,hh,hl=>absurd hl (by simp)
  | x::v,y::h,V,H,hv,hh,hl=>by
    have hx:=hv.vb x (by simp)
    have hy:=hh.vb y (by simp)
    have hv2:BL N v (fun i=>(V i).drop 1):=⟨fun X hX=>hv.vb X (by simp [hX]),fun i hi=>by rw [← hv.eq i hi]; rfl⟩
    have hh2:BL N h (fun i=>(H i).drop 1):=⟨fun X hX=>hh.vb X (by simp [hX]),fun i hi=>by rw [← hh.eq i hi]; rfl⟩
    obtain ⟨r,h1,h2,h3⟩:=cndK_spec hc hv2 hh2 (by simpa using hl)
    have hz:∀ i,laneN (cndP cm x y) i=if P i then laneN y i else laneN x i:=fun i=>by
      show laneN (x ^^^ ((x ^^^ y) &&& cm)) i=_
      rw [lane_xor,lane_and,lane_xor,hc]
      have:=hx i
      have:=hy i
      split
      · exact xor_back (by omega) (by omega)
      · rw [Nat.and_zero,Nat.xor_zero]
    refine ⟨cndP cm x y::r,⟨fun X hX=>?_,fun i hi=>?_⟩,by rw [List.length_cons,List.length_cons,h2],fun k=>?_⟩
    · rcases List.mem_cons.1 hX with rfl | hX
      · exact fun i=>by
          rw [hz]
          split
          · exact hy i
          · exact hx i
      · exact h1.vb X hX
    · rw [List.map_cons,h1.eq i hi]
      have e1:=hv.eq i hi
      have e2:=hh.eq i hi
      unfold eb
      rw [hz]
      split
      · rw [← e2]; rfl
      · rw [← e1]; rfl
    · rw [cndK_cons,frc_eq,h3]
open Go.RowKit
theorem mark_ok {j s:Nat} (hj:j < 256) (hs:s < 256):([0,j,s]:List Nat).map UInt8.ofNat=numB (j:Int) 2++[byte (s:Int)]∧∀ x ∈ ([0,j,s]:List Nat),x < 256:=by
  refine ⟨?_,fun x hx=>?_⟩
  · rw [numB_pair]
    have e1:byte ((j:Int).fdiv (2 ^ 8))=0:=by
      unfold byte
      rw [Int.fdiv_eq_ediv_of_nonneg _ (by decide),show (j:Int) / 2 ^ 8=0 by omega]
      rfl
    have e2:∀ n:Nat,n < 256→byte (n:Int)=UInt8.ofNat n:=fun n hn=>by
      unfold byte
      congr 1
      omega
    have e3:(j:Int).fdiv (2 ^ 0)=(j:Int):=by rw [Int.fdiv_eq_ediv_of_nonneg _ (by decide)]; simp
    rw [e1,e3,e2 j hj,e2 s hs]
    rfl
  · rcases List.mem_cons.1 hx with rfl | hx
    · decide
    · rcases List.mem_cons.1 hx with rfl | hx
      · exact hj
      · rw [List.mem_singleton.1 hx]; exact hs
noncomputable def stpK (M O M8:Nat) (hd:List Nat) (j s c:Nat) (v:List Nat) (k:List Nat→Bool):Bool:=hcK M O M8 tl55 hd [0,j,s] v fun h=>cndK c v h k
theorem stpK_spec {N c:Nat} {hd v:List Nat} {nm:List UInt8} {q:Int} {j s:Nat} {V:Nat→List UInt8} {P:Nat→Bool} (hh:BL N hd (fun _=>hdL nm q)) (hhl:hd.length=20) (hj:j < 256) (hs:s < 256) (hc:∀ i,laneN c i=if P i then 255 else 0) (hv:BL N v V) (hvl:v.length=32) :
    ∃ r:List Nat,BL N r (fun i=>if P i then hashC nm q (j:Int) (s:Int) (V i) else V i)∧r.length=32∧∀ k:List Nat→Bool,stpK (msk N) (ones N) (255 * ones N) hd j s c v k=k r:=by
  obtain ⟨hm,h6⟩:=mark_ok hj hs
  obtain ⟨h,h1,h2,h3⟩:=hcK_spec hh hhl hv hvl hm h6 rfl
  obtain ⟨r,h4,h5,h7⟩:=cndK_spec hc hv h1 (by rw [hvl,h2])
  exact ⟨r,h4,by rw [h5,hvl],fun k=>by unfold stpK; rw [h3,h7]⟩
noncomputable def chK (M O M8:Nat) (hd:List Nat) (j Y0 Y1 Y2 Y3 a b:Nat) (k:List Nat→Bool):Bool :=
  bitsK O a fun p q=>frc (Nat.land p q) fun m3=>frc (Nat.xor p m3) fun m1=>frc (Nat.xor q m3) fun m2=>frc (Nat.xor O (Nat.lor p q)) fun m0=>selK Y0 Y1 Y2 Y3 m0 m1 m2 m3 32 fun v0 =>
  bitsK O b fun p q=>frc (Nat.mul 255 (Nat.xor O (Nat.lor p q))) fun c0=>frc (Nat.mul 255 (Nat.xor O q)) fun c1=>frc (Nat.mul 255 (Nat.xor O (Nat.land p q))) fun c2 =>
  stpK M O M8 hd j 0 c0 v0 fun v1=>stpK M O M8 hd j 1 c1 v1 fun v2=>stpK M O M8 hd j 2 c2 v2 k
theorem stp_mul {N c A s:Nat} (h:Stp N c A s):∀ i,laneN (Nat.mul 255 c) i=if decide (i < N∧laneN A i≤s) then 255 else 0:=fun i=>by
  show laneN (255 * c) i=_
  have hv:VB 1 c:=fun i=>by rw [h i]; split <;> omega
  rw [lane_mul hv (by decide),h i]
  by_cases hp:i < N∧laneN A i≤s
  · rw [if_pos hp,decide_eq_true hp]; rfl
  · rw [if_neg hp,decide_eq_false hp]; rfl
theorem chK_spec {N a b:Nat} {hd:List Nat} {nm:List UInt8} {q:Int} {j:Nat} (hh:BL N hd (fun _=>hdL nm q)) (hhl:hd.length=20) (hj:j < 256) (ha:VB 3 a) (hb:VB 3 b) (Y0 Y1 Y2 Y3:Nat) :
    ∃ r:List Nat,BL N r (fun i=>walkC nm q j (laneN b i) (3 - laneN b i) (bytesN (pick4 Y0 Y1 Y2 Y3 (laneN a i)) 32))∧r.length=32∧∀ k:List Nat→Bool,chK (msk N) (ones N) (255 * ones N) hd j Y0 Y1 Y2 Y3 a b k=k r:=by
  obtain ⟨p,q',hp,hq,hpq⟩:=bitsK_spec (N:=N) (A:=a)
  obtain ⟨m0,m1,m2,m3⟩:=bit_msks ha hp hq
  obtain ⟨v0,h0,l0,k0⟩:=selK_spec ha m0 m1 m2 m3 Y0 Y1 Y2 Y3 32
  obtain ⟨p2,q2,hp2,hq2,hpq2⟩:=bitsK_spec (N:=N) (A:=b)
  obtain ⟨s0,s1,s2⟩:=bit_stps hb hp2 hq2
  obtain ⟨v1,h1,l1,k1⟩:=stpK_spec (s:=0) hh hhl hj (by decide) (stp_mul s0) h0 l0
  obtain ⟨v2,h2,l2,k2⟩:=stpK_spec (s:=1) hh hhl hj (by decide) (stp_mul s1) h1 l1
  obtain ⟨v3,h3,l3,k3⟩:=stpK_spec (s:=2) hh hhl hj (by decide) (stp_mul s2) h2 l2
  refine ⟨v3,h3.congr fun i hi=>?_,l3,fun k=>?_⟩
  · have hbi:=hb i
    generalize laneN b i=e at hbi
    generalize bytesN (pick4 Y0 Y1 Y2 Y3 (laneN a i)) 32=t
    obtain rfl | rfl | rfl | rfl:e=0∨e=1∨e=2∨e=3:=by omega
    all_goals simp [hi,walkC]
  · unfold chK
    rw [hpq,frc_eq,frc_eq,frc_eq,frc_eq,k0,hpq2,frc_eq,frc_eq,frc_eq,k1,k2,k3]
def rowsF (y:Nat→List UInt8) (j:Nat):Nat→List UInt8
  | 0=>[]
  | n + 1=>y j++rowsF y (j + 1) n
theorem rowsF_eq (y:Nat→List UInt8):∀ n j,rowsC y j++rowsF y j n=rowsC y (j + n)
  | 0,j=>by rw [rowsF,List.append_nil]; rfl
  | n + 1,j=>by
    rw [rowsF,← List.append_assoc]
    have:=rowsF_eq y n (j + 1)
    rw [show j + (n + 1)=j + 1 + n by omega,← this]
    rfl
noncomputable def chsK (M O M8:Nat) (hd:List Nat) (n:Nat):Nat→List Nat→List Nat→List Nat→(List Nat→Bool)→Bool:=@Nat.rec (fun _=>Nat→List Nat→List Nat→List Nat→(List Nat→Bool)→Bool) (fun _ _ _ _ k=>k [])
  (fun _ ih j Ys As Bs k=>@List.rec Nat (fun _=>Bool) false (fun Y0 Ys _=>@List.rec Nat (fun _=>Bool) false (fun Y1 Ys _=>@List.rec Nat (fun _=>Bool) false (fun Y2 Ys _=>@List.rec Nat (fun _=>Bool) false (fun Y3 Ys _=>@List.rec Nat (fun _=>Bool) false (fun a As _=>@List.rec Nat (fun _=>Bool) false (fun b Bs _=>chK M O M8 hd j Y0 Y1 Y2 Y3 a b fun v=>frc (Nat.succ j) fun j'=>ih j' Ys As Bs fun r=>k (app v r)) Bs) As) Ys) Ys) Ys) Ys) n
theorem chsK_succ (M O M8:Nat) (hd:List Nat) (n j Y0 Y1 Y2 Y3 a b:Nat) (Ys As Bs:List Nat) (k:List Nat→Bool):chsK M O M8 hd (n + 1) j (Y0::Y1::Y2::Y3::Ys) (a::As) (b::Bs) k=chK M O M8 hd j Y0 Y1 Y2 Y3 a b fun v=>frc (Nat.succ j) fun j'=>chsK M O M8 hd n j' Ys As Bs fun r=>k (app v r):=rfl
def yA (nm:List UInt8) (q:Int) (YL:List Nat) (A B:Nat→Nat) (j:Nat):List UInt8:=walkC nm q j (B j) (3 - B j) (bytesN (YL.getD (4 * j + A j) 0) 32)
theorem pick_get {YL:List Nat} {j a:Nat} (ha:a≤3):pick4 (YL.getD (4 * j) 0) (YL.getD (4 * j + 1) 0) (YL.getD (4 * j + 2) 0) (YL.getD (4 * j + 3) 0) a=YL.getD (4 * j + a) 0:=by
  obtain rfl | rfl | rfl | rfl:a=0∨a=1∨a=2∨a=3:=by omega
  all_goals rfl
theorem drop_getD {L:List Nat} {j:Nat} (h:j < L.length):L.drop j=L.getD j 0::L.drop (j + 1):=by
  rw [List.drop_eq_getElem_cons h,List.getD_eq_getElem?_getD,List.getElem?_eq_getElem h]
  rfl
theorem chsK_spec {N:Nat} {hd YL ds es:List Nat} {nm:List UInt8} {q:Int} {A B:Nat→Nat→Nat} (hh:BL N hd (fun _=>hdL nm q)) (hhl:hd.length=20) (hA:DL N ds A) (hB:DL N es B) :
    ∀ n j,j + n≤256→4 * (j + n)≤YL.length→j + n≤ds.length→j + n≤es.length→∃ r:List Nat,BL N r (fun i=>rowsF (yA nm q YL (A i) (B i)) j n)∧r.length=32 * n∧∀ k:List Nat→Bool,chsK (msk N) (ones N) (255 * ones N) hd n j (YL.drop (4 * j)) (ds.drop j) (es.drop j) k=k r
  | 0,j,h1,h2,h3,h4=>⟨[],BL.nil N,rfl,fun k=>rfl⟩
  | n + 1,j,h1,h2,h3,h4=>by
    have gA:ds.getD j 0=ds[j]:=by rw [List.getD_eq_getElem?_getD,List.getElem?_eq_getElem (by omega)]; rfl
    have gB:es.getD j 0=es[j]:=by rw [List.getD_eq_getElem?_getD,List.getElem?_eq_getElem (by omega)]; rfl
    obtain ⟨a1,a2⟩:=hA j (by omega)
    obtain ⟨b1,b2⟩:=hB j (by omega)
    rw [← gA] at a1 a2
    rw [← gB] at b1 b2
    obtain ⟨v,hv,hvl,hvk⟩:=chK_spec hh hhl (j:=j) (by omega) a1 b1 (YL.getD (4 * j) 0) (YL.getD (4 * j + 1) 0) (YL.getD (4 * j + 2) 0) (YL.getD (4 * j + 3) 0)
    obtain ⟨r,hr,hrl,hrk⟩:=chsK_spec (YL:=YL) hh hhl hA hB n (j + 1) (by omega) (by omega) (by omega) (by omega)
    refine ⟨v++r,(hv.append hr).congr fun i hi=>?_,by rw [List.length_append,hvl,hrl]; omega,fun k=>?_⟩
    · rw [rowsF]
      congr 1
      unfold yA
      rw [b2 i hi,a2 i hi,pick_get (by rw [← a2 i hi]; exact a1 i)]
    · rw [drop_getD (L:=YL) (j:=4 * j) (by omega),drop_getD (L:=YL) (j:=4 * j + 1) (by omega),drop_getD (L:=YL) (j:=4 * j + 1 + 1) (by omega),drop_getD (L:=YL) (j:=4 * j + 1 + 1 + 1) (by omega),drop_getD (L:=ds) (by omega),drop_getD (L:=es) (by omega),chsK_succ,hvk,frc_eq,show 4 * j + 1 + 1 + 1 + 1=4 * (j + 1) by omega]
      show chsK _ _ _ hd n (j + 1) _ _ _ _=_
      rw [hrk,app_eq]
def tl4278:List Nat:=[128,0,0,0,0,0,0,0,133,176]
theorem tl4278_ok:tl4278.map UInt8.ofNat=tlB 4278:=by decide +kernel
def tl54:List Nat:=[128,0,0,0,0,0,0,0,1,176]
theorem tl54_ok:tl54.map UInt8.ofNat=tlB 54:=by decide +kernel
def tl86:List Nat:=[128,0,0,0,0,0,0,0,0,0,0,0,0,0,0,0,0,0,0,0,0,0,0,0,0,0,0,0,0,0,0,0,0,0,0,0,0,0,0,0,2,176]
theorem tl86_ok:tl86.map UInt8.ofNat=tlB 86:=by decide +kernel
noncomputable def mskK (M O M8 nb:Nat) (tl hd mk t:List Nat) (k:List Nat→Bool):Bool:=shaK M O M8 nb (app (app hd (app (cst O mk) t)) (cst O tl)) k
theorem mskK_spec {N nb n:Nat} {hd t tl mk:List Nat} {mb Hd:List UInt8} {T:Nat→List UInt8} (hmb:mk.map UInt8.ofNat=mb) (hh:BL N hd (fun _=>Hd)) (hhl:hd.length=20) (ht:BL N t T) (htl:t.length=n) (h6:∀ x ∈ mk,x < 256) (hml:mk.length=2) (htt:tl.map UInt8.ofNat=tlB (22 + n)) (ht6:∀ x ∈ tl,x < 256) (hnb:22 + n + tl.length=64 * nb) :
    ∃ r:List Nat,BL N r (fun i=>sha (Hd++mb++T i))∧r.length=32∧∀ k:List Nat→Bool,mskK (msk N) (ones N) (255 * ones N) nb tl hd mk t k=k r:=by
  have h1:BL N (app hd (app (cst (ones N) mk) t)) (fun i=>Hd++mb++T i):=by
    rw [app_eq,app_eq,← hmb]
    exact (hh.append ((BL.cst h6).append ht)).congr fun i hi=>by simp only [List.append_assoc]
  exact shaM h1 (by rw [app_eq,app_eq,List.length_append,List.length_append,cst_map,List.length_map,hhl,hml,htl]; omega) htt ht6 hnb
noncomputable def difK (O M8 T0 T1 T2 T3:Nat) (X:List Nat):Bool:=@List.rec Nat (fun _=>Bool) false (fun a X _=>@List.rec Nat (fun _=>Bool) false (fun b X _=>@List.rec Nat (fun _=>Bool) false (fun c X _=>@List.rec Nat (fun _=>Bool) false (fun d X _=>frc (Nat.lor (Nat.lor (Nat.xor a (Nat.mul T0 O)) (Nat.xor b (Nat.mul T1 O))) (Nat.lor (Nat.xor c (Nat.mul T2 O)) (Nat.xor d (Nat.mul T3 O)))) fun z=>Nat.beq (Nat.land (Nat.shiftRight (Nat.add z M8) 8) O) O) X) X) X) X
theorem difK_cons (O M8 T0 T1 T2 T3 a b c d:Nat) (r:List Nat):difK O M8 T0 T1 T2 T3 (a::b::c::d::r)=frc (Nat.lor (Nat.lor (Nat.xor a (Nat.mul T0 O)) (Nat.xor b (Nat.mul T1 O))) (Nat.lor (Nat.xor c (Nat.mul T2 O)) (Nat.xor d (Nat.mul T3 O)))) fun z=>Nat.beq (Nat.land (Nat.shiftRight (Nat.add z M8) 8) O) O:=rfl
theorem difK_spec {N T0 T1 T2 T3:Nat} {X:List Nat} {x:Nat→List UInt8} (h:BL N X x) (hl:X.length=32) (h0:T0 < 256) (h1:T1 < 256) (h2:T2 < 256) (h3:T3 < 256) (hd:difK (ones N) (255 * ones N) T0 T1 T2 T3 X=true):∀ i,i < N→(x i).take 4≠[T0,T1,T2,T3].map UInt8.ofNat:=by
  match X,hl with
  | a::b::c::d::r,hl =>
    intro i hi hc
    have hb:Nat.beq (Nat.land (Nat.shiftRight (Nat.add (Nat.lor (Nat.lor (Nat.xor a (Nat.mul T0 (ones N))) (Nat.xor b (Nat.mul T1 (ones N)))) (Nat.lor (Nat.xor c (Nat.mul T2 (ones N))) (Nat.xor d (Nat.mul T3 (ones N))))) (255 * ones N)) 8) (ones N)) (ones N)=true:=by
      rw [difK_cons,frc_eq] at hd
      exact hd
    have hb:=Nat.eq_of_beq_eq_true hb
    have hv:∀ Y ∈ [a,b,c,d],VB 255 Y:=fun Y hY=>h.vb Y (by simp at hY ⊢; omega)
    have hz:∀ {Y t:Nat},VB 255 Y→t < 256→∀ i,laneN (Y ^^^ t * ones N) i=laneN Y i ^^^ (if i < N then t else 0):=fun hY ht i=>by rw [lane_xor,lane_const (by omega)]
    have hx8:∀ {Y t:Nat},VB 255 Y→t < 256→VB 255 (Y ^^^ t * ones N):=fun {Y t} hY ht i=>by
      rw [hz hY ht]
      have h5:=hY i
      have:=Nat.xor_lt_two_pow (n:=8) (show laneN Y i < 2 ^ 8 by omega) (show (if i < N then t else 0) < 2 ^ 8 by split <;> omega)
      omega
    have ho8:∀ {Y Z:Nat},VB 255 Y→VB 255 Z→VB 255 (Y ||| Z):=fun {Y Z} hY hZ i=>by
      rw [lane_or]
      have h5:=hY i
      have h6:=hZ i
      have:=Nat.or_lt_two_pow (n:=8) (show laneN Y i < 2 ^ 8 by omega) (show laneN Z i < 2 ^ 8 by omega)
      omega
    have va:=hv a (by simp); have vb:=hv b (by simp); have vc:=hv c (by simp); have vd:=hv d (by simp)
    obtain ⟨z,hzz⟩:∃ z,z=((a ^^^ T0 * ones N) ||| (b ^^^ T1 * ones N)) ||| ((c ^^^ T2 * ones N) ||| (d ^^^ T3 * ones N)):=⟨_,rfl⟩
    have hzv:VB 255 z:=by rw [hzz]; exact ho8 (ho8 (hx8 va h0) (hx8 vb h1)) (ho8 (hx8 vc h2) (hx8 vd h3))
    have hz0:laneN z i=0:=by
      have he:=h.eq i hi
      have e4:[eb i a,eb i b,eb i c,eb i d]=[T0,T1,T2,T3].map UInt8.ofNat:=by rw [← hc,← he]; rfl
      simp only [List.map_cons,List.map_nil,List.cons.injEq,and_true] at e4
      obtain ⟨ea,eb',ec,ed⟩:=e4
      have g:∀ {Y t:Nat},VB 255 Y→t < 256→eb i Y=UInt8.ofNat t→laneN Y i=t:=fun {Y t} hY ht e=>by
        rw [← eb_nat hY,e,UInt8.toNat_ofNat',Nat.mod_eq_of_lt ht]
      rw [hzz,lane_or,lane_or,lane_or,hz va h0,hz vb h1,hz vc h2,hz vd h3,if_pos hi,if_pos hi,if_pos hi,if_pos hi,g va h0 ea,g vb h1 eb',g vc h2 ec,g vd h3 ed]
      simp
    have hs:laneN (z + 255 * ones N) i=255:=by rw [lane_add hzv (VB_const (by decide) N) (by decide),lane_const (by decide),if_pos hi,hz0]
    have hb2:laneN ((z + 255 * ones N) >>> 8 &&& ones N) i=laneN (ones N) i:=by
      rw [hzz]
      exact congrArg (fun q=>laneN q i) hb
    rw [lane_and,lane_ones,if_pos hi,show (1:Nat)=2 ^ 1 - 1 from rfl,Nat.and_two_pow_sub_one_eq_mod] at hb2
    have h7:=lane_shr (z + 255 * ones N) 8 i (by decide)
    rw [hs] at h7
    have h8:laneN ((z + 255 * ones N) >>> 8) i % 2 ^ 32 % 2 ^ 1=0:=by rw [h7]; rfl
    rw [Nat.mod_mod_of_dvd _ (show 2 ^ 1 ∣ 2 ^ 32 from Nat.pow_dvd_pow 2 (by decide))] at h8
    omega
open Go.RowKit
def toB (l:List Nat):List UInt8:=l.map UInt8.ofNat
def hdN (nm:List Nat) (q:Nat):List Nat:=nm++[0,0,0,q]
theorem numB_small:∀ q < 4,numB ((q:Nat):Int) 4=[0,0,0,UInt8.ofNat q]:=by decide +kernel
theorem hdN_ok {nm:List Nat} {q:Nat} (hq:q < 4):toB (hdN nm q)=hdL (toB nm) (q:Int):=by
  unfold hdL toB hdN
  rw [numB_small q hq,List.map_append]
  rfl
theorem BL_hd (N:Nat) {nm:List Nat} {q:Nat} {z:Int} (hz:(q:Int)=z) (hq:q < 4) (h6:∀ x ∈ nm,x < 256):BL N (cst (ones N) (hdN nm q)) (fun _=>hdL (toB nm) z):=by
  have h:=BL.cst (N:=N) (ns:=hdN nm q) fun x hx=>(List.mem_append.1 hx).elim (h6 x) (fun h=>by simp at h; omega)
  subst hz
  exact h.congr fun i hi=>hdN_ok hq
theorem hd_len {O:Nat} {nm:List Nat} {q:Nat} (hl:nm.length=16):(cst O (hdN nm q)).length=20:=by rw [cst_map,List.length_map]; unfold hdN; rw [List.length_append,hl]; rfl
theorem rowsF_all (y:Nat→List UInt8) (n:Nat):rowsF y 0 n=rowsC y n:=by
  have:=rowsF_eq y n 0
  rw [Nat.zero_add] at this
  rw [← this]
  rfl
def msgF:Nat→List Nat:=fun q=>[108,97,116,116,105,99,101,0,0,0,Nat.succ q,0,0,0,0,0,0,0,0,0]
def zer22:List Nat:=[0,0,0,0,0,0,0,0,0,0,0,0,0,0,0,0,0,0,0,0,0,0]
def msgT (q t:Nat):List UInt8:=toB (msgF q)++(UInt8.ofNat t::toB zer22)
noncomputable def batK (N q:Nat) (nm nm' C sL sR YL:List Nat) (T0 T1 T2 T3:Nat):Bool :=
  frc (ones N) fun O=>frc (Nat.mul 4294967295 O) fun M=>frc (Nat.mul 255 O) fun M8=>frc (Nat.mul 3 O) fun O3=>frc (packN (fun i=>i % 256) N) fun tb =>
  dgK M O M8 O3 (cst O (hdN nm q)) (cst O C) (app (cst O (msgF q)) (tb::cst O zer22)) fun As=>dgK M O M8 O3 (cst O (hdN nm' q)) (cst O C) (app (cst O (msgF q)) (tb::cst O zer22)) fun Bs =>
  chsK M O M8 (cst O (hdN nm' q)) 133 0 YL As Bs fun rows=>mskK M O M8 67 tl4278 (cst O (hdN nm' q)) [128,128] rows fun K =>
  mskK M O M8 1 tl54 (cst O (hdN nm' (Nat.add 2 q))) [130,130] K fun l=>mskK M O M8 2 tl86 (cst O (hdN nm' 1)) [131,131] (app (cst O sL) (app l (cst O sR))) fun t=>difK O M8 T0 T1 T2 T3 t
def trnR (nm nm' C sL sR:List UInt8) (q:Nat) (YL:List Nat) (t:Nat):List UInt8 :=
  nodH nm' 1 131 (sL++(nodH nm' ((2 + q:Nat):Int) 130 (endsC nm' (q:Int) (yA nm' q YL (fun j=>digA nm (q:Int) C (msgT q t) j) (fun j=>digA nm' (q:Int) C (msgT q t) j)))++sR))
theorem batK_spec {N q:Nat} {nm nm' C sL sR YL:List Nat} {T0 T1 T2 T3:Nat} (hN:N≤256) (hq:q < 2) (h1:∀ x ∈ nm,x < 256) (l1:nm.length=16) (h2:∀ x ∈ nm',x < 256) (l2:nm'.length=16) (h3:∀ x ∈ C,x < 256) (l3:C.length=32) (h4:∀ x ∈ sL,x < 256) (h5:∀ x ∈ sR,x < 256) (l4:sL.length + sR.length=32) (lY:YL.length=532)
    (t0:T0 < 256) (t1:T1 < 256) (t2:T2 < 256) (t3:T3 < 256) (h:batK N q nm nm' C sL sR YL T0 T1 T2 T3=true):∀ t,t < N→(trnR (toB nm) (toB nm') (toB C) (toB sL) (toB sR) q YL t).take 4≠[T0,T1,T2,T3].map UInt8.ofNat:=by
  have hf:∀ i:Nat,i % 256 < 2 ^ 64:=fun i=>by omega
  have hlt:∀ i,laneN (packN (fun i=>i % 256) N) i=if i < N then i % 256 else 0:=lane_pack hf N
  have htv:VB 255 (packN (fun i=>i % 256) N):=fun i=>by rw [hlt]; split <;> omega
  have hte:∀ i,i < N→eb i (packN (fun i=>i % 256) N)=UInt8.ofNat i:=fun i hi=>by
    unfold eb
    rw [hlt,if_pos hi]
    exact ofNat8_mod i
  have hmF:∀ x ∈ msgF q,x < 256:=fun x hx=>by
    unfold msgF at hx
    simp only [List.mem_cons,List.not_mem_nil,or_false] at hx
    omega
  have hz:∀ x ∈ zer22,x < 256:=by decide
  have hM:BL N (app (cst (ones N) (msgF q)) (packN (fun i=>i % 256) N::cst (ones N) zer22)) (fun i=>msgT q i):=by
    rw [app_eq]
    exact (BL.cst hmF).append (BL.cons htv hte (BL.cst hz))
  have lM:(app (cst (ones N) (msgF q)) (packN (fun i=>i % 256) N::cst (ones N) zer22)).length=43:=by
    rw [app_eq,List.length_append,List.length_cons,cst_map,cst_map,List.length_map,List.length_map]
    rfl
  have lC:(cst (ones N) C).length=32:=by rw [cst_map,List.length_map,l3]
  obtain ⟨As,lA,hA,kA⟩:=dgK_spec (BL_hd N (q:=q) rfl (by omega) h1) (hd_len l1) (BL.cst h3) lC hM lM
  obtain ⟨Bs,lB,hB,kB⟩:=dgK_spec (BL_hd N (q:=q) rfl (by omega) h2) (hd_len l2) (BL.cst h3) lC hM lM
  obtain ⟨rows,hR,lR,kR⟩:=chsK_spec (YL:=YL) (BL_hd N (q:=q) rfl (by omega) h2) (hd_len l2) hA hB 133 0 (by decide) (by omega) (by omega) (by omega)
  obtain ⟨K,hK,lK,kK⟩:=mskK_spec (nb:=67) (tl:=tl4278) (mk:=[128,128]) (mb:=[128,128]) rfl (BL_hd N (q:=q) rfl (by omega) h2) (hd_len l2) hR lR (by decide) rfl tl4278_ok (by decide) rfl
  obtain ⟨L,hL,lL,kL⟩:=mskK_spec (nb:=1) (tl:=tl54) (mk:=[130,130]) (mb:=[130,130]) rfl (BL_hd N (q:=2 + q) rfl (by omega) h2) (hd_len l2) hK lK (by decide) rfl tl54_ok (by decide) rfl
  have hS:=(BL.cst (N:=N) h4).append (hL.append (BL.cst h5))
  rw [← app_eq,← app_eq] at hS
  have lS:(app (cst (ones N) sL) (app L (cst (ones N) sR))).length=64:=by
    rw [app_eq,app_eq,List.length_append,List.length_append,cst_map,cst_map,List.length_map,List.length_map,lL]
    omega
  obtain ⟨X,hX,lX,kX⟩:=mskK_spec (nb:=2) (tl:=tl86) (mk:=[131,131]) (mb:=[131,131]) rfl (BL_hd N (q:=1) (z:=1) rfl (by decide) h2) (hd_len l2) hS lS (by decide) rfl tl86_ok (by decide) rfl
  have hfin:difK (ones N) (255 * ones N) T0 T1 T2 T3 X=true:=by
    unfold batK at h
    simp only [frc_eq] at h
    have e1:Nat.mul 4294967295 (ones N)=msk N:=rfl
    have e2:Nat.mul 255 (ones N)=255 * ones N:=rfl
    have e3:Nat.mul 3 (ones N)=3 * ones N:=rfl
    have e4:Nat.add 2 q=2 + q:=rfl
    rw [e1,e2,e3,kA,kB] at h
    have kR0:=kR
    simp only [Nat.mul_zero,List.drop_zero] at kR0
    rw [kR0,kK,e4,kL,kX] at h
    exact h
  intro t ht
  have:=difK_spec hX lX t0 t1 t2 t3 hfin t ht
  unfold trnR nodH endsC
  rw [← rowsF_all]
  exact this
noncomputable def andK (a b:Bool):Bool:=@Bool.rec (fun _=>Bool) false b a
theorem andK_true {a b:Bool} (h:andK a b=true):a=true∧b=true:=by
  cases a with
  | false=>cases h
  | true=>exact ⟨rfl,h⟩
noncomputable def eqK (Y:Nat) (X:List Nat):Nat→Bool:=@List.rec Nat (fun _=>Nat→Bool) (fun _=>true) (fun x _ ih n=>andK (Nat.beq (Nat.land x 255) (by1 Y (Nat.mul 8 (Nat.pred n)))) (ih (Nat.pred n))) X
theorem eqK_spec {Y:Nat}:∀ {X:List Nat} {n:Nat},X.length=n→(∀ x ∈ X,VB 255 x)→eqK Y X n=true→X.map (eb 0)=bytesN Y n
  | [],n,hl,hv,h=>by subst hl; rfl
  | x::X,0,hl,hv,h=>absurd hl (by simp)
  | x::X,n + 1,hl,hv,h=>by
    obtain ⟨h1,h2⟩:=andK_true (show andK (Nat.beq (Nat.land x 255) (by1 Y (8 * n))) (eqK Y X n)=true from h)
    have h1:=Nat.eq_of_beq_eq_true h1
    rw [List.map_cons,eqK_spec (by simpa using hl) (fun y hy=>hv y (by simp [hy])) h2,bytesN]
    congr 1
    have h1:x &&& 255=by1 Y (8 * n):=h1
    rw [show (255:Nat)=2 ^ 8 - 1 from rfl,Nat.and_two_pow_sub_one_eq_mod,by1_eq] at h1
    rw [← h1]
    refine UInt8.toNat_inj.1 ?_
    rw [eb_nat (hv x (by simp)),UInt8.toNat_ofNat',Nat.mod_mod]
    have:=hv x (by simp) 0
    unfold laneN pw at this ⊢
    simp only [Nat.mul_zero,Nat.pow_zero,Nat.div_one] at this ⊢
    have e:x % 2 ^ 64 % 2 ^ 8=x % 2 ^ 8:=Nat.mod_mod_of_dvd _ (Nat.pow_dvd_pow 2 (by decide))
    rw [← e,Nat.mod_eq_of_lt (a:=x % 2 ^ 64) (by omega)]
noncomputable def eqL (X:List Nat):List Nat→Bool:=@List.rec Nat (fun _=>List Nat→Bool) (fun _=>true) (fun x _ ih L=>@List.rec Nat (fun _=>Bool) false (fun y L _=>andK (Nat.beq (Nat.land x 255) y) (ih L)) L) X
theorem eqL_spec:∀ {X L:List Nat},X.length=L.length→(∀ x ∈ X,VB 255 x)→eqL X L=true→X.map (eb 0)=toB L
  | [],[],hl,hv,h=>rfl
  | [],y::L,hl,hv,h=>absurd hl (by simp)
  | x::X,[],hl,hv,h=>absurd hl (by simp)
  | x::X,y::L,hl,hv,h=>by
    obtain ⟨h1,h2⟩:=andK_true (show andK (Nat.beq (Nat.land x 255) y) (eqL X L)=true from h)
    have h1:=Nat.eq_of_beq_eq_true h1
    have e2:=eqL_spec (by simpa using hl) (fun y hy=>hv y (by simp [hy])) h2
    unfold toB at e2 ⊢
    rw [List.map_cons,List.map_cons,e2]
    congr 1
    have h1:x &&& 255=y:=h1
    rw [show (255:Nat)=2 ^ 8 - 1 from rfl,Nat.and_two_pow_sub_one_eq_mod] at h1
    rw [← h1]
    refine UInt8.toNat_inj.1 ?_
    rw [eb_nat (hv x (by simp)),UInt8.toNat_ofNat',Nat.mod_mod]
    have:=hv x (by simp) 0
    unfold laneN pw at this ⊢
    simp only [Nat.mul_zero,Nat.pow_zero,Nat.div_one] at this ⊢
    have e:x % 2 ^ 64 % 2 ^ 8=x % 2 ^ 8:=Nat.mod_mod_of_dvd _ (Nat.pow_dvd_pow 2 (by decide))
    rw [← e,Nat.mod_eq_of_lt (a:=x % 2 ^ 64) (by omega)]
noncomputable def yvK (M O M8:Nat) (hd sd:List Nat) (n:Nat):Nat→List Nat→(List Nat→Bool)→Bool:=@Nat.rec (fun _=>Nat→List Nat→(List Nat→Bool)→Bool) (fun _ _ k=>k [])
  (fun _ ih j Ys k=>@List.rec Nat (fun _=>Bool) false (fun Y0 Ys _=>@List.rec Nat (fun _=>Bool) false (fun Y1 Ys _=>@List.rec Nat (fun _=>Bool) false (fun Y2 Ys _=>@List.rec Nat (fun _=>Bool) false (fun Y3 Ys _=>hcK M O M8 tl55 hd [0,j,255] sd fun s0=>andK (eqK Y0 s0 32) (hcK M O M8 tl55 hd [0,j,0] s0 fun s1=>andK (eqK Y1 s1 32) (hcK M O M8 tl55 hd [0,j,1] s1 fun s2=>andK (eqK Y2 s2 32) (hcK M O M8 tl55 hd [0,j,2] s2 fun s3=>andK (eqK Y3 s3 32) (frc (Nat.succ j) fun j'=>ih j' Ys fun r=>k (app s3 r)))))) Ys) Ys) Ys) Ys) n
theorem yvK_succ (M O M8:Nat) (hd sd:List Nat) (n j Y0 Y1 Y2 Y3:Nat) (Ys:List Nat) (k:List Nat→Bool):yvK M O M8 hd sd (n + 1) j (Y0::Y1::Y2::Y3::Ys) k=hcK M O M8 tl55 hd [0,j,255] sd fun s0=>andK (eqK Y0 s0 32) (hcK M O M8 tl55 hd [0,j,0] s0 fun s1=>andK (eqK Y1 s1 32) (hcK M O M8 tl55 hd [0,j,1] s1 fun s2=>andK (eqK Y2 s2 32) (hcK M O M8 tl55 hd [0,j,2] s2 fun s3=>andK (eqK Y3 s3 32) (frc (Nat.succ j) fun j'=>yvK M O M8 hd sd n j' Ys fun r=>k (app s3 r))))):=rfl
def YOk (nm seed:List UInt8) (q:Int) (YL:List Nat) (j:Nat):Prop:=∀ d,d < 4→walkC nm q j 0 d (secC nm q seed j)=bytesN (YL.getD (4 * j + d) 0) 32
theorem yvK_spec {hd sd YL:List Nat} {nm seed:List UInt8} {q:Int} (hh:BL 1 hd (fun _=>hdL nm q)) (hhl:hd.length=20) (hs:BL 1 sd (fun _=>seed)) (hsl:sd.length=32) :
    ∀ n j,j + n≤256→4 * (j + n)≤YL.length→∃ r:List Nat,BL 1 r (fun _=>rowsF (pubY nm q seed) j n)∧r.length=32 * n∧∀ k:List Nat→Bool,yvK (msk 1) (ones 1) (255 * ones 1) hd sd n j (YL.drop (4 * j)) k=true→k r=true∧∀ i,j≤i→i < j + n→YOk nm seed q YL i
  | 0,j,h1,h2=>⟨[],BL.nil 1,rfl,fun k h=>⟨h,fun i hi hi2=>absurd hi2 (by omega)⟩⟩
  | n + 1,j,h1,h2=>by
    obtain ⟨m5,n5⟩:=mark_ok (j:=j) (s:=255) (by omega) (by decide)
    obtain ⟨m0,n0⟩:=mark_ok (j:=j) (s:=0) (by omega) (by decide)
    obtain ⟨m1,n1⟩:=mark_ok (j:=j) (s:=1) (by omega) (by decide)
    obtain ⟨m2,n2⟩:=mark_ok (j:=j) (s:=2) (by omega) (by decide)
    obtain ⟨s0,a0,b0,c0⟩:=hcK_spec hh hhl hs hsl m5 n5 rfl
    obtain ⟨s1,a1,b1,c1⟩:=hcK_spec hh hhl a0 b0 m0 n0 rfl
    obtain ⟨s2,a2,b2,c2⟩:=hcK_spec hh hhl a1 b1 m1 n1 rfl
    obtain ⟨s3,a3,b3,c3⟩:=hcK_spec hh hhl a2 b2 m2 n2 rfl
    obtain ⟨r,hr,hrl,hrk⟩:=yvK_spec (YL:=YL) hh hhl hs hsl n (j + 1) (by omega) (by omega)
    refine ⟨s3++r,a3.append hr,by rw [List.length_append,b3,hrl]; omega,fun k hk=>?_⟩
    rw [drop_getD (L:=YL) (j:=4 * j) (by omega),drop_getD (L:=YL) (j:=4 * j + 1) (by omega),drop_getD (L:=YL) (j:=4 * j + 1 + 1) (by omega),drop_getD (L:=YL) (j:=4 * j + 1 + 1 + 1) (by omega),yvK_succ,c0] at hk
    obtain ⟨e0,hk⟩:=andK_true hk
    rw [c1] at hk
    obtain ⟨e1,hk⟩:=andK_true hk
    rw [c2] at hk
    obtain ⟨e2,hk⟩:=andK_true hk
    rw [c3] at hk
    obtain ⟨e3,hk⟩:=andK_true hk
    rw [frc_eq,show 4 * j + 1 + 1 + 1 + 1=4 * (j + 1) by omega] at hk
    obtain ⟨f1,f2⟩:=hrk _ hk
    refine ⟨by rw [app_eq] at f1; exact f1,fun i hi hi2=>?_⟩
    by_cases hij:i=j
    · subst hij
      have g0:=(a0.eq 0 (by decide)).symm.trans (eqK_spec b0 a0.vb e0)
      have g1:=(a1.eq 0 (by decide)).symm.trans (eqK_spec b1 a1.vb e1)
      have g2:=(a2.eq 0 (by decide)).symm.trans (eqK_spec b2 a2.vb e2)
      have g3:=(a3.eq 0 (by decide)).symm.trans (eqK_spec b3 a3.vb e3)
      intro d hd4
      obtain rfl | rfl | rfl | rfl:d=0∨d=1∨d=2∨d=3:=by omega
      · exact g0
      · exact g1
      · exact g2
      · exact g3
    · exact f2 i (by omega) (by omega)
noncomputable def lfK (q:Nat) (nm sd YL C lf:List Nat):Bool :=
  frc (ones 1) fun O=>frc (Nat.mul 4294967295 O) fun M=>frc (Nat.mul 255 O) fun M8 =>
  hcK M O M8 tl55 (cst O (hdN nm q)) [255,253,255] (cst O sd) fun c=>andK (eqL c C)
  (yvK M O M8 (cst O (hdN nm q)) (cst O sd) 133 0 YL fun rows=>mskK M O M8 67 tl4278 (cst O (hdN nm q)) [128,128] rows fun K=>mskK M O M8 1 tl54 (cst O (hdN nm (Nat.add 2 q))) [130,130] K fun l=>eqL l lf)
theorem lfK_spec {q:Nat} {nm sd YL C lf:List Nat} (hq:q < 2) (h1:∀ x ∈ nm,x < 256) (l1:nm.length=16) (h2:∀ x ∈ sd,x < 256) (l2:sd.length=32) (lY:YL.length=532) (lC:C.length=32) (ll:lf.length=32) (h:lfK q nm sd YL C lf=true) :
    (∀ i,i < 133→YOk (toB nm) (toB sd) (q:Int) YL i)∧rndO (toB nm) (q:Int) (toB sd)=toB C∧leafT (toB nm) (toB sd) q=toB lf:=by
  have hS:BL 1 (cst (ones 1) sd) (fun _=>toB sd):=BL.cst h2
  have lS:(cst (ones 1) sd).length=32:=by rw [cst_map,List.length_map,l2]
  have hH:=BL_hd 1 (q:=q) rfl (by omega) h1
  obtain ⟨c,hc,cl,ck⟩:=hcK_spec (mk:=[255,253,255]) (mark:=65533) (by':=255) hH (hd_len l1) hS lS (by decide +kernel) (by decide) rfl
  obtain ⟨rows,hR,lR,kR⟩:=yvK_spec (YL:=YL) hH (hd_len l1) hS lS 133 0 (by decide) (by omega)
  obtain ⟨K,hK,lK,kK⟩:=mskK_spec (nb:=67) (tl:=tl4278) (mk:=[128,128]) (mb:=[128,128]) rfl hH (hd_len l1) hR lR (by decide) rfl tl4278_ok (by decide) rfl
  obtain ⟨L,hL,lL,kL⟩:=mskK_spec (nb:=1) (tl:=tl54) (mk:=[130,130]) (mb:=[130,130]) rfl (BL_hd 1 (q:=2 + q) rfl (by omega) h1) (hd_len l1) hK lK (by decide) rfl tl54_ok (by decide) rfl
  unfold lfK at h
  simp only [frc_eq] at h
  have e1:Nat.mul 4294967295 (ones 1)=msk 1:=rfl
  have e2:Nat.mul 255 (ones 1)=255 * ones 1:=rfl
  have e4:Nat.add 2 q=2 + q:=rfl
  rw [e1,e2,ck] at h
  obtain ⟨h3,h⟩:=andK_true h
  simp only [Nat.mul_zero,List.drop_zero] at kR
  obtain ⟨h4,h5⟩:=kR _ h
  rw [kK,e4,kL] at h4
  refine ⟨fun i hi=>h5 i (Nat.zero_le _) (by omega),(hc.eq 0 (by decide)).symm.trans (eqL_spec (by rw [cl,lC]) hc.vb h3),?_⟩
  refine Eq.trans ?_ ((hL.eq 0 (by decide)).symm.trans (eqL_spec (by rw [lL,ll]) hL.vb h4))
  unfold leafT nodH pubO endsC
  rw [← rowsF_all]
noncomputable def tpK (nm l0 l1 T:List Nat):Bool:=frc (ones 1) fun O=>frc (Nat.mul 4294967295 O) fun M=>frc (Nat.mul 255 O) fun M8=>mskK M O M8 2 tl86 (cst O (hdN nm 1)) [131,131] (app (cst O l0) (cst O l1)) fun t=>eqL t T
theorem tpK_spec {nm l0 l1 T:List Nat} {seed:List UInt8} (h1:∀ x ∈ nm,x < 256) (k1:nm.length=16) (h2:∀ x ∈ l0,x < 256) (k2:l0.length=32) (h3:∀ x ∈ l1,x < 256) (k3:l1.length=32) (kT:T.length=32) (e0:leafT (toB nm) seed 0=toB l0) (e1:leafT (toB nm) seed 1=toB l1) (h:tpK nm l0 l1 T=true):topT (toB nm) seed=toB T:=by
  have hS:BL 1 (app (cst (ones 1) l0) (cst (ones 1) l1)) (fun _=>toB l0++toB l1):=by
    rw [app_eq]
    exact (BL.cst h2).append (BL.cst h3)
  have lS:(app (cst (ones 1) l0) (cst (ones 1) l1)).length=64:=by rw [app_eq,List.length_append,cst_map,cst_map,List.length_map,List.length_map,k2,k3]
  obtain ⟨X,hX,lX,kX⟩:=mskK_spec (nb:=2) (tl:=tl86) (mk:=[131,131]) (mb:=[131,131]) rfl (BL_hd 1 (q:=1) (z:=1) rfl (by decide) h1) (hd_len k1) hS lS (by decide) rfl tl86_ok (by decide) rfl
  unfold tpK at h
  simp only [frc_eq] at h
  have g1:Nat.mul 4294967295 (ones 1)=msk 1:=rfl
  have g2:Nat.mul 255 (ones 1)=255 * ones 1:=rfl
  rw [g1,g2,kX] at h
  refine Eq.trans ?_ ((hX.eq 0 (by decide)).symm.trans (eqL_spec (by rw [lX,kT]) hX.vb h))
  unfold topT nodH
  rw [e0,e1]
open Go.RowKit
def nmN:List Nat:=[1,0,0,0,0,0,0,0,0,0,0,0,0,0,0,0]
def sdN:List Nat:=[1,0,0,0,0,0,0,0,0,0,0,0,0,0,0,0,0,0,0,0,0,0,0,0,0,0,0,0,0,0,0,0]
def YL0:List Nat:=[0xdd63f9965c74f14db9610534e888213bc39b2eb91644da4daa138e52d0cc468b,
  0xb776e29ae6191127988cd294169f629ee5a7881867a01d43f53497d09250ffc5,
  0xacc807be399fe105edee66b0691d0e14450545e0caa987ec64d3310e638cedfc,
  0x92191d9fa22ac69273e85b89fe43772bb024b3b94bf0e3a3b7ede195e574e8ad,
  0xd9c29649f4b38e84ba8b68172ad937036716508f0f9ee7cafb03e24a7b92ca52,
  0xaf18079a2db279f5b9b77884522f8473efda49a855e4c7dcaf9e7c5c82d9c45c,
  0x78dc533aedc1c5e3cfcca777610147615178eae11f2f2f3b8fff8f5fdd792b38,
  0x7513a2b879b2823c51b3637cf0e4f7dfeb3f11bfd56d14204267d8c43519f6cf,
  0x6cea54fbc57320e25af06e0ba758c0a366819cee415161a4eac067aeec0dc67c,
  0x6556a5cbc323926776e9254b4025343a8dd03a1ab54fc6bfdc4bebdaa3798b46,
  0x918e1745855d5fdebc561e1922649371a42120f70402761e3854c0a18d537786,
  0xc7f268964a2f91330116d4b64e05432def93f81ed0d9f928bdedf2d0cd8f75f7,
  0x47be8eb7124f064419e7e311f5b002e62cb7e17b7528039cf4947e265dfb4fb4,
  0x02dba5f427930cfc6c80f746ff004d9360dbb42f13891f9d2ff134a0088489a8,
  0xd73cbce2be2be8fa9d18735a639b46478d2cea8ad17dd44e9a346045fe6f3026,
  0x6b8ab5c283b21a8387bd05f766e1642c5c33778a75ea309ae3abfdbcce645cf8,
  0x5f6c3f3611c52415a429ada29959a4f2dba31b4a3b9448794ac6f14a5eec50ab,
  0xb9f062519ee03e3290a973e93b6752d25f619b5308b7bb4603f8b43e3c7ccbb2,
  0xabdfb0c5ca8c06925381f7827b0f56715b69968ca0a845533da3e6f89593d69c,
  0x2106e267833e1533032ce80c3b12d71bdef4fb6406c8832838534cc7e6c68ca4,
  0x1a6048fc98cac3afa5abb087e766b154bf36f0546b8dc44d2bd0017fbf26d18b,
  0x7c54a007ea96716a1284c2abec67e750a315c65f55ca5159c0b9461f0bd435af,
  0x0123d9a05aa64d7f7dc551db2de32253e77fec27e2d78ede7b2df0538c5b0ed9,
  0x1e7dc2c68b63ebdf21f40d360552217be1de369e712b29aa00257050b60d5562,
  0xacea625d6cdea2e811f4170b4f03cc191972a2398f55f060407685033c8ef513,
  0x33b08183f49d8a41b266f034dfe9c7ac04a72f57fac4b0433a65686976028f6d,
  0xf85eaf49d30ec79fb85ce6e03b076ce2451d3b129be56f11122c400209f1ea36,
  0x3dd21cd77aa54811619864506f56fd4a8cb704783b0179503f90b059bce72105,
  0xb01ec45a746c14fe72e926d4780ff2ac5d0c6371ba137a88d11ad81e4eb682a7,
  0xf51938f01ff0981e78083dafcddc87cf955a4afd8227d68d0d04559b8b08fdd3,
  0x433dc33496bff101a5d21c5dfe41ad4163de64d07e12fd615493798949612b30,
  0x61067e7cafee64a24786913e1b68a66c14e3345fddf76d0e394ce8acd5dc424e,
  0x11c3900cc05fe8eb90b3dcc1a8145dacc97e89c5d9d2e1e1d69fdc7351f7f9f7,
  0xd97f5f64e8e9d0be5a523d1743fed116991dee860a64f74184d88654ce809b55,
  0xe47052f3035d27f7749f2d044958f1766034db61a0b9b966aeeac792e99eb600,
  0xd68eb4f7b8f765186a46f1fc30fdaff584508b29436bfbfd28e53dd6bd000b10,
  0x3356dd4e81d932b7feb62dbdf93a3423a62d964f62f44a20f02d48f9e367cdce,
  0x0703eff615abd00e752b4e584dbedaff990ab242fd12d315013f123a00ddcdd2,
  0xdc7f5773b016cd743f004a71a870018e95f13c47170aac88a5a13737fdd60f74,
  0xa695a9d5dbe5474582f1e3ac4f37d836404102ff5358666be9d000166c45c3f6,
  0x32fd5689d359ca04cb9e222799be493ba7634a930deabb46f120a290eee96ebc,
  0x02fffd143e43141e6dbebe5b270f61c486da26beb573b927437eed2aa02a40ec,
  0xd5138def3259f1025afaa00fe8988a4ad82c888b8a05d47061a126ed57b5c875,
  0xd8527a95974995906f8afb4881e7d69b9f745d665e5cdc8b2a6ad74ccee9f6d5,
  0x023b7234416ed9b27652fb6deced1c3280d3f5d172521c46383bde98fd46a9e7,
  0x61f8fe0cf9a077ca5ec3752524f80791a07efeb82f4a18e2cc7249819f2a75cc,
  0x9a8ec43b8b27b008513053f434a83ab65211fa94027b08f9e65c3133f1363859,
  0xe344fdda6319858426e340a78f61e59c38e4324688d4e52192436afa919c3b18,
  0x081562529644d001f7250aeeb4d74f16030bcc86a3eec32c9172065f2fefe2fd,
  0xf19f0373d8a2262efbe44665b7f8d3d9af6b3dc31429857af7328b0446c58d65,
  0x886035de131abbcad70f90d38f6428a295ef06399a02a1718840251b79f817c4,
  0x4e3599b8b9a6d283c116c9ba6f58a7811bc010cbab65ccc0dd9889abbc054729,
  0x5f770e04c5029af9d27ba922ae929db51c24399c3733b209be8771efbc97fbcb,
  0x79caacfdccf40058e1aa67c93df89d07f36e502f6743c68a7086d34ad6100aac,
  0x82d4bfc4b9c6291174b402ee92654af3ff85cba07e03ebd332f3fe2e607f161f,
  0x0aee8f63bc29277c7340f7c0d25962d12c9e4109bc4fde0274f05dcf8b27873e,
  0xec96c5eff7f330a5fa0ef13646934dbe96da9c13283241716a03c8e22af05692,
  0x7aa99ad1e156e1a7373bd2e1fd4e94212bbb63361148464b3db5d22db4705708,
  0xe602b5c3363d7a571cf24bedf7df07cfa94d96201a4e97c48ed99dbeba0d0cdd,
  0x582fc90dde1679bfbbe8656df07e3d55410e509367143e8712002ea1a124c8f8,
  0x008b14975418b7e6c5295b772df5087cd52a3d831f738e06e81349a2fce756a3,
  0xd9f019b46fc91d3e83511b882043f1211e59bd4b34c80fbb1dba3b2ac4a569eb,
  0xacf0b69a0452cd02d5cc0665c79f628397d5d818027a15da11283ab14213f00c,
  0xf13408b84deb8a6f49cdc9ff06fe8bfd0c9fe464beee987eeb38e2cfbadc469b,
  0x6d2ce5b368ce9f559d2f872fe2210726c71c9761cf8245a56f7ddc5ecf94e8c6,
  0x585f9f02898c20abce57ccf17b99b003e4b3bebf33184bf1a48a20f38397377b,
  0x8c299fe1381ff1c22a9af913b565787266e88f8efc62058258d4d42e2d4f1638,
  0x4d37f41d32c24871ae00e372123a397b0603e9a2895be713df4700939c05a68f,
  0x9a06c9f701c3bebd99008b18e80f96504c22b44bbe78f0cfdd845e9ba1adf749,
  0x4e7572bbd9927922ef58c0385522ef5a162035b17c0ce5c679e5eac97022bed2,
  0x31e22d23a5e3f0220ace0b31ff8f4c1aacdf9583070548858cd771e223f1f531,
  0xf27799ca9711eb556de1292540e63b84d4b275ee384708780eb323ac7e77d398,
  0xd1491a7251ad9512427dd39cf86936e3d2f59ae3994e7518c1d78b1e9e774f6f,
  0xaf1ce135c661d07d7e7ba1802892112eef4044970debd35e73bf6d0bcddd3147,
  0xb988640a757880ed416b07ffbdd7a43d6a38e6ee191ee4698b7b6d66a09c5d05,
  0xdc344219f04ca135271374e5fe05fc0e60879ecba07d328cc342f6a3a56a553f,
  0x406e0c4e80ce34492c378e1c630543dad8b27ebd225b6e3f32f926ed8ecb1966,
  0xa791725cfb96ae4b11cfbd0533a0127ef2e4170f8028f78064b18b636eba1538,
  0xc36bb790726083249b98161c7be94da350fe7e3c390dd3477bed1173c3071c28,
  0xde8ed727891f58dc1bc92b3e01016120354b9b23864b517780bafb6af40943df,
  0xd3e082ba1dfdee8c0f59fd3ffc65c59a9dced8b4e78acfe855f8e4741f14c87d,
  0x07d9397e21ec9c9da169908c79699611b6f2a4b663c5254f205fd13f692a36e2,
  0x00b96606369bfa204dda5e14aa49114a08c7d070092d63b906667a2a8cf3337e,
  0xf1d506b175b58615ee239e74f7fb902722c13cdaa4b89185b7d1f530d390699f,
  0x02454edcb41420eb446b3c675de478a5d302602e92537d70196f7a8a94cfe560,
  0x4c4dd36fcb32a5165189ea18ea32b5bffc130378381b1cddd69899744767be0e,
  0xee2f7d01d5499d1f3bec8afbb80837182d76dcf9b8d3e4ca2a801222abadd875,
  0xc8f09c09a9a52d4b09fb7066c4e976f93d28c14ce52982242281e19f19e4232d,
  0x712d8f0e88cb76c36b59d86728e894890b4d1704a8d3c92f23b8415808632c5a,
  0x898c432ee5f1a5d44eb20097e79539b3932160b55b6f17737d085d0aa3285b17,
  0xf0e507f5a5bc939689cf935136ecae432a30e8ab9835879583c6c4976db3d12b,
  0x657306da7f9e561e0276a322f4067854143d98b2e2162aa244ab8bf909767fd0,
  0x1ba8a208e8ea5f4991fe885c2dd06f93e86224dbf619c89a4d4be7e618ed7b09,
  0x7a299ecf077336ed5968e0dc72c25fbfa01994a2ac2bd553306da0beee4c74fe,
  0x660bef4406b511b133c8ad2f8c057327efe7814ac565637006f13d9633fde1b3,
  0x2339f5821a8a41362a077bc7c763ab4160f949f6c3252de09c5c78ec79be9559,
  0x5ad8ac0d73c26a7a51ebc571090328e0772884ae5ee77ee28ab30fdafb3eb7bf,
  0xb51c55daa730beb0b32394040666ced527ff35b196eb53c6027d7223e43106c6,
  0xcdca9b253de0169ee9d9e7d86637b7dc0f8d507504d473882eb3ecb10dcf1681,
  0x4c8106159c8849a9f632da5230b370b4a06b351fc4f82cf2c18c1021ad149985,
  0x217201e925c84a11c5eb4cb59018612d878923aae6c421d3f07d6cf4bad9dd21,
  0x0fc2b46a8fc03a58432d2804cf1256bd6c792dba25c7849a189f869ae746d648,
  0x87edc2e7dae9e6cda945aac359030bdaf5e4a9ae6942e1948ed387867b5d4bc6,
  0x23301f1b8d0123fbe5b9c85c5fbc78723da27078b302e89fe27fe180b0158683,
  0xfde91052e34fed3f903e9232d9392009b12cfd8a610c694844a2c7003e08b8a4,
  0x0fe7b99bc0b7f659c8d425d26afeb7105ded518c24428ed85b3cfcc0ab77cd09,
  0x3fa4adde9312c46ca74f9aaedd78a962d22035e90b3190f04c002976c6b6582e,
  0xc3cc9f6a344b8c7a6634b6a72e2d14ba2a07f9cfab915a2570e2f4480ea4764a,
  0x1afb8419f765a56788fbcd75ab7a1545d6e9f6c7ee038a784c3599aef0d373e4,
  0x263d05fdb40ef5328ad7c324d0b7ae82d06a968037f81422171ec9a165d40718,
  0xd7fb8aa4407f879f8f08f3bfaf6ad8bde318f144461b83e3f55db72da483af0b,
  0x2462900c3752690700f1d8346918943c74d7c63f6f18d9481eff73b3329681b9,
  0x9876365261dea7c945297326caa9fcc1ac4487f8a03fb901acaa6e82744c92dc,
  0xbac3d40edbb8dcab0a3080eb1f3121d6072b58557d4985507647be0c6ce08c07,
  0x2cc6739a44885d8cb5a563e0bacb424d3d3f6c2d4b7167547e61611a922e7f2d,
  0x8d97bb6ebb19ceb47a37c5eba5efd9755e2db8cdbb3be3f5d102a4e1c53188ae,
  0xa46e3226c9490dda6ef0b02aac8f3eeccea2c9e5be920663506af0d4dd1f48c7,
  0x03f7e068668090333ef0cb7d457f5310559d711c613b7ea4697f558f121b67e8,
  0xb6528c12e7582dc24bf4e01b579d5295f69cfe8f06be99f3d338845e3de15e90,
  0x475b367af4ac38213fadd478f29b86b36c0989d033a7e3a82ac4d83bab420c1f,
  0x2445535db86f6fc77773227d6ff06260bb3832bc381e7042b2d3afd5052618c0,
  0xc1f63c90f87dd83810ab53dd8204b0e607aa3f1bfba2374b39dd83a02d01cc0e,
  0xaea6605b00f2485f3486b4fe22f8f6a3bf970d95c1f69b2517d20f14a38ab4c9,
  0x23f46c5a0b24229b1866d7c70cd00418cff7ca669e3c9ddfea312e32a8ac4e02,
  0xb18543aa62d0f8e7ab41b22abd7eb6df836779b5b5b27f3f4392f8779f7d41b9,
  0x34035115e1394fc76120c9a2dcd92835d71783c77ecf218a439dd734a59e5952,
  0x2225bba618a25720408e29dbf43874ece447afbc88a157dadd80101b5ac0e7b1,
  0x8f4c410df537b6283ae98680987633dc629cd7c05a38559d3a9d555fb2b23d2d,
  0x850afe8e49ac679913367b66d8f9b662b10c4a581974f8219298c5436970fd52,
  0x48ceb8ae30c6fe7427f506e4e0c1e2667f765e417f15d479d5c1c4ff4f7f3a8c,
  0xaa04c4885c303a40f90d3c98354a22813f38bb01029b28997be0b792baa4f07f,
  0xa005eb07217e7ccd1898fcc1338e6e0bb89ddece82336f75c58babc2a3acfcf0,
  0x6b2ad773e821004e19c50008aa4834fecec0f1e185c1d3eac89f06bd1b503168,
  0x37c4d340f5ab4d4e4effa900c51430f3e1f519cd8aeac099066e415df5860382,
  0xde368ae35cea404feb05c4b519824414d1cb1780916f0535663b6c60b746f40b,
  0xe6baddad2a1f17df2e164057734232a82ef5c3dca119eb926258a607da9b194a,
  0xc21a31aba271bb0d85959a918606a2d680686178d2bbe5b4b0c2b861df0c8733,
  0xdd02d41a3f99ec6dcc52b67ef78db44fdfe50d5b7a769aafb358b70a9375b2f7,
  0x7f48c79ff3e7c2dc2439b4e9aceb33b356935465a699c75946d1991265646b5b,
  0x25c26b0446d2ccdf5bcd428294668de47404649e46d20a100349c37ef36e9617,
  0x2fe6e128d32cc8a0d6f18ee61b67f1df26560d301f7b69e938a76043450b0bbf,
  0x4f675bb5cc25d0b9dcd74ba5d25202f36902d7dfce2cc917975fba2c70dfaf4d,
  0x136c02f2fcdc970971b5308bc244d157a449ed9ad560b5e9e35ed242fb4d25a3,
  0x226bc812e9a0eaf96286cc456403c69626e979019e921aee3d649d17db2dbcf2,
  0x1cdf73923b8a883be16873a22137419406f40b5a59727b8399d288783948a0b5,
  0xf58f7c78cf23c4cf447dd411d749060c41174dc91d6b6da1be2d6d9eb3f51de8,
  0x2f494347679c936b4b2485c92523d0718aa88b9f82642b7edb13bff0c264f201,
  0x4ab7c98652af5b26deaa6693b7445861d6d3794c515d5251ab3478502d74c8a5,
  0xdc7f6a6b6a20ba76ad1514c3b5daf1e605cabf3867b932a84ffae737cf0f212c,
  0x764d1fa0e1bb3fbc5fe2475d7d8f0796d57189cb5faeae9c3963a0c349babfd2,
  0xdfeccfb2af977fe110145264e3f60f16ba1c527ce4abdc530d658fcab98e1bc6,
  0x28c9b5acfe6460df78f9b477be1b943fbb9e39a8248d101c7997043e37cf1fbd,
  0x576f2514ef7ac161970e01a3f3cf9b92c2ef2716704e3cba4f4507a15f5d75db,
  0x98ecd5ced11f5941dffd162b85182fff8f55c46760e812a90b7a4b9cb18d714b,
  0xbfddc2d25955eeda8ddb1cd5ce2ff3a2febc6ae1a989faf5ac1f744ed58d623b,
  0x6594adebbb6a2d78a4eb573db0c7aa31c9ed8276f8e756302bee1b161d6625f1,
  0x1fcfa00bb3a08663e0d09ca63b9b36ae1f0fe381683f20f73404e42ba3a17cf9,
  0xfc2d2c6b3acdc1c8287f2f5afd8c972fc37a0eb106c41fd76bb80a3061e0772d,
  0x93824bc3171c11a89e87c26db84af6e5fd8c209e51ee289236b74176f83bdaa0,
  0xa29dae1b38b46620bbb618690adca723dd1d04d08a86202a24674db30b7f06af,
  0xe5744289c207032b720900b0b4010147b3bd5591d315c0554dc143a5c2e25ea7,
  0x298c6e63ef98917cb17bcaefa60833bc7794d39e6f444240fa14aa549692eca6,
  0x73b3bfca9fe439181773a57b1e33844a3d9c13eaac1f05bfe65cbf676ac66c5d,
  0xa1051112332c1e9dc4ccae86b47f3e21decbbf5c15fe85e526ae68b909ea10c3,
  0x28f0a6c2b779c4eb5c2d51721819180342aa40fbaf0acef776183ed0031c50ed,
  0x7eab7d96f5ae78504a0a361bf1c17f6bd2da6415fd67ce03259ecb0025efb917,
  0x4377e651f89350d0dcb3f0372494170a185091bdeedee4505f4cde7d1c6e68e2,
  0x90334d44958830fabe48ad88912183eafe416a887e4ee4611a93525b7ab4be28,
  0x981c1f845b1ce0316dbd49929bd9230f63c1a889c956dd2eb997abf9f4ea4cba,
  0x5336a885709fd10f54bb0a61e439510e7d8efbfe1ce85271e52f4de68762aa5a,
  0x9d8ddebeeb8857ac498f40bb9fbc3057c056b6b3a03c8514470d6c2dd94a27cb,
  0x5d04d5171e6abe36173263fff581f48c539c0bf43957ff99e5d36a54e37d1929,
  0x4739882ad495f1e1b6329b3745d8c096de4bf632e40039d763b531cf6fbd5620,
  0xc8d60849c74be55727ef250641e0ab27629d061006c6d29eb5b409af75c50db6,
  0xfa9b27200670dba58b2f304cf7aec23f14e8da4ea0bea17057bfe93150c41453,
  0x8c68930d933537bf173e57fbae2edf21c27668edc8e9756ec4b6592a97d5a817,
  0xbf59deb7774ea7e122a7463fbed0a022187a21f95f22a0b2d361083a987576ea,
  0x891123fbbab5cf4ac5f9e858b731014d9b25757352a33d4d3aac056369852d60,
  0x7bc9781aa6d399e1d29cdc9806d31d2084802c53f53e9a6e8ac1c08035435adf,
  0x9f29d1e447b1b6c6eb0eb3ef6281c064fc3343174b2c707f1c938df61a315b48,
  0xa781a070849747977bd1a3ddd78ea77e5fe56ffc74f57812d0b16e1a632181ce,
  0xaf917d20464704be2f43d4836f27ee6aa21bde66aa4032e1ffbf259f74694fc9,
  0x4e75024dbf322d7de5d9976de14bd24990f4b85183a4cbadaae7d23f79c5c519,
  0x176071b8d426069fc7db9b639a0df9371e448925fa0645c723a7b845daba5e32,
  0xf6564f4febd98fe338a0ab5f7882ffc4c5c907dbae66b8cad033b11df3996b4f,
  0xbce0c0d4d8920e5c3226f195dba91c9faf903f0c7530653b5db43d91a084cbcc,
  0xc6c543f8363d0ff869fcf9d20ec88ee57a22306a8670bdc2f057a16b1da007b0,
  0x0c20cc725a642a49d04a307976ad4381fbb72c1cdf1b20050befa0ee00e90728,
  0xc217e1c01c76b1b892a759e79d44a2710242daf180fa72b759f3c3b67c989226,
  0x30cfcf9d66710db75f613d52883eb15d8feaa7f2417d7ee95e2f5ee832019aac,
  0x2fbc23a152eee8b5844388149442244fa86c67e69d5fc7474dcec27c1349872e,
  0x8daab9ac5a6e6ab68463a82b57367d72918ed338552eef425c32601e5b5cd5d5,
  0x8839d1b6d20d13f22957c811d3dfec1e85a8a229f4c96993ae737a6f496d9d4a,
  0x99619ebc7eef53e8f3aad43947dc878c0e740f8acc3b6d0cfd10d7342418b5bf,
  0xe49a0c9044d350fe406357d5f7b04c59e55d51357530d713462da9170288b661,
  0x0a5e0eac41d9ee42a2b8a4e6a5bc0a8ded12399fbff051fc5846b1ed581f0693,
  0x9a793685c59b5988183ca75cb6f17e0c0e7ae6882acd9f52a8bd8f4aaae20ac0,
  0xc2f0df477977efadf89728bd0903665303a3603861e7f67df8da5862cc4377eb,
  0xd26d66efb0f6774409fd624e848c49a821bab9b92d480691e56c0aa9ba62cec4,
  0x2172bfdc64fe7a2b456a7a09b03e3ed399a3ded17bedc4054d4ff91a96744050,
  0xc758cfe5bb5ff285dd383bbe4b6d2d53b5cdc6b81373fe2bea379c70e1a69d0a,
  0x6e3f4e7b614a2924b8c568a28f43a429c945719094da52fe73c8783642c43b33,
  0xffb03a65c1d5a145b637d6d277da7cbd5421f21fc5ab5496ec50ac72ef970ed6,
  0xb28c7ed92a6d4a21ca88ea37a1a5602ef6d41a5cc82c2c61ebc6f191a9e32b4d,
  0xa96e228ba707ce46e550984fb0400f05c1b9cf499ff19ec098a530718e277cdf,
  0x6fd70648965a0f84e113f3570c41a5c9ad2e9bc250bda2b45a7bc4647ccb74e8,
  0xa7adab3193c04e007e2e22c81df3ca029c6c16314e273c328160e542e66000ba,
  0x4ba3907d1ae087bf00707b148441b4301ae103304c102ae1eb3a32a974505fc0,
  0x3c11d5285dd8f7756ce1578d7e66d1934d389b3b11fbd4363fa58ab03738d8b4,
  0xdd292186cd452d3e41893ae03b8407eed2998ac1e5e54a3806115bc65838c0ca,
  0x7ed666192bb94fd2028fd2c8ff8b78cee78ea256846b1d98334e4ab14be1c898,
  0xc28c918c2804831bb6a091a77162fe7d96de3b41820063f8e30f58fb1feb687c,
  0x9b949473dde700bab4044619f9be84bb65aa1ca14226b898709ca97573f60a0b,
  0xc86a537432300b78441c008fb344cea1f5ead5cb172c486852578c6dcb591ea8,
  0x571b7acd609777438c9375e0ae7baba7533dee8bd45947952c95be526240cacd,
  0x044d360ea9ac950a8dd13b7c451fb0a57a9469a41340a9b52117cfecbf749084,
  0x6d06c7a8a28dbd614ec179e1110237c70c2fecb620d999bfd20e0d58ead3d8b7,
  0xd3b95cc57a4f2c53d93692135691f193f9472cc8b7b854dc4b14628c46b47279,
  0xd0e095be06b3dcd20968e5464004293d1d4934007bf0524ecf6c7d97dad709b7,
  0x2b60d3dc8a60feb53801b1f22e3efb85f18915b71bee78a3788aacf34ff3ce7a,
  0x040b577ce581d3a01ec54ad85fecf9c7e52dd4a4a6b578009ee23db57e20543f,
  0xa24ad0b01b038cf43b7e6d91f2a02fa712f513cdb8e52db1c7930467ad0bd485,
  0x50e665a3f6481c3dd0b90897dcfd065aaf753d0efdbc4547df26925b90ea372e,
  0xe78295632461b288b83296ce10eb075eb7e334643b407fe72e9b4635e3522b9e,
  0xbdbd2c93160ac309d8509d6f0de6793bc14ee35d4cafb2bafff18ec02cbc4b1d,
  0x2fc5295f53722e9b740301a21ec25c13eec7da3c5303be89e310c2414b80a569,
  0x89126ffc449359bf002e6d2adfcad6bbde7ac2f431e0927a810f12f04cf57a11,
  0xe887c5a8cbaaf9dfa5f1df30fe100015d4f859f2e4dda6a3813f7f9233badc37,
  0xd263e902fbaaaa1f3d91a30f2001564c1e5cfafe41cc1df6e71b993034214469,
  0x04c79a9290482da2940064c12fb9383d6eb4a8513056c2ca3c7cdba54523e156,
  0x5d7415a9c54c29d8b4c52c9741f00aca21cbdb1bff127031b523278d66d4311a,
  0x44b14b49f03e6a04e18d9b806b760fa6d79c933c056f36aa90640e26494b68df,
  0x6bfbec34553f95a9258b6ba2fefe909740fd5b9c5f26edf8a1e65f17680f3388,
  0x2f7d057671b3330e107ced58284145c23cfa67ca795c30558ac9b36f1b14ffa3,
  0x350ddd397797cf867422b78fae53610ce23ae3dc784dd08180f6c4d97830163d,
  0xe0fe3ab036dd7be77655c7fd63c0042778c982250a946be146546c8219b6b05f,
  0x759c3ac137f469bb293ebec49acc418cd5e3d4381a5bbd14b6810b7cc5f24042,
  0x62881a558a0c96d1b71417d197fb439ece3bcbffc287323c3842f1afcfc6668a,
  0x79df5dafb548df403330265617ef9460ef89013e504031ad1186b196c1cddfc4,
  0xb845a402f4656411a62a35c320af2c871dbdf916137e7c5ad08bd8aa5814f7ba,
  0x48ca8a703eab5109ea05d88a8287d35d767ea49944c770a0aa1fc47dd27a7b26,
  0x1c01eb62838b1fe5f0bdb7ede644696e1903ecb34b4efa399169331d87448bc0,
  0xa4b317490120047636d12d8e211c94b3d366262556d135d676478d593749f40b,
  0x68191f78aff24d216ed54035d247e0ae25defb7834c4ef45db6dda236e095e6d,
  0x6247d49f5753ead4952db706f4e5e3cba6091bc1e1529f7dc47cbecdafbaa3f1,
  0x765bce8091709c96b36a3d12d623922f9b017e18690c137a0e2a5c75590590f3,
  0xfae48c6149735e9436330786e2207e64899e79a4c65ebeb5e8d18344d01ad38d,
  0x9cca585ecde32b5f5f804081d36e98dc55a01fc8a09d9cf5f75cff009badd3fc,
  0x3ab8ffa011488be1213c8adea3ce9a149ead7664055b94e5434ae7c370c5853d,
  0xbc1171807dd22ffd39eff79f2e450cdd61cdded120bdce58adf11589df7eb752,
  0xc55385522f6fe11a04a388df3699716021c15e3b82422de1021bb51f54a4de0d,
  0x9d7459e762cd5ec2d752231948d84133755e2b86e940d515accd3342fe7db1d7,
  0xedac3989d5617e1cc3f59996a4d259809c4d5f127e2c88516d7a83fe5dfb1f87,
  0x2fce394c17c8616c3e60577816e3220b8cacbd8973200a6aa62f04913f5453b2,
  0xa6c466d53ff5ef9c208dfba1063fcb8144e17f40db065cec87aac225051091d9,
  0x64e3b072231bb421643569f70704e8a0e10628f825bd278d1d635809b7b32143,
  0x10f83be265c79ab5e3f08e02a72a4b195a2b23d9f0834535c4734a2675749093,
  0xed4af37e9dc5264faee6547993b1bc05c8efd60344a6a5331fecef62d2ef8dec,
  0x6b59550de8161a53f380afdcff3b59b53f1ab158065053a4ac20dfcde382c003,
  0x9296a960fe1aaff2df824faee22d94d075e56313e2d8661d9f50a99330fab7b3,
  0x3da8a0317b349951f7cd14f26b57eb9c94dc9721fef43fb622876c822b0976ee,
  0x6567544453b27a177c4573e8e58a9bf69909c5d9204a282c6c3a7a21a0ed6a40,
  0x11fd31f48a078d2bfaa69b717f8a57d0e5b615687002c0c8463ba58d4c8771ba,
  0xa62cef63118d949b6b03deec7e3fe0964d1e4ffff7041003144e534338b7bc64,
  0x7d09b00e19efd4bcb251ee7dbca3c1676c552bcfa8f4f84ea325a04b03d8c958,
  0xc82d8c2cd8baa1d142dd4b8cffee21ce4e2ab3af6937f6aa2c37631858efbc0c,
  0x12e7772a3d143a6cbdc8fb4f650337b9a00e01d34ee266e7d4e65510acc9172f,
  0x1900f2c5ac1132d444962c2390e3a4c0872569c0ae3f3b077ccbe9a7b78abc06,
  0xeb8e107342683c6e4e25f742ee4a731334a7aec4a1a7babe17766e8ccd84bc9f,
  0x48c1dbeca80f149a7820bcd4505d09491d9d10a8c1e6c56dc53e7eeacd061d6b,
  0xc8760890d9c26270846f974b474a5a519282ef4238535393a378ffc375b760a0,
  0x6f3620e28d4b660826d30cc0fcdc12f9cbea7febbbd1bc77b17f72a4e8a47b39,
  0x239100aed2807ea939220babb5cb8e3a6b2ac8d6ecbd0c1eca94c17de69d707b,
  0xa0cc72709451e85334e8b87f57999a498705b64e7e6bd0cb3d7aaa8d4cf85713,
  0xd9c90e7c7c5bf77a55248ee286c761c3891c31b4028b7b49c93f04494a31e3a4,
  0xadd348d4ae03ff5992791d332989ef917c5d13e2aa10ac975d3abea912547d81,
  0xd4157724925e3592b7bee26d8aa14506db42a46af2cb7fd45444fc51f39aa4a4,
  0x3871b0d96070eda6a2b4537c7fb50d15d752ee0c96a737eb5d9c253bb474c8e4,
  0x164badf9fb048d3280001f07c4826812ca25e33e43026f81f6274ac190e872d0,
  0x86a3db6f4fabedfcf7464227ae0a9c552d7fda7dd9b4f192b171ec974efe37f5,
  0x94123fb5a033faa5fc32cca980831c4e1a1dfe709e63c0d5bae3bbbc1c3ef884,
  0x3f5fbfa4d730c29e355ffd032ed8b4a7ace19992d64d500b99bae1c63f77d7cf,
  0xe31f5df24cc80b3a95e261f8108d4f1934bbddb351db23d72a81c889bb3912a9,
  0x0e495841c632951682c083b258115f4f10ce55657a3e4c9322a1d749cdef3d06,
  0x4721a90365911c7bc4d97e2f8f580970d7aa5b67df0232e1fdd7b14353774b01,
  0x3855c0d16965e86d4e21845493f6efc89b908cbed7a967cb0b8e1d20ce2905e1,
  0x9e42f27ae8467fed03ca5acb946694da3746e356556693790935ad8964323ef0,
  0xd0406feb76b5a7cabb35f3fc21a3fca73f025be04490c124325f8224f8b8225d,
  0xbd783ca301e49d40a18ef0766b9c60b3f05042fcf9538d6924e5b4f42f2d1c60,
  0xcee2b6d30cd6fac7d50183c5b455a07faf1ff16c599df2ff6c635e4f52d6bd2a,
  0xa1383b7cc465c06f30ace67246498c9886df26a9431840a2f79861a4120bb51e,
  0xf4bbd897752d8fe83bda10afd66fd5ac49e2fbf3d2c5de9e715f04996e2747ca,
  0xc86814d8a11398818dd34bd7501684e542fe9ef92bbaa603ebcabe45d92d382f,
  0x4d318a591f3aae2b98e9c4a72e8a77ec589fddd80fe41768ac5f6279e4c40d35,
  0x0f34cb0d20f6d2a1d503b61f8a59195705965278f0a338b19d40f5b09f313900,
  0x43f8f066dcf585bc9802dcfd208125ac85018d3f0e5da0e38f8d99bc46b7b3c4,
  0xf9fdd7c5af84d9bc3f6928205c9fa7f4ba49684651c94162bf4ac79282b91df7,
  0xb02f1a405a41a3c710bffd28f6788427e62b04de1293bedfa5e794a7a10601c1,
  0xe64bc1d49a7e80c3dd9c217d2dac99ecd94d6d229f61773d7c7587020e720a77,
  0x86b435223bbc061e676ef6a74aa3c5191a4a53080b73350912640fb49a4cf3b9,
  0x5f1c545a6286e1c3081bf986eff83a683d3b8b6255e3604d0f98dd92a838484b,
  0xca372e3795d49f1102355ef43590289a7288443536f2ba42e3212b899cc96fe1,
  0x5c200e1aa3cbd481e61b006cf38daf627e926a86cb4a907edd983e53cafa7755,
  0x43f5d41705c230814d93ee42e999758748cb3c495c93783aff385dab7d46f97d,
  0xd619c59b727b092fe67a85897acdd8e68cc0c41b37ab5ca16529d8ee0c350c39,
  0xdb588f123868e2effb55a3c68c3d565e20a7858b74a81adbb678b09c1eb19a2c,
  0xa863c5b7edf2fb9a4f856ccb19ff882469f06fd42da57b7378785e111acf9780,
  0x8655b556e5d2b678e64eb0cc3b47b06a0e5f2974e176681c7faefc9dbf97ba97,
  0x285670c0e8f5d682a610bec58fdb28bd2d4d8d76d58de715ceec2565570d02e9,
  0xb39340ddb24a1dfbdba4e8b367f6f39812f796fe874629fd6685c0aac57da591,
  0xba5ca1466d16634d026d683434d0642fe7f3cab0ffcba8b885bed851e5aec8fc,
  0xd0e4d7451bba771eed772659181adfb8205ba421a109c0915a8585a45eab888b,
  0xc61597a3e6d4f4e56389206c1c3af3f39bb73cc2c0bf5c5a1381a9e9411f4ec9,
  0x54b2549602a3b5f53f2eb027570d8523297121d4445c2524c22737e817d28d32,
  0x2942597e5e75b383facd150e07d18d42c2f339c5991005626cff5cf7157236a7,
  0xac9f9ed30e3067511e10fe0ad996c7b4d184fa91d032a62dec252fea42b1d278,
  0x3d92a93c57da861148a17cba86bbfcca7972597870887c01ff623da33327273f,
  0x90d4e8f042a3c218bf4472dfd54ea8271a089fdafde52997797db5d7bc7c1497,
  0x5568ea03b60de5764d8d41e977e0e230b455ce809a50872da2f35b287527eeff,
  0x8d5a4bd5bf674b7dd5d0e27638294aa4a6f492dbeae01c7691f2c343567c36f7,
  0x44c796f3213674f529ac608f51b67eca669f70b9b0cbcd413468925ca86c29d1,
  0x9e883a36ceee76cb43213ea049b3fd6ffa0c248332025fd7ca4f2369fb2c2226,
  0xce5e5bbbe9b739af57a7d22b88f69db133c51c53a5630670e85a80c2d9d68515,
  0x83ae5dede3de256c2d49e1435a23541788dba835b25e626c521e7513c46c1c61,
  0xd29023da960e056bc9bfee3eace5a2be39ab2d477cf597c9d0b40645874cc754,
  0xabc4b1828b762a20782a1089c5a142d43b527dba338ab5dbcfb9685fd59a9320,
  0x9183063b629784cf1644087e204e6ddfa1ccb7a0ffd34ccd7b3636211bd4f238,
  0x205e70401c77df71ffc723eaab405e97e456c57c6f38e9646007db6e4234f84b,
  0xa7f7fab58796b1fe0c20523b7e621be73b5eaa1f2c3f10876dd6b1dd32507414,
  0xf0dc870421bfc7a88d86c1b8097d6c9f46b2769ac8ab690aaa51454fcf3c822d,
  0x244311d8373714aa507fc8b95bb9f027977c477459aba9ddaae54f354aedcf2c,
  0x4c6745804be45e0c183bc9edc0f0dfb203df5be90c7abda1da193066a0ef51b9,
  0x4250086b6f691a0b529b97d78e73bdf79dc3bdcca9ca8c783975771d5863b0f6,
  0xa09ce8bad5694f688017021edf952d3a948e8a6a933d866c8bde3d4ebbb346a4,
  0x1b2ed555a0bbb18da6f95eea8f44718b2c7768851c8fd5033d2159899db821fa,
  0xa5d48d4412562688d24d4e26b27740ca460ac636f41c00ae75cd5f524f971aae,
  0xec56d7b5db8a04af3819a438df0484462a74597c819091426cd4dff1c066790a,
  0xf5b1d661f0a9cd012fbdf109595db75c65b492aaf23cff1f01d5e6e90bc076a9,
  0xe417ffc55e6f74f246b9ef6e4328923b1297b332e6ac3f68f4296fca80bdaa5d,
  0x37dfa73d73b46e2358c5f4d4c080a46f90d1ed4ffe9c28decea86681b72ead91,
  0x15ddea85bce3caa352632652a34b1d48747431682ca4aa692d61cf23ada5794b,
  0x925adf842559416d20e614f15fc9deea495fbb91ed61ef912a2ad4a8d50dbded,
  0x2634df3891c23a70a45a518c67075a02039a836ad8c5913f148c09d2337ef44e,
  0xe9c843a5d10ca8f75e99a23dc75eb24e3ab76a694859a42ecc51e5c389dc7860,
  0x2a6e7e64ba54f61decd925de1ca3e08bd93c6af562454fa3c458181ed89e3b4f,
  0x9a631c263dc1fb70f81a9b3f71ce5cf253534233da75e285ae2c9d35da532bc4,
  0xe3037ddada73d1937fe35a80f3dc6cd099738d001f0985ce084436213a77f12b,
  0x8e8723998ab23b81e715798eefa2a418d534f81a2958647d5bb9ab01f37c2159,
  0xe038805ec48330f18239e38368b4060e206cf8ab3e02cad1dc2c9269ebd0fff6,
  0x613e68ebc707084a856a01a48fa3ecca4830952264a1c1201986561cc76f3e20,
  0x872d06321eaa770fe57e053274c25fff71c2cec74a3d5e1b6b72498a4ebec677,
  0xed827e727f5d9737e20c3f8c948cd432195c51345537b436380ab8106e412cf4,
  0x1a1da3d72b15dd517570a968b3fb479c25a4c36a5b69662cf43c3d1f61104f03,
  0x562273b670f9630c60b734fa24e33f9557f5a03c50d20f83cd7544345c51918b,
  0x35beb9e84bfddf04f0d8a4fb2b4c21c08a2b5f85ec652894deff111e01862c93,
  0x0505fdcf559bcbeb98087d513ea3d6769d728fcec39c4bb8d8b1401f01571186,
  0xf2ffdb34ce1dd6bf3d63d6b9662d686a9533836219867a5955ad62cb307cb281,
  0xd77eac5a92775454a333a37d2b5f85a3fd882cc63ef20977f430b8f0dc606b2b,
  0xeba993b1e329f397a7c75518d23fe60a23d988a214b4fac3a96db356a3f55d24,
  0x9196d80d28e6bb87057f80c7be5c698de8e2465a1c388d0b7d1229e1bf5ec5c9,
  0x45c3d2acedb22a60007b551de94a15ce40e82b5758ab06ea1b0bdcfd9771d3f1,
  0x41844cd5c914c231ec351456050c09a37312fc2c3dcd03a8b99b22131b99a9f3,
  0x04b212276bfedebe4468222772d602546b841ebbc89d9ed909a198135e706aa8,
  0x2cad1d0c67e68b88bfbeb3b48ce67bdefe8948afe8cd752202d9c5bfcdddc7d0,
  0x1430ede51b2653734ffc7bfe12c9bff4ed92d6368e6fab92c7512c8878674c50,
  0xde5efb8b944c624e1e97e6166f0f3d831a8da8423bdb90e00e82277554a5fcac,
  0xc6de6407b5cb6714b817e29208a132187263d10f420950a4d6ffbf50aab11b18,
  0x600bdcca96517f4c50576192b35ffa17603a65f8d636e57bb0522743950b8a6d,
  0xc1a332ea70d4f2824b53df06aea350143a93058bd91477469e2dd7b5ae244be8,
  0x0812acd71c58dc5f545bcc5275a851e18bc35e5f1d3e52a6db3cdb99ad49be80,
  0xe1e4dfa12601a850aadb50950e3188c144de4dfd81624ea99c4a40c594347129,
  0x2e884173306cd7e7b90ac8b3e13448d29090c8a778c029ed9261e050a4fb7e17,
  0x3678260bce970c510d33656e164fa5e977b7dcf87c6d3e56055a234bfe411c8c,
  0x397a7991491a23fa85ac035f1a3da7a153e31b7fb153cf42fd1f07c50f340256,
  0xf23a4680854fec1e5501fde42f99d39320bbbd851ce1fd544e04f61677a48f74,
  0x7b00e06793edc05eae2ec7622cda4b3cd670c5cb535900f7d79d0fdb3cb66fac,
  0xaea737caf72f041be8eb4e75f894e0b39084049b633ae193cfd1130a43607561,
  0x19b0ae8a38333157a6141033a0b292c5d02bfd1ddf3ec1c90b9f948d9665a1fd,
  0x71075052f55d8c99568f390fd7c306638bbb840e73ee1fb6510ace3839c2ca04,
  0xf45715ca2d689cff197dd3b0d947a3186ecf89e713117127365463bf1d95ea9a,
  0x4a97a9a7b79877afec2e029a97a3590bc955e82c63000806c474b00dfdf94c92,
  0x93d862f6891892377ac9ad0496099624a9db12fe69b4e7eaeb00177862a2ba64,
  0x30cafd9cacb5ce44ae0b8ee485f37281a2e0070f5b76a4214257ee577aef35c0,
  0x02ddfa1e399f8130c1c5756a6db1bd60a86bfca8711d49b90f869ef3d4ef4ff4,
  0x1c8a47e0c1c9aa47f69808526c226b5cf6ad7937f805e992478bbe4da035cae7,
  0xf5bd20c9635daccd48ae56817dc36aa8b628e57f013953bc0dfaf79e3904e1e9,
  0xf616c34c5bfb965d44fff9477bc693ea84377e40d35a49eb231f86b82bf55593,
  0xcdcc46138b1c68b4e8e255ef6c4f5c2ccaee3b53a4d8d90e05181ae541298279,
  0xea83eefce1e4b39f3e1897418bf75f63a152c4a5316d24235b4431191b64b231,
  0x8200a26ebbb182c83114b8e7b3a20fd7faa4c482ec92a843cefeeaeb7bb6d029,
  0xd59a56f68a0283508d4f8a7afd1d3d0b03e25bae831298bd9146de2f6712da5e,
  0x1504cdd3ca18aa72903ccc20c03763d567467c483ca7076e2791a39e593d4eab,
  0xeb6cc8badc2fcf7c4501833b2b1ab9aaa4b30506888029ef0808f416b26e3d45,
  0x33e9deef59feb0c31044dd1ff3274a893047dd06f1e316d08f5222f26dad18af,
  0x7669642ac6d7351b5fb8aa5a46970de187d4bdf4e37d236173326b51ab024363,
  0x5b7ec6c9ed6ebf7665afde2712919fdaa33ce2db8cd576b029b354fa4cff22bb,
  0x952e11d046985c5a88508dd2df877dabbd03e2b1e40de2c6d475e4ebe96eb37c,
  0x5bcc5c765ae676fe6961495979c8f165d661bbc7b1fec96030de7bb0e2834c61,
  0x178d1840a713e842b1bc8e9c4ce2342d7d04100be120677988fd0b777ae43c34,
  0xadf104678ecbcef566f13b14bbfdf0ccb4f090c77aa9a17e2ec4ac152736e5b0,
  0xba99db866480ec02a4b802ae2d4ca0fae71e671c8c9cbf414d0680c0c6736feb,
  0xd7b61991712d06884b1909a90d31af01d5a4969fb0a3e9deb52ac54ec313b33c,
  0xd9d47d65db594d11360950a2b9943952bec9fcc22174b77916b8335bdae73e0c,
  0x5abe9eda167006e90e6d7629ad5bb0f12535e51b93d0d0b615baee33511c51c6,
  0xffa58db5eaa51cff9902f6807944f3313cec9509fce9d049198bba1fd0e94148,
  0x3060ffd82dabed26ac7d75964a1fb0940a09ceb4f0b87a9fd06199528ac7053b,
  0x5c13255eef00fa2aab902d4e78d75f7c2293d1f6a755553d766dca2bea0bff40,
  0x9ef0712d1f917436b00b23f82534a09acb51c549ba95a26de164c12b33cf896d,
  0xa1a72152d57692de32b4a7f883573c2930628eea41c98fe716fc0e22b8f9622a,
  0xd7128b9c93aff240aa1ca984ac86ca4ded844345485562542bf86f597589eceb,
  0xfbb14fc4eca611f2bc0acf2b7257ff1ad968876f6949e831cfe3b14a80a1aeec,
  0x0de66462b1c7f1a25e46c6c1680f60397da1bc3ebb02d0ca6d7774a3353b3c29,
  0xcfc67b9c8247cab7d8dde9fcbf0a32f47c6f5d709f34956c4fe34545357743cf,
  0x0d4a1e1187a3fcf303f02c6b29c2f0485b6112319e785f96554ee96ff2769145,
  0x833c1e109819c555b9b2b2b7dc888891e857b4ab7244ba967208fd42558f6f20,
  0xa31eda227e00f025d135b986b144e2699d1c72c374ca34cfcc3099015d735717,
  0x3e60b7e0c83a2706eee9be3194445f51d6abbdba30020a836c5b4822f9308f5c,
  0x3655e538a2a569215813a6daa32a6694341fee64116a00ad07134475bb39662a,
  0x9dd4aff6a17f9e045e45705ee3eabbc170cd30540751b1f4aab7b44274600084,
  0xd1655f79fb32912b6f3d17b356e52eac4cb4bf9305f5c4d4e34852ec0d164971,
  0x60073acb9351caed7314d99214d1d9ca17438de0127d522c94d9addad4fefa11,
  0xac69d2026160365aa462f2be877e52a8d332d8ae6f9c43c81188380422a4f058,
  0x65cc907c9d8e1f8abcdc92bc3cf744e7ec8ae905ecb3d42c2f5b9f4697a9db60,
  0x9759780e8c9e40b44632830b88671bb7bf751931784fcd6b1d14d720d2d301b3,
  0x6f1e42044b03affe005e35a6eb3d59b66fe876d6f608017833d6341c91cd4a77,
  0x4a244a3af2c3a84fbd1c6bb7db753cc8c4ade84c86672f1ee54bc1b9412f60e6,
  0xe017e7fb84f985d987d60510415cfcb3aaba70daedf3ff836383ff598a62e732,
  0x4b82d06b80f9377cbc4e51300b9faa44e2cfa097d28cee1bc1b4cefaef474c24,
  0xe48893f33af1d879d778055ff3b341a56b547e3e5b3bfed42ae8052f6364e9f9,
  0x228d09ed078855e78cdde5d1eabb5302001ab135813f569c7fc287b5bf0ff4e9,
  0x7c76653a5adc2d08a540d75453411cd93c316b04f41ddbbce81c8f1284f28389,
  0x77d61433b8962542ea06b7cf8922b3fe484ef3cc651e6457e2831c014cd9f823,
  0x776f58e3033eccdd88d9646403e870e5755559bbb0462d6d1ac64f32b39de672,
  0xdb14dc83cb7c237bc199b1af801f375fdf0219e87d26e597d5090f67d24a3d86,
  0x7e5dcf8dfe4eee95a4a527cc4df89d528bd8d181ec8ced9160de3eeedf4aa0e0,
  0xbe6e9f011470f7e395a6f3ab2eed55cd4305579d7bc0a1c9528a94395d9d8f1f,
  0x92a19ffa6be1106a36646dc9d3111e4f05e54d4c5a0814be8f8277196b88bc36,
  0x0b2faf32deccb0d6f9be8f84db9d8bdbbbe94453d1768bc09e556674b90a0174,
  0x3d0702ca4a3e6d47786fce3ff993a5ec86934b499b2ebb4213dfea5327db2568,
  0xaff1cac4096dfd2c4cf7203d20e4cd03acb5ad718da4d185a7e1ad76bca25ad3,
  0x5b1fca4317dc1c971c5c5d7327ffb807498e07fe24b19ee2ad56c4e19e43a4fa,
  0x3aade4a95f818d965a6045185a78fdd2c64573104b254d7576ea1330d0666aa6,
  0x93e43f09415aa6060f0f41097964e07ca3c9a7b752a9ccea3abf2aff1557dc44,
  0x0b3d1012911a27efb706ab1a514063c62e1435acb099d9c8f0c35de92bbbe27e,
  0xe29f93a248875cce98a91f9b01e7617745f8186db609a657250ba1497d6e69e3,
  0xfb425ba253912144576d2e1ffb67f702a16715b94a43e76116e50e79bfbf8f9d,
  0xe63a7b26313e7ab1cc2ff14e3083b2ff4d2335dbdb10021744a7b1b054c94284,
  0xa640aca1218e519e2b44962ce09897eb51c2bf6d6e1fb02c72ee7335ea50c558,
  0x92248c6ede9031744761bb403237cf2982527f412b817072f20100ad5676cdfa,
  0x9791e1eee19a75428b9ec7fcdc50a47aadd8222b18dea545120eafe2f5a08305,
  0x9ec0b716421323588bf6ceba28177f53653c2d96565cb25df8743e44a4a7fc66,
  0x2c6bf39451b3670c6953f94822ae251a170ac33cc659ef04c778428bc54d47e0,
  0x34bf4773d8a40ad332b1b72e002f8e59eff250591722dd0ea765a87508982ba7,
  0x0370c4568eca2d757ddc22e412805377806828cc0461d997bbfcb79dadecf6cd,
  0x72484ee1ef5740138b7fd30640c9dda2e0ed3f8a8669e5a10ebb01af85aa978a,
  0xef24120de41a62f6a3edd9b159acc3fe5e6b6413ba32a3c4cb00300d94fbf372,
  0xe14b70e26e3a871f0550967ff56fb272bfcdf7ba34eed60f91178782bb45ddc3,
  0x779dd57aeff7ec57f80da9b19e57ead2eab9cff3821c68849c824d24c0d0eb89,
  0xc9c2a2c04c0a028c79a664db5f2f227bca585b343dbabffdcaf367dbd8cfb3f3,
  0x610f619f9182b44787897a497f5c1cda992d8a0f98e1ee1d98255249320aef66,
  0x2cbc5b6dc464e3b436d64e268624c1310b88a17b038f2ed98d62ac80ccfe8c41,
  0x0fa33e47d6510823dd3730f315e936b1ff8e20b2e3bd7afc37bed0bc46b9c6b2,
  0xb2f83cea27032b7790ca5bf50e9981d6467816953120167ce4eff312ab261ddf,
  0x030e32d7060907e9154fa14667bdc4546e9e651645f9c8bbfce3f87bda898c85,
  0xe5aec8d25d85930cb9ef42705a409a72515c814392fbcb98a8c908674dbce14f,
  0x416f2ff5b9b80bb17bd467e4d0836f11a788a1d5428c67ef131305b52a7b97f9,
  0xf7fa02789179d06919594ae8688e00a9f46b8538714e650c3a7ea5cd20516ff6,
  0x7d0fa67719d72bcbc7e44249b081eea1715ba20fb349fcc44a6468149b9b3716,
  0x70f3c7907cff0cfe70f72ffd1c9695c0784526bcbc30b8fae11b904a9c08fdc7,
  0x1e9f88ffe0090d27363092620592d7867cc81151638b33fbf00f9e134559ebe3,
  0x50258dd27fbfd9a611dc4eb46fb6cb9efa1bac97748357373eff41aa71c32340,
  0xab51c33a6887975af2382caf76846101ca84a63d987d96b0db7c446fe866e152,
  0xded4fad5b9ea96f8c62592ab5dadbc3055a2ae9c6d6aa42caac47527f917d00a,
  0x622870bbb76197ea6421df93ece6dec610f18e6a67a8a59f4d7589781876f5d8,
  0x8c306a41f6a1ff71c4e6efa6a76f50a9c0703af3e3d5e4894e2e237098b97df4,
  0xffbcb272872e7cb4721f2494d3ffcb0c6fc24406b8803fbf1ae74f7c68a63bd1,
  0x6e82b02464703dc467a0ccef796b63d9332fb45f86e47c16e9944ade3925b868,
  0x8d308f3b483df64d6c05ef3d8c806efca743615828f43af7b1c751d5dac392ac,
  0x2c69180b4d70927caca7fed961310bc8cd703eeccae30abceb3b25652277db48,
  0x050bc867eed3784b92dfc7dbcb41160f15494d444a525cfa2ba72839f110a179,
  0x1355ae48a260bd9773d3cbefb8cf1644df94884214128f5bdca5d5757e974ccd,
  0xb164646ebd5e23fbcef8e72b7d2b300c56878d7859a228696d83a6cc2dbb31ee,
  0x4380a2cef9052e97614a17b3d293e7ba9ed3720706a4f35ad2404d776a3bfbca,
  0xc72bea5d4cbdddefc1a0f406609a55fca4f1254cd207a7ce5db24c808d3c832e,
  0xdeda2f388035f8ae0164cf8462e039b10c501acc88006f6fa71ea733c87bd7e7,
  0x97d6d026253bfe7251673bb92edb9e8440c480fad34f92994a4addfbd42912d6,
  0x8bd0e91431a78b68a0d005910ad3d22a3be84004a8526295b38b1577343a92b7,
  0x7c7a3b78624f0feaeac261c2b3083be8990d0d312ea5b42a9a38e0420c590542,
  0xc39b35977fef79d10db60a2f31fd715afae92a8c040796eac3fc9a7a78671dae,
  0xc6ae0386b4a1cc649d84ee3e4786e5bdaa782581c81fd8b042044e7e48a4ad30,
  0xcbdb5b5e9997e227b42fd29a840f8e069138c55ea910100841be0a8d31bb9ce5,
  0x680667199d27e09e07c8e3f468db35f8fe05df9deb87f0c9ae6d8acd38765989,
  0x6c4739de3bcba4882ccbbfd78246db2805a1588983aba9b0a95ddf877fac3f15,
  0xe87d4d08e4c2482421ace8fc0c27b1c8f24b9827593a150bf55c13296adf78c9,
  0xa20bb822126f05c064f90029aca2fff2373baff24f62ef8e241a9e039183404d,
  0x1748835cbcadde5d392cb880b6aaf90cfdbb5fc8004b5ff93d3d6da72a5d2a20,
  0x5066d879fa32bd3603ea1d3173e6c59b2d5c53c06f945ee73d7d0946d055d5f8,
  0x12d6fda3afa634495575212ace2d8e3ed36094014d17944a7d980b670d09feb8,
  0xcbd3deafbc38f4cd9e4f90a328ffff01e7ba778b1589b5c97d4f33f5883c7038,
  0x76c12a766fde7a59550d8837662937f70782ef879e8972fe02e634143fd165a2,
  0xceaddb1e64d4c692251f8eead166e6a7b17d6ce4aa41d724b906e77abe1d92da,
  0xd6f063b2f2f842bc1855686f8fe048f3529260c095656f0d6e42f4f88dff3f02,
  0x0892a1cee7757960ee5f594efbda71f869bd10fee6bdc371217fa9910998c0f3,
  0x7b817a73e7e66b549bce53abbd35dd7c9f7e6f7174c0c009bec58398214e4f91,
  0x304a5e478f9feddbc767a34e4abb63e4dfce804c123cb1743d027f3ecb804c5d,
  0xeb9f02b4c9bdaf81e148baa2ea4404c870195156e81523577207448c0d88bb41,
  0x5cc95558bed647bf13ffbce55874dbce8e0c8831b11e41146a3ccbd617fadb76,
  0x9025d0d89a81e9ee5757ff67b5918563ad59e4fa8fe607eedf03a0d180daa0a9,
  0xef7d3a0eabd3e908a8f5b597d37dd518cfbc001448c11d56478f42502f839e05,
  0x4dccf6b6868e53cb00bd4e530674aa8bc2f263c312c49bae0588efe676290a1b,
  0xa821dbb3dc6486b6c128aade88ac33f8834c855b6f316b304b98573cd4fa065e,
  0x03fec196d9faf6e1d207b5217bee781611c59035f699c2e0f4a790dbec85693b,
  0x0b5441fe8866822c96cfd8f5c0df72fedeb5cd9c438df495558b10efd791ae70,
  0x53cd4c4cd3aab974feadcf4a572dcf61f086f76b57ee2ee1e444d0dea55a7366,
  0x82381460d4fb98f4fc70a0ad0001c646d1ca502bb0bdd19ddb02e98b800d56dd,
  0x08250411684a43a6b0303b8572c015742078a40e9ad71c4a148106ce01fc368d,
  0xaad2abf4fc2afe12b15678edd4333cf390d8105dab6c2362d29c429f39d76bae,
  0x4d3c8a39a5e83e4c3d7d228010cf2defd90d77a959bf4a128ba5d18388b34624,
  0xb87ef31ef8984bac93c0eff96b2ed618b6f681c56d2fde312e8c41c061fb0127,
  0xfe400261b3891bb108e7765870831f12213a09414138a28d40ad7cc2c8519ccf,
  0x1ce911088a30e015491cc49232cc3f77558fc61927835518aa4b69f4d853c5eb,
  0xd61622ec4dfc85ee72bb6b3f5d3bd75ccc7de8a7b7a92d0c931575823e1e521c,
  0xdf04c792c43080bca8fb52f8453796ae81077df050466bd01e067c35f80f230a,
  0xce8e8a8308b2d1185a659da293cf9cf5b2c8e42b2fe717f02fcdb3f194fb9363,
  0x4cfd84f3b3a7e3b00d48a4a0af9cf864fd6aa1fee796f2bb8ce678664b1b86b2,
  0x3a236a7be22352d32e8cfd1a8b84303814f9531e5abefecccab6e89aa79bf9c5,
  0xca1cf0ecc0e4fb68e9ac4847553286f959bde2db0af6f171c8595df630883097,
  0x57620afe9d489da75346356ed179158291046b8dc26f857c31f7df5f13b6b2ea,
  0xbf15a849024b5b170827489146b6e340b9552c4e4391c1fefc0c7d1b847e0a6e,
  0xd19f111d8ea187c6df42d81edda6338251f1de1cb5c64869aa85532dee6a19b2,
  0xb866388f600f6604367cc60e4318cd6c7deac4a481321317d4f315d5fce18186,
  0x23d474be3303e63af71258f7367b58cfb37934e469f781d5e4aa53fc92df5c43]
def CN0:List Nat:=[38,230,76,54,175,30,13,45,138,131,252,190,234,234,10,22,227,228,254,255,110,27,142,34,85,137,221,170,111,206,221,177]
def lfN0:List Nat:=[69,195,17,168,75,246,140,179,191,245,214,202,209,159,105,102,81,90,216,153,222,89,5,107,113,3,170,100,39,98,30,229]
theorem lf_ok0:lfK 0 nmN sdN YL0 CN0 lfN0=true:=by decide +kernel
open Go.RowKit
def YL1:List Nat:=[0x9188a4cce5ca07d0738ea24ea805e35d4c08904a53a16e457c4ffe1474d5ae75,
  0xb903fd6241bbe8127a7314e4f3f25fb9b6213d64282863255982d09520571757,
  0x22db8ada2920c6856ae8010499d7af1d4a8944bc38476715ff4e950d71e805d7,
  0x8d6aece0435c8d76d462710b5afde51cfccb9f5155d4ecd51140d95138db5e07,
  0x97e0d92684c68f337466ec37f52dbc1d4c28c9bcaa3085f7c322650852edc6fb,
  0x6716d1035cf3a8ce38857aa1580b2e273a3e37518118e237240f5bfd1f5e93c3,
  0x6c0581bffcaeda82a9400f20c49c0801f632584368346441f660fb0861c81f72,
  0x81747f174e3f8e74b4226e8fcc63b5ba45479bc8dcf0d1c99c06074b1a3501a7,
  0xb41431c66bbd66ea4dab621e32edd78e903ee8ed980214c6df3bed8ade7d5e5f,
  0x52f81d450ef96ed23243a032a541e5a096fa82cfba951eb4a65f3e1ff9778b75,
  0x5d6b90c7b415bca6cd69133f05a14ac44408043b0dcd5ee9283e6c97391a9e2e,
  0x5e7b7749d27ac7624beb9b0dd78096053d4fbdb57fe2c25a5f12c1d593e7f52a,
  0x21608ca0675ab32caf4f3c86c49dfd7aa512cf09eed07cd47dc79f6126c18ba2,
  0x78af8a6e4673beeb84b9de1b7a07147ce71307a65ac13568a8ea01a0936424db,
  0x02d1b8cbb8ec27a5c830fc853cdb07a87a4833649c5277d0c30bb5195af8b8ac,
  0x237be5a3c78a78ab7c50aa85be5a5e493eaf4576a70d6c8b0807884f433de42f,
  0x937a3f0667d24c599ea7b4c28ccd8775bae343642f1c1b17c5f5cc7b03785417,
  0x63938bdb7ba3498da7d915cb9e4858bfced58c53314dd8c62616d844de58e418,
  0x26639c2c0d29c694f402ab0fff614e820a1eaad6307b64ced0adb68d7398a832,
  0x557219fb06a3a160e16d79afd80286108391ce678aecb81ace163af60867493a,
  0x2451e34c2bf9da2e845ecdeb614609f01b4be1fb825bb2672ec0faf118a82b8e,
  0x91518def3f89a767e4b9999186bb474aaf08baea9ef37b53c9f8c37be6321038,
  0xd86888b732629b3cfadc92950bc6ae8af9ede85dc0daa1bf5dad752b51ed14bc,
  0xe231580be96e187abd9420952a4cf4a1a3f64384bdafded5676bf4a2f2ad88a5,
  0x8f6ca08fb7e18a16b3f1447ecc8e2956d057db09e916efdca1756c68901eff14,
  0x3530db899d2b5082fca5512991e49249a65f8cbe3668292aebb5ad756563008d,
  0xc59d7f79c7c6dadbec122889f267ef467ea520dfb94db3540a18574a91d5701e,
  0x383f87ebb7bd1a51d362dd4dd4b7dcaaec22144d59d79dc7ca3ae38b9762bc5a,
  0x7958ae91098c757d3cde674a9287340f5990d756abeb057ab1162267200e6395,
  0xbe2b5d2fdc6025bd52c98f8815ed1868c53959b5eda94d67e23a769a1b20f622,
  0x0562af85bd44495a9b1aa0966c895823160e1b9fc6320f1ea6f3eebf7ca269e9,
  0x0bbb1434cdb132609cdac5612cd4b1879c15e10b5ecd0a8eadef4ab0dc723ec1,
  0x4d3274b2a9e27743628e03e413c5d4f413c27e072a38fee2d98065e6aa1ad831,
  0x2e9ba36dafde5c3a8da72d6818e9f8f9e0c07143ed0de5aa90ac4ca3024276a2,
  0x0e50f292615ab351d595ac29affb09495b27f18e07ecbbcf11020f29e386a37d,
  0xd0d9386b23047c06de96c3532ee9fbf88ba1f80169cd6f72599df417b6ad99a7,
  0x8d5acca2f00d11ed1d036e447423030ad78405d40814c0fc393224737b1d3aed,
  0x1a1b8cf89373288ead1aafdc5b1ae859ffd2e66dbbfdf3692f725ae6953f2955,
  0xaa688c3a818ec268b5365506862040d108547496eaaa58d7c79f8e96cb175510,
  0xa9e068fddf81da59b6f3bb50e5b210ced28792e3b8436cebc7075de0fa50f74a,
  0x0a67719c6f0834d7955fb82ccdb50b027cd62f45cfe8fc934940e21e316bd76b,
  0xf2ab6dab085b8e4eba52673720cba820ab95c6bff0c8413ff3fb60b053738c61,
  0x5b4a1177fcc3cae2e55acaf38dfe5bec00544edcf99bb0b55ebe052fce9a4db5,
  0x03c56d337a1a76bd9fa7f671008b5b962f5a9c133b497eede77881363e59ce16,
  0x5321e61d86d41d03e18716de98551d6cfd5d012b8aa687a0cb4d046f715aea49,
  0xfa46dc40dfed7966926b061897eb55fbf9630661936caf2348d36c6d3e243536,
  0x2d2e4f806fd5ab71e5678c61070962a433a653377d5a542395798d66f6810ea3,
  0x7cdef38f0c75d25fea7c121f06b0f525e9f031bd8db3287a320705e1c1a6fafd,
  0xeef27a6be239837e789c702ec8cbf00009e3ea2435f165329cec7157ecb3e80b,
  0x9272e7d13996b796f7de61f20d38a1f6da83bd2a4c69ad7b97341aadcf9da2bd,
  0xffcef1543090ebbf81b257b6e2d4515b5631586f4e8f46091605cefa82696d5e,
  0x3a2d56c8a0acbe0ff32d12b988d105fe30a717ddd24efa1c88dd09c14aae3382,
  0xd26556928c2fa8e71ca678b45b7c3aa44a690b6b1633ffe930deb4316e2de9e5,
  0x294317b7305cca174eeb04072e3ab18a42a797a409db7d392d2bbc5eb4bcdb26,
  0xe31b7f57c26892638923c4aa8a3e87c06c7b8fe08a8cd594bfd72748a405abfb,
  0xaebec45ffef57871dced604cd1d0461d77265977965cb62b9e832a77a9e0eda6,
  0xa18129e5b6859990c26a492f809ddf1abe67c2b4abaea400aa99b2daae311a9f,
  0x673536206f8a45a2b2561767f72910530cf76da3c5385003462349f0e35d9cb8,
  0xca5a442d9ea549c62eb90c21fe4e9e201184349841934ed0ed79000ad0181823,
  0xc44f6b92ba49c4b472ca769331b5464b70c4a2e0994afb643e04f12cb37e8d6d,
  0xa1694965a346acf00ae970e75bc8117ab3d15da2e966edbbaa5c150c28b36601,
  0xf8e670b8477f447625636c578164a5098c598e90c91c0c64b6102256962ff1d9,
  0x02be931fafbf9aef1838a5466564afe5cca0dc5c79061f0a5cf11b2bdb4fd8b0,
  0xbf1a00354402f282353e0eed3ebc8a3fad64c62565e289dd59515bbbca76a1fb,
  0xbbd4b910b64444105513eceb7e0977826d3eaef7f0847a2da34eaa03ac20ec1a,
  0xde2e42ea04dcafa0c3774e76807fda3e0273b12b59c3057c5ed0b952f7aca553,
  0x84074d793ee44a94ae67b0c6545fe07df9dba9e0617bdb59b9ba35d276c0ebb2,
  0x1f9af2689c05c08c41eb1cce7cf865d60ae87ac466b5b6ae1603c4e4f65a64b4,
  0x1e9a0387698d370cb45e59136c37a8a1473b936674d98f220bddc79b3b80198c,
  0x7312d2610234172de64ff0a30a1b8c53d0350ba6d274b40f601cc26a1e129a19,
  0x23c6fd0bbab6107523658d41c2cc9787c8592649eb81943a10f61ca40253c50a,
  0x7b61865a6ba6126816d34541aa204e99393bb270bdb48307310393746fbdcd6d,
  0x39d1ace3ed3ae155b036e2885882af99af83ce8eb4d8350f70d53ab88360add1,
  0xa6dd90a087027c4b82aee8505dc2124d80ba6a5fdf6fb2da3dd89d089c3d3e46,
  0x7c19319b6645b75eee4c424beb8b52ff5cf622bc636da9c194c1e584342c20a2,
  0x24feb018b893a1f9334f9acc737895f9970d2846fb5d11cdcb06a628172d0f41,
  0xffdd5fe92165f3d8d42a60b3ecbb9944ee4735d57cfec5e52c099f8d15c71c14,
  0xaa347d1dfb8ddb53df2d4750cebe075f600ccd49a9661613e6328de7e16b0a32,
  0x0f96122c02e727036ac7babc71110926a89ae1189869321c76a6d2c285508418,
  0xb04671d26a7bac3effa32dd7b4e00a714f29f59a18e674f3e0a1c5d75e30900e,
  0xb49b94791d68efed2c107560d61d88e5f3c85add93583004065b6d4e4cc5acb5,
  0x41866196179ad867ee6fa8c2e4df9e8b297bf653cc071d5ada185f270e1a7c38,
  0xe97065593c45641991787ac1f6dea2ba345fe353c05cf691e67154aef09c66e4,
  0x0d32166e258e3ec538c6fa1022fe4ca35fb4ee4e3e8f553ef6025030f1f0995d,
  0x172b199e98194cc68555c61bd990ffec02f1fb22a0194ab7f28a2e92da84b500,
  0xea4f455d412a648f9c7b1fe47f92a2e188930083932c2adb3a48b7a48663c829,
  0x0664e84591ba4233754ade4bb07417c5f96e7f9d23480aa2b7edff9e70d9ac1a,
  0x4c55e0bd96fb1e2a2562e2d693bf34994073ea5d1e40f974050445bdcec54551,
  0xc416d72e79038b05f58ddfa063d266d0b9f225c0bdefc73593fc0bb00c515fd8,
  0x13e711a23546d6792898826361829ce46fc60ef478195d93a3bf91c4fdc49004,
  0x540fb52feae1a3a8bd2f16bfd664cab8e33759a2e522dfb2d89709df80354ddf,
  0xa5e1bf5cca9793a154fdac40ffeef079a882f2b7649e1df8fa6e50b59076bc37,
  0x7a510996c157fea41ef700ed6c654d3041d52820151685618fba54dd1c8f5950,
  0x79b81e85196af5756dd149cfd4a06399d0a9b7abae4703c7ff632a5dee2ba596,
  0x21ed1a8aed0fa4d0a0e861813dc9ccc5163e0c29ac5b9fa339f2dca5a2b64143,
  0xceaaaae3bae36bdbf84da5110b59f9dcee6aa93d66499c8eebe43f67b50cbebd,
  0x80d01b8c5e4bf54c2c2ea812840c36a6f9f41941f85498318b9454638e34faad,
  0x09004b941ea9739178b461be43dd16ddf51795785d3a62977be23361697caadf,
  0x277335e086a1ad51175745223ced596b15d6c07b4011b3226f86c22381cb5cce,
  0x67a50ab2aa6e6cd85e914c9491e748689028cc61a9989b82a233f6392e822e7f,
  0xe8d608d833b17a9a56956b390db46b5f83445114e735deaf56f7990ff84f2d69,
  0x8fc1718d43aaacd6fd9c7eff1927bca30b0f2e6546e2253e574cb5b1ffd9b019,
  0x115dd415a6bf3a3599ffdd9d96ac3783c3ffe995234a8b3c57d5d4dd2e8105b4,
  0xadcedcf111dbe4d0c0d15ae606b3997b663c50585a9454dba68a76b42ff90eb0,
  0xebc9f9fc687bb0d9aef5a7f781dedf0fb7131dbad2da9fec3123de02511f2f88,
  0xb5b5cd2d86c46deaaa2ded2768923fdb3a62e0a4a181e0aedf1e722747fee457,
  0x7e37ff4ad9ad00273b53771c6a29e56ede4b8ef45f7e8d16488256b6c2f68823,
  0x34e317ea3e0e494a937d2b196bd9629586494e2955bef2f7c660be533571c440,
  0x2691cc29792e8cb0908a675e79b13e63cdbaf7588cb45ad25b9ae70c5fecc681,
  0x32725be8ff673789549c8e5fecf12583951a34656ca609a81b3fa1fc5c86935d,
  0x36d5d7156b32063179dbbc2f77cf2324d7226f955041043d3e03fd3f4168aaa7,
  0xe24483bf408b31d587108bb7dfb181a7d541b885a199ec07f5ae766642e3d4d1,
  0xf835593b5cdd7e16fbb47d6bdd99549075ff1e418c30374044830bcdf1dbadc2,
  0x050e7fee46160ef2420a476e11b9384e1e2beb8bd97ccc063a349c4696ef1b9c,
  0x332115c0fc12390d09383fdfdc698fcbb53892e6ad30a8bc7abe13da880a0120,
  0x5a46486e8bec3cbbba051d3b437ae945d52aaa2c89457d6ce5c629ec4f44c79f,
  0xd214f82f6594422af35c7e9004af753ed4585b140c9e7cda470f67c59d48e8f9,
  0xba96390f7bfc31beb2adf2ddf37146e7e83a2d4d79654ca6a1f8ee48b5569342,
  0xe5d3c13e3a94e08f6273ceeb1031909c8ac169811ddb671ce32b7f7c0e455bcf,
  0x87ccfd35493ae2e4bffd147982d5b7e5e5fc3997ad88e3132f709f2d6a5d87a4,
  0x00407d7299963fab63e59a2f693e97dba3d9e80640a4c8fe9ed53db772146967,
  0xf31542ffb4b9e2d8d746d9eca5a14f17224b3a6f1ae977a9ab65c05c7b0c0933,
  0xfee56566a0739d9423b7d6629ad904f12a2c4c96ee4ea2ad8efdecafa836217e,
  0x355e6fe1e022e57b5ed882d97b92a8e30f4c95573959e38555dd549c8c0df3ca,
  0x7d79429b918a10115a1e556138a416d8284d2e063f8cce0e69f2bfb571bc0024,
  0xc2fe84bedb881ec73477ebc880ff76e9f276956ac0e7b2f62ce4316fe8904ee0,
  0x86a6829483f4daa4e17447254233320cbf8f532e574387e6ba1d1d3d63097fe1,
  0xda4d4dcc76408e37ab741e7cfe540f4e57886d492bd0a1665a59eb719d3aeae2,
  0xe8bf9f0d78ad203e736c66a197d07f3ec494d2133c07d71444cba4aa19517048,
  0x0bf15a1e54a3c57f7fe7703e1ef73cc2f1488c85afb48433f8d1d4c7060f0889,
  0x503ad91bacd7285c095b4a8e190530b2c12d373a95f67895a554b657d65cb039,
  0xd00350e0ece73aee213a8a9b8aa50d8c3551219044abe52d32a8bb121cd60f16,
  0x5adda021cf628cf8fe6b2224ecf5f1824510e6838aa61866980ecf64bce2107e,
  0xd42c4340611201e411d03a78fb416ccd23da570922737936e1d66377c0faf153,
  0x2da88f164df7d648bd20aed3faaa005b792baf0cc517e97ca13a34f64ba33f6d,
  0x0bb58958450b7a04fbfe2a1cfedf4ca65edfe39f603d774fab301b71728b6c26,
  0x2c90af3a0e86e0c68ea6e1e060cd12bffaba098ef5ea60f171070a5da589432f,
  0x5aa2f59fd388a3988b1e8c974512b215c469a6034ca820b5d985560ba53806ea,
  0x7b5db4173c1d8caf01d842d2e77c338e6e54c549b959cd4ebb26da30d1b20011,
  0xfd37bb3c9d8db3511466cbce4bbf52d16babd0cf0feb6f9a262d0dbd8e21b2f8,
  0x6a38ca40ae577f5c9d8757449657ed81b1c6cdbeedaa65aeecc52cefbbf40c05,
  0xbd38bdd0e90484580a6982dc1e8adef280b2e68f6ad8a2a3692945b4b154d6c2,
  0x9a4eb7a32ae6ef8103ec4e722649d09e5d8b77440bf72d20c160c8f8da942c19,
  0xf07035050d2121a163371650bde8c8761e9cf45081677cf2b36b80de80d6db7e,
  0x42b71541bd7751b2f69ec128b807f3f1a702f2bb0f87730eb6fab9c8b6446aec,
  0x31cb97ee8e0c3e8432b9c08bc58f949b5f69a9dc0253ae1cfe0a4990aa4282af,
  0x8f66f2d2ef2bdca32eec5e4a2fb5b66678cbf1ac7893ab5b0defaf1d171fb70b,
  0xdc43f42366c447ecf470aec306ab88655240282a956cdd670e8e31ea9155e452,
  0x63a70684fb67b3e9fad00bb0759328470a10a7c4c292d3e08e0c4265accc542c,
  0xacd5bc089031059bc04f7770d27d03c9059f880021dbe4c866117b19fc6f4725,
  0x7f2a7f99e86af2bbb4814e63bb513e424c9213de7a876ad964f0591f3d93f6a0,
  0x7afb3a9fb40f0da1c75bfb39f33c2b241ea3200760798fdddac39eaf03b1aec5,
  0x624b5e0f30610751812940a4807fcfd1da553591ac7aaa40d702b64121f5f659,
  0x75396510b48bd58b014049ad352578721e0ca81907c4da547d642735a391e7bd,
  0xcc656ad1397b56c4e427234f4b706c58c04a3867ea5449815d01b5aeb5f791cd,
  0x19eae8ea10ad45ffba47457874f425eb265527980b66dd78988bd79c97346480,
  0xb7390fc5ffe27758a96a07975995eefad84fa2b888b9d30e9306da896c032c53,
  0xf623829575c40e93e5b2fd331fc9d6d7b667889de547f89207aa1a6dbd69fbc3,
  0x2f41bfa94aebad9d335dc5b28114cf67e3ef5aecc7616387c355d1b9f9b224e4,
  0x80598f460b9f6ba50156d75cded783cfeff095c5b020e36e320f5afa7437d7d7,
  0x4712e73fb8fc9912c3b7991632d6e8379c3fddf666fcc70fad7eeb81adb88289,
  0x85e9f588f2c9ca25147dfa94edb06e3fc12c4323d9faf74ee3e2700963463403,
  0xad7fd0f5c26061ba1b5e9216f2b643d4f24f4ad2d24ca97ad081bc6b493ad6e6,
  0xb79931aa55951b98c035ed5e27a6298cca83dc8edb01963e730897b28400296f,
  0x8d39efd7e8c90df9562ba2399102c02bb4ec214f91adb861427eb12d8aa9ac72,
  0x0e71118fffa52ef08fdeb9b46da7cfd73f3b38055218dd3f09efaa71c2efe0ab,
  0x3ab49a80f9f04e60fe7fb1d85b4dc23e1870e201c2377f559bf0eaede1df2f63,
  0x19296a4ff613e4576865dc8cffef5c74261b9644239b90ba7f124d4c0a8c3398,
  0x0d6024b7a9ae9f501ff62e7abddf7a25fc62d676ec4fb0477eb03bafff54177a,
  0x6f98a3e3dda4b7faed909559ddbb380b852c201d5d4c974acbb91288b50a8a4d,
  0x443467abe7edf1e27c758274d18cd52d0f503c600a04db1432132de0bc1c0e5d,
  0x5e1586f0b6c65649c35211de26de69c5539f7c1e93881b278c96daa9c4a45ad6,
  0xb3873a29e0d1df63396ebe053695194c89b286c7a990a9f012cea4f82620d436,
  0x153b14caebf82e045ab1687e338f410916019ec7694a20c2f1c0b64d6e405a6b,
  0xc45865ed6ff0fb4968b490944dda82159b6191e40bd05b8cf53c900298917e3b,
  0xf79218db530425e4525b456bf5746c13033d4eda51a9075769a91156fa433f07,
  0xa8cbbd387ba432c6d24a44ac3cd5b4185b50bcb5fee553868ceca0d22e5464b0,
  0xabb4710f4da9e443b7d9b599db5e1cd2ffe4e03120b0f08789c7c1c96e2063f2,
  0xa445d42d36fbd75f7adf3131f94072fbd21608816ae918391a55759b34786fda,
  0xcc41c773edc31dafde263a954fc57ad63ce1f086d6eb3188c9b8817e8bb66e65,
  0xd6dc3d6da68fa703c6533f464cf3d60a172beaedb13044f7a2a35ee04fc7019b,
  0x5a55d5c53a5c68e41c512e64bbdc1c2f25fa60ab3cfb87e66e8b9a3df8346645,
  0x2213145c59f7f2b5aceb022142feb51d664f1a94424339daa729951a22e7cfeb,
  0xb8ccf7dd86d60c64935225550bcddc7bf44bd911b1a90f3d9c507aaca8119cd9,
  0x1538e19b686a519590fe764ed3bafd54784b3a3094fd0c8d4f463a42d9fd7dce,
  0x0116d0e46b2713edd9b5449fbb19631cfec715b89caa37069377e05254b926d3,
  0xb9b3bc591f4bd736cb60c274648f5db40ec904f81005a09eec5b8f104aa92ae8,
  0xb3042d047d7ac672ba5079528553e5bc694071f6fcb41f8ad1abadaaca94f8e4,
  0x92100487587044923ec08cc510b2a7e33dbda1ebf200688c5b39099b48b315a8,
  0x2d0e9db84fe6dfff58655c52e6179c0df3be6dfdc0d02a952146a55b039c312a,
  0x58fa17c1eb56427211de0aa86972dd363f8616d747a81da70f5cb152396f95bb,
  0xd526984f56ec7cd7b7592214648c57c95990a3ea8d2eaec36536b82f6d2252cb,
  0x3d8f43ce54389cfe86644aea29494611b5fd8335929c8e3a1195815d2274a4a4,
  0x5e09b6f2aed230371cf53837ddca19531123588a2eae9a0e2b1e86dcb78da27e,
  0x67e1552bb1f12c8f33208ac1fa4a3a3ed19fbcad9c842e7ca5b24f0765ec53ca,
  0x73b21d73c446ba1bdde50025ce80c56e830417d1051b470e54bf15f9043424d5,
  0x6899ca22e477484a07714c3ad20fe30df36c1293bed5aa046674ce67d6ae57f5,
  0xe7c0f10b5ddee9226f5d50122e74898bb31cec944f50076b31ef8c885e3e616a,
  0x3d5b6044cbdf8b05a60df1c26c884122b09554581231032c35f026fda5160fe7,
  0xf15783d73324a7ca72c205d81b8a7624564687f89dd72e7a86329ba8faad6e41,
  0x013435019844fdce0f04580ec713c54298466b1a103fb96acee071bfd6432eef,
  0x499a80a5129fd437a69ad583bc86e531f64b6aa77bc76798d8db80816bd0e765,
  0xac3583cae4c658223ee0684933a61df17968f49ed25873ba23adbb8c9b37c99a,
  0x48a868b8390f11fc2915fd97965209ccc9f72b6da80837ce37b42a6e6fbca515,
  0x50a3844352cf228b15615d226028a43adf9f1d8289e5ecd5b42a8ce365d040f3,
  0x721a923d62334a78da9f1dafd11c6330b1257daed057824996ea3e9881a3f9b5,
  0x40b9048c491f5b6b7879051e4fd10df3295e2dd287c19ca3ee9a4128a6f56a22,
  0x7f73a847a9a3c592375ca31b4754346ecb6d402add14745d3d13035bd4b8179e,
  0x98e2c02ff16ffa7ef2719825d9eca2ee4d26ba8b34ad0aaba20ae8e54b82a5cf,
  0xe291e16320778bb7251e2148af8e72337bd33a305ad6f3553c04a330baa51fa7,
  0x2aae4f5bca0b97ff8c8a0a26fbaf1b7308fc42a3093b6df5b52045d5fa39ac8d,
  0xe0b1ffaa6497a52ed8caf0ee7e1f0374d4c5da3819ef3f1f89802d1e1f7f538f,
  0x22ac2def4eaea592565e57eb402ec316df2a365e23d4dd99492911b29a1a1f07,
  0x5f77aea5bfdb90b8eede63bea7e103061e18ca3d1f4529b274db51638461b63e,
  0x338bf8bcc351c73be98c8fbd337b3d58a0c7a83a8376f9bb4a744a60b388ba8c,
  0x0562e46a77d12d86e7780a0f21e70df8c3ba30774d27a1296b27407bdc9fc161,
  0x4320932adade2aef322b867081d519b7897f164df850f57637f7915bfb2305ed,
  0xf8bd481e62a939d498aca0d4072b3df0b51e802de8cdf0dcc98afca45b181b65,
  0x530ea19a25573718ac83f4b53120c504528e9664829cc238bc681bed29adbdbf,
  0x3194b3278ea3e8c1b9f57cca391524706655f03ff727ce4a843f78c02ad8268a,
  0x78aa4471e726212c07b16a6d0486b8d165b0e3f5a0d748280820c1b5f5ead020,
  0x81ac3aa882a07d5fda9a7520017d91744c37e8555881408b933d41b6ec32bf61,
  0xefffb79f53d3f5baf524fcae89d6eda650af6cdd7524ccc3c1d492b1d4b55976,
  0x85ae0159f26a8fa4857e96b988da7e6ca9c3132de9bce419061aa1a24429ead1,
  0x0c96a650214845346314340fcaa305d6c2b390343dc89f98bb5a52b33535b25a,
  0xb6bfc4d227dfe9d444fe484c5404e7b32d30bcce08408b12124990e76e2b7651,
  0xa48391aae300954a9ffa77c6c07f6146c4ba55e31f0b279b267f48e57619d069,
  0x1138e87b64f284bb6ce931c40c2d544739d0cdbbc11e330f1adff50491ebb5ea,
  0xc92b6f6196a709c5512719e0a9cb74a8fb77b080288438336e76afc98b796116,
  0xe53139d4c9e5d75256554e5b33a5d05918584287862fa1e818b53adecf2004d0,
  0xf96b3ee48a542849a392155ef77301d2d0aba2ef2026c609b9bcfda1f3ea3987,
  0xb3b38656ec9a65d3ce07e763505ec8775f9aa145b6e2961b8c8254c69cc9f335,
  0x7db1f6b0ce90bf4f01b6edfef542f1e3e7fb1cc17a57621449d380917a6bd148,
  0x85c5a965885c92c7c1598b2e9dfe30bbd21030138b751ddbe987f35acfff5e67,
  0xaa5271603337f7cb40af587aa463ae84423fcaee3672f1a2aac1967cf68baa15,
  0x174b706392fa691b8a24d446b956d5f2223c247f5ddb3875c1570a9f4375d265,
  0xa005c807a61855b8c9504403efecdd98aca705a92583df4f81b27dc28dde5630,
  0x8986b283961f3986f5f3a1811967beb520804c8df08e879f6f9429427f0efb79,
  0x066b960c15b6d8f3ed3e3cf5499bf9cdce718a428556fbf6e1d4cc4bbcbfe168,
  0xe700b5e7a72ec7979cd3a6a24657d6fc27429cf3394960c8a3e817a91ab0aa73,
  0xa9bfed0c759cfa1db4d7a00b85fbb5e7775d2e0f3814d99f1cceb48eae95f366,
  0xcd38cc692c5d602ae3d842f395bda87ace7f5a1b270334f92ddf56638357001d,
  0x2ce452a594b3b2fd413665b1471cbb5a40e5b8ec83ce42b7863fc541756f1860,
  0xc55ebbf7a1898fbff3bf4369ace4bc64fc3316a8cc4c53817d131733c2c0d936,
  0xa0c4dde6a2d18a485d7b29f1373797c48ac16a79ce35ed0f6ebbfd209c29c26d,
  0xcc732ac73a8cd84d5b08194ddbf66cb3fdc95246842c1bf50a7b1aade29ac6f6,
  0x721c79770ad9bf4119b9a4625d19e924434ec410509ccb52f03a3f2ecd78ab0f,
  0x53043b838b27f841d6c29bff8d835c66310a1ec46ee29e2a999c90bd334dd954,
  0xccc05602224105aee5a1bf2477b6ea6461b6bb0a8c07faa0e449315aa121adfd,
  0xfb234704ed1f1ce0f1b861464cfb35e8d7e8cd61886cff449564522823b500d9,
  0xe5e0f6908be9e8ee364e21ae91ad24b180371ff23cf2cd59fdc6caf8068a404f,
  0xa33f8c031aced91b1cd3036cc5f8adabe669ca7c45a0005e922e4b18de28304d,
  0x4b4c68819e06651bebd268677af1e728805324af938ce61655665b2c3942379d,
  0xe9726f3e0664766f2c2e444da2993393b51ae43914a0fe770d34beac42cb2841,
  0x2d23af3e3f386f48f032dc3e7fe5b2e5ac43773861e8de278b19845cedb2efab,
  0x0b5e345052a64b6e7baece7e99f84f9f419a23d4818f999b3a46db96a9f67029,
  0x726d00f7ae8df2d9a0bc21d39d97f828307ca4a28382c7e0cfe279c6fc83dd18,
  0x035a0e19b1843b5537a15623a3c6b8fa90790f54f3dede7d7fbda3d319de3ab3,
  0x66aab69bb50a3dc448e95008b5ed739bcb9ca45b3a1fcada236dfe45fae0276f,
  0x8df2cf62cb619b018f2fad8a9be151562304c460b527fe5d56ed88a9ac56eec1,
  0xce85c002e5d5bcc627d6329f01688a12e9f89705efc4d428f3f4f1c88f08a14e,
  0x387745f241b7adc198681d61de979a4ff76039fc01cd63d40cdd59fb2cf2a24c,
  0x46bb55202d14b5d88ae9c372093f532d5bb13a29db14221aec607f5b50f1b75b,
  0xc5b94445133e78d5af13fe48927e93027cc38542be1e6e6252a355becefbf17e,
  0xb71b2e093a09035cd9e05893abe322fa436d07ae24288dffcd03cf5abbfefbc3,
  0x3607f495091bb1130ef8ecaa86e47fedc7098d321abc5cc0a36a53c5bb36056b,
  0x25f9e0809636b91fa772e3d3e5fdbef34317c1ba0b355f0dd3ed6b1973d4cf55,
  0x6af7d005fe7d42f41fcc59133cca999cc6b8a7a94f366cff0e9defb45063b74f,
  0xf4c82d39aaf2986d08f9714b5365e800514481cb5782f05c77b10cbd8b151f37,
  0xe1f4e2ea48060169abad9391e048df9cbea9939674b15403246f742bceaaf3ac,
  0xe9e7164b3d01e866044c13dd01f5881ab5afb619395d1ef845f8b5c0fea1a466,
  0x9dcb1930afa5f732f500ffb83daa704cd6ef04ffa3d66653007ba3453ce947c6,
  0x14e11fc2b0c4321120de4e08b676aaa804e85c1ba92401ea9c7e4896bd5722f0,
  0xb6e45b2a1469e3dde870d127513339cb0b2553ca194843aa11dbd37bcb8c0516,
  0x47db31a08d09eb4607b0fd3b93667c9e6d1a161d25ed236151740e616d5f48f5,
  0x127ee7c9428b3aaaa5f493e430ab8bfd529620de736546f4128c682199fd7d2d,
  0xb0fd8398fbce841bfd6f6a66763484c6bb2b729c9f3042ba0f8841b233478995,
  0xccc547fa3c98957da31212774c4471fb4c172a72a8d6f275f0b1a1fffd340982,
  0xc16b89cd241f6c0a74dfd9f3a0549431c716681148fd4672f6a39f0e54059da8,
  0x138a80dbb4c464621f941b73f4906a5e1c07d6e08887920a6043fc0f9406d7eb,
  0x8e1f9f405d91c9c63ddc6069de5ff9cff80246693ec1d4d5639292846f3f419e,
  0x59203b7350bcf496f8eaaa66cfda80f7f25e36446e357b9cad20dfa07f886c20,
  0xb1770b89bf78cccb8c8e73e7143a3ced8573b802fed3edcbd2c4fb08f8df1d9e,
  0x78bf45488af11e230d0882cfc36167605d4c2454957d75da33aa072905280fdc,
  0xb93ecb30c678f4b7decd1827dd6afe9f7204e2bdac43d6d6c25663a10bb47100,
  0xc5be82e8906fd8b0e9cae0c498d9d2bb0c0b39579169e839d13827159521ed39,
  0x54f08c23258980659e0e5e4ca868e5c316415c198168d483af6f4016f3c6bbc6,
  0xa7b3f4067e7cd4cd2e253f8eae7ad817e10b9de31d7d7f97134b8fd02f2f9b5a,
  0xcc9118d2756934b3f4a3b050ebdff8d54621859ad52fa1e0b70308d5f681104b,
  0x1466f6bc53606efa3d1dff624482675c6a27aff148f862beeb4bdc329f5c5aee,
  0x7638d916112c648cdf5d29ff6917cf9978d22643c9f53e862f491d6926ce6312,
  0xc3fcde6ca0d96b2c98f1cbbb406911fc402984d6b4d94b93d3b918416780a029,
  0x0c92496e271b7b20d83fc33ae23afaffa913597c6389196cb9f8a39c7e38c50c,
  0x5aa1185ff30b9e6d5e5ae07a2a2b50d872314b7007ce3b07e9829090e0e38d07,
  0x90795bf10e26294d8ee025abc9e7c2e2fb8999cdf29b5785260a45cb342fb71b,
  0xe7f11dfabbea638e62242e804dac1838f748933d3a5c3091320fd75446c3b4f3,
  0xdb4430e10c14256536d699f323c0ebd1a2623e3eea6ea3bb269199a9feb4fea4,
  0x33bf405d26d2c437b3327a27cf9632003fbca76ef8df100bd03030c33030c7cb,
  0x350bfca67adaec131aa6713edfd99ebd01f66ece9f9b35229e0827ae74ba6b92,
  0x00f4d2f5bba1f20570761ebafd85bba83e126899c987332e6b8324c46d149f04,
  0x5056f2feb00f48fdb18cdf7a8bcd393603fdfc84eb422b1d4e026cfe1e55360b,
  0x6f29bfbed178604db891d6a2e93063d1acd7652b4da33d4e9fba51f95233b515,
  0xe7c83b0035ecc65bfe5c9534f62d738019fddac0ef40500a4d9e60319e8f207b,
  0x498c5dfe3b4e9d75a431a6832e800fd08796a430db33b6e5e40d26671b5f36c4,
  0x9772d7918293d41eafc10c036ae5d47f0c112d99c0e655de1740d438079c0da3,
  0x874ad566f58dfde5c07841f26076735dc1540e8e15ef5bd7748bef2aca35160c,
  0x4caba04da111f6361e69de41ea7523253c340b0850440cb699f78f1ff1c53dce,
  0x41709aef4fad946b91a615c71ae4c96e567209e881ccec2e55444ccee58831a0,
  0xd8d205ab63ebd58a099ccee82e1e9b3763b7987402f49be3f1bf039721dce179,
  0x271563373ae7b882b4d2669695c7f82796a5668b51d0648c6beff88ca6c8fed6,
  0xef64da1a6c8cba5217a8047049b4246ef9f88574d98a53ed922feaf8bee48166,
  0x58f2d2beeb3628aace02faaccefd313e9a396247ed7548aad0f2ccbe3a203a0d,
  0x8926df63e0e81827a8a44e6921d9f618161364a18be14333e8a9c9872e35d980,
  0x399c2b6211741ab241d2706ea2580962c1829ffd7af60d8da8b3a19659c88567,
  0x4306789764525504a023ed61c865bbcec6b5ca39ce15e47c4a60d8c7b49c1443,
  0x98bb3427dbe4c8e0f23b5881dc89fb54f5bb7956f9b216e4b9e5a601f16ac55f,
  0x291c7d0b633b1cb86bc646409df3610c10886583f86900c50ce8bc40bb179824,
  0x1c3a3b18542f3129dda240762e2a1fd0926dd0dc9d6e4f2ac08ad8ca1350b8b7,
  0x18044e97ce4ebb535a431cb4c3b074a5e4293e0212b81e6fc35d82298712d245,
  0x7a6cbe50567614c43336ea3491cc490540a3231d3faf6714a2124325203a284a,
  0x048d1cfe5b3e687ca3c66b515596d64e47cb4642b7760e5f4d4877165db22360,
  0x9ce928916102508e468f6ce8a9a326c0db6199b9c9660cc34e5f8383cc6b1881,
  0x37a3f8dc2609ce3e09e59e0d0fd0d48e33c4c8341c180061d9f31bebe05dc3b5,
  0x1c4c4500ee98d09ff849f5f8e3d75a91b372b77d5aefbd40ff790a80f6418316,
  0x7ceb35a52f3c44d51db8c720291b8e62b40431ff5fbe95a3323df354d34463b2,
  0x37e0cd2c72cfc5a7eace440b4a81e6c34394253867659804cd513176624e6ca9,
  0xbb4213e3904165a7da37fdde357ba4ef4e562e556db6505112f4152dfc5291af,
  0xda3429ee8805c94b33722721ee40c4d7d7c3144c6c5d44fef63d910ba1ae3967,
  0x2e8e20fe0786af34e447da766e2ff368c7ad1c39ac5a85cdec4dec144335c02c,
  0xefe2ad2c08ec3b1eeb0abe20c2a02c6d9dc1d3d047e7187257f31272342aa5ff,
  0x9ee1ac6eef3e7db2258f4289995f28288520c778acd5d2e40060df32f0b24d3b,
  0x0398a5d33c5e862629faf3f8834086e69456458aeacb6b9f84478cf7bf399190,
  0x316de5652f26924d941c1bcc67dc8522c22a6b8055191effbad47e1eb8762ae8,
  0x2c3321f01c6b7b924eb2511f6312e4d791957a51404759b57628a461c77cd9de,
  0x6b4a78a1f6b1b184d84d0b4c439db4d5738f5884ac735fcc7a5f09d0507d6e12,
  0x27ee8c5a390d5078f4ac1efa03aa96e735416775e30d226c6fd460d7e83d97a0,
  0x5ce4c1ab95136b7d66fc9b6014a82c7b96338eed465c01e28217226c0bab74a0,
  0xc331521c821a8dc7be156c743241e8f9de3bdc74fe8bbed28deecafe7921c13d,
  0xfd1f06db4c9270ceaa1a0aa02e71eb91b2001d31c9334e635e6b731c37b790b5,
  0x52c21406bcbb907286849720cd4403a1ddf18524ba3725a67fea24a8c1e68063,
  0x610b39233e66505a6baa71f254592f01110eff9997c50c1ec1ab82afe86ce1d7,
  0x26af100196f115f4d263251070791979d1cda4c2bcd58a4aa0d44bacfffe7478,
  0xf38ae32e7d3cda43904cb8c8efb58d5b6a28797f1b681827082409375d16fed7,
  0x7dc73fbc73053063e9a5ccdcf0612c0b4247ef3a61fdd712a838d5719b5851d7,
  0xda26b7e30594c3b1c089e591398e0e0ac7461d257013eab52bca330225c87cc6,
  0xce22a1e3f7f6ebaecea338a87141e0357c2126aa45a8212c397f2f83dc37021e,
  0xbc95b8c50f45892fe251da9ee74d75379f39473d60ac5fda20f258aed7877e2d,
  0x0ea3bbd2ef7084a92d01154629305b6911caae9dcda9fe8cd3b88823ebbe6ec4,
  0xf25e8956448c9ed9c0a176efc5e9f8bc94299ac6cb9b244b3a829c3cbe9bf691,
  0xd74ade60c9b63b8541d499b248574a6ae98bbbaaf065747326db289b94943bcb,
  0xf6d727675adc9973a49d67ea7a280aa4052aa9c4297bb02fcb5606c1fc05588c,
  0xdd7acd614185de3e87e5eeec954e0c0a8e2e8cd2db17c3610e6f8a30589e6561,
  0xa53d2659bf277abc09ee9ddb949a7a54f407de4dcbad6dfb6d485de2959c5041,
  0xb03a9db09cc0c9cdb97a8469df72d19bb2ce08f54629ffa07b32311d41e8c799,
  0xe20672e821f2e13415c72b92d3f85529214c1afe3c4129999b34043e69fae1f0,
  0x3d5a2f690173e3ff570df8929a9f7e27237b8b08f6f8fc71cfee06540a05e42e,
  0xafb18637c815e385be9596ef5d62f361eb2b4ecb407b12adc451794320b24137,
  0xa97794e5735c24dc53b07a075aef1fe5a8ea3b598b3a10a623e735238df7f940,
  0x7948ee69265858dac4c132dfd53e379489b5910e323a85409b32b6116ef18b9a,
  0xb33c8c4580d916d2ce9b07c8f15bea9a44defadba84c94f96a5da6448b44e474,
  0x972acfda7fa2e3ac690db792a8406432105037a5b812efd9cc2725f9b4c9fa83,
  0xf667148907751f618ffe8755f48dbd5c15291f9517cce076d66707035487ca81,
  0x19baffb60ba52ae81353403e43625bc5e2e8e2ce8977f5a2e4bc4fe24ca7b33d,
  0x4c49ec1dcc4dcd0396cf38afef042286b10ae8f1afee55aed2e33b0606600d03,
  0xe3e11b0070527e21a7f47125c5262b95ae3a7b24b7f3df27d01eb941ebd5bff1,
  0x1feb704463c99c35e781eda0169b41e2ece722a0dc04243ee207ddd641dfbf87,
  0x060bd871a5ac7d26ccde5b8bc8040bcb8b046a50ebd3fba49f4812bd5affa685,
  0xe77decaaa80bf5e1cb1667ca0d0c6f8350267c19771c53ab0549a799df04c8f6,
  0xd015fdd14430a4d2294c8a49662aa4a6a7c0547f0ab1cd0fc64829a7fe172787,
  0x32578f17e9590f27ba52094f6fda4658dd88b8e86d50d017694c9a6b965f15ee,
  0x6971c3d9f37448f3aa7757657088e1830434344976f597ee229e621a2122abef,
  0x92fd5aaf2eaa36dd8a620671eb7ef9ecb50b43ad55ab52028b5c7d49053f73f6,
  0xd014305af141194b4b226713e20e6fad84ada330b8c43834c863a5c0d3f5b40b,
  0xd0ca924c9634775b2ad82f3e6b8681907baafce7e0b79ce3063101ce9d1d73ef,
  0x22dba0d30f64a9ad9ca5f29f8d559f59244aa85e94c27fd997ca6ebf32c55b32,
  0x4821c7abb147910364f6ca099d1e4f1ec99ec0adf7d063302e61d71581fea417,
  0x51001a9ad13d84521a88ec533f34312f87a2a3a35e1fd04826ced44883e588bb,
  0x99f07d23080ad1c3be4c0d0b08f3ee414fb62000547bc7dd4a14897cb6ce4174,
  0x2004ab59e131bafcf9ad00a0836a74d14695e0a32410682d57545b9d130f562d,
  0x9666c967dc9a4e629b9c5d367fc14ee16a022002c2b2ac594d51f8bb72a36bb5,
  0x6db78d779553ce37783069433a56aad680fdb00908838e84e4cb882a39257916,
  0xe9e9e3127feacc07a384c42533652c3831b88f83b66afcb9f67ea6b9b7c8f839,
  0x611ad52395f43d4083ee998f038878e6f09a5789d1731ba1b41414343854d3f9,
  0xb73eabeb99e97f75698976a1510a14ddb39f9c27896f19935ac87f8b439349ac,
  0x8682f2d3c256b7d03c77edffa21fb995df9aff412dabb5d3d0dc7fc590e49f94,
  0xabbb6a3dff4a81d4544a64485aa1073d11169a8f995318c811abd1595aa83d47,
  0x298331a6c3b221168644734b0ac5616f72e0aa00b876a9a88b13348892ec33a4,
  0x5fe2f408853b73466844724846c6c07569d9177b9d5c474c83db367ab6313173,
  0x509ec37d2b491af3c0e75ac12e4a8fdcc3e1c206206f623f8c1d4050010a6de5,
  0x64a84bdb47819d48d953b048d1d7f6bfb90991e40dfc7bb6e3fd7afa13005b68,
  0xd523f6a24aed868baae7d58063dcd7ac06bcb1e682b9569922a501cfa2fb46f2,
  0xd530d759eb5125b8cbbe4884a741c8cf3ccfb135d6d68091deb4c90ad549b323,
  0x8db3b17cc1e8c0e32121ed9b6830666dc8eabe0b08127a859dd2bb9a0d38a0ed,
  0xcb4efb66f3dafa236657ce2fef782ffc4be406f39515a0d671d20cf3077e0f9a,
  0xb09e4e5011b7221e2f3278c3c4441977c48d3a30ecc26f0de41182fd9765a236,
  0x88e32e093faca5023a5e3265d965ebee4be569c84a1e935c7446368e59e3818d,
  0xbabee595481fefdc0d4028df5e181df29396a4626117513db17518e1d64d13b7,
  0x78e709e4997e10039d7ab54c42194d96733d92852bfef0bd692858e70497ed87,
  0x1676db0d727cb180f6fbb14dad9b79f8e9502cd956cd1f7e5597ac9d8a188a4f,
  0x903d2769dffb67406919b35a225f4df619f8eb8b937ea8e8dd3e0cec3714c285,
  0xff99d08c875cb4bfcda8ba6e28d98a2218fcf09a69f1f427a028772b9ac3b4e3,
  0x3ee8232e26510ddf35c184be2c827419c8f1f59e4cd785658a6c092294d5e110,
  0x2e8698366576f2670bfcdf5fdeedfeb52720ad8a012820f1e7329a9a2bc163b7,
  0x75a5d6cfc20ee7db61bf5052d0c6cb60f3ccb84c5a2460f1604b91cefb23aa9e,
  0xaaffd4aee11a9df47e7551e5876d442dbbd592671d58b35b7e768f52e1dba2a1,
  0xbbfd9c72b892e2da4873b26d7d6e983ed88fd8462bdde6dbd7e81ff219bc484c,
  0x9ea06a7887926ba6fcd2b1e1b819f862179163b573aea677c00be1bdcb9954c7,
  0x7fb968f0391c77b5c1bc51bc4adb73e4e03b13ae05ea0f9f3dc738b77515d672,
  0xad8056cbaaa2ccaba9b18af58840bc7de3d49c70263ec8bba83550db4bd608a9,
  0x9eb9bf851daf20c9d10de79ead52bf0a5d1174db3aeb841759c73f0d9eb08680,
  0x16e4c34d9330069eafdd657ddc6f501c6da3fa58ba5240983344c15946141763,
  0x946d961eb41877fece9baa6845e4ccd24285a729fc97205f56b70d7001dd1d22,
  0x83387f5cc7599c6b206da449e2238700b94586bb1a06d387fbef6e579def6877,
  0x8fa22869cc471b3b824d3e45a9019f73133eda328b22ca9fce5cd1114bf91dd2,
  0xf0eae3c8602eb0e77c17f5800a81c613dba0c1f72fd8aecab673f134d85a0bad,
  0x2346d1a764d8ad42d83bd404225d3c01bb64568e04e0d13b92b7ac6f064b5d00,
  0x638273a400a1da78e53f1c98c43a7b01afb05fb15d6ea59edcfc1056fcb60c9b,
  0x9e8d4d28bbebf992105fecdc882829eac337703f60ff62392554c654659f5370,
  0x14a605584003c7dd583432d2ab37998bdae2c3ecea8021717c19dcec579ac05d,
  0x2552a81e619d26233e1837351d11495e6d9727095ae078e0f07ccb79aaff7d74,
  0x2b65e158c2d5d1b5f53ef8777a9004e8dd45179e02c381d4b46fd4ff4c6e9849,
  0x3a634c5d8a8c9f63745b1b5591176b32d8b5982627499955f4b2fbd24ec961f0,
  0x63fd2af2a216aa33db69425d45640e1eb374f8dbe2649eea493ab763c029b9de,
  0x57207f0b6e856fed595f0b8f3bf90ebe5d7200d081faae64a8301c32a113a62e,
  0xa896a852677584277529c883e70e3d3b06c243562c6589d128d5cd15568283a9,
  0x30aec96e546d7c0b962658253602b7fcbc9e98b76096da041c86ddf67a39d33f,
  0x4653a0e0647b11f953448e88b27b8f235c060f5ca849b9bae94bea01af658cd6,
  0x1c8d2058ea1ad0a9a6a0e46334149eadf133ed5a3764f7917a4d2ce763442fff,
  0xfa5a69fffe1ab9b15a4bad267d01a29556e3ee8b530a0261aa8ad83e6df7948c,
  0xea71e9d0b8c12c47b1a4ec90c277b3fcfe525db7b71f3aa1aac15ff51eb47541,
  0x049df97ef65fd59064a08fc1c415da6ab6974c3db48ecd97839f6125f54cca19,
  0xa8113b13d6482ff35a4e5e9d4040680e0fd4b3cd37c0fd398c129f6709f0e006,
  0x64a4fdc9a6a98f5ca38bb5da3d1172ef2c41d2b8c209ad9dbba09a2d53d95e58,
  0x5990c795db1071c79f322752d88b4b558e538a1a11ecd01d627914fcdffad041,
  0x5039536d0f4d2369bc6d0490d370d8d00fbaa7401f282fbe1afef244be1ca574,
  0x78b82e6469a43603a1f82db8464e08632e221cda04efe3ea80091a13a8eae5c6,
  0x5a569fc8f21c9b8a00a6ca2f4b7a3df362de36224dd969639cf3da72a0c8be29,
  0xdc81302dc03c2a9dd46b6d763bc531a161a37b50d324017d091c68986dcbef74,
  0x9327e6de57741dd0cec3ee9bab51efe4d079135a50e32e60937030edba59d2f3,
  0xda6a0531183b142d75f746aec46fd5d825ca3860ae79293ec857a4546bff1a5d,
  0x4225af6a7a9fcb7c8bdf36ef82807297021316cc8e2344c00b0f956ad7987ba7,
  0x27cbddcb85b615e60f3481e73b01762ebc3fed3e852d729e012bb9cf764749a7,
  0xef9802947ac51e0da8bbf3b1b98e700846e11bb52ddc6e668d04622bf3a85b76,
  0xf0c266743144037907fb5768365ea8904fcb12ee8bfad89238233a12edbd9e95,
  0x2d095e52d9ccf428f26c113cf70ac4cef945eb3e76499f45caefc7a4261dfd6a,
  0x5c27948033aac20c82efc39a8d2e6c90fc67cc91b1eef7604b6e553070e6f96f,
  0x2a42e5e95c72d4caf624989288a61ba2cdde0acb98bbeb0fe2feb072e402c35b,
  0x2ce77a8bb4a4f3a7f003a47dcc11cabafdb2cbf6043aaba4a43c38d273e2d2fc,
  0x18a593c7d0f16b0a9a4f2edf6a6fff37809cd7d0dcc8fcac9eaf7075010749a9,
  0xa3538755118595396175b43dd6915c9d9aa8eae284e531a6e7fe0ee7d826291b,
  0xfbecdefd888b4333a81c47dc31cb16dccd4a30efdcdfd68964f0b0baee766992,
  0xecf4631ee19b7ca4edf2f1e9a83cc9174e30d9580ca6c9a11857939fc7b7b8ff,
  0x7576c1dc36f3c32130769d76eb5eef4002b0b0c54779986ac4df5dd5bbfb3a96,
  0x02006a449d6b42ec2c2859f817d1da11a39b60e2ec185a1ee042b7c95b02039f,
  0x0ad4d19a8142312a3b3454decf4d08b3954cc512b8d8a47c35fa1e53284aaf6f,
  0xd403142267fe1d6b3d46e197c20b02c76cc99c33a7cc9b9d35ab3a6da29d11ec,
  0xbfa110e6c34272584961fd7b57642f3da1b23ecd0b3c5ce7991f68731d43b36f,
  0x8835b89e45e4c5907098250f8651a2cb0548c87ba473a79c86e1174ed080003b,
  0xf79eb9d4f5f2da3ad6055860cbf8fedda17040c4671746a521411b935ffd21d9,
  0xbc73c98fde0386151951f003513f14445d80011c6e1bfc8aaba53658f50c49b8,
  0x9175fe2f5f96f11e5a1a6c3ba868ed6281a5bbcd58e0ac50e9487f5edf1eee34,
  0x825aafc5db8a042d33d5c35a98a57e2d862f95c189d77d88e5d16df6e8f6ea8a,
  0xc4b6f5316f93d7b11c5e157f5f741b33bbaf961cc5a0ccf90cb306d6758bd44e,
  0xa5ed9e8330f182d113d6cf5cabf1e61eaf8fcc7524bed9f9de90ffc4180f5f1a,
  0x9e6e2489957305d3596a4da841298c8b2d8d073690e89fc3b73567a4fc6814ca,
  0x65e861ce954b3c71c35adcbebdf3961824ec6148d056b2c3efeb68d4530fd6a1,
  0x9ad316f7b9eefdb638fe64158b772e54da0b7babab8e8c5abbaa03dcc36d2145,
  0xd08c4f1d0b3d9d994a1e0875041f859b7d0f2a428be745065cedea4196828a0a,
  0x807803762e6f9b6c3260923613634564b88ec2759e88d1653ba2f5ba95d02aca,
  0x95705cebd16e84d01f8231a19446b35efe9e43e6c55e9bd57ec3440a2c335f88,
  0xc6cc2cbf155941a88c7d5b601e15c12227b1be3b66ae092d727a99f0815c15a6,
  0x87e8faa841871865e06519756bbd0304a7b70843b67e996e202526a75eb5d117,
  0x4e9639d52cf478c94bb779efe1aa2fb9ac564e579cbcac6c69275c71ff56f5e4,
  0xf249bdc38ade62ad65eb84aea2d2cfaaec44951f1ab2191a6c3e1c9f71162ac5,
  0x2d81e40a4c93826b8856ac57f973e515fc397944a81461474adbcee6ac86e625,
  0x60a63af563ec4d24f3a663b99c0cbb1701a7ad5a18a72401629692c83eadc886,
  0xaec817ba2b5f0d64c8baea25e8ceaa437d3fad8bc99bb9d07b89a5618ff26856,
  0xf9f9a884a94f673fe1bdabf13b6c770e96361f98cbb490b389226c9d42710065,
  0xcde5562a9e0d49b2c3502318b5402f5147c549e03684064e0bb070ea366ebcfa,
  0xe1c0fc0f201aef28637f39a41fb47d5a2478c14f9f69414b5c29078e602819b0,
  0xf4f0d88c9cbe0f2652f0a4e2f54b3724cb96406c925122066df55428cf9a8d3e,
  0x54c1839267eb0b6e013de7e5cb058891f31c5103e58bc4bcec12b35aabd5e089,
  0x313f8fac3307f6287acd1803bd9bf257cadba713f6de66aa1935e933f703e853,
  0x880f49e53d218a33299585929627176f0573fe58d1898da328ad0e7d1ec3c13d,
  0xb2ec1f5dff8388de03ae71429c8811ef7afc8fbc255f244b2d74b4213b7b1d39,
  0xf417b28fac8216505139266c7055e173585db0b57b15a88ceae4617bca80d2d8,
  0xe22a5ffd9ebdfdae42ea178e7ca0f2f3de9c913c5633dd62c6dcc6ef8375fb9d,
  0xe08e623c9fe74881baf9871f170a6e568745f96bd27ff2822a9460c6764a38ab,
  0x1c8696d0922252437779ebe66c1401397661d5683b16b70f7347e3465421e21a,
  0x144dc14ac46bd0a586e69f2c8f46cfea90045169f620d7fb1e91cfe23ea1932c,
  0x4fd73421b81ce12fb617979cd4fafc7dda45f86c9333196cbed47b5adc5409f8,
  0x59ab59f04e020eb24893e1b2001ed14d8a5f438f3b4e41b4210e0c3bf81d8665,
  0xef8f484cfc5b8775c810623187ca672d0cf5849c4d379af8d15f0afed1dceb2e,
  0x64920a38e143e6bf8b9bea5f5bca277b4b4fa1937cc322a00d06dbefb4fb066a,
  0xb7a1161f6ad0cfe1e67cb25091589ef3a44022df6d374d034b7bf2cda37950b4,
  0x522e189982965e3f748fa50c89ddf6b3c5c259913940ab1dcd4e536507053c29,
  0x7e84f47bf29d0afae10cdf5731a28d1d96d51463eafcbb8d4a1c8914fb54bd5b,
  0xeb827463e1c18b5dd7bee52d2d1ed5f00ce2354ed85f74a27947e54ebddbba5b,
  0xfb61b6a67a85f9c3a8d512be05ebd0dd5af6103a45eee73d43376fe6940e6f34,
  0x49f0bbe0ba9c91303d363df43ac59febe8c76c9cb1375d4c37afacac545acfd8,
  0x899da3dc1488aec4f107e6121ce54710b560d38961b7151501b46b4e51cf23dd,
  0x612915cb4612d4491a1ab0657eda1cea8cb212cc4d7691da44507f606605315b,
  0x75504cdc35a83f22b6a7afd0e72ccea2c5a0639d0d6d9a230a97ac765f9b0e21,
  0x8dc6f010a1808180857ceab5194e143a2031fedc0f080fa10f596f721c031d9e,
  0x7cd57084a166c9cfbb51e2c3b0cff5c186caf2081fa258979f003e46d83643b4,
  0x3023f79f3230f8ebd84f9e48b6769ebf86b31c77cd688341874bcfd25980ea06,
  0x1d4377fc1281e336c4b9fa71c4c56ce3727c52dd264e798c7a52851d49ced5e1,
  0xa8a8e3416af0103350895fd402011ef9b61c4fefe7d0fa838fd77887f4cb4def,
  0x43c0c92025d8c588bfc51d9c997827869130a6b822a632d9db883999d0dea8e4,
  0xb9130413728408edd15fe3a8b9a2de02a9e884b6a433fe32bde7d5f66c9970df,
  0x7e3c025a63b3c2fd09a83798c5798a6dcd71d6c571a2c2e5e3b779cb99c62066,
  0xbea47de196fd7e3de623e88f4347b3cc3e4e03158e53609986d95d5bb9758700,
  0x0c6432b64bf4eaf898922f0acb1d75cb4d28083047b31cfc1e828ec069a7957d,
  0x2e2e615c6f5cc8775939cbaf41479d161f0c99973fcc67e7709c54a236f5ab52,
  0x3302b77e66808ec4d47e325883740965eadb520e1fc2a340d78187fb200e1387,
  0x12da2b7223d5f1f87297bfaf9cdf8b9a96f43386ef8a0b4a4fbe6ebb62d334ad,
  0xef8d8df661b321d5ed8d3e7899df5040aa8b6150a6c5f86439d98ca804734743,
  0x25407bdb7a91a023417e035507937b131ae296bc89703d1dd9089efeb555ab98,
  0x7398b90a88fa8d3cbc13b17fa2102ba6b5faa9d184670e3955f7b7f1de44380f,
  0x2224cbcd7bd0455a890df966cf9d48e70fac171f81e8cf61a9c42ce6f28b68ad,
  0xa7e1f05f85907ae6a08308c338320c3b28e14fe78b7c00e185edc32b79e0a97b,
  0x0a12ce28fdc3f725ace29d35e847a120fd80120b42633ed4e001a0604cafacd7,
  0x7a531c6ff5867b1c38bb7d00e039a18480d841996ca3067f0b6b7a7de3f570c6,
  0x687c470d407f5994ce20d7326424840dc322e0cc33bdfb81e07218975ea4466c,
  0x238ff49bbfadc131b9bc72b8fa16614a142a37b5064a797f6f8a429ad3c04542,
  0xc43368b68cf29d300686deb32008fbc155048f3b7245f05bcb592ececf2f10bd,
  0x3915fd646226ccb3ba7606df45a7e692404bf54e6541a5c589bd51860efecbc7,
  0xa44bc301d39217f2a0a5de0af401884e7a531f3d2933f16befdac578925ad87d,
  0xae3f9d105f4beb2cc3c065d66c97b17f153e13a5f4b52e616beb05701ea7fa4a,
  0xe1126bda6c07fe533ee21c9d22752e14caf29a95076ff4c7d0ccdfa1e1167685,
  0xcc9e66c807e22f877392c15a18d6d4b925251c80c0c8a195535ed6a1f30af525,
  0x7ea583c0aa3a9ad8ee0a9fabbd7db3a044b32810d31364390184bd300309d66a]
def CN1:List Nat:=[245,180,198,116,30,115,173,176,53,27,235,124,248,169,218,104,159,46,255,85,186,107,52,22,51,189,219,16,181,232,203,101]
def lfN1:List Nat:=[239,204,167,253,178,129,167,117,40,194,112,189,100,165,50,193,12,146,164,134,161,100,249,116,40,207,142,14,195,196,75,28]
theorem lf_ok1:lfK 1 nmN sdN YL1 CN1 lfN1=true:=by decide +kernel
open Go.RowKit
def tpN:List Nat:=[136,71,146,251,140,132,217,130,50,85,4,69,116,186,238,19,61,33,236,208,114,83,224,112,154,72,31,96,181,238,200,190]
theorem tp_ok:tpK nmN lfN0 lfN1 tpN=true:=by decide +kernel
def nmJ (j:Nat):List Nat:=nmN.set j (nmN.getD j 0 + 1)
noncomputable def batJ (q j:Nat):Bool:=batK 256 q nmN (nmJ j) (if q=0 then CN0 else CN1) (if q=0 then [] else lfN0) (if q=0 then lfN1 else []) (if q=0 then YL0 else YL1) 136 71 146 251
open Go.RowKit
theorem sgnT_parts (nm seed msg:List UInt8) {q:Nat} (hq:q < 2):val (sgnT nm seed q msg) 4=q∧((sgnT nm seed q msg).drop 4).take 4292=sgnO nm q seed msg∧(sgnT nm seed q msg).drop 4300=leafT nm seed (1 - q)∧((sgnT nm seed q msg).drop 4).take 4=[0,0,0,2]∧(sgnT nm seed q msg).length=4332∧val ((sgnT nm seed q msg).drop 4296) 4=1:=by
  have hN:∀ n:Int,(numB n 4).length=4:=fun n=>numB_length _ _
  have hl:∀ i,(leafT nm seed i).length=32:=fun i=>nodH_length _ _ _ _
  have hs:=sgnO_length nm q seed msg
  have s0:sgnT nm seed q msg=numB q 4++(sgnO nm q seed msg++(numB 1 4++leafT nm seed (1 - q))):=by unfold sgnT; simp only [List.append_assoc]
  have d4:(sgnT nm seed q msg).drop 4=sgnO nm q seed msg++(numB 1 4++leafT nm seed (1 - q)):=by rw [s0]; exact List.drop_left (l₁:=numB (q:Int) 4)
  have g3:(sgnT nm seed q msg).drop 4296=numB 1 4++leafT nm seed (1 - q):=by rw [show 4296=4 + 4292 from rfl,← List.drop_drop,d4,← hs,List.drop_left]
  refine ⟨by rw [s0,val_app (hN q),val_two hq],by rw [d4,← hs,List.take_left],?_,by rw [d4,List.take_append_of_le_length (by omega),sgnO_front],?_,by rw [g3,val_app (hN 1)]; rfl⟩
  · rw [show 4300=4296 + 4 from rfl,← List.drop_drop,g3]; exact List.drop_left (l₁:=numB (1:Int) 4)
  · unfold sgnT; simp only [List.length_append,hN,hs,hl]
theorem climb_one (nm:List UInt8) (r:Nat) (t p:List UInt8):climb nm 1 r t p=nodH nm ((r / 2:Nat):Int) 131 (if r % 2=1 then p.take 32++t else t++p.take 32):=rfl
theorem root_other {nm nm' seed pub:List UInt8} {q t:Nat} {YL:List Nat} {msg:List UInt8} (hq:q < 2) (hmsg:msg=msgT q t) (h1:val pub 4=1) (h3:(pub.drop 8).take 16=nm') (hY:∀ i,i < 133→YOk nm seed (q:Int) YL i) :
    rootT pub msg (sgnT nm seed q msg)=trnR nm nm' (rndO nm (q:Int) seed) (if q=0 then [] else leafT nm seed 0) (if q=0 then leafT nm seed 1 else []) q YL t:=by
  obtain ⟨g1,g2,g5,_,_,_⟩:=sgnT_parts nm seed msg hq
  have hl:∀ i,(leafT nm seed i).take 32=leafT nm seed i:=fun i=>List.take_of_length_le (by unfold leafT; rw [nodH_length]; exact Nat.le_refl _)
  have hb:bckO nm' (q:Int) msg (sgnO nm (q:Int) seed msg)=endsC nm' (q:Int) (yA nm' (q:Int) YL (fun j=>digA nm (q:Int) (rndO nm (q:Int) seed) msg j) (fun j=>digA nm' (q:Int) (rndO nm (q:Int) seed) msg j)):=by
    unfold bckO
    refine endsC_congr fun i hi=>?_
    unfold bckY yA
    rw [sgnO_c,sgnO_z nm q seed msg hi,hY i hi _ (digA_lt _ _ _ _ _)]
  unfold rootT
  rw [h1,h3,g1,g2,g5,hb,climb_one,hl]
  unfold trnR
  rw [← hmsg]
  obtain rfl | rfl:q=0∨q=1:=by omega
  · rw [if_neg (by decide),if_pos rfl,if_pos rfl,List.nil_append]
    rfl
  · rw [if_pos (by decide),if_neg (by decide),if_neg (by decide),List.append_nil]
    rfl
theorem nm_eq:toB nmN=nameL 1:=by decide +kernel
theorem sd_eq:toB sdN=seedL 1:=by decide +kernel
def nodT (x:UInt8):List UInt8:=zeroId.set 9 x
theorem nodT_length (x:UInt8):(nodT x).length=32:=rfl
theorem claim_msg {q:Nat} (hq:q < 2) (x:UInt8):claimL ((q:Int) + 1) (nodT x)=toB (msgF q)++(x::toB zer22):=by
  unfold claimL nodT
  have e:zeroId.set 9 x=[0,0,0,0,0,0,0,0,0]++(x::toB zer22):=rfl
  have e2:∀ q < 2,latB++numB (((q:Nat):Int) + 1) 4++[0,0,0,0,0,0,0,0,0]=toB (msgF q):=by decide +kernel
  rw [e,← List.append_assoc,e2 q hq]
theorem claim_msgT {q:Nat} (hq:q < 2) (x:UInt8):claimL ((q:Int) + 1) (nodT x)=msgT q x.toNat:=by
  rw [claim_msg hq]
  unfold msgT
  rw [UInt8.ofNat_toNat]
theorem facts0:(∀ i,i < 133→YOk (nameL 1) (seedL 1) 0 YL0 i)∧rndO (nameL 1) 0 (seedL 1)=toB CN0∧leafT (nameL 1) (seedL 1) 0=toB lfN0:=by
  have:=lfK_spec (q:=0) (by decide) (by decide) rfl (by decide) rfl (by decide +kernel) rfl rfl lf_ok0
  rw [nm_eq,sd_eq] at this
  exact this
theorem facts1:(∀ i,i < 133→YOk (nameL 1) (seedL 1) 1 YL1 i)∧rndO (nameL 1) 1 (seedL 1)=toB CN1∧leafT (nameL 1) (seedL 1) 1=toB lfN1:=by
  have:=lfK_spec (q:=1) (by decide) (by decide) rfl (by decide) rfl (by decide +kernel) rfl rfl lf_ok1
  rw [nm_eq,sd_eq] at this
  exact this
theorem top_eq:topT (nameL 1) (seedL 1)=toB tpN:=by
  have:=tpK_spec (seed:=seedL 1) (by decide) rfl (by decide) rfl (by decide) rfl rfl (by rw [nm_eq]; exact facts0.2.2) (by rw [nm_eq]; exact facts1.2.2) tp_ok
  rw [nm_eq] at this
  exact this
def NoneRight:Prop:=∀ q:Nat,q < 2→∀ j:Nat,j < 16→∀ t:Nat,t < 256→(trnR (nameL 1) ((nameL 1).set j (at0 (nameL 1) j + 1)) (rndO (nameL 1) (q:Int) (seedL 1)) (if q=0 then [] else leafT (nameL 1) (seedL 1) 0) (if q=0 then leafT (nameL 1) (seedL 1) 1 else []) q (if q=0 then YL0 else YL1) t).take 4≠(topT (nameL 1) (seedL 1)).take 4
section
variable {q:Nat} (hq:q < 2) (x:UInt8)
abbrev msgX (q:Nat) (x:UInt8):List UInt8:=claimL ((q:Int) + 1) (nodT x)
abbrev sigX (q:Nat) (x:UInt8):List UInt8:=sigL 1 q ((q:Int) + 1) (nodT x)
theorem pub_parts:∃ f:List UInt8,f.length=8∧pubL 1=f++(nameL 1++topT (nameL 1) (seedL 1))∧f=[0,0,0,1,0,0,0,2]:=⟨numB 1 4++numB 2 4,rfl,by unfold pubL pubT; simp only [List.append_assoc],by decide +kernel⟩
theorem chk_ne {pub msg sig:List UInt8} (h:checkT pub msg sig=0):¬ badPub pub∧¬ badSig (val pub 4) sig∧rootT pub msg sig=pub.drop 24:=by
  unfold checkT at h
  split at h
  · cases h
  · rename_i h1
    split at h
    · cases h
    · rename_i h2
      split at h
      · cases h
      · split at h
        · rename_i h4; exact ⟨h1,h2,h4⟩
        · cases h
include hq
theorem name_refused (hN:NoneRight) {j:Nat} (hj:j < 16) {c:UInt8} (hc:c=at0 (pubL 1) (8 + j) + 1):checkT ((pubL 1).set (8 + j) c) (msgX q x) (sigX q x)≠0:=fun h0=>by
  obtain ⟨f,hf,hp,hfe⟩:=pub_parts
  have hnl:=nameL_length 1
  obtain ⟨_,_,hr⟩:=chk_ne h0
  have e1:(pubL 1).set (8 + j) c=f++((nameL 1).set j c++topT (nameL 1) (seedL 1)):=by
    rw [hp,List.set_append_right _ _ (by omega),hf,show 8 + j - 8=j by omega,List.set_append_left _ _ (by omega)]
  have hc2:c=at0 (nameL 1) j + 1:=by
    rw [hc,hp]
    congr 1
    unfold at0
    rw [List.getD_eq_getElem?_getD,List.getElem?_append_right (by omega),hf,show 8 + j - 8=j by omega,List.getElem?_append_left (by omega),List.getD_eq_getElem?_getD]
  have d8:((pubL 1).set (8 + j) c).drop 8=(nameL 1).set j c++topT (nameL 1) (seedL 1):=by rw [e1,← hf,List.drop_left]
  have h3:(((pubL 1).set (8 + j) c).drop 8).take 16=(nameL 1).set j c:=by rw [d8,List.take_left' (by rw [List.length_set,hnl])]
  have h4:((pubL 1).set (8 + j) c).drop 24=topT (nameL 1) (seedL 1):=by rw [show 24=8 + 16 from rfl,← List.drop_drop,d8,List.drop_left' (by rw [List.length_set,hnl])]
  have h1:val ((pubL 1).set (8 + j) c) 4=1:=by
    rw [e1,← val_take (f++_) 4 4 (Nat.le_refl _),List.take_append_of_le_length (by omega),hfe]
    rfl
  have hY:∀ i,i < 133→YOk (nameL 1) (seedL 1) (q:Int) (if q=0 then YL0 else YL1) i:=by
    obtain rfl | rfl:q=0∨q=1:=by omega
    · exact facts0.1
    · exact facts1.1
  have hro:=root_other (nm:=nameL 1) (seed:=seedL 1) (t:=x.toNat) (YL:=if q=0 then YL0 else YL1) hq (claim_msgT hq x) h1 h3 hY
  rw [h4] at hr
  have hlt:x.toNat < 256:=x.toNat_lt
  refine hN q hq j hj x.toNat hlt ?_
  rw [← hc2,← hro,← hr]
  rfl
theorem top_refused {j:Nat} (hj:j < 32) {c:UInt8} (hc:c=at0 (pubL 1) (24 + j) + 1):checkT ((pubL 1).set (24 + j) c) (msgX q x) (sigX q x)≠0:=fun h0=>by
  obtain ⟨f,hf,hp,hfe⟩:=pub_parts
  have hnl:=nameL_length 1
  have htl:(topT (nameL 1) (seedL 1)).length=32:=topT_length _ _
  obtain ⟨_,_,hr⟩:=chk_ne h0
  obtain ⟨_,_,hr2⟩:=chk_ne (show checkT (pubL 1) (msgX q x) (sigX q x)=0 from checkT_sgn (nameL_length 1) hq)
  have e1:(pubL 1).set (24 + j) c=f++(nameL 1++(topT (nameL 1) (seedL 1)).set j c):=by
    rw [hp,List.set_append_right _ _ (by omega),hf,List.set_append_right _ _ (by omega),hnl,show 24 + j - 8 - 16=j by omega]
  have d8:((pubL 1).set (24 + j) c).drop 8=nameL 1++(topT (nameL 1) (seedL 1)).set j c:=by rw [e1,← hf,List.drop_left]
  have d8':(pubL 1).drop 8=nameL 1++topT (nameL 1) (seedL 1):=by rw [hp,← hf,List.drop_left]
  have v1:val ((pubL 1).set (24 + j) c) 4=val (pubL 1) 4:=by
    rw [← val_take _ 4 4 (Nat.le_refl _),List.take_set_of_le (by omega),val_take _ 4 4 (Nat.le_refl _)]
  have t1:(((pubL 1).set (24 + j) c).drop 8).take 16=((pubL 1).drop 8).take 16:=by rw [d8,d8',List.take_left' hnl,List.take_left' hnl]
  have hro:rootT ((pubL 1).set (24 + j) c) (msgX q x) (sigX q x)=rootT (pubL 1) (msgX q x) (sigX q x):=by
    unfold rootT
    rw [v1,t1]
  have k4:((pubL 1).set (24 + j) c).drop 24=(topT (nameL 1) (seedL 1)).set j c:=by rw [show 24=8 + 16 from rfl,← List.drop_drop,d8,List.drop_left' hnl]
  have k4':(pubL 1).drop 24=topT (nameL 1) (seedL 1):=by rw [show 24=8 + 16 from rfl,← List.drop_drop,d8',List.drop_left' hnl]
  rw [hro,hr2,k4,k4'] at hr
  have hcj:c=at0 (topT (nameL 1) (seedL 1)) j + 1:=by
    rw [hc,hp]
    congr 1
    unfold at0
    rw [List.getD_eq_getElem?_getD,List.getElem?_append_right (by omega),hf,List.getElem?_append_right (by omega),hnl,show 24 + j - 8 - 16=j by omega,List.getD_eq_getElem?_getD]
  have h9:at0 (topT (nameL 1) (seedL 1)) j=at0 ((topT (nameL 1) (seedL 1)).set j c) j:=congrArg (fun l:List UInt8=>at0 l j) hr
  have h10:at0 ((topT (nameL 1) (seedL 1)).set j c) j=c:=by simp [at0,htl,hj]
  rw [h10,hcj] at h9
  have h11:=congrArg UInt8.toNat h9
  rw [UInt8.toNat_add] at h11
  have:=(at0 (topT (nameL 1) (seedL 1)) j).toNat_lt
  have h12:(1:UInt8).toNat=1:=rfl
  omega
theorem head_refused {j:Nat} (hj:j < 8) {c:UInt8} (hc:c=at0 (pubL 1) j + 1):checkT ((pubL 1).set j c) (msgX q x) (sigX q x)≠0:=fun h0=>by
  obtain ⟨f,hf,hp,hfe⟩:=pub_parts
  obtain ⟨hb,hs,_⟩:=chk_ne h0
  obtain ⟨_,_,_,_,sl,_⟩:=sgnT_parts (nameL 1) (seedL 1) (msgX q x) hq
  have hat:at0 (pubL 1) j=at0 [0,0,0,1,0,0,0,2] j:=by
    rw [hp,hfe]
    unfold at0
    rw [List.getD_eq_getElem?_getD,List.getElem?_append_left (by simpa using hj),List.getD_eq_getElem?_getD]
  rw [hat] at hc
  subst hc
  have e1:(pubL 1).set j (at0 [0,0,0,1,0,0,0,2] j + 1)=([0,0,0,1,0,0,0,2]:List UInt8).set j (at0 [0,0,0,1,0,0,0,2] j + 1)++(nameL 1++topT (nameL 1) (seedL 1)):=by
    rw [hp,hfe,List.set_append_left _ _ (by simpa using hj)]
  unfold badPub at hb
  unfold badSig at hs
  have hsl:(sigX q x).length=4332:=sl
  rw [e1] at hb hs
  have hv:∀ j < 8,(val (([0,0,0,1,0,0,0,2]:List UInt8).set j (at0 [0,0,0,1,0,0,0,2] j + 1)) 4=2∨5 < val (([0,0,0,1,0,0,0,2]:List UInt8).set j (at0 [0,0,0,1,0,0,0,2] j + 1)) 4)∨val ((([0,0,0,1,0,0,0,2]:List UInt8).set j (at0 [0,0,0,1,0,0,0,2] j + 1)).drop 4) 4≠2:=by decide +kernel
  have hlen:(([0,0,0,1,0,0,0,2]:List UInt8).set j (at0 [0,0,0,1,0,0,0,2] j + 1)).length=8:=by rw [List.length_set]; rfl
  have g1:val (([0,0,0,1,0,0,0,2]:List UInt8).set j (at0 [0,0,0,1,0,0,0,2] j + 1)++(nameL 1++topT (nameL 1) (seedL 1))) 4=val (([0,0,0,1,0,0,0,2]:List UInt8).set j (at0 [0,0,0,1,0,0,0,2] j + 1)) 4:=by
    rw [← val_take (_++_) 4 4 (Nat.le_refl _),List.take_append_of_le_length (by omega),val_take _ 4 4 (Nat.le_refl _)]
  have g2:val ((([0,0,0,1,0,0,0,2]:List UInt8).set j (at0 [0,0,0,1,0,0,0,2] j + 1)++(nameL 1++topT (nameL 1) (seedL 1))).drop 4) 4=val ((([0,0,0,1,0,0,0,2]:List UInt8).set j (at0 [0,0,0,1,0,0,0,2] j + 1)).drop 4) 4:=by
    rw [List.drop_append_of_le_length (by omega),← val_take (_++_) 4 4 (Nat.le_refl _),List.take_append_of_le_length (by rw [List.length_drop]; omega),val_take _ 4 4 (Nat.le_refl _)]
  rw [g1,g2] at hb
  rw [g1] at hs
  rcases hv j hj with (h | h) | h
  · rw [h,hsl] at hs
    exact hs (.inl (by decide))
  · exact hb (.inr (.inr (.inl h)))
  · exact hb (.inr (.inr (.inr h)))
theorem raised_key (hN:NoneRight) {k:Nat} (hk:k < 4427) {l:List UInt8} (hl:l=signedL 1 q ((q:Int) + 1) (nodT x)) (h1:pRootE (l.set k (at0 l k + 1))=0) (h2:chkL (l.set k (at0 l k + 1))=0):(pRoot (l.set k (at0 l k + 1))).pl=pubL 1:=by
  have hn:=nodT_length x
  have hll:l.length=4427:=by rw [hl]; exact signed_length hn
  have hv:(1:Int)≤(q:Int) + 1∧(q:Int) + 1≤2147483647:=by omega
  have hfl:l=[114]++(pubL 1++(numB ((q:Int) + 1) 4++nodT x++numB (sigX q x).length 2++sigX q x)):=by rw [hl]; unfold signedL rootLs; simp
  have hpl:=pubL_length 1
  by_cases hkp:1≤k∧k < 57
  · exfalso
    obtain ⟨j,rfl⟩:∃ j,k=1 + j:=⟨k - 1,by omega⟩
    have hj:j < 56:=by omega
    obtain ⟨c,hc⟩:∃ c,c=at0 l (1 + j) + 1:=⟨_,rfl⟩
    have hca:c=at0 (pubL 1) j + 1:=by
      rw [hc,hfl]
      congr 1
      unfold at0
      rw [List.getD_eq_getElem?_getD,List.getElem?_append_right (by simp),List.getElem?_append_left (by simp; omega),List.getD_eq_getElem?_getD]
      simp
    have hset:l.set (1 + j) c=(rootLs ((pubL 1).set j c) ((q:Int) + 1) (nodT x) (sigX q x)).flatten:=by
      rw [hfl,List.set_append_right _ _ (by simp),List.set_append_left _ _ (by simp; omega)]
      unfold rootLs
      simp
    rw [← hc,hset] at h1 h2
    obtain ⟨_,e2⟩:=parse_root (pl:=(pubL 1).set j c) (ver:=(q:Int) + 1) (top:=nodT x) (tl:=sigX q x) (by rw [List.length_set,hpl]) hv hn (by rw [show (sigX q x).length=4332 from sigL_length _ _ _ _]; decide)
    unfold chkL at h2
    rw [e2] at h2
    dsimp only at h2
    rcases Nat.lt_or_ge j 8 with h8 | h8
    · exact head_refused hq x h8 hca h2
    · rcases Nat.lt_or_ge j 24 with h24 | h24
      · obtain ⟨i,rfl⟩:∃ i,j=8 + i:=⟨j - 8,by omega⟩
        exact name_refused hq x hN (j:=i) (by omega) hca h2
      · obtain ⟨i,rfl⟩:∃ i,j=24 + i:=⟨j - 24,by omega⟩
        exact top_refused hq x (j:=i) (by omega) hca h2
  · have hpr:(pRoot (l.set k (at0 l k + 1))).pl=((l.set k (at0 l k + 1)).drop 1).take 56:=by unfold pRoot; rw [if_pos h1]
    have hp0:(l.drop 1).take 56=pubL 1:=by rw [hfl]; exact List.take_left' hpl
    rw [hpr,← hp0]
    rcases Nat.lt_or_ge k 1 with h | h
    · obtain rfl:k=0:=by omega
      rw [hfl]
      rfl
    · rw [List.drop_set,if_neg (by omega),List.take_set_of_le (by omega)]
end
open Go.RowKit
set_option maxRecDepth 8000

theorem run_idNe (xs ys:List UInt8) (hx:xs.length=32) (hy:ys.length=32) (x y:Operand) (w:World):((do eqGuard .neq 29 x y (.agg (bs xs).toArray) (.agg (bs ys).toArray); binOp .neq 29 (.agg (bs xs).toArray) (.agg (bs ys).toArray):Sem Value)).run Try.prog w = .ok (.bool (!(xs == ys))) w:=by
  have h:=run_equalIn_bytes w 9998 29 5 32 Try.underlying29 Try.underlying5 (fun w=>by kernel_rfl) xs ys hx hy
  have hg:Try.prog.eqGuardType Try.prog.depth 29=false:=Try.eqGuardType29
  rw [show List.map Extern.Stop.cell xs=bs xs from rfl,show List.map Extern.Stop.cell ys=bs ys from rfl] at h
  simp only [Nat.reduceAdd] at h
  simp [eqGuard,binOp,Op.equal,Op.maxDepth,h,hg,program,Sem.run]
theorem run_tdiv {P:Program} (a b:Int) (t:TypeId) (x y:Operand) (h:b≠0) (w:World):((do eqGuard .quo t x y (.int .i64 a) (.int .i64 b); binOp .quo t (.int .i64 a) (.int .i64 b):Sem Value)).run P w = .ok (.int .i64 (IntKind.i64.wrap (a.tdiv b))) w:=by
  simp [eqGuard,binOp,Op.intDiv,h]
structure KeyOk (p:S1):Prop where
  key:p.key=sha (pubL 1)
  live:p.exp=100
  ok:pRootE p.data=0
  chk:chkL p.data=0
  ver:(pRoot p.data).ver=p.ver
  pl:(pRoot p.data).pl=pubL 1
  len:p.data.length=4427
def RI (last:Int) (o:Option S1):Prop:=(o=none→last=0)∧∀ p,o=some p→KeyOk p∧last≤p.ver
theorem pRoot_is {l:List UInt8} (h:pRootE l=0):pRoot l=⟨(l.drop 1).take 56,val (l.drop 57) 4,(l.drop 61).take 32,l.drop 95⟩:=by unfold pRoot; rw [if_pos h]
theorem RI.step {o:Option S1} {last:Int} {l:List UInt8} (h:RI last o) (hl:l.length=4427) (hk:pRootE l=0→chkL l=0→(pRoot l).pl=pubL 1):RI last (setO o l 0 100 0).2:=by
  have ha:(decide ((0:Int) < 0) || decide ((100:Int)≤0))=false:=rfl
  by_cases h1:pRootE l=0
  · by_cases h2:chkL l=0
    · have hp:=hk h1 h2
      have hv0:0≤(pRoot l).ver:=by rw [pRoot_is h1]; exact Int.natCast_nonneg _
      have hnew:KeyOk ⟨sha (pRoot l).pl,(pRoot l).ver,l,0,100⟩:=⟨congrArg sha hp,rfl,h1,h2,rfl,hp,hl⟩
      cases o with
      | none =>
        rw [setO_none ha h1 h2]
        refine ⟨fun hc=>(by cases hc),fun p hq=>?_⟩
        injection hq with hq
        subst hq
        exact ⟨hnew,by rw [h.1 rfl]; exact hv0⟩
      | some p0 =>
        obtain ⟨g1,g2⟩:=h.2 p0 rfl
        by_cases h3:(pRoot l).ver < p0.ver
        · rw [setO_stale ha h1 h2 h3]
          exact h
        · by_cases h4:p0.ver=(pRoot l).ver
          · rw [setO_same ha h1 h2 h3 h4]
            refine ⟨fun hc=>(by cases hc),fun p hq=>?_⟩
            injection hq with hq
            subst hq
            exact ⟨⟨g1.key,by show max p0.exp 100=100; rw [g1.live]; rfl,g1.ok,g1.chk,g1.ver,g1.pl,g1.len⟩,g2⟩
          · rw [setO_newer ha h1 h2 h3 h4]
            refine ⟨fun hc=>(by cases hc),fun p hq=>?_⟩
            injection hq with hq
            subst hq
            exact ⟨hnew,by show last≤(pRoot l).ver; omega⟩
    · rw [setO_sign ha h1 h2]
      exact h
  · rw [setO_cut ha h1]
    exact h
theorem told_some {o:Option S1} {zs:List EB} {z:EB} (h:zs.map toS=o.toList) (hz:z ∈ zs):o=some (toS z):=by
  cases o with
  | none=>rw [es_none h] at hz; cases hz
  | some p =>
    obtain ⟨e,rfl,he⟩:=es_some h
    rw [List.mem_singleton.1 hz,he]
theorem ebs_get {zs:List EB} {k j:Nat} {z:EB} (h:zs[k]?=some z) (hj:j < 36):(recC bvC (zs.map (fun p:EB=>p.1)))[k * 36 + j]?=(bvC z.1)[j]?:=by
  obtain ⟨hk,e⟩:=List.getElem?_eq_some_iff.1 h
  rw [recC_at (d:=default) (bvs_len (zs.map (fun p:EB=>p.1))) (by rw [List.length_map]; exact hk) hj]
  congr 2
  simp [hk,e]
theorem ebs_key {zs:List EB} {k:Nat} {z:EB} (h:zs[k]?=some z):((recC bvC (zs.map (fun p:EB=>p.1))).drop (k * 36 + 0)).take 32=bs z.1.key:=by
  obtain ⟨hk,e⟩:=List.getElem?_eq_some_iff.1 h
  have h2:zs=zs.take k++z::zs.drop (k + 1):=by
    rw [← e,← List.drop_eq_getElem_cons hk,List.take_append_drop]
  have h3:(recC bvC ((zs.take k).map (fun p:EB=>p.1))).length=k * 36:=by rw [recC_length (bvs_len _),List.length_map,List.length_take,Nat.min_eq_left (by omega)]
  have h4:recC bvC (zs.map (fun p:EB=>p.1))=recC bvC ((zs.take k).map (fun p:EB=>p.1))++(bvC z.1++recC bvC ((zs.drop (k + 1)).map (fun p:EB=>p.1))):=by
    conv=>lhs; rw [h2]
    rw [List.map_append,recC_append,List.map_cons]
    rfl
  rw [h4,Nat.add_zero,List.drop_left' h3,List.take_append_of_le_length (by rw [bvC_length]; decide)]
  exact bk_key z.1.len
theorem mod_two (a:Int):∃ q:Nat,a % 2=(q:Int)∧q < 2:=⟨(a % 2).toNat,by omega,by omega⟩
theorem bs_setC (l:List UInt8) (k:Nat) (c:UInt8):(bs l).set k (bv c)=bs (l.set k c):=by simp [bs,List.map_set]
theorem mod_nat (a:Int) {m:Nat} (hm:0 < m):∃ k:Nat,a % (m:Int)=(k:Int)∧k < m:=⟨(a % (m:Int)).toNat,by have:=Int.emod_nonneg a (show (m:Int)≠0 by omega); omega,by have:=Int.emod_lt_of_pos a (show (0:Int) < m by omega); have:=Int.emod_nonneg a (show (m:Int)≠0 by omega); omega⟩
set_option maxHeartbeats 2000000 in
theorem slotsRise_law (hN:NoneRight) (v:Value) (vs:List Int) (w:Value) (ts:List Int) (F:HP) (hV:∀ h,F h→rdN v vs h) (hW:∀ h,F h→rdN w ts h):CallsS Try.prog 3 #[v,w] F [] (fun v Ps=>v = .bool true):=by
 refine callsS_enter Try.func3 rfl Try.ntmps3 (by simp) (fun E=>?_)
 refine Q9 (R9 (G9 rfl rfl (N9 (X9 (Q9 (Q9 (R9 (Lc9 rfl rfl (by decide) (Oc9 200 [0] [] rfl Try.call6 rfl rfl rfl (by decide) (by decide) (known_spec _) (fun v15 Ps15 hR15=>?_))))))))))
 obtain ⟨rfl,rfl⟩:=hR15
 refine (L9 rfl (Pu_un rfl rfl (run_not _)) (N9 (X9 ?_)))
 refine W_false rfl (rfl) ?_
 refine K9 (X9 ?_)
 refine Q9 (R9 (Lc9 rfl rfl (by decide) (Oc9 300 [0] [] rfl Try.call7 rfl rfl rfl (by decide) (by decide) (newS_spec 3 (by decide) _) (fun v18 Ps18 hR18=>?_))))
 obtain ⟨gs,rfl,rfl⟩:=hR18
 refine (M9 rfl rfl (L9 rfl (Pe9 rfl rfl rfl) (L9 rfl (Pe9 rfl rfl rfl) (G9 rfl rfl (G9 rfl rfl (N9 (X9 ?_)))))))
 refine Q9 (R9 (G9 rfl rfl (N9 (X9 (Q9 (Q9 (R9 (G9 rfl rfl (N9 (X9 ?_))))))))))
 refine W_block ?_
 refine W_ren 300 900 rfl ?_
 refine W_loop (α:=Nat × Int × Option S1) (fun x=>[(0,v),(1,w),(5,.pointer (some ⟨gs,0,none⟩)),(7,.int .i64 x.2.1),(8,.int .i64 (x.1:Int))]) (fun x=>[(0,F),(900,slotP gs 3 x.2.2)]) (fun x=>x.1≤vs.length∧x.1≤10∧RI x.2.1 x.2.2) (fun x=>vs.length - x.1) ((0,0,none)) ⟨Nat.zero_le _,Nat.zero_le _,fun _=>rfl,fun p hp=>(by cases hp)⟩ (a9 rfl) (a9 rfl) (fun x hx=>?_)
 obtain ⟨hx1,hx2,hxI⟩:=hx
 refine Q9 (Q9 (R9 (M9 rfl rfl (M9 rfl rfl (L9 rfl (Pl9 (r:=0) rfl Try.runUnderlying22 rfl rfl hV) (L9 rfl (Pn9 rfl rfl rfl (run_lss _ _ _ _ _ _)) (M9 rfl rfl (Lg9 rfl rfl rfl rfl (by decide) (fun hb=>(Pm9 rfl rfl)) (Lg9 rfl rfl rfl rfl (by decide) (fun hb=>(Pn9 rfl (ev_gv rfl hb) rfl (run_lss _ _ _ _ _ _))) (L9 rfl (Pu_and rfl rfl rfl) (N9 (X9 ?_))))))))))))
 refine C9 rfl (fun hc28=>?_) (fun hc28=>?_)
 ·
  have hlt:x.1 < vs.length∧x.1 < 10:=by simp only [Bool.and_eq_true,decide_eq_true_eq] at hc28; omega
  refine K9 (X9 ?_)
  refine Q9 ?_
  refine W_block ?_
  refine Q9 (R9 (Lc9 rfl rfl (by decide) (OpT_alloc (r:=951) (cs:=(bs zeroId)) rfl (zero_run (by kernel_rfl:(Try.prog.info? 29).bind (·.zero)=some (.agg (bs zeroId).toArray))) rfl (fun g951=>(N9 (X9 (Q9 (R9 (M9 rfl rfl (M9 rfl rfl (L9 rfl (Pu_idxS1 (r:=0) rfl Try.runUnderlying22 Try.sizeOf3 rfl rfl rfl hV (by omega)) (L9 rfl (Py9 (r:=0) rfl Try.isAgg3 rfl rfl hV (is_at (k:=x.1) hlt.1)) (L9 rfl (Pn9 rfl rfl rfl (run_tdiv _ 2 _ _ _ (by decide))) (L9 rfl (Pu_conv rfl rfl (conv_byte _ _ Try.runUnderlying3 Try.runUnderlying5)) (L9 rfl (Pu_idxA rfl Try.runUnderlying29 Try.sizeOf5 rfl rfl (by decide)) (Lc09 rfl rfl (OpT_storeB1 (r:=951) rfl Try.sizeOf5 rfl rfl rfl rfl (by rw [bs_length]; decide) (show _=bs (nodT (byte (IntKind.i64.wrap ((vs.getD x.1 0).tdiv 2)))) from rfl) ?_)))))))))))))))))
  refine (N9 (X9 ?_))
  refine Q9 ?_
  obtain ⟨cx,hcx⟩:∃ c:UInt8,c=(byte (IntKind.i64.wrap ((vs.getD x.1 0).tdiv 2))):=⟨_,rfl⟩
  rw [← hcx]
  refine W_draw (N:=9) (by kernel_rfl) rfl [(0,_),(951,_)] ⟨rfl,rfl,trivial⟩ ?_
  refine (T9 0 rfl rfl (Pm9 rfl rfl) (T9 1 rfl rfl (Pm9 rfl rfl) (T9 2 rfl rfl (Pu_idxS1 (r:=0) rfl Try.runUnderlying22 Try.sizeOf3 rfl rfl rfl hV (by omega)) (T9 3 rfl rfl (Py9 (r:=0) rfl Try.isAgg3 rfl rfl hV (is_at (k:=x.1) hlt.1)) (T9 6 rfl rfl (Px9 (r:=951) rfl Try.isAgg29 Try.sizeOf29 rfl rfl ((bs_length _).trans (nodT_length cx)) (load_all ((bs_length _).trans (nodT_length cx)))) (Y9 [4] ?_))))))
  refine Z9 rfl rfl (Oc9 1000 [0,900,951] [] rfl Try.call9 rfl rfl rfl (by decide) (by decide) (within13_spec (vs.getD x.1 0) 2 (by omega) (by omega) _) (fun v42 Ps42 hR42=>?_)) ?_
  ·
   obtain ⟨rfl,rfl⟩:=hR42
   refine ⟨⟨rfl,rfl,trivial⟩,?_⟩
   obtain ⟨q,hq,hq2⟩:=mod_two (vs.getD x.1 0)
   rw [hq]
   refine (T9 5 rfl rfl (Pn9 rfl rfl rfl (run_add _ _ _ _ _ (by omega))) ?_)
   rw [show (1:Int) + (q:Int)=(q:Int) + 1 by omega]
   refine (Y9 [7] ?_)
   refine Z9 rfl rfl (Oc9 1100 [0,900,951] [] rfl Try.call8 rfl rfl rfl (by decide) (by decide) (signed_spec 1 ((q:Int) + 1) q hq2 rfl (nodT cx) (nodT_length cx) _) (fun v45 Ps45 hR45=>?_)) ?_
   ·
    subst hR45
    refine ⟨⟨rfl,rfl,trivial⟩,?_⟩
    refine (T9 8 rfl rfl (Pg9 rfl rfl) (Ad9 (by kernel_rfl) (X9 ?_)))
    have hll:(signedL 1 q ((q:Int) + 1) (nodT cx)).length=4427:=signed_length (nodT_length cx)
    refine W_ren 1100 910 rfl ?_
    refine W_cut (α:=List UInt8) (fun z=>[(0,v),(1,w),(5,.pointer (some ⟨gs,0,none⟩)),(7,.int .i64 x.2.1),(8,.int .i64 (x.1:Int)),(10,v45)]) (fun z=>[(0,F),(900,slotP gs 3 x.2.2),(910,rowB 5 v45 z)]) (fun z=>z.length=4427∧(pRootE z=0→chkL z=0→(pRoot z).pl=pubL 1)) ?_ (fun z hz=>?_)
    ·
     refine Q9 ?_
     rcases Bool.eq_false_or_eq_true (decide ((x.1:Int) < (ts.length:Int))) with hsp11 | hsp11
     ·
      have hlt2:x.1 < ts.length:=by have:=of_decide_eq_true hsp11; omega
      refine R9 (M9 rfl rfl (M9 rfl rfl (L9 rfl (Pl9 (r:=0) rfl Try.runUnderlying22 rfl rfl hW) (L9 rfl (Pn9 rfl rfl rfl (run_lss _ _ _ _ _ _)) (M9 rfl rfl (WL_gPT rfl rfl rfl (by rw [hsp11]; rfl) rfl (by decide) (Pm9 rfl rfl) (WL_gPT rfl rfl rfl (by rw [hsp11]; rfl) rfl (by decide) (Pm9 rfl rfl) (WL_gPT rfl rfl rfl (by rw [hsp11]; rfl) rfl (by decide) (Pu_idxS1 (r:=0) rfl Try.runUnderlying22 Try.sizeOf3 rfl rfl rfl hW (by omega)) (WL_gPT rfl rfl rfl (by rw [hsp11]; rfl) rfl (by decide) (Py9 (r:=0) rfl Try.isAgg3 rfl rfl hW (is_at (k:=x.1) hlt2)) (WL_gPT rfl rfl rfl (by rw [hsp11]; rfl) rfl (by decide) (Pn9 rfl rfl rfl (run_tmod _ _ _ _ _ (by omega))) (WL_gPT rfl rfl rfl (by rw [hsp11]; rfl) rfl (by decide) (Pn9 rfl rfl rfl (run_eql _ _ _ _ _ _)) (L9 rfl (Pu_pickT rfl rfl hsp11 rfl) (N9 (X9 ?_))))))))))))))
      refine C9 rfl (fun hc57=>?_) (fun hc57=>?_)
      ·
       refine R9 (M9 rfl rfl (M9 rfl rfl (M9 rfl rfl (L9 rfl (Pu_idxS1 (r:=0) rfl Try.runUnderlying22 Try.sizeOf3 rfl rfl rfl hW (by omega)) (L9 rfl (Py9 (r:=0) rfl Try.isAgg3 rfl rfl hW (is_at (k:=x.1) hlt2)) (L9 rfl (Pn9 rfl rfl rfl (run_tdiv _ 2 _ _ _ (by decide))) (M9 rfl rfl (L9 rfl (Pl9 (r:=910) rfl Try.runUnderlying30 rfl rfl rowB_rd) (Lc9 rfl rfl (by decide) (Oc9 1200 [0,900,910,951] [] rfl Try.call9 rfl rfl rfl (by decide) (by decide) (within13_spec (IntKind.i64.wrap ((ts.getD x.1 0).tdiv 2)) (((signedL 1 q ((q:Int) + 1) (nodT cx)).length:Nat):Int) (by omega) (by omega) _) (fun v66 Ps66 hR66=>?_)))))))))))
       obtain ⟨rfl,rfl⟩:=hR66
       obtain ⟨k,hk,hk2⟩:=mod_nat (IntKind.i64.wrap ((ts.getD x.1 0).tdiv 2)) (m:=(signedL 1 q ((q:Int) + 1) (nodT cx)).length) (by omega)
       rw [hk]
       refine (L9 rfl (Pu_idxS1 (r:=910) rfl Try.runUnderlying30 Try.sizeOf5 rfl rfl rfl rowB_rd (by omega)) (L9 rfl (Py9 (r:=910) rfl Try.isAgg5 rfl rfl rowB_rd (bs_at1 (by omega))) (L9 rfl (Pn9 rfl rfl rfl (run_addU8 (at0 (signedL 1 q ((q:Int) + 1) (nodT cx)) k) 1 _ _ _)) (L9 rfl (Pu_idxS1 (r:=910) rfl Try.runUnderlying30 Try.sizeOf5 rfl rfl rfl rowB_rd (by omega)) (Lc09 rfl rfl (OpT_storeS1 (r:=910) rfl Try.sizeOf5 rfl rfl rfl (show (bv (at0 (signedL 1 q ((q:Int) + 1) (nodT cx)) k + 1)).oneCell'=true from rfl) (by show _ < (bs _).length; rw [bs_length]; omega) rfl ?_))))))
       refine Lt9 (P':=rowB 5 v45 ((signedL 1 q ((q:Int) + 1) (nodT cx)).set k (at0 (signedL 1 q ((q:Int) + 1) (nodT cx)) k + 1))) (r:=910) rfl (fun h hp=>rowB_mk hp (by rw [List.length_set]) (by rw [← bs_setC]; rfl)) ?_
       refine (N9 ?_)
       exact X_cut ((signedL 1 q ((q:Int) + 1) (nodT cx)).set k (at0 (signedL 1 q ((q:Int) + 1) (nodT cx)) k + 1)) ⟨by rw [List.length_set]; exact hll,fun h1 h2=>raised_key hq2 cx hN (k:=k) (by omega) rfl h1 h2⟩ (a9 rfl) (a9 rfl)
      ·
       refine K9 ?_
       exact X_cut (signedL 1 q ((q:Int) + 1) (nodT cx)) ⟨hll,fun _ _=>by rw [(signed_parse (who:=1) (q:=q) (ver:=(q:Int) + 1) (by omega) (nodT_length cx)).2]⟩ (a9 rfl) (a9 rfl)
     ·
      refine R9 (M9 rfl rfl (M9 rfl rfl (L9 rfl (Pl9 (r:=0) rfl Try.runUnderlying22 rfl rfl hW) (L9 rfl (Pn9 rfl rfl rfl (run_lss _ _ _ _ _ _)) (M9 rfl rfl (WL_gF rfl rfl rfl (by rw [hsp11]; rfl) rfl (by decide) (WL_gF rfl rfl rfl (by rw [hsp11]; rfl) rfl (by decide) (WL_gF rfl rfl rfl (by rw [hsp11]; rfl) rfl (by decide) (WL_gF rfl rfl rfl (by rw [hsp11]; rfl) rfl (by decide) (WL_gF rfl rfl rfl (by rw [hsp11]; rfl) rfl (by decide) (WL_gF rfl rfl rfl (by rw [hsp11]; rfl) rfl (by decide) (L9 rfl (Pu_pickF rfl rfl hsp11 rfl) (N9 (X9 ?_))))))))))))))
      refine W_false rfl (rfl) ?_
      refine K9 ?_
      exact X_cut (signedL 1 q ((q:Int) + 1) (nodT cx)) ⟨hll,fun _ _=>by rw [(signed_parse (who:=1) (q:=q) (ver:=(q:Int) + 1) (by omega) (nodT_length cx)).2]⟩ (a9 rfl) (a9 rfl)
    ·
     obtain ⟨hzl,hzk⟩:=hz
     refine Q9 (R9 (M9 rfl rfl (M9 rfl rfl (Lc9 rfl rfl (by decide) (Oc9 1200 [0,910] [900] rfl Try.call10 rfl rfl rfl (by decide) (by decide) (setS_opt gs 3 (by decide) _ z (by omega) 0 100 0 x.2.2 (fun p hp=>⟨fun h1 h2=>by rw [(hxI.2 p hp).1.key,hzk h1 h2],by rw [(hxI.2 p hp).1.live]; decide⟩) _ (rs9 1 rfl rowB_rd)) (fun v73 Ps73 hR73=>?_))))))
     obtain ⟨rfl,rfl⟩:=hR73
     obtain ⟨o2,ho2⟩:∃ o2,o2=(setO x.2.2 z 0 100 0).2:=⟨_,rfl⟩
     rw [← ho2]
     have hI2:RI x.2.1 o2:=by rw [ho2]; exact hxI.step hzl hzk
     refine (N9 (X9 ?_))
     refine Q9 (R9 (M9 rfl rfl (Lc9 rfl rfl (by decide) (Oc9 1300 [0,910] [1200] rfl Try.call11 rfl rfl rfl (by decide) (by decide) (allS_spec gs 3 _ (fun p hp=>by rw [(hI2.2 p hp).1.len]; decide) _) (fun v75 Ps75 hR75=>?_)))))
     obtain ⟨zs,hzs,rfl⟩:=hR75
     have hml:(zs.map (fun p:EB=>p.1)).length=zs.length:=List.length_map _
     have hzl1:=es_len hzs
     refine (G9 rfl rfl (N9 (X9 ?_)))
     refine W_cut (α:=Nat) (fun _u=>[(0,v),(1,w),(5,.pointer (some ⟨gs,0,none⟩)),(7,.int .i64 x.2.1),(8,.int .i64 (x.1:Int)),(11,v75)]) (fun _u=>[(0,F),(1300,slotP gs 3 o2),(1301,rowB2 v75 (zs.map (fun p:EB=>p.1))),(1302,datP zs)]) (fun _u=>True) ?_ (fun u _hu=>?_)
     ·
      refine Q9 ?_
      rcases Bool.eq_false_or_eq_true (decide ((0:Int) < ((zs.map (fun p:EB=>p.1)).length:Int))) with hsp15 | hsp15
      ·
       have hlt0:0 < zs.length:=by have:=of_decide_eq_true hsp15; omega
       obtain ⟨z9,hz9⟩:∃ z9,zs[0]?=some z9:=⟨_,List.getElem?_eq_getElem hlt0⟩
       have hv9:x.2.1≤z9.1.ver:=(hI2.2 _ (told_some hzs (List.mem_of_getElem? hz9))).2
       rcases Bool.eq_false_or_eq_true (decide ((0:Int) < x.2.1)) with hsq15 | hsq15
       ·
        refine R9 (M9 rfl rfl (L9 rfl (Pl9 (r:=1301) rfl Try.runUnderlying34 rfl rfl (fun h hp=>rp9 hp)) (L9 rfl (Pn9 rfl rfl rfl (run_gtr _ _ _ _ _ _)) (M9 rfl rfl (WL_gPT rfl rfl rfl (by rw [hsp15]; rfl) rfl (by decide) (Pm9 rfl rfl) (WL_gPT rfl rfl rfl (by rw [hsp15]; rfl) rfl (by decide) (Pn9 rfl rfl rfl (run_gtr _ _ _ _ _ _)) (L9 rfl (Pu_pickT rfl rfl hsp15 rfl) (M9 rfl rfl (WL_gPT rfl rfl rfl (by rw [hsq15]; rfl) rfl (by decide) (Pm9 rfl rfl) (WL_gPT rfl rfl rfl (by rw [hsq15]; rfl) rfl (by decide) (Pi9 (r:=1301) rfl Try.runUnderlying34 Try.sizeOf37 rfl rfl rfl (fun h hp=>rp9 hp) (by simp; omega)) (WL_gPT rfl rfl rfl (by rw [hsq15]; rfl) rfl (by decide) (Pu_fieldAddrE (off:=32) rfl rfl (by kernel_rfl)) (WL_gPT rfl rfl rfl (by rw [hsq15]; rfl) rfl (by decide) (Py9 (r:=1301) rfl Try.isAgg3 rfl rfl (fun h hp=>rp9 hp) ((ebs_get (k:=0) hz9 (j:=32) (by decide)).trans (bk_ver z9.1.len))) (WL_gPT rfl rfl rfl (by rw [hsq15]; rfl) rfl (by decide) (Pm9 rfl rfl) (WL_gPT rfl rfl rfl (by rw [hsq15]; rfl) rfl (by decide) (Pn9 rfl rfl rfl (run_lss _ _ _ _ _ _)) (L9 rfl (Pu_pickT rfl rfl hsq15 rfl) (N9 (X9 ?_)))))))))))))))))
        refine W_false rfl ((decide_eq_false (by omega))) ?_
        refine K9 ?_
        exact X_cut 0 trivial (a9 rfl) (a9 rfl)
       ·
        refine R9 (M9 rfl rfl (L9 rfl (Pl9 (r:=1301) rfl Try.runUnderlying34 rfl rfl (fun h hp=>rp9 hp)) (L9 rfl (Pn9 rfl rfl rfl (run_gtr _ _ _ _ _ _)) (M9 rfl rfl (WL_gPT rfl rfl rfl (by rw [hsp15]; rfl) rfl (by decide) (Pm9 rfl rfl) (WL_gPT rfl rfl rfl (by rw [hsp15]; rfl) rfl (by decide) (Pn9 rfl rfl rfl (run_gtr _ _ _ _ _ _)) (L9 rfl (Pu_pickT rfl rfl hsp15 rfl) (M9 rfl rfl (WL_gF rfl rfl rfl (by rw [hsq15]; rfl) rfl (by decide) (WL_gF rfl rfl rfl (by rw [hsq15]; rfl) rfl (by decide) (WL_gF rfl rfl rfl (by rw [hsq15]; rfl) rfl (by decide) (WL_gF rfl rfl rfl (by rw [hsq15]; rfl) rfl (by decide) (WL_gF rfl rfl rfl (by rw [hsq15]; rfl) rfl (by decide) (WL_gF rfl rfl rfl (by rw [hsq15]; rfl) rfl (by decide) (L9 rfl (Pu_pickF rfl rfl hsq15 rfl) (N9 (X9 ?_)))))))))))))))))
        refine W_false rfl (rfl) ?_
        refine K9 ?_
        exact X_cut 0 trivial (a9 rfl) (a9 rfl)
      ·
       refine R9 (M9 rfl rfl (L9 rfl (Pl9 (r:=1301) rfl Try.runUnderlying34 rfl rfl (fun h hp=>rp9 hp)) (L9 rfl (Pn9 rfl rfl rfl (run_gtr _ _ _ _ _ _)) (M9 rfl rfl (WL_gF rfl rfl rfl (by rw [hsp15]; rfl) rfl (by decide) (WL_gF rfl rfl rfl (by rw [hsp15]; rfl) rfl (by decide) (L9 rfl (Pu_pickF rfl rfl hsp15 rfl) (M9 rfl rfl (WL_gF rfl rfl rfl rfl rfl (by decide) (WL_gF rfl rfl rfl rfl rfl (by decide) (WL_gF rfl rfl rfl rfl rfl (by decide) (WL_gF rfl rfl rfl rfl rfl (by decide) (WL_gF rfl rfl rfl rfl rfl (by decide) (WL_gF rfl rfl rfl rfl rfl (by decide) (L9 rfl (Pu_pickF rfl rfl rfl rfl) (N9 (X9 ?_)))))))))))))))))
       refine W_false rfl (rfl) ?_
       refine K9 ?_
       exact X_cut 0 trivial (a9 rfl) (a9 rfl)
     ·
      refine Q9 (R9 (G9 rfl rfl (N9 (X9 ?_))))
      refine W_block ?_
      refine W_loop (α:=Nat × Int) (fun y=>[(0,v),(1,w),(5,.pointer (some ⟨gs,0,none⟩)),(7,.int .i64 y.2),(8,.int .i64 (x.1:Int)),(11,v75),(12,.int .i64 (y.1:Int))]) (fun y=>[(0,F),(1300,slotP gs 3 o2),(1301,rowB2 v75 (zs.map (fun p:EB=>p.1))),(1302,datP zs)]) (fun y=>y.1≤zs.length∧RI y.2 o2) (fun y=>zs.length - y.1) ((0,x.2.1)) ⟨Nat.zero_le _,hI2⟩ (a9 rfl) (a9 rfl) (fun y hy=>?_)
      obtain ⟨hy1,hy2⟩:=hy
      refine Q9 (Q9 (R9 (M9 rfl rfl (M9 rfl rfl (L9 rfl (Pl9 (r:=1301) rfl Try.runUnderlying34 rfl rfl (fun h hp=>rp9 hp)) (L9 rfl (Pn9 rfl rfl rfl (run_lss _ _ _ _ _ _)) (N9 (X9 ?_))))))))
      refine C9 rfl (fun hc94=>?_) (fun hc94=>?_)
      ·
       have hlt3:y.1 < zs.length:=by have:=of_decide_eq_true hc94; omega
       obtain ⟨z0,hz0⟩:∃ z0,zs[y.1]?=some z0:=⟨_,List.getElem?_eq_getElem hlt3⟩
       have hz0m:=List.mem_of_getElem? hz0
       have hoz:=told_some hzs hz0m
       obtain ⟨hKz,hyv⟩:=hy2.2 _ hoz
       have hyv:y.2≤z0.1.ver:=hyv
       have hokz:pRootE z0.2=0:=hKz.ok
       have hlz:z0.2.length=4427:=hKz.len
       have htz:((z0.2.drop 61).take 32).length=32:=by rw [List.length_take,List.length_drop]; omega
       have hchz:checkT ((z0.2.drop 1).take 56) (claimL (val (z0.2.drop 57) 4:Int) ((z0.2.drop 61).take 32)) (z0.2.drop 95)=0:=by have h9:chkL z0.2=0:=hKz.chk; unfold chkL at h9; rw [pRoot_is hokz] at h9; exact h9
       have hplz:sha ((z0.2.drop 1).take 56)=z0.1.key:=by have h9:(pRoot z0.2).pl=pubL 1:=hKz.pl; rw [pRoot_is hokz] at h9; have h8:z0.1.key=sha (pubL 1):=hKz.key; rw [h8]; exact congrArg sha h9
       have hvrz:((val (z0.2.drop 57) 4:Nat):Int)=z0.1.ver:=by have h9:(pRoot z0.2).ver=z0.1.ver:=hKz.ver; rw [pRoot_is hokz] at h9; exact h9
       refine K9 (X9 ?_)
       refine Q9 ?_
       refine W_block ?_
       refine Q9 (R9 (M9 rfl rfl (M9 rfl rfl (L9 rfl (Pi9 (r:=1301) rfl Try.runUnderlying34 Try.sizeOf37 rfl rfl rfl (fun h hp=>rp9 hp) (by omega)) (L9 rfl (Pu_fieldAddrE (off:=33) rfl rfl (by kernel_rfl)) (L9 rfl (Py9 (r:=1301) rfl Try.isAgg30 rfl rfl (fun h hp=>rp9 hp) ((ebs_get hz0 (j:=33) (by decide)).trans (bk_data z0.1.len))) (Lc9 rfl rfl (by decide) (Oc9 1400 [0,1300,1301,1302] [] rfl Try.call12 rfl rfl rfl (by decide) (by decide) (parse9_spec _ z0.2 hokz (by omega) _ (rs9 3 rfl (fun h hp=>hp z0 hz0m))) (fun v103 Ps103 hR103=>?_)))))))))
       obtain ⟨pv,tv,rfl,rfl⟩:=hR103
       refine WL_fact (r:=1400) rfl (fun h hp=>rd_one (rowB_rd _ hp)) (fun hpo=>?_)
       refine WL_fact (r:=1401) rfl (fun h hp=>rd_one (rowB_rd _ hp)) (fun hto=>?_)
       refine (M9 rfl rfl (L9 rfl (Pe9 rfl rfl rfl) (L9 rfl (Pe9 rfl rfl rfl) (Lc9 rfl rfl (by decide) (OpT_alloc (r:=1403) (cs:=(rootC nilS 0 zeroId nilS)) rfl (zero_run (by kernel_rfl:(Try.prog.info? 39).bind (·.zero)=some (.agg (rootC nilS 0 zeroId nilS).toArray))) rfl (fun g1403=>(Lc09 rfl rfl (OpT_storeAll (r:=1403) rfl Try.sizeOf39 rfl rfl rfl (rootC_length zeroId_length) (rootC_length htz) (one_root hpo hto) ?_))))))))
       refine (G9 rfl rfl (N9 (X9 ?_)))
       refine Q9 (Q9 ?_)
       have hz18:(!(z0.1.key == z0.1.key))=false:=by simp
       refine W_draw (N:=28) (by kernel_rfl) rfl [(0,_),(1403,_),(1301,_),(1302,_),(1400,_),(1401,_)] ⟨rfl,rfl,rfl,rfl,rfl,rfl,trivial⟩ ?_
       refine (T9 0 rfl rfl (Pm9 rfl rfl) (T9 1 rfl rfl (Pn9 rfl rfl rfl (run_neq _ _ _ _ _ _)) (T9 2 rfl rfl (Pm9 rfl rfl) (AH_takeT 3 rfl (by kernel_rfl) (by kernel_rfl) (by kernel_rfl) rfl rfl rfl rfl rfl (by decide) (Px9 (r:=1403) rfl Try.isAgg39 Try.sizeOf39 rfl rfl (rootC_length htz) (load_all (rootC_length htz))) (Y9 [4] ?_)))))
       refine AHs_gT rfl rfl rfl rfl rfl rfl (by decide) (Oc9 1500 [0,1300,1301,1302,1400,1401,1403] [] rfl Try.call13 rfl rfl rfl (by decide) (by decide) (right13_spec pv ((z0.2.drop 1).take 56) _ ((z0.2.drop 61).take 32) htz tv (z0.2.drop 95) _ (rs9 4 rfl rowB_rd) (rs9 5 rfl rowB_rd)) (fun v110 Ps110 hR110=>?_)) ?_
       ·
        obtain ⟨rfl,rfl⟩:=hR110
        refine ⟨⟨rfl,rfl,rfl,rfl,rfl,rfl,trivial⟩,?_⟩
        rw [hchz]
        refine (AH_takeT 5 rfl (by kernel_rfl) (by kernel_rfl) (by kernel_rfl) rfl rfl rfl rfl rfl (by decide) (Pn9 rfl rfl rfl (run_neq _ _ _ _ _ _)) (T9 6 rfl rfl (Pu_pickF rfl rfl rfl rfl) (T9 7 rfl rfl (Pm9 rfl rfl) (AH_takeT 8 rfl (by kernel_rfl) (by kernel_rfl) (by kernel_rfl) rfl rfl rfl rfl rfl (by decide) (F9 0 rfl rfl) (AH_takeT 9 rfl (by kernel_rfl) (by kernel_rfl) (by kernel_rfl) rfl rfl rfl rfl rfl (by decide) (Pb9 (r:=1403) rfl Try.isAgg30 rfl rfl rfl) (AH_takeT 11 rfl (by kernel_rfl) (by kernel_rfl) (by kernel_rfl) rfl rfl rfl rfl rfl (by decide) (Pm9 rfl rfl) (AH_takeT 12 rfl (by kernel_rfl) (by kernel_rfl) (by kernel_rfl) rfl rfl rfl rfl rfl (by decide) (Pm9 rfl rfl) (AH_takeT 13 rfl (by kernel_rfl) (by kernel_rfl) (by kernel_rfl) rfl rfl rfl rfl rfl (by decide) (Pi9 (r:=1301) rfl Try.runUnderlying34 Try.sizeOf37 rfl rfl rfl (fun h hp=>rp9 hp) (by omega)) (AH_takeT 14 rfl (by kernel_rfl) (by kernel_rfl) (by kernel_rfl) rfl rfl rfl rfl rfl (by decide) (Pu_fieldAddrE (off:=0) rfl rfl (by kernel_rfl)) (AH_takeT 15 rfl (by kernel_rfl) (by kernel_rfl) (by kernel_rfl) rfl rfl rfl rfl rfl (by decide) (Pz9 (r:=1301) rfl Try.isAgg29 Try.sizeOf29 rfl rfl (fun h hp=>rp9 hp) ((bs_length _).trans z0.1.len) (by decide) (ebs_key hz0)) (Y9 [10] ?_)))))))))))
        refine AHs_gT rfl rfl rfl rfl rfl rfl (by decide) (Oc9 1600 [0,1300,1301,1302,1400,1401,1403] [] rfl Try.call14 rfl rfl rfl (by decide) (by decide) (refSum_spec pv ((z0.2.drop 1).take 56) (by rw [List.length_take]; omega) _ (rs9 4 rfl rowB_rd)) (fun v116 Ps116 hR116=>?_)) ?_
        ·
         obtain ⟨rfl,rfl⟩:=hR116
         refine ⟨⟨rfl,rfl,rfl,rfl,rfl,rfl,trivial⟩,?_⟩
         rw [hplz]
         refine (AH_takeT 16 rfl (by kernel_rfl) (by kernel_rfl) (by kernel_rfl) rfl rfl rfl rfl rfl (by decide) (Pn9 rfl rfl rfl (run_idNe _ _ z0.1.len z0.1.len _ _)) (T9 17 rfl rfl (Pu_pickF rfl rfl rfl rfl) (T9 18 rfl rfl (Pm9 rfl rfl) (AH_takeT 19 rfl (by kernel_rfl) (by kernel_rfl) (by kernel_rfl) rfl rfl rfl (by rw [hz18]; rfl) rfl (by decide) (F9 1 rfl rfl) (AH_takeT 20 rfl (by kernel_rfl) (by kernel_rfl) (by kernel_rfl) rfl rfl rfl (by rw [hz18]; rfl) rfl (by decide) (Pb9 (r:=1403) rfl Try.isAgg3 rfl rfl rfl) (AH_takeT 21 rfl (by kernel_rfl) (by kernel_rfl) (by kernel_rfl) rfl rfl rfl (by rw [hz18]; rfl) rfl (by decide) (Pm9 rfl rfl) (AH_takeT 22 rfl (by kernel_rfl) (by kernel_rfl) (by kernel_rfl) rfl rfl rfl (by rw [hz18]; rfl) rfl (by decide) (Pm9 rfl rfl) (AH_takeT 23 rfl (by kernel_rfl) (by kernel_rfl) (by kernel_rfl) rfl rfl rfl (by rw [hz18]; rfl) rfl (by decide) (Pi9 (r:=1301) rfl Try.runUnderlying34 Try.sizeOf37 rfl rfl rfl (fun h hp=>rp9 hp) (by omega)) (AH_takeT 24 rfl (by kernel_rfl) (by kernel_rfl) (by kernel_rfl) rfl rfl rfl (by rw [hz18]; rfl) rfl (by decide) (Pu_fieldAddrE (off:=32) rfl rfl (by kernel_rfl)) (AH_takeT 25 rfl (by kernel_rfl) (by kernel_rfl) (by kernel_rfl) rfl rfl rfl (by rw [hz18]; rfl) rfl (by decide) (Py9 (r:=1301) rfl Try.isAgg3 rfl rfl (fun h hp=>rp9 hp) ((ebs_get hz0 (j:=32) (by decide)).trans (bk_ver z0.1.len))) (AH_takeT 26 rfl (by kernel_rfl) (by kernel_rfl) (by kernel_rfl) rfl rfl rfl (by rw [hz18]; rfl) rfl (by decide) (Pn9 rfl rfl rfl (run_neq _ _ _ _ _ _)) (T9 27 rfl rfl (Pu_pickF rfl rfl hz18 rfl) (Ad9 (by kernel_rfl) (X9 ?_))))))))))))))
         refine W_false rfl ((by rw [hvrz]; simp)) ?_
         refine K9 (X9 ?_)
         refine R9 (M9 rfl rfl (M9 rfl rfl (M9 rfl rfl (L9 rfl (Pi9 (r:=1301) rfl Try.runUnderlying34 Try.sizeOf37 rfl rfl rfl (fun h hp=>rp9 hp) (by omega)) (L9 rfl (Pu_fieldAddrE (off:=32) rfl rfl (by kernel_rfl)) (L9 rfl (Py9 (r:=1301) rfl Try.isAgg3 rfl rfl (fun h hp=>rp9 hp) ((ebs_get hz0 (j:=32) (by decide)).trans (bk_ver z0.1.len))) (L9 rfl (Pu_max rfl rfl rfl) (G9 rfl rfl (N9 (X_block (X9 (R9 (M9 rfl rfl (L9 rfl (Pn9 rfl rfl rfl (run_add _ _ _ _ _ (by omega))) (G9 rfl rfl (N9 ?_))))))))))))))))
         exact Xr9 (y.1 + 1,max y.2 z0.1.ver) ⟨by dsimp only; omega,fun hc=>(by rw [hoz] at hc; cases hc),fun p hp=>(by rw [hoz] at hp; injection hp with hp; subst hp; exact ⟨hKz,by show max y.2 z0.1.ver≤z0.1.ver; omega⟩)⟩ (by dsimp only; omega) (a9 rfl) (a9 rfl)
        exact An9
       exact An9
      ·
       refine W_exit (X_then_exit (X_then_exit (X_block_exit (X_block (X9 ?_)))))
       refine R9 (M9 rfl rfl (L9 rfl (Pn9 rfl rfl rfl (run_add _ _ _ _ _ (by omega))) (G9 rfl rfl (N9 ?_))))
       refine X_ren 1300 900 rfl ?_
       exact Xr9 (x.1 + 1,y.2,o2) ⟨by dsimp only; omega,by dsimp only; omega,hy2⟩ (by dsimp only; omega) (a9 rfl) (a9 rfl)
   exact An9
  exact An9
 ·
  refine W_exit (X_then_exit (X_then_exit (X_block_exit (X9 ?_))))
  refine Q9 (R9 (M9 rfl rfl (Lc9 rfl rfl (by decide) (Oc9 1000 [0] [900] rfl Try.call11 rfl rfl rfl (by decide) (by decide) (allS_spec gs 3 _ (fun p hp=>by rw [(hxI.2 p hp).1.len]; decide) _) (fun v142 Ps142 hR142=>?_)))))
  obtain ⟨us,hus,rfl⟩:=hR142
  refine (L9 rfl (Pl9 (r:=1001) rfl Try.runUnderlying34 rfl rfl (fun h hp=>rp9 hp)) (L9 rfl (Pn9 rfl rfl rfl (run_leq _ _ _ _ _ _)) (G9 rfl rfl (N9 (X9 ?_)))))
  refine W_ret ?_
  exact Xq9 [] (Ps:=[]) (res1 Try.results3 rfl) rfl (by decide) (by first | rfl | (have h1:=es_len hus; have h2:(us.map (fun p:EB=>p.1)).length=us.length:=List.length_map _; rw [decide_eq_true (by omega)]))
end Go.Proofs.Ytinamipkpdlphaa
