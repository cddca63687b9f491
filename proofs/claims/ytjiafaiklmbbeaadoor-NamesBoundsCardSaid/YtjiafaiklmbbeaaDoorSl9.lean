/- Symbolic states, part 9: resources split and joined; maps keyed by arrays of bytes. -/
import Derived.Test.YtjiafaiklmbbeaaDoorSl8
import Derived.MapKept
import Derived.Carry
import Derived.Stop.BytesEq
namespace Go.Proofs.YtjiafaiklmbbeaaDoor
open Go.RowKit
set_option linter.unusedVariables false
set_option linter.unusedSimpArgs false
/-- Nothing. -/
def emp : HP := fun _ => True
theorem Sat.split {E : Env} {L : Res} {w : World} (hS : Sat E L w) {r b : Nat} {Pr : HP} {Ps : List HP} (hr : look L r = some Pr) (hp : ∀ h, Pr h → starL Ps h) : Sat E (En b Ps ++ (r, emp) :: L) w := by
  obtain ⟨e, hs, h1, h2, h3⟩ := hS
  obtain ⟨hk, k1, k2, k3⟩ := hp _ (h1 r Pr hr)
  refine ⟨e, fun q => if b ≤ q ∧ q < b + Ps.length then hk (q - b) else if q = r then fun _ => none else hs q, ?_, ?_, ?_⟩
  · intro q P h
    rw [look_append] at h
    by_cases hq : b ≤ q ∧ q < b + Ps.length
    · simp only [hq, and_self, if_true]
      have hl := look_En Ps b (q - b)
      rw [show b + (q - b) = q by omega, List.getElem?_eq_getElem (show q - b < Ps.length by omega)] at hl
      rw [hl] at h
      simp at h
      subst h
      exact k1 _ _ (List.getElem?_eq_getElem (show q - b < Ps.length by omega))
    · simp only [hq, if_false]
      have hl : look (En b Ps) q = none := by
        rcases Nat.lt_or_ge q b with h' | h'
        · exact look_En_lt _ _ _ h'
        · have := look_En Ps b (q - b)
          rw [show b + (q - b) = q by omega] at this
          rw [this, List.getElem?_eq_none (by omega)]
      rw [hl] at h
      simp at h
      by_cases hqr : q = r
      · subst hqr
        rw [look_same] at h
        injection h with h
        subst h
        trivial
      · rw [look_other (Ne.symm hqr)] at h
        simpa [hqr] using h1 q P h
  · intro q q' g hne hg
    by_cases hq : b ≤ q ∧ q < b + Ps.length
    · simp only [hq, and_self, if_true] at hg
      by_cases hq' : b ≤ q' ∧ q' < b + Ps.length
      · simp only [hq', and_self, if_true]
        exact k2 _ _ g (by omega) hg
      · simp only [hq', if_false]
        by_cases hqr : q' = r
        · simp [hqr]
        · simp only [hqr, if_false]
          obtain ⟨o, ho⟩ := Option.isSome_iff_exists.1 hg
          exact h2 r q' g (Ne.symm hqr) (by rw [k3 _ _ _ ho]; rfl)
    · simp only [hq, if_false] at hg
      by_cases hqr : q = r
      · simp [hqr] at hg
      · simp only [hqr, if_false] at hg
        by_cases hq' : b ≤ q' ∧ q' < b + Ps.length
        · simp only [hq', and_self, if_true]
          cases hv : hk (q' - b) g with
          | none => rfl
          | some o =>
            have := h2 q r g hqr hg
            rw [k3 _ _ _ hv] at this
            cases this
        · simp only [hq', if_false]
          by_cases hqr' : q' = r
          · simp [hqr']
          · simp only [hqr', if_false]
            exact h2 q q' g hne hg
  · intro q g o hg
    by_cases hq : b ≤ q ∧ q < b + Ps.length
    · simp only [hq, and_self, if_true] at hg
      exact h3 r g o (k3 _ _ _ hg)
    · simp only [hq, if_false] at hg
      by_cases hqr : q = r
      · simp [hqr] at hg
      · simp only [hqr, if_false] at hg
        exact h3 q g o hg
/-- All of J, as r; J itself is empty then. -/
theorem Sat.join {E : Env} {L : Res} {w : World} (hS : Sat E L w) {J : List Nat} {Js : List HP} (r : Nat) (hJ : LookAll L J Js) (hn : J.Nodup) {P' : HP} (hP : ∀ h, starL Js h → P' h) : Sat E ((r, P') :: (J.map (·, emp) ++ L)) w := by
  obtain ⟨e, hs, h1, h2, h3⟩ := hS
  obtain ⟨jl, jg⟩ := hJ.get
  have uJ : ∀ j g o, j ∈ J → hs j g = some o → J.findSome? (fun j => hs j g) = some o := by
    intro j g o hj ho
    cases hf : J.findSome? (fun j => hs j g) with
    | none =>
      have := List.findSome?_eq_none_iff.1 hf j hj
      rw [ho] at this
      cases this
    | some o' =>
      obtain ⟨j', hj', ho'⟩ := List.exists_of_findSome?_eq_some hf
      by_cases hjj : j = j'
      · subst hjj; rw [ho] at ho'; rw [ho']
      · have := h2 j j' g hjj (by rw [ho]; rfl)
        rw [this] at ho'
        cases ho'
  refine ⟨e, fun q => if q = r then (fun g => J.findSome? (fun j => hs j g)) else if q ∈ J then (fun _ => none) else hs q, ?_, ?_, ?_⟩
  · intro q P h
    by_cases hqr : q = r
    · subst hqr
      rw [look_same] at h
      injection h with h
      subst h
      simp only [if_true]
      refine hP _ ⟨fun k => hOf hs J[k]?, fun k P hk => ?_, fun k k' g hne hg => ?_, fun k g o ho => ?_⟩
      · have hkl : k < J.length := by rw [jl]; exact (List.getElem?_eq_some_iff.1 hk).1
        have hi : J[k]? = some J[k] := List.getElem?_eq_getElem hkl
        simp only [hi, hOf]
        exact h1 _ P (jg k _ P hi hk)
      · cases hi : J[k]? with
        | none => simp [hi, hOf] at hg
        | some i =>
          simp only [hi, hOf] at hg
          cases hj : J[k']? with
          | none => simp only [hOf, *]
          | some j => simp only [hj, hOf]; exact h2 i j g (fun hij => hne (nodup_get hn hi (hij ▸ hj))) hg
      · cases hi : J[k]? with
        | none => simp [hi, hOf] at ho
        | some i =>
          simp only [hi, hOf] at ho
          exact uJ i g o (List.mem_of_getElem? hi) ho
    · rw [look_other (Ne.symm hqr), look_append] at h
      simp only [hqr, if_false]
      have hl : ∀ J : List Nat, look (J.map (·, emp)) q = if q ∈ J then some emp else none := by
        intro J
        induction J with
        | nil => rfl
        | cons j J ih =>
          rw [List.map_cons]
          by_cases hjq : j = q
          · subst hjq; rw [look_same]; simp
          · rw [look_other hjq, ih]
            by_cases hm : q ∈ J
            · simp [hm]
            · simp [hm, Ne.symm hjq]
      rw [hl] at h
      by_cases hm : q ∈ J
      · simp [hm] at h ⊢
        subst h
        trivial
      · simp [hm] at h ⊢
        exact h1 q P h
  · intro q q' g hne hg
    by_cases hq : q = r
    · subst hq
      simp only [if_true] at hg
      have hq' : ¬ q' = q := Ne.symm hne
      simp only [hq', if_false]
      by_cases hm : q' ∈ J
      · simp [hm]
      · simp only [hm, if_false]
        obtain ⟨o, ho⟩ := Option.isSome_iff_exists.1 hg
        obtain ⟨j, hj, ho'⟩ := List.exists_of_findSome?_eq_some ho
        exact h2 j q' g (fun h => hm (h ▸ hj)) (by rw [ho']; rfl)
    · simp only [hq, if_false] at hg
      by_cases hm : q ∈ J
      · simp [hm] at hg
      · simp only [hm, if_false] at hg
        by_cases hq' : q' = r
        · simp only [hq', if_true]
          cases hv : J.findSome? (fun j => hs j g) with
          | none => rfl
          | some o =>
            obtain ⟨j, hj, ho'⟩ := List.exists_of_findSome?_eq_some hv
            have := h2 q j g (fun h => hm (h ▸ hj)) hg
            rw [this] at ho'
            cases ho'
        · simp only [hq', if_false]
          by_cases hm' : q' ∈ J
          · simp [hm']
          · simp only [hm', if_false]
            exact h2 q q' g hne hg
  · intro q g o hg
    by_cases hq : q = r
    · simp only [hq, if_true] at hg
      obtain ⟨j, hj, ho'⟩ := List.exists_of_findSome?_eq_some hg
      exact h3 j g o ho'
    · simp only [hq, if_false] at hg
      by_cases hm : q ∈ J
      · simp [hm] at hg
      · simp only [hm, if_false] at hg
        exact h3 q g o hg
section
variable {P : Program} {E : Env} {n : Nat} {K : Slots} {L : Res} {Q : Exit → Act → World → Prop} {c : Code} {e : Exit}
theorem W_split (r b : Nat) {Pr : HP} (Ps : List HP) (hr : look L r = some Pr) (hp : ∀ h, Pr h → starL Ps h) (k : W P E n c K (En b Ps ++ (r, emp) :: L) Q) : W P E n c K L Q := fun a w hA hS => k a w hA (hS.split hr hp)
theorem W_join (J : List Nat) {Js : List HP} (r : Nat) (P' : HP) (hJ : lookL L J = some Js) (hn : J.Nodup) (hP : ∀ h, starL Js h → P' h) (k : W P E n c K ((r, P') :: (J.map (·, emp) ++ L)) Q) : W P E n c K L Q := fun a w hA hS => k a w hA (hS.join r (.of hJ) hn hP)
theorem X_join (J : List Nat) {Js : List HP} (r : Nat) (P' : HP) (hJ : lookL L J = some Js) (hn : J.Nodup) (hP : ∀ h, starL Js h → P' h) (k : X E n Q e K ((r, P') :: (J.map (·, emp) ++ L))) : X E n Q e K L := fun a w hA hS => k a w hA (hS.join r (.of hJ) hn hP)
theorem WL_join {ops : Array Oper} {l : List Oper} (J : List Nat) {Js : List HP} (r : Nat) (P' : HP) (hJ : lookL L J = some Js) (hn : J.Nodup) (hP : ∀ h, starL Js h → P' h) (k : WL P E n ops l K ((r, P') :: (J.map (·, emp) ++ L)) Q) : WL P E n ops l K L Q := fun a w hA hS => k a w hA (hS.join r (.of hJ) hn hP)
end
theorem starL_one {P : HP} {h : Hlt} (hp : P h) : starL [P] h := by
  refine ⟨fun k => if k = 0 then h else fun _ => none, fun k Q hk => ?_, fun k k' g hne hg => ?_, fun k g o ho => ?_⟩
  · cases k with
    | zero => simp at hk; subst hk; simpa using hp
    | succ k => simp at hk
  · by_cases h1 : k = 0
    · simp [h1] at hne; simp [Ne.symm hne]
    · simp [h1] at hg
  · by_cases h1 : k = 0
    · simpa [h1] using ho
    · simp [h1] at ho
theorem X_ren {E : Env} {n : Nat} {K : Slots} {L : Res} {Q : Exit → Act → World → Prop} {e : Exit} (r b : Nat) {Pr : HP} (hr : look L r = some Pr) (k : X E n Q e K ((b, Pr) :: (r, emp) :: L)) : X E n Q e K L := fun a w hA hS => k a w hA (hS.split (b := b) (Ps := [Pr]) hr fun h hp => starL_one hp)
theorem W_ren {P : Program} {E : Env} {n : Nat} {K : Slots} {L : Res} {Q : Exit → Act → World → Prop} {c : Code} (r b : Nat) {Pr : HP} (hr : look L r = some Pr) (k : W P E n c K ((b, Pr) :: (r, emp) :: L) Q) : W P E n c K L Q := fun a w hA hS => k a w hA (hS.split (b := b) (Ps := [Pr]) hr fun h hp => starL_one hp)
theorem starL_pick {Ps : List HP} {h : Hlt} (hs : starL Ps h) {φ : Prop} (k : Nat) {P : HP} (hk : Ps[k]? = some P) (hφ : ∀ h, P h → φ) : φ := by
  obtain ⟨f, h1, _⟩ := hs
  exact hφ _ (h1 k P hk)

/-! ### Maps keyed by ids -/
def idV (k : List UInt8) : Value := .agg (bs k).toArray
def mapP (g : Nat) (es : List (List UInt8 × Value)) : HP := fun h => Ids (es.map (·.1)) ∧ ∃ a clk, h g = some (.map a clk) ∧ a.toList.map (fun e => (e.key, e.val)) = es.map (fun p => (idV p.1, p.2))
theorem map_eraseIdx {α β : Type} (f : α → β) : ∀ (l : List α) (i : Nat), (l.eraseIdx i).map f = (l.map f).eraseIdx i
  | [], _ => rfl
  | x :: l, 0 => rfl
  | x :: l, i + 1 => by simp [map_eraseIdx f l i]
/-- Where an entry stands. -/
def findI (k : List UInt8) : List (List UInt8 × Value) → Nat → Option (Nat × Value)
  | [], _ => none
  | p :: es, i => if k == p.1 then some (i, p.2) else findI k es (i + 1)
theorem findI_lookup (k : List UInt8) : ∀ (es : List (List UInt8 × Value)) (i : Nat), (findI k es i).map (·.2) = es.lookup k
  | [], _ => rfl
  | p :: es, i => by
    rw [findI, List.lookup]
    cases h : k == p.1 with
    | true => simp
    | false => simp [findI_lookup k es]
theorem findI_erase (k : List UInt8) : ∀ (es : List (List UInt8 × Value)) (i : Nat), match findI k es i with | none => es.eraseP (fun p => k == p.1) = es | some (j, _) => i ≤ j ∧ j - i < es.length ∧ es.eraseIdx (j - i) = es.eraseP (fun p => k == p.1)
  | [], _ => rfl
  | p :: es, i => by
    rw [findI]
    cases h : k == p.1 with
    | true => simp [List.eraseP, h]
    | false =>
      have ih := findI_erase k es (i + 1)
      simp only [Bool.false_eq_true, if_false]
      cases hf : findI k es (i + 1) with
      | none => rw [hf] at ih; simp only at ih ⊢; rw [List.eraseP_cons_of_neg (by simp [h]), ih]
      | some jv =>
        obtain ⟨j, v⟩ := jv
        rw [hf] at ih
        simp only at ih ⊢
        refine ⟨by omega, by simp; omega, ?_⟩
        rw [show j - i = (j - (i + 1)) + 1 by omega, List.eraseIdx_cons_succ, ih.2.2, List.eraseP_cons_of_neg (by simp [h])]
section
variable {P : Program} {kt bt : TypeId} (hk : P.underlying kt = some (.array 32 bt)) (hb : P.underlying bt = some (.int .u8)) (hsz : ∀ w, (sizeOf bt).run P w = .ok 1 w)
include hk hb hsz
theorem run_checkId (em : Bool) (k : List UInt8) (hl : k.length = 32) (w : World) : (Instr.checkKey em 10000 kt (idV k)).run P w = .ok () w := by
  rw [show (10000 : Nat) = 9998 + 1 + 1 from rfl, Instr.checkKey]
  simp only [Sem.run_bind, run_underlying hk, Result.andThen_ok, idV, hsz, Std.Legacy.Range.forIn_eq_forIn_range', Std.Legacy.Range.size, Nat.sub_zero, Nat.add_sub_cancel, Nat.div_one]
  have hl : ∀ i ∈ List.range' 0 32 1, i < 32 := fun i hi => by simpa using (List.mem_range'_1.1 hi).2
  generalize List.range' 0 32 1 = l at hl ⊢
  induction l with
  | nil => simp
  | cons i l ih =>
    have hi : i < 32 := hl i (by simp)
    have px : (part bt (bs k).toArray (i * 1)).run P w = .ok (bv (at0 k i)) w := by
      have : (bs k)[i]? = some (bv (at0 k i)) := by rw [bs_get]; simp [at0, List.getElem?_eq_getElem (show i < k.length by omega)]
      have h2 : i < (bs k).length := by rw [bs_length]; omega
      rw [List.getElem?_eq_getElem h2] at this
      injection this with this
      simp [part, isAgg, run_underlying hb, h2, this]
    have pc : (Instr.checkKey em (9998 + 1) bt (bv (at0 k i))).run P w = .ok () w := by
      rw [Instr.checkKey]
      simp [run_underlying hb, bv]
    simp only [List.forIn_cons, Sem.run_bind, hsz, px, pc, Result.andThen_ok, Sem.run_pure]
    exact ih fun j hj => hl j (by simp [hj])
theorem run_findId (k : List UInt8) (hl : k.length = 32) (w : World) : ∀ (es : List (List UInt8 × Value)) (a : List MapEntry) (i : Nat), Ids (es.map (·.1)) → a.map (fun e => (e.key, e.val)) = es.map (fun p => (idV p.1, p.2)) → (Instr.findAsking kt (idV k) a i).run P w = .ok (findI k es i) w
  | [], a, i, _, ha => by
    simp at ha
    subst ha
    rfl
  | p :: es, a, i, hi, ha => by
    cases a with
    | nil => simp at ha
    | cons e a =>
      simp only [List.map_cons, List.cons.injEq, Prod.mk.injEq] at ha
      have h1 := run_equalIn_bytes w 9998 kt bt 32 hk hb hsz k p.1 hl (hi p.1 (by simp))
      rw [show List.map Extern.Stop.cell k = bs k from rfl, show List.map Extern.Stop.cell p.1 = bs p.1 from rfl] at h1
      have h2 : (Op.equal kt (idV k) e.key).run P w = .ok (k == p.1) w := by rw [ha.1.1]; exact h1
      have ih := run_findId k hl w es a (i + 1) (fun x hx => hi x (by simp at hx ⊢; exact .inr hx)) ha.2
      rw [Instr.findAsking, findI]
      simp only [Sem.run_bind, h2, Result.andThen_ok]
      cases h : k == p.1 with
      | true => simp [ha.1.2]
      | false => simpa using ih
theorem run_findKeyId (k : List UInt8) (hl : k.length = 32) (w : World) (es : List (List UInt8 × Value)) (a : List MapEntry) (hi : Ids (es.map (·.1))) (ha : a.map (fun e => (e.key, e.val)) = es.map (fun p => (idV p.1, p.2))) : (Instr.findKey kt (idV k) a).run P w = .ok (findI k es 0) w := by
  unfold Instr.findKey
  simp only [Sem.run_bind, run_underlying hk, Result.andThen_ok]
  cases a with
  | nil =>
    simp at ha
    subst ha
    rfl
  | cons e a' =>
    have h := run_findId hk hb hsz k hl w es (e :: a') 0 hi ha
    have hn : Instr.findNow (.array 32 bt) (idV k) (e :: a') 0 = none := by
      rw [Instr.findNow]
      have : Instr.sameNow (.array 32 bt) (idV k) e.key = none := by
        unfold Instr.sameNow
        split <;> simp_all
      rw [this]
    rw [hn]
    exact h
end
section
variable {P : Program} {E : Env} {n : Nat} {K : Slots} {L : Res} {o : Oper} {C : Value → Res → Prop} {kt bt mt et : TypeId}
theorem mapP_get {g : Nat} {es : List (List UInt8 × Value)} {h : Hlt} {w : World} (hm : mapP g es h) (hi : In h w) : Ids (es.map (·.1)) ∧ ∃ a clk, w.heap[g]? = some (.map a clk) ∧ a.toList.map (fun e => (e.key, e.val)) = es.map (fun p => (idV p.1, p.2)) := by
  obtain ⟨h1, a, clk, h2, h3⟩ := hm
  exact ⟨h1, a, clk, hi _ _ h2, h3⟩
theorem run_lookupId (hm : P.underlying mt = some (.map kt et)) (hk : P.underlying kt = some (.array 32 bt)) (hb : P.underlying bt = some (.int .u8)) (hsz : ∀ w, (sizeOf bt).run P w = .ok 1 w) {z : Value} (hz : ∀ w, (zeroValue et).run P w = .ok z w)
    {g : Nat} {es : List (List UInt8 × Value)} {h : Hlt} {w : World} (hp : mapP g es h) (hi : In h w) (k : List UInt8) (hl : k.length = 32) (ok : Bool) :
    (Instr.lookup mt (.map (some g)) (idV k) ok).run P w = .ok (if ok then .tuple #[(es.lookup k).getD z, .bool (es.lookup k).isSome] else (es.lookup k).getD z) w := by
  obtain ⟨h1, a, clk, h2, h3⟩ := mapP_get hp hi
  unfold Instr.lookup
  simp only [Sem.run_bind, run_underlying hm, Result.andThen_ok, MapKept.run_getObj_map h2, Sem.run_pure, run_checkId hk hb hsz _ k hl, run_findKeyId hk hb hsz k hl w es a.toList h1 h3]
  rw [← findI_lookup k es 0]
  cases hf : findI k es 0 with
  | none => simp [hz]
  | some jv => cases ok <;> simp
/-- A key asked of a map. -/
theorem Pu_lookup {r g : Nat} {x y : Operand} {k : List UInt8} {es : List (List UInt8 × Value)} {z : Value} (ho : o.op = .lookup mt x y false) (hm : P.underlying mt = some (.map kt et)) (hk : P.underlying kt = some (.array 32 bt)) (hb : P.underlying bt = some (.int .u8)) (hsz : ∀ w, (sizeOf bt).run P w = .ok 1 w) (hz : ∀ w, (zeroValue et).run P w = .ok z w)
    (hx : evK K x = some (.map (some g))) (hy : evK K y = some (idV k)) (hl : k.length = 32) (hr : look L r = some (mapP g es)) : Pure P E n o K L ((es.lookup k).getD z) := fun a w hA hS => by
  obtain ⟨h, q1, q2⟩ := hS.read hr
  have := run_lookupId hm hk hb hsz hz q1 q2 k hl false
  simp only [Bool.false_eq_true, if_false] at this
  simp only [execOp, ho, hA.eval hx, hA.eval hy, Sem.run_bind, this]
  rfl
theorem Pu_lookupOk {r g : Nat} {x y : Operand} {k : List UInt8} {es : List (List UInt8 × Value)} {z : Value} (ho : o.op = .lookup mt x y true) (hm : P.underlying mt = some (.map kt et)) (hk : P.underlying kt = some (.array 32 bt)) (hb : P.underlying bt = some (.int .u8)) (hsz : ∀ w, (sizeOf bt).run P w = .ok 1 w) (hz : ∀ w, (zeroValue et).run P w = .ok z w)
    (hx : evK K x = some (.map (some g))) (hy : evK K y = some (idV k)) (hl : k.length = 32) (hr : look L r = some (mapP g es)) : Pure P E n o K L (.tuple #[(es.lookup k).getD z, .bool (es.lookup k).isSome]) := fun a w hA hS => by
  obtain ⟨h, q1, q2⟩ := hS.read hr
  have := run_lookupId hm hk hb hsz hz q1 q2 k hl true
  simp only [if_true] at this
  simp only [execOp, ho, hA.eval hx, hA.eval hy, Sem.run_bind, this]
  rfl
/-- A map of none. -/
theorem OpT_makeMap {r : Nat} (ho : o.op = .makeMap mt none) (k : ∀ g, C (.map (some g)) ((r, mapP g []) :: L)) : OpT P E n o K L C := fun a w Kc Q hA hS hK => by
  have hrun := run_makeMap (P := P) mt w
  unfold Oper.wp execOp
  simp only [ho, Option.map_none, Sem.run_bind, hrun, Result.andThen_ok, Sem.run_pure]
  refine hK _ _ _ (k _) (hS.new r ?_ (fun g => if g = w.heap.size then some (.map #[] 0) else none) ?_ ?_ ?_)
  · exact ⟨rfl, rfl, rfl, by simp, fun k hk _ => heap_alloc_old w _ hk⟩
  · exact ⟨fun x hx => by simp at hx, #[], 0, by simp, rfl⟩
  · intro g o h
    by_cases hg : g = w.heap.size
    · subst hg
      simp at h
      subst h
      exact heap_alloc_new w _
    · simp [hg] at h
  · intro g hg
    by_cases hg' : g = w.heap.size
    · omega
    · simp [hg'] at hg
theorem setObj_step {w : World} {g : Nat} {a : Array MapEntry} {clk : Nat} (o' : Obj) (hg : w.heap[g]? = some (.map a clk)) : Chg [g] w { w with heap := w.heap.setIfInBounds g o' } ∧ ({ w with heap := w.heap.setIfInBounds g o' } : World).heap[g]? = some o' := by
  have hlt := lt_of_heap hg
  refine ⟨⟨rfl, rfl, rfl, by simp, fun k hk hm => ?_⟩, ?_⟩
  · have : g ≠ k := fun h => hm (by simp [h])
    simp [Array.getElem?_setIfInBounds, this]
  · simp [Array.getElem?_setIfInBounds, hlt]
theorem mapP_put {w : World} {r g : Nat} {es es' : List (List UInt8 × Value)} {L : Res} {E : Env} (hS : Sat E L w) (hr : look L r = some (mapP g es)) {a : Array MapEntry} {clk : Nat} (hg : w.heap[g]? = some (.map a clk)) (a' : Array MapEntry) (clk' : Nat) (hi : Ids (es'.map (·.1))) (ha : a'.toList.map (fun e => (e.key, e.val)) = es'.map (fun p => (idV p.1, p.2))) :
    Sat E ((r, mapP g es') :: L) { w with heap := w.heap.setIfInBounds g (.map a' clk') } :=
  hS.step hr fun h hp hin => by
    obtain ⟨h1, b, c, h2, h3⟩ := hp
    obtain ⟨s1, s2⟩ := setObj_step (.map a' clk') hg
    refine ⟨[g], fun q => if q = g then some (.map a' clk') else none, by simp [h2], s1, ⟨hi, a', clk', by simp, ha⟩, fun q o ho => ?_, fun q hq => ?_⟩
    · by_cases hqg : q = g
      · subst hqg; simp at ho; subst ho; exact s2
      · simp [hqg] at ho
    · by_cases hqg : q = g
      · subst hqg; exact .inl (by simp [h2])
      · simp [hqg] at hq
/-- A key that is not there is put. -/
theorem OpT_mapAdd {r g : Nat} {x y z : Operand} {k : List UInt8} {v : Value} {es : List (List UInt8 × Value)} (ho : o.op = .mapUpdate mt x y z) (hm : P.underlying mt = some (.map kt et)) (hk : P.underlying kt = some (.array 32 bt)) (hb : P.underlying bt = some (.int .u8)) (hsz : ∀ w, (sizeOf bt).run P w = .ok 1 w)
    (hx : evK K x = some (.map (some g))) (hy : evK K y = some (idV k)) (hl : k.length = 32) (hz : evK K z = some v) (hr : look L r = some (mapP g es)) (hno : es.lookup k = none) (hc : C undef ((r, mapP g (es ++ [(k, v)])) :: L)) : OpT P E n o K L C := fun a w Kc Q hA hS hK => by
  obtain ⟨h, q1, q2⟩ := hS.read hr
  obtain ⟨h1, b, clk, h2, h3⟩ := mapP_get q1 q2
  have hf : findI k es 0 = none := by
    have := findI_lookup k es 0
    rw [hno] at this
    simpa using this
  have hrun : (Instr.mapUpdate mt (.map (some g)) (idV k) v).run P w = .ok () { w with heap := w.heap.setIfInBounds g (.map (b.push { key := idV k, val := v, born := clk }) (clk + 1)) } := by
    unfold Instr.mapUpdate
    simp only [Sem.run_bind, run_underlying hm, Result.andThen_ok, MapKept.run_getObj_map h2, Sem.run_pure, run_checkId hk hb hsz _ k hl, run_findKeyId hk hb hsz k hl w es b.toList h1 h3, hf, MapKept.run_setObj_map _ h2]
  unfold Oper.wp execOp
  simp only [ho, hA.eval hx, hA.eval hy, hA.eval hz, Sem.run_bind, hrun, Result.andThen_ok, Sem.run_pure]
  refine hK _ _ _ hc (mapP_put hS hr h2 _ _ ?_ ?_)
  · intro x hx
    simp only [List.map_append, List.map_cons, List.map_nil, List.mem_append, List.mem_singleton] at hx
    rcases hx with hx | rfl
    · exact h1 x hx
    · exact hl
  · simp [h3]
/-- A key is taken out. -/
theorem OpT_delete {r g : Nat} {x y : Operand} {k : List UInt8} {t2 : TypeId} {es : List (List UInt8 × Value)} (ho : o.op = .call { callee := .builtin .delete, args := #[x, y], argTypes := #[mt, t2] }) (hm : P.underlying mt = some (.map kt et)) (hk : P.underlying kt = some (.array 32 bt)) (hb : P.underlying bt = some (.int .u8)) (hsz : ∀ w, (sizeOf bt).run P w = .ok 1 w)
    (hx : evK K x = some (.map (some g))) (hy : evK K y = some (idV k)) (hl : k.length = 32) (hr : look L r = some (mapP g es)) (hc : C (.tuple #[]) ((r, mapP g (es.eraseP (fun p => k == p.1))) :: L)) : OpT P E n o K L C := fun a w Kc Q hA hS hK => by
  obtain ⟨h, q1, q2⟩ := hS.read hr
  obtain ⟨h1, b, clk, h2, h3⟩ := mapP_get q1 q2
  have hids : Ids ((es.eraseP (fun p => k == p.1)).map (·.1)) := fun x hx => by
    obtain ⟨p, hp, rfl⟩ := List.mem_map.1 hx
    exact h1 _ (List.mem_map_of_mem (List.mem_of_mem_eraseP hp))
  obtain ⟨b', hrun, hb'⟩ : ∃ b' : Array MapEntry, (Builtin.delete_ #[mt, t2] o.type #[.map (some g), idV k]).run P w = .ok (.tuple #[]) { w with heap := w.heap.setIfInBounds g (.map b' clk) } ∧ b'.toList.map (fun e => (e.key, e.val)) = (es.eraseP (fun p => k == p.1)).map (fun p => (idV p.1, p.2)) := by
    have he := findI_erase k es 0
    cases hf : findI k es 0 with
    | none =>
      rw [hf] at he
      refine ⟨b, ?_, by rw [he, h3]⟩
      unfold Builtin.delete_
      simp [run_underlying hm, MapKept.run_getObj_map h2, run_checkId hk hb hsz _ k hl, run_findKeyId hk hb hsz k hl w es b.toList h1 h3, hf, MapKept.run_setObj_map _ h2]
    | some jv =>
      obtain ⟨j, v⟩ := jv
      rw [hf] at he
      simp only [Nat.sub_zero] at he
      refine ⟨b.eraseIdxIfInBounds j, ?_, ?_⟩
      · unfold Builtin.delete_
        simp [run_underlying hm, MapKept.run_getObj_map h2, run_checkId hk hb hsz _ k hl, run_findKeyId hk hb hsz k hl w es b.toList h1 h3, hf, MapKept.run_setObj_map _ h2]
      · have hbl : b.toList.length = es.length := by have := congrArg List.length h3; simpa using this
        have hj : j < b.size := by have := he.2.1; simp at hbl; omega
        rw [← he.2.2]
        rw [Array.eraseIdxIfInBounds, dif_pos hj, Array.toList_eraseIdx, map_eraseIdx, map_eraseIdx, h3]
  unfold Oper.wp execOp
  simp only [ho, resolve, invoke, builtin, Sem.run_bind, Sem.run_pure, Result.andThen_ok, List.map_toArray, List.map_cons, List.map_nil, hA.eval hx, hA.eval hy, hrun]
  exact hK _ _ _ hc (mapP_put hS hr h2 _ _ hids hb')
end
end Go.Proofs.YtjiafaiklmbbeaaDoor
