/- Texts of this proof, one behind the other: Sl11, Sl12, Cat, Sl13, Rec, Ent, LayN, Sl14, Names0, LibU, TiE, TiN, NamesA, Names1, NamesE0, Names2, Blob0, BlobA, Ti, BlobB, BlobC, Blob1, Blob2, Blob3, Blob4, DirA, Dir0. -/
import Derived.Test.YtnhidehpacidnaaDoorK1
import Derived.Lib.MapLaws
import Derived.Test.YtnhidehpacidnaaDoorProg
import Derived.Shelf.Lays
import Derived.Shelf.Bodies
import Derived.Lib.LaidU8
import Derived.Shelf.Unicode.DecodeAny
import Derived.Stop.BytesEq
import Derived.Laws.StructEq
/- Symbolic states, part 11: guards that are known. -/
namespace Go.Proofs.YtnhidehpacidnaaDoor
open Go.RowKit
set_option linter.unusedVariables false
set_option linter.unusedSimpArgs false
section
variable {P : Program} {E : Env} {n : Nat} {K : Slots} {L : Res} {Q : Exit → Act → World → Prop} {ops : Array Oper} {rest : List Oper} {o : Oper} {v : Value} {S : Res} {fuel : Nat} {listed : Array Bool}
theorem WL_gT {d j dj : Nat} {want b : Bool} (hg : o.guard = some (j, want)) (hj : (ops[j]?).bind (·.dst) = some dj) (hb : look K dj = some (.bool b)) (hw : (b == want) = true) (hd : o.dst = some d) (hn : d < n)
    (h : OpT P E n o K L (fun v L' => WL P E n ops rest ((d, v) :: K) L' Q)) : WL P E n ops (o :: rest) K L Q := by
  intro a w hA hS
  refine wpList_step fun Kc hK => ?_
  have hy := yielded_of hA hj hb
  simp only [Region.wanted, hg, hy, boolOf]
  rw [if_pos (by simpa using hw)]
  refine h a w Kc Q hA hS fun v L' w' hk hS' => hK _ _ ?_
  rw [hd]
  exact hk _ _ (hA.put hn v) hS'
theorem WL_gT0 {j dj : Nat} {want b : Bool} (hg : o.guard = some (j, want)) (hj : (ops[j]?).bind (·.dst) = some dj) (hb : look K dj = some (.bool b)) (hw : (b == want) = true) (hd : o.dst = none)
    (h : OpT P E n o K L (fun v L' => WL P E n ops rest K L' Q)) : WL P E n ops (o :: rest) K L Q := by
  intro a w hA hS
  refine wpList_step fun Kc hK => ?_
  have hy := yielded_of hA hj hb
  simp only [Region.wanted, hg, hy, boolOf]
  rw [if_pos (by simpa using hw)]
  refine h a w Kc Q hA hS fun v L' w' hk hS' => hK _ _ ?_
  rw [hd]
  exact hk _ _ hA hS'
theorem WL_gF {d j dj : Nat} {want : Bool} {bv : Value} (hg : o.guard = some (j, want)) (hj : (ops[j]?).bind (·.dst) = some dj) (hb : look K dj = some bv) (hw : (boolOf bv == some want) = false) (hd : o.dst = some d) (hn : d < n)
    (k : WL P E n ops rest ((d, undef) :: K) L Q) : WL P E n ops (o :: rest) K L Q := by
  intro a w hA hS
  refine wpList_step fun Kc hK => ?_
  have hy := yielded_of hA hj hb
  simp only [Region.wanted, hg, hy]
  rw [if_neg (by simpa using hw)]
  refine hK _ _ ?_
  rw [hd]
  exact k _ _ (hA.put hn undef) hS
theorem WL_gPT {d j dj : Nat} {want b : Bool} (hg : o.guard = some (j, want)) (hj : (ops[j]?).bind (·.dst) = some dj) (hb : look K dj = some (.bool b)) (hw : (b == want) = true) (hd : o.dst = some d) (hn : d < n)
    (h : Pure P E n o K L v) (k : WL P E n ops rest ((d, v) :: K) L Q) : WL P E n ops (o :: rest) K L Q := WL_gT hg hj hb hw hd hn (OpT_run h k)
theorem Pu_pickT {c x y : Operand} {b : Bool} (ho : o.op = .pick c x y) (hc : evK K c = some (.bool b)) (hb : b = true) (hx : evK K x = some v) : Pure P E n o K L v := fun a w hA hS => by
  subst hb
  simp [execOp, ho, hA.eval hc, hA.eval hx, asBool]
theorem Pu_pickF {c x y : Operand} {b : Bool} (ho : o.op = .pick c x y) (hc : evK K c = some (.bool b)) (hb : b = false) (hy : evK K y = some v) : Pure P E n o K L v := fun a w hA hS => by
  subst hb
  simp [execOp, ho, hA.eval hc, hA.eval hy, asBool]
theorem AH_takeT (i : Nat) {d j dj : Nat} {want b : Bool} (hi : ops[i]? = some o) (hs : Region.noSelect ops = true) (hf : Region.free .any ops listed i = true) (hr : (Region.ready .any ops listed).contains i = true)
    (hg : o.guard = some (j, want)) (hj : (ops[j]?).bind (·.dst) = some dj) (hb : look K dj = some (.bool b)) (hw : (b == want) = true) (hd : o.dst = some d) (hn : d < n)
    (h : Pure P E n o K S v) (k : AH P E n ops S fuel (listed.setIfInBounds i true) ((d, v) :: K) L Q) : AH P E n ops S (fuel + 1) listed K L Q := fun a w hA hS hh => by
  have hy := yielded_of hA hj hb
  exact wpAnyH_take hi hs hf hr (fun _ _ _ h => h.elim) (.inl ⟨by simpa [Region.wanted, hg, hy, boolOf] using hw, fun w' hw' => h a w' hA hw'⟩) hh (by rw [hd]; exact k _ _ (hA.put hn _) hS hh)
theorem AH_takeF (i : Nat) {d j dj : Nat} {want : Bool} {bv : Value} (hi : ops[i]? = some o) (hs : Region.noSelect ops = true) (hf : Region.free .any ops listed i = true) (hr : (Region.ready .any ops listed).contains i = true)
    (hg : o.guard = some (j, want)) (hj : (ops[j]?).bind (·.dst) = some dj) (hb : look K dj = some bv) (hw : (boolOf bv == some want) = false) (hd : o.dst = some d) (hn : d < n)
    (k : AH P E n ops S fuel (listed.setIfInBounds i true) ((d, undef) :: K) L Q) : AH P E n ops S (fuel + 1) listed K L Q := fun a w hA hS hh => by
  have hy := yielded_of hA hj hb
  exact wpAnyH_take hi hs hf hr (fun _ _ _ h => h.elim) (v := undef) (.inr ⟨by simpa [Region.wanted, hg, hy] using hw, rfl⟩) hh (by rw [hd]; exact k _ _ (hA.put hn _) hS hh)
theorem AHs_gT {i d j dj : Nat} {rs : List Nat} {want b : Bool} (hi : ops[i]? = some o) (hg : o.guard = some (j, want)) (hj : (ops[j]?).bind (·.dst) = some dj) (hb : look K dj = some (.bool b)) (hw : (b == want) = true) (hd : o.dst = some d) (hn : d < n)
    (h : OpT P E n o K L (fun v L' => AllIn L' S ∧ AH P E n ops S fuel (listed.setIfInBounds i true) ((d, v) :: K) L' Q)) (hs : AHs P E n ops S fuel listed K L Q rs) : AHs P E n ops S fuel listed K L Q (i :: rs) := fun j' hj' a w hA hS hh => by
  rcases List.mem_cons.1 hj' with rfl | hj'
  · refine wpOp_step hi fun Kc hK => ?_
    have hy := yielded_of hA hj hb
    simp only [Region.wanted, hg, hy, boolOf]
    rw [if_pos (by simpa using hw)]
    refine h a w Kc _ hA hS fun v L' w' ⟨c1, c2⟩ hS' => ?_
    rw [hd]
    have hh' := hS'.sub c1.look
    exact hK _ _ ⟨hh', c2 _ _ (hA.put hn v) hS' hh'⟩
  · exact hs j' hj' a w hA hS hh
theorem AHs_gF {i d j dj : Nat} {rs : List Nat} {want : Bool} {bv : Value} (hi : ops[i]? = some o) (hg : o.guard = some (j, want)) (hj : (ops[j]?).bind (·.dst) = some dj) (hb : look K dj = some bv) (hw : (boolOf bv == some want) = false) (hd : o.dst = some d) (hn : d < n)
    (k : AH P E n ops S fuel (listed.setIfInBounds i true) ((d, undef) :: K) L Q) (hs : AHs P E n ops S fuel listed K L Q rs) : AHs P E n ops S fuel listed K L Q (i :: rs) := fun j' hj' a w hA hS hh => by
  rcases List.mem_cons.1 hj' with rfl | hj'
  · refine wpOp_step hi fun Kc hK => ?_
    have hy := yielded_of hA hj hb
    simp only [Region.wanted, hg, hy]
    rw [if_neg (by simpa using hw)]
    rw [hd]
    exact hK _ _ ⟨hh, k _ _ (hA.put hn undef) hS hh⟩
  · exact hs j' hj' a w hA hS hh
theorem Pu_fieldAddrE {s f off k0 : Nat} {x : Operand} {A : Addr} (ho : o.op = .fieldAddr s x f) (hx : evK K x = some (.pointer (some (A.add k0)))) (hf : fieldOff P s f = some off) : Pure P E n o K L (.pointer (some (A.add (k0 + off)))) :=
  Pu_fieldAddr ho hx hf (add_of_add A k0 off)
theorem run_ptrNil {t e : TypeId} (hu : P.underlying t = some (.pointer e)) (A : Addr) (x y : Operand) (w : World) : ((do eqGuard .eql t x y (.pointer (some A)) (.pointer none); binOp .eql t (.pointer (some A)) (.pointer none) : Sem Value)).run P w = .ok (.bool false) w := by
  have h : (Op.equalIn (9999 + 1) t (.pointer (some A)) (.pointer none)).run P w = .ok false w := by
    unfold Op.equalIn
    simp [run_underlying hu]
  simp only [eqGuard, binOp, Op.equal, Sem.run_bind, Sem.run_pure, Result.andThen_ok]
  simp [show Op.maxDepth = 9999 + 1 from rfl, h]
end
theorem made_bytes (n : Nat) : List.replicate n (Value.int .u8 0) = bs (List.replicate n 0) := by simp [bs, bv]
end Go.Proofs.YtnhidehpacidnaaDoor
/- Symbolic states, part 12: ranges over strings. -/
namespace Go.Proofs.YtnhidehpacidnaaDoor
open Go.RowKit
set_option linter.unusedVariables false
set_option linter.unusedSimpArgs false
/-- A string's iterator. -/
def iterP (g : Nat) (s : ByteArray) (pos : Nat) : HP := fun h => h g = some (.stringIter s pos)
section
variable {P : Program} {E : Env} {n : Nat} {K : Slots} {L : Res} {o : Oper} {C : Value → Res → Prop}
theorem OpT_next {r g pos : Nat} {s : ByteArray} {x : Operand} (ho : o.op = .next x true) (hx : evK K x = some (.pointer (some ⟨g, 0, none⟩))) (hr : look L r = some (iterP g s pos))
    (hmore : pos < s.size → C (.tuple #[.bool true, .int .i64 (pos : Int), .int .i32 ((Utf8.decode s pos).1 : Int)]) ((r, iterP g s (pos + (Utf8.decode s pos).2)) :: L)) (hend : s.size ≤ pos → C (.tuple #[.bool false]) L) : OpT P E n o K L C := fun a w Kc Q hA hS hK => by
  obtain ⟨h, q1, q2⟩ := hS.read hr
  have hg : w.heap[g]? = some (.stringIter s pos) := q2 _ _ q1
  have hget : (getObj g).run P w = .ok (.stringIter s pos) w := by simp [getObj, Sem.run, hg]
  unfold Oper.wp execOp
  simp only [ho, hA.eval hx, Sem.run_bind]
  by_cases hp : pos < s.size
  · have hset : (setObj g (.stringIter s (pos + (Utf8.decode s pos).2))).run P w = .ok () { w with heap := w.heap.setIfInBounds g (.stringIter s (pos + (Utf8.decode s pos).2)) } := by simp [setObj, Sem.run, hg]
    have hrun : (Instr.next (.pointer (some ⟨g, 0, none⟩)) true o.type).run P w = .ok (.tuple #[.bool true, .int .i64 (pos : Int), .int .i32 ((Utf8.decode s pos).1 : Int)]) { w with heap := w.heap.setIfInBounds g (.stringIter s (pos + (Utf8.decode s pos).2)) } := by
      unfold Instr.next
      simp [hget, hp, hset, goInt]
    rw [hrun]
    refine hK _ _ _ (hmore hp) (hS.step hr fun h hp2 hin => ?_)
    have hlt := lt_of_heap hg
    refine ⟨[g], fun q => if q = g then some (.stringIter s (pos + (Utf8.decode s pos).2)) else none, ?_, ?_, by simp [iterP], fun q o ho => ?_, fun q hq => ?_⟩
    · intro k hk; simp at hk; subst hk; rw [show h k = _ from hp2]; rfl
    · refine ⟨rfl, rfl, rfl, by simp, fun k hk hm => ?_⟩
      have : g ≠ k := fun h => hm (by simp [h])
      simp [Array.getElem?_setIfInBounds, this]
    · by_cases hqg : q = g
      · subst hqg; simp at ho; subst ho; simp [Array.getElem?_setIfInBounds, hlt]
      · simp [hqg] at ho
    · by_cases hqg : q = g
      · subst hqg; left; rw [show h q = _ from hp2]; rfl
      · simp [hqg] at hq
  · have hrun : (Instr.next (.pointer (some ⟨g, 0, none⟩)) true o.type).run P w = .ok (.tuple #[.bool false]) w := by
      unfold Instr.next
      simp [hget, hp]
    rw [hrun]
    exact hK _ _ _ (hend (by omega)) hS
theorem OpT_range {r t : Nat} {s : ByteArray} {x : Operand} (ho : o.op = .range t x) (hu : P.underlying t = some .string) (hx : evK K x = some (.string s)) (k : ∀ g, C (.pointer (some ⟨g, 0, none⟩)) ((r, iterP g s 0) :: L)) : OpT P E n o K L C := fun a w Kc Q hA hS hK => by
  have hrun : (Instr.range t (.string s)).run P w = .ok (.pointer (some ⟨w.heap.size, 0, none⟩)) (w.alloc (.stringIter s 0)) := by
    unfold Instr.range
    simp [run_underlying hu]
  unfold Oper.wp execOp
  simp only [ho, hA.eval hx, Sem.run_bind, hrun, Result.andThen_ok, Sem.run_pure]
  refine hK _ _ _ (k _) (hS.new r ?_ (fun g => if g = w.heap.size then some (.stringIter s 0) else none) ?_ ?_ ?_)
  · exact ⟨rfl, rfl, rfl, by simp, fun k hk _ => heap_alloc_old w _ hk⟩
  · simp [iterP]
  · intro g o h
    by_cases hg : g = w.heap.size
    · subst hg
      simp at h
      subst h
      exact heap_alloc_new w _
    · simp [hg] at h
  · intro g hg
    by_cases hg' : g = w.heap.size
    · omega
    · simp [hg'] at hg
/-- Strings put together. -/
theorem run_addStr (a b : List UInt8) (t : TypeId) (x y : Operand) (h : (strB a).size + (strB b).size ≤ 9223372036854775807) (w : World) : ((do eqGuard .add t x y (.string (strB a)) (.string (strB b)); binOp .add t (.string (strB a)) (.string (strB b)) : Sem Value)).run P w = .ok (.string (strB a ++ strB b)) w := by
  have h' : ((strB a).size : Int) + ((strB b).size : Int) ≤ 9223372036854775807 := by omega
  simp [eqGuard, binOp, Op.stringOp, h']
end
end Go.Proofs.YtnhidehpacidnaaDoor
/- Rows put together: plain words. -/
namespace Go.Proofs.YtnhidehpacidnaaDoor
/-- The first k of these, one after another. -/
def cat {α : Type} (ls : List (List α)) (k : Nat) : List α := (ls.take k).flatten
theorem cat_zero {α : Type} (ls : List (List α)) : cat ls 0 = [] := by simp [cat]
theorem cat_succ {α : Type} {ls : List (List α)} {k : Nat} (h : k < ls.length) : cat ls (k + 1) = cat ls k ++ ls.getD k [] := by
  unfold cat
  rw [List.take_add_one, List.flatten_append]
  simp [List.getElem?_eq_getElem h]
theorem cat_all {α : Type} (ls : List (List α)) : cat ls ls.length = ls.flatten := by simp [cat]
theorem cat_le {α : Type} (ls : List (List α)) (k : Nat) : (cat ls k).length ≤ ls.flatten.length := by
  unfold cat
  conv => rhs; rw [← List.take_append_drop k ls]
  rw [List.flatten_append, List.length_append]
  omega
theorem getD_at {α : Type} {vs : List α} {k : Nat} {d : α} (h : k < vs.length) : vs[k]? = some (vs.getD k d) := by simp [List.getElem?_eq_getElem h]
end Go.Proofs.YtnhidehpacidnaaDoor
/- Symbolic states, part 13: strings. -/
namespace Go.Proofs.YtnhidehpacidnaaDoor
open Go.RowKit
set_option linter.unusedVariables false
set_option linter.unusedSimpArgs false
/-- A string's value. -/
abbrev sV (l : List UInt8) : Value := .string (strB l)
theorem strB_append (a b : List UInt8) : strB a ++ strB b = strB (a ++ b) := by
  apply ByteArray.ext
  simp [strB]
theorem strB_data (s : ByteArray) : s = strB s.data.toList := by
  apply ByteArray.ext
  simp [strB]
theorem strB_extract (l : List UInt8) (a b : Nat) : (strB l).extract a b = strB ((l.drop a).take (b - a)) := by
  apply ByteArray.ext
  simp [strB, ByteArray.data_extract, List.extract_eq_take_drop]
theorem strB_get (l : List UInt8) (k : Nat) (h : k < l.length) : (strB l)[k]? = some (at0 l k) := by
  have h' : k < (strB l).size := by rw [strB_size]; exact h
  rw [getElem?_pos (strB l) k h']
  simp only [strB, at0, Option.some.injEq]
  show l.toArray[k] = _
  simp [h]
  rfl
section
variable {P : Program} {E : Env} {n : Nat} {K : Slots} {L : Res} {o : Oper} {C : Value → Res → Prop}
theorem Pu_lenStr {t : TypeId} {x : Operand} {l : List UInt8} (ho : o.op = .call { callee := .builtin .len, args := #[x], argTypes := #[t] }) (hu : P.underlying t = some .string) (hx : evK K x = some (sV l)) : Pure P E n o K L (.int .i64 (l.length : Int)) := fun a w hA hS => by
  simp [execOp, ho, resolve, invoke, builtin, hA.eval hx, Builtin.len_, run_underlying hu, goInt, strB_size]
theorem Pu_idxStr {t : TypeId} {x y : Operand} {l : List UInt8} {kd : IntKind} {ix : Int} (ho : o.op = .index t x y) (hu : P.underlying t = some .string) (hx : evK K x = some (sV l)) (hy : evK K y = some (.int kd ix)) (hi : 0 ≤ ix ∧ ix < (l.length : Int)) : Pure P E n o K L (bv (at0 l ix.toNat)) := fun a w hA hS => by
  have h := strB_get l ix.toNat (by omega)
  simp [execOp, ho, hA.eval hx, hA.eval hy, Instr.index, asIntOf, run_underlying hu, hi.1, h, bv]
theorem run_sliceStr (w : World) {t : TypeId} {l : List UInt8} (hu : P.underlying t = some .string) {lo hi : Option Value} {a b : Nat}
    (hlo : (lo = none ∧ a = 0) ∨ ∃ k i, lo = some (.int k i) ∧ i = (a : Int)) (hhi : (hi = none ∧ b = l.length) ∨ ∃ k i, hi = some (.int k i) ∧ i = (b : Int)) (hab : a ≤ b) (hbc : b ≤ l.length) :
    (Instr.sliceAt t (sV l) lo hi none).run P w = .ok (sV ((l.drop a).take (b - a))) w := by
  have hb : (Instr.sliceBounds false (strB l).size (strB l).size lo hi none).run P w = .ok (a, b, (strB l).size) w := by
    have sb : ∀ (k : IntKind) (a y : Nat) (code : BoundsCode), a ≤ y → (Instr.sliceBound (.int k (a : Int)) y code).run P w = .ok a w := by
      intro k a y code h
      simp only [Instr.sliceBound, asIntOf, Sem.run_bind, Sem.run_pure, Result.andThen_ok]
      rw [if_pos (by omega)]
      simp
    unfold Instr.sliceBounds
    rw [strB_size]
    rcases hlo with ⟨rfl, rfl⟩ | ⟨k, i, rfl, rfl⟩ <;> rcases hhi with ⟨rfl, rfl⟩ | ⟨k', i', rfl, rfl⟩
    all_goals simp only [Sem.run_bind, Sem.run_pure, Result.andThen_ok, sb _ _ _ _ hbc, sb _ _ _ _ hab, if_true, Bool.false_eq_true, if_false, Option.isSome_none]
  unfold Instr.sliceAt
  simp only [Sem.run_bind, run_underlying hu, Result.andThen_ok]
  unfold Instr.slice
  simp only [Sem.run_bind, run_underlying hu, Result.andThen_ok, hb, Sem.run_pure, strB_extract, Option.isSome_none, Bool.false_eq_true, if_false]
theorem Pu_sliceStr {t : TypeId} {a b : Nat} {x : Operand} {lo hi : Option Operand} {l : List UInt8} (ho : o.op = .slice t x lo hi none) (hu : P.underlying t = some .string)
    (hx : evK K x = some (sV l))
    (hlo : (lo = none ∧ a = 0) ∨ ∃ y k i, lo = some y ∧ evK K y = some (.int k i) ∧ i = (a : Int)) (hhi : (hi = none ∧ b = l.length) ∨ ∃ y k i, hi = some y ∧ evK K y = some (.int k i) ∧ i = (b : Int)) (hab : a ≤ b) (hbm : b ≤ l.length) : Pure P E n o K L (sV ((l.drop a).take (b - a))) :=
  (fun ac w hA hS => by
    have := run_sliceStr (P := P) w hu (l := l) (lo := lo.map ac.eval) (hi := hi.map ac.eval) (a := a) (b := b)
      (by rcases hlo with ⟨rfl, rfl⟩ | ⟨y, k, i, rfl, hy, hi⟩
          · exact .inl ⟨rfl, rfl⟩
          · exact .inr ⟨k, i, by simp [hA.eval hy], hi⟩)
      (by rcases hhi with ⟨rfl, rfl⟩ | ⟨y, k, i, rfl, hy, hi⟩
          · exact .inl ⟨rfl, rfl⟩
          · exact .inr ⟨k, i, by simp [hA.eval hy], hi⟩) hab hbm
    simp only [execOp, ho, hA.eval hx, Option.map_none, Sem.run_bind, this]; rfl)
theorem Pu_sliceStrE {t : TypeId} {a b : Nat} {x : Operand} {lo hi : Option Operand} {l l' : List UInt8} (ho : o.op = .slice t x lo hi none) (hu : P.underlying t = some .string)
    (hx : evK K x = some (sV l))
    (hlo : (lo = none ∧ a = 0) ∨ ∃ y k i, lo = some y ∧ evK K y = some (.int k i) ∧ i = (a : Int)) (hhi : (hi = none ∧ b = l.length) ∨ ∃ y k i, hi = some y ∧ evK K y = some (.int k i) ∧ i = (b : Int)) (hab : a ≤ b) (hbm : b ≤ l.length) (hl : (l.drop a).take (b - a) = l') : Pure P E n o K L (sV l') := by
  subst hl
  exact Pu_sliceStr ho hu hx hlo hhi hab hbm
theorem take_rest (l : List UInt8) (a : Nat) : (l.drop a).take (l.length - a) = l.drop a := List.take_of_length_le (by simp)
theorem take_front (l : List UInt8) (b : Nat) : (l.drop 0).take (b - 0) = l.take b := by simp
theorem run_addL (a b : List UInt8) (t : TypeId) (x y : Operand) (h : a.length + b.length ≤ 9223372036854775807) (w : World) : ((do eqGuard .add t x y (sV a) (sV b); binOp .add t (sV a) (sV b) : Sem Value)).run P w = .ok (sV (a ++ b)) w := by
  have := run_addStr (P := P) a b t x y (by rw [strB_size, strB_size]; exact h) w
  rw [strB_append] at this
  exact this
theorem run_lssStr (a b : List UInt8) (t : TypeId) (x y : Operand) (w : World) : ((do eqGuard .lss t x y (sV a) (sV b); binOp .lss t (sV a) (sV b) : Sem Value)).run P w = .ok (.bool (Op.bytesLess a b)) w := by
  simp [eqGuard, binOp, Op.stringOp, strB_toList]
/-- The next rune of a string, whatever it is. -/
def nextV (s : ByteArray) (pos : Nat) : Value := if pos < s.size then .tuple #[.bool true, .int .i64 (pos : Int), .int .i32 ((Utf8.decode s pos).1 : Int)] else .tuple #[.bool false]
theorem OpT_nextM {r g pos : Nat} {s : ByteArray} {x : Operand} (ho : o.op = .next x true) (hx : evK K x = some (.pointer (some ⟨g, 0, none⟩))) (hr : look L r = some (iterP g s pos)) (hmore : pos < s.size)
    (k : C (.tuple #[.bool true, .int .i64 (pos : Int), .int .i32 ((Utf8.decode s pos).1 : Int)]) ((r, iterP g s (pos + (Utf8.decode s pos).2)) :: L)) : OpT P E n o K L C :=
  OpT_next ho hx hr (fun _ => k) (fun h => by omega)
theorem OpT_nextE {r g pos : Nat} {s : ByteArray} {x : Operand} (ho : o.op = .next x true) (hx : evK K x = some (.pointer (some ⟨g, 0, none⟩))) (hr : look L r = some (iterP g s pos)) (hend : s.size ≤ pos)
    (k : C (.tuple #[.bool false]) L) : OpT P E n o K L C :=
  OpT_next ho hx hr (fun h => by omega) (fun _ => k)
theorem decode_at (l : List UInt8) (i : Nat) : Utf8.decode (strB l) i = Lib.decodeL (l.drop i) := by
  rw [← Lib.decodeL_drop]
  simp [strB]
theorem OpT_nextL {r g pos : Nat} {l : List UInt8} {x : Operand} (ho : o.op = .next x true) (hx : evK K x = some (.pointer (some ⟨g, 0, none⟩))) (hr : look L r = some (iterP g (strB l) pos)) (hmore : pos < l.length)
    (k : C (.tuple #[.bool true, .int .i64 (pos : Int), .int .i32 ((Lib.decodeL (l.drop pos)).1 : Int)]) ((r, iterP g (strB l) (pos + (Lib.decodeL (l.drop pos)).2)) :: L)) : OpT P E n o K L C :=
  OpT_nextM ho hx hr (by rw [strB_size]; exact hmore) (by rw [decode_at]; exact k)
theorem OpT_nextLE {r g pos : Nat} {l : List UInt8} {x : Operand} (ho : o.op = .next x true) (hx : evK K x = some (.pointer (some ⟨g, 0, none⟩))) (hr : look L r = some (iterP g (strB l) pos)) (hend : l.length ≤ pos)
    (k : C (.tuple #[.bool false]) L) : OpT P E n o K L C := OpT_nextE ho hx hr (by rw [strB_size]; exact hend) k
end
/-- A row of strings. -/
def ss (ls : List (List UInt8)) : List Value := ls.map sV
theorem ss_length (ls : List (List UInt8)) : (ss ls).length = ls.length := by simp [ss]
theorem ss_append (a b : List (List UInt8)) : ss (a ++ b) = ss a ++ ss b := by simp [ss]
theorem ss_at {ls : List (List UInt8)} {k : Nat} (h : k < ls.length) : (ss ls)[k]? = some (sV (ls.getD k [])) := by simp [ss, h]
theorem ss_one (ls : List (List UInt8)) : ∀ u ∈ ss ls, u.oneCell' = true := by
  intro u hu
  simp only [ss, List.mem_map] at hu
  obtain ⟨x, _, rfl⟩ := hu
  rfl
theorem ss_cells (ls : List (List UInt8)) : ∀ u ∈ ss ls, u.cells = #[u] := by
  intro u hu
  simp only [ss, List.mem_map] at hu
  obtain ⟨x, _, rfl⟩ := hu
  rfl
/-- Strings that can be read; a row of strings. -/
abbrev rdS (v : Value) (ls : List (List UInt8)) : HP := rdP 1 v ls.length (ss ls)
def rowS (e : TypeId) (v : Value) (ls : List (List UInt8)) : HP := rowP e 1 v ls.length (ss ls)
theorem rowS_rd {e : TypeId} {v : Value} {ls : List (List UInt8)} : ∀ h, rowS e v ls h → rdS v ls h := fun h hr => rowP_rd hr
theorem rowS_of {e : TypeId} {v : Value} {n : Nat} {xs : List Value} (ls : List (List UInt8)) (hn : n = ls.length) (hx : xs = ss ls) : rowP e 1 v n xs = rowS e v ls := by subst hn; subst hx; rfl
end Go.Proofs.YtnhidehpacidnaaDoor
/- Rows of structs: each so many cells. -/
namespace Go.Proofs.YtnhidehpacidnaaDoor
open Go.RowKit
set_option linter.unusedVariables false
set_option linter.unusedSimpArgs false
def recC {α : Type} (f : α → List Value) (es : List α) : List Value := (es.map f).flatten
section
variable {α : Type} {f : α → List Value} {S : Nat} {es : List α} {d : α}
theorem recC_append (a b : List α) : recC f (a ++ b) = recC f a ++ recC f b := by simp [recC]
theorem recC_one (x : α) : recC f [x] = f x := by simp [recC]
theorem recC_nil : recC f [] = [] := rfl
theorem recC_length (h : ∀ e ∈ es, (f e).length = S) : (recC f es).length = es.length * S := by
  induction es with
  | nil => simp [recC]
  | cons e es ih =>
    have h1 := ih fun x hx => h x (by simp [hx])
    have h2 := h e (by simp)
    simp only [recC, List.map_cons, List.flatten_cons, List.length_append, List.length_cons] at h1 ⊢
    rw [h1, h2, Nat.add_mul]
    omega
theorem getD_split {k : Nat} (hk : k < es.length) : es = es.take k ++ ([es.getD k d] ++ es.drop (k + 1)) := by
  rw [show es.getD k d = es[k] by simp [hk], List.singleton_append, ← List.drop_eq_getElem_cons hk, List.take_append_drop]
theorem getD_mem' {k : Nat} (hk : k < es.length) : es.getD k d ∈ es := by rw [show es.getD k d = es[k] by simp [hk]]; exact List.getElem_mem hk
theorem recC_at (h : ∀ e ∈ es, (f e).length = S) {k j : Nat} (hk : k < es.length) (hj : j < S) : (recC f es)[k * S + j]? = (f (es.getD k d))[j]? := by
  have hx := h _ (getD_mem' (d := d) hk)
  have hl : (recC f (es.take k)).length = k * S := by
    rw [recC_length fun e he => h e (List.mem_of_mem_take he), List.length_take, Nat.min_eq_left (by omega)]
  conv => lhs; rw [getD_split (d := d) hk]
  rw [recC_append, recC_append, recC_one, List.getElem?_append_right (by omega), hl, Nat.add_sub_cancel_left, List.getElem?_append_left (by omega)]
theorem recC_get (h : ∀ e ∈ es, (f e).length = S) {k : Nat} (hk : k < es.length) : ((recC f es).drop (k * S)).take S = f (es.getD k d) := by
  have hx := h _ (getD_mem' (d := d) hk)
  apply List.ext_getElem?
  intro j
  rw [List.getElem?_take]
  split
  · rename_i hj; rw [List.getElem?_drop, recC_at (d := d) h hk hj]
  · rename_i hj; rw [List.getElem?_eq_none (by omega)]
theorem recC_rd (h : ∀ e ∈ es, (f e).length = S) {v : Value} {n k off m : Nat} {hh : Hlt} {xs : List Value} (hr : rdP S v n (recC f es) hh) (hn : n = es.length) (hk : k < es.length) (hm : off + m ≤ S) (hx : ((f (es.getD k d)).drop off).take m = xs) :
    rdP 1 (.slice (some ((adrOf v).add (k * S + off))) m m) m xs hh := by
  have hfl := h _ (getD_mem' (d := d) hk)
  obtain ⟨h1, A, c, rfl, h3, h4, h5⟩ := hr
  refine ⟨by rw [← hx, List.length_take, List.length_drop]; omega, _, m, rfl, Nat.le_refl _, fun h => (by cases h), fun ad had j u hu => ?_⟩
  injection had with had
  subst had
  cases A with
  | none => have := h4 rfl; omega
  | some ad =>
    rw [← hx, List.getElem?_take] at hu
    split at hu
    · rename_i hj
      rw [List.getElem?_drop] at hu
      have := h5 ad rfl (k * S + (off + j)) u (by rw [recC_at (d := d) h hk (by omega)]; exact hu)
      rw [add_of_add, Nat.add_assoc]
      exact this
    · cases hu
theorem recC_set (h : ∀ e ∈ es, (f e).length = S) {k : Nat} (hk : k < es.length) {x : α} (hx : (f x).length = S) : over (recC f es) (k * S) (f x) = recC f (es.set k x) := by
  have hl : (recC f (es.take k)).length = k * S := by
    rw [recC_length fun e he => h e (List.mem_of_mem_take he), List.length_take, Nat.min_eq_left (by omega)]
  have hf := h _ (getD_mem' (d := x) hk)
  have e2 : es.set k x = es.take k ++ ([x] ++ es.drop (k + 1)) := by rw [List.set_eq_take_append_cons_drop, if_pos hk]; rfl
  rw [e2, recC_append, recC_append, recC_one]
  conv => lhs; rw [getD_split (d := x) hk]
  rw [recC_append, recC_append, recC_one, ← hl]
  exact over_mid _ _ _ _ (by rw [hf, hx])
theorem over_in (a b c u : List Value) (off : Nat) (h : off + u.length ≤ b.length) : over (a ++ (b ++ c)) (a.length + off) u = a ++ (over b off u ++ c) := by
  unfold over
  rw [List.take_append, List.take_of_length_le (by omega), show a.length + off - a.length = off by omega, List.take_append_of_le_length (by omega)]
  rw [List.drop_append, List.drop_of_length_le (show a.length ≤ a.length + off + u.length by omega), List.nil_append, show a.length + off + u.length - a.length = off + u.length by omega]
  rw [List.drop_append_of_le_length h]
  simp [List.append_assoc]
/-- A field's cells turned. -/
theorem recC_setF (h : ∀ e ∈ es, (f e).length = S) {k off : Nat} (hk : k < es.length) {x : α} {us : List Value} (hu : off + us.length ≤ S) (hx : over (f (es.getD k d)) off us = f x) : over (recC f es) (k * S + off) us = recC f (es.set k x) := by
  have hl : (recC f (es.take k)).length = k * S := by
    rw [recC_length fun e he => h e (List.mem_of_mem_take he), List.length_take, Nat.min_eq_left (by omega)]
  have hf := h _ (getD_mem' (d := d) hk)
  have e2 : es.set k x = es.take k ++ ([x] ++ es.drop (k + 1)) := by rw [List.set_eq_take_append_cons_drop, if_pos hk]; rfl
  rw [e2, recC_append, recC_append, recC_one]
  conv => lhs; rw [getD_split (d := d) hk]
  rw [recC_append, recC_append, recC_one, ← hl, over_in _ _ _ _ _ (by omega), hx]
theorem recC_ones (h : ∀ e, ∀ u ∈ f e, u.oneCell' = true) : ∀ u ∈ recC f es, u.oneCell' = true := by
  intro u hu
  simp only [recC, List.mem_flatten, List.mem_map] at hu
  obtain ⟨xs, ⟨e, _, rfl⟩, hu⟩ := hu
  exact h e u hu
end
/-- A row of structs. -/
def rowR {α : Type} (f : α → List Value) (S : Nat) (e : TypeId) (v : Value) (es : List α) : HP := rowP e S v es.length (recC f es)
abbrev rdR {α : Type} (f : α → List Value) (S : Nat) (v : Value) (es : List α) : HP := rdP S v es.length (recC f es)
theorem rowR_rd {α : Type} {f : α → List Value} {S : Nat} {e : TypeId} {v : Value} {es : List α} : ∀ h, rowR f S e v es h → rdR f S v es h := fun h hr => rowP_rd hr
theorem rowR_of {α : Type} {f : α → List Value} {S : Nat} {e : TypeId} {v : Value} {n : Nat} {xs : List Value} (es : List α) (hn : n = es.length) (hx : xs = recC f es) : rowP e S v n xs = rowR f S e v es := by subst hn; subst hx; rfl
section
variable {P : Program} {E : Env} {n : Nat} {K : Slots} {L : Res} {o : Oper} {C : Value → Res → Prop}
/-- A whole struct stored into a row. -/
theorem OpT_storeRec {α : Type} {t r e m S : Nat} {x y : Operand} {v : Value} {es : List α} (f : α → List Value) (k : Nat) (z : α) (ho : o.op = .store t x y) (hs : ∀ w, (sizeOf t).run P w = .ok S w) (hx : evK K x = some (.pointer (some ((adrOf v).add (k * S))))) (hy : evK K y = some (.agg (f z).toArray)) (hr : look L r = some (rowP e S v m (recC f es)))
    (hE : ∀ e ∈ es, (f e).length = S) (hk : k < es.length) (hz : (f z).length = S) (hS : 0 < S) (h1 : ∀ u ∈ f z, u.oneCell' = true) (q : C undef ((r, rowP e S v m (recC f (es.set k z))) :: L)) : OpT P E n o K L C :=
  OpT_storeS (u := .agg (f z).toArray) ho (by simp [Value.cells, hz]; exact hs) hx hy hr (by simp [Value.cells, hz]; exact hS)
    (by simp only [Value.cells, List.size_toArray]; rw [recC_length hE, hz]; have := Nat.mul_le_mul_right S (show k + 1 ≤ es.length by omega); rw [Nat.add_mul, Nat.one_mul] at this; exact this)
    (by simpa [Value.cells] using h1) (by simp only [Value.cells, List.toList_toArray]; exact recC_set hE hk hz) q
end
end Go.Proofs.YtnhidehpacidnaaDoor
/- Entries of directories in memory. -/
namespace Go.Proofs.YtnhidehpacidnaaDoor
open Go.RowKit
set_option linter.unusedVariables false
abbrev Ent := List UInt8 × List UInt8
def entC (nm id : List UInt8) : List Value := sV nm :: bs id
def entF (e : Ent) : List Value := entC e.1 e.2
def Ents (es : List Ent) : Prop := ∀ e ∈ es, e.2.length = 32
def ent0 : Ent := ([], [])
theorem entC_length {nm id : List UInt8} (h : id.length = 32) : (entC nm id).length = 33 := by simp [entC, bs_length, h]
theorem Ents.len {es : List Ent} (h : Ents es) : ∀ e ∈ es, (entF e).length = 33 := fun e he => entC_length (h e he)
theorem Ents.get {es : List Ent} (h : Ents es) {k : Nat} (hk : k < es.length) : (es.getD k ent0).2.length = 32 := h _ (getD_mem' hk)
theorem entC_one (nm id : List UInt8) : ∀ u ∈ entC nm id, u.oneCell' = true := by
  intro u hu
  rcases List.mem_cons.1 hu with rfl | hu
  · rfl
  · exact bs_one id u hu
theorem entF_one : ∀ e : Ent, ∀ u ∈ entF e, u.oneCell' = true := fun e => entC_one _ _
abbrev rdE (v : Value) (es : List Ent) : HP := rdR entF 33 v es
abbrev rowE (e : TypeId) (v : Value) (es : List Ent) : HP := rowR entF 33 e v es
theorem ent_name {es : List Ent} (h : Ents es) {k : Nat} (hk : k < es.length) : (recC entF es)[k * 33 + 0]? = some (sV (es.getD k ent0).1) := by
  rw [recC_at (d := ent0) h.len hk (by omega)]; rfl
theorem ent_name0 {es : List Ent} (h : Ents es) {k : Nat} (hk : k < es.length) : (recC entF es)[k * 33]? = some (sV (es.getD k ent0).1) := by have := ent_name h hk; rwa [Nat.add_zero] at this
theorem ent_all {es : List Ent} (h : Ents es) {k : Nat} (hk : k < es.length) : ((recC entF es).drop (k * 33)).take 33 = entC (es.getD k ent0).1 (es.getD k ent0).2 := recC_get (d := ent0) h.len hk
theorem ent_id {es : List Ent} (hE : Ents es) {v : Value} {n k : Nat} {hh : Hlt} (hr : rdP 33 v n (recC entF es) hh) (hn : n = es.length) (hk : k < es.length) : rdP 1 (.slice (some ((adrOf v).add (k * 33 + 1))) 32 32) 32 (bs (es.getD k ent0).2) hh :=
  recC_rd (d := ent0) hE.len hr hn hk (by omega) (by
    have hx := hE.get hk
    show ((entC (es.getD k ent0).1 (es.getD k ent0).2).drop 1).take 32 = _
    unfold entC
    rw [List.drop_succ_cons, List.drop_zero]
    exact List.take_of_length_le (by rw [bs_length, hx]; omega))
end Go.Proofs.YtnhidehpacidnaaDoor
/- The shelf's contracts laid at this program: which of its functions, types and variables are meant. -/
namespace Go.Proofs.YtnhidehpacidnaaDoor
open Go.RowKit Go.Shelf
set_option linter.unusedVariables false
/-- The numbers. -/
def ren : Ren := {
  f := fun n => match n with
    | 197 => 25
    | 260 => 28
    | n => n,
  t := fun n => match n with
    | 0 => 0
    | 3 => 3
    | 4 => 4
    | 5 => 5
    | 9 => 9
    | 21 => 21
    | 46 => 66
    | 105 => 62
    | 119 => 67
    | 138 => 69
    | 139 => 70
    | n => n,
  g := fun n => match n with
    | 3 => 0
    | 4 => 1
    | n => n }
theorem lays197 : Lays.n197 Tryd.prog ren where
  mixed := by kernel_rfl
  f197 := by kernel_rfl
  f260 := by kernel_rfl
  t0 := Tryd.underlying0
  a0 := Tryd.isAgg0
  z0 := Tryd.sizeOf0
  v0 := Tryd.zeroValue0
  t3 := Tryd.underlying3
  a3 := Tryd.isAgg3
  z3 := Tryd.sizeOf3
  v3 := Tryd.zeroValue3
  t4 := Tryd.underlying4
  a4 := Tryd.isAgg4
  z4 := Tryd.sizeOf4
  v4 := Tryd.zeroValue4
  t5 := Tryd.underlying5
  a5 := Tryd.isAgg5
  z5 := Tryd.sizeOf5
  v5 := Tryd.zeroValue5
  t9 := Tryd.underlying9
  a9 := Tryd.isAgg9
  z9 := Tryd.sizeOf9
  v9 := Tryd.zeroValue9
  t21 := Tryd.underlying21
  a21 := Tryd.isAgg21
  z21 := Tryd.sizeOf21
  v21 := Tryd.zeroValue21
  t46 := Tryd.underlying66
  a46 := Tryd.isAgg66
  z46 := Tryd.sizeOf66
  v46 := Tryd.zeroValue66
  t105 := Tryd.underlying62
  a105 := Tryd.isAgg62
  z105 := Tryd.sizeOf62
  v105 := Tryd.zeroValue62
  t119 := Tryd.underlying67
  a119 := Tryd.isAgg67
  z119 := Tryd.sizeOf67
  t138 := Tryd.underlying69
  a138 := Tryd.isAgg69
  z138 := Tryd.sizeOf69
  v138 := Tryd.zeroValue69
  t139 := Tryd.underlying70
  a139 := Tryd.isAgg70
  z139 := Tryd.sizeOf70
  v139 := Tryd.zeroValue70
  g3 := by kernel_rfl
  g4 := by kernel_rfl
theorem lays260 : Lays.n260 Tryd.prog ren where
  mixed := by kernel_rfl
  f260 := by kernel_rfl
  t0 := Tryd.underlying0
  a0 := Tryd.isAgg0
  z0 := Tryd.sizeOf0
  v0 := Tryd.zeroValue0
  t3 := Tryd.underlying3
  a3 := Tryd.isAgg3
  z3 := Tryd.sizeOf3
  v3 := Tryd.zeroValue3
  t4 := Tryd.underlying4
  a4 := Tryd.isAgg4
  z4 := Tryd.sizeOf4
  v4 := Tryd.zeroValue4
  t5 := Tryd.underlying5
  a5 := Tryd.isAgg5
  z5 := Tryd.sizeOf5
  v5 := Tryd.zeroValue5
  t9 := Tryd.underlying9
  a9 := Tryd.isAgg9
  z9 := Tryd.sizeOf9
  v9 := Tryd.zeroValue9
  t21 := Tryd.underlying21
  a21 := Tryd.isAgg21
  z21 := Tryd.sizeOf21
  v21 := Tryd.zeroValue21
  t46 := Tryd.underlying66
  a46 := Tryd.isAgg66
  z46 := Tryd.sizeOf66
  v46 := Tryd.zeroValue66
  t119 := Tryd.underlying67
  a119 := Tryd.isAgg67
  z119 := Tryd.sizeOf67
  t138 := Tryd.underlying69
  a138 := Tryd.isAgg69
  z138 := Tryd.sizeOf69
  v138 := Tryd.zeroValue69
  t139 := Tryd.underlying70
  a139 := Tryd.isAgg70
  z139 := Tryd.sizeOf70
  v139 := Tryd.zeroValue70
  g3 := by kernel_rfl
  g4 := by kernel_rfl
theorem laysU : U8Extra Tryd.prog ren where
  n3 := by kernel_rfl
  n4 := by kernel_rfl
  y3 := by kernel_rfl
  y4 := by kernel_rfl
  c5 := by kernel_rfl
  c119 := by kernel_rfl
  c138 := by kernel_rfl
theorem cell_keep {W w : World} (h : ∀ (g : Nat) (o : Obj), W.heap[g]? = some o → w.heap[g]? = some o) {a : Addr} {v : Value} (hc : W.cell? a = some v) : w.cell? a = some v := by
  unfold World.cell? at hc ⊢
  cases hb : W.heap[a.block]? with
  | none => simp [hb] at hc
  | some o => rw [h _ _ hb]; rw [hb] at hc; exact hc
/-- What else is read of the library's variables: nothing. -/
def extraV (w : World) : Prop := True
theorem extra_keep {W w : World} (h : ∀ (g : Nat) (o : Obj), W.heap[g]? = some o → w.heap[g]? = some o) (hx : extraV W) : extraV w := hx
end Go.Proofs.YtnhidehpacidnaaDoor
/- Symbolic states, part 14: bits of bytes and of runes; an index into a string at a known place. -/
namespace Go.Proofs.YtnhidehpacidnaaDoor
open Go.RowKit
set_option linter.unusedVariables false
set_option linter.unusedSimpArgs false
theorem at0_drop (l : List UInt8) (i j : Nat) : (l.drop i).getD j 0 = at0 l (i + j) := by simp [at0, List.getElem?_drop]
section
variable {P : Program} {E : Env} {n : Nat} {K : Slots} {L : Res} {o : Oper} {C : Value → Res → Prop}
theorem Pu_idxStrN (k : Nat) {t : TypeId} {x y : Operand} {l : List UInt8} {kd : IntKind} {ix : Int} (ho : o.op = .index t x y) (hu : P.underlying t = some .string) (hx : evK K x = some (sV l)) (hy : evK K y = some (.int kd ix)) (hik : ix = (k : Int)) (hi : k < l.length) : Pure P E n o K L (bv (at0 l k)) := by
  subst hik
  exact Pu_idxStr ho hu hx hy (by omega)
theorem run_and {k : IntKind} (a b : Int) {r : Int} (h : bits .and k a b = r) (t : TypeId) (x y : Operand) (w : World) : ((do eqGuard .and t x y (.int k a) (.int k b); binOp .and t (.int k a) (.int k b) : Sem Value)).run P w = .ok (.int k r) w := by
  simp only [eqGuard, Sem.run_bind, Sem.run_pure]
  rw [binOp_and, intBits_and, h]
  rfl
theorem run_orB {k : IntKind} (a b : Int) {r : Int} (h : bits .or k a b = r) (t : TypeId) (x y : Operand) (w : World) : ((do eqGuard .or t x y (.int k a) (.int k b); binOp .or t (.int k a) (.int k b) : Sem Value)).run P w = .ok (.int k r) w := by
  simp only [eqGuard, Sem.run_bind, Sem.run_pure]
  rw [binOp_or, intBits_or, h]
  rfl
theorem u8n (x : UInt8) : (0 : Int) ≤ (x.toNat : Int) ∧ (x.toNat : Int) < 256 := by have := x.toNat_lt; omega
theorem run_and31 (x : UInt8) (t : TypeId) (y z : Operand) (w : World) : ((do eqGuard .and t y z (bv x) (.int .u8 31); binOp .and t (bv x) (.int .u8 31) : Sem Value)).run P w = .ok (.int .u8 ((x.toNat % 32 : Nat) : Int)) w :=
  run_and _ _ (by rw [u8_and31 _ (u8n x).1 (u8n x).2]; omega) t y z w
theorem run_and15 (x : UInt8) (t : TypeId) (y z : Operand) (w : World) : ((do eqGuard .and t y z (bv x) (.int .u8 15); binOp .and t (bv x) (.int .u8 15) : Sem Value)).run P w = .ok (.int .u8 ((x.toNat % 16 : Nat) : Int)) w :=
  run_and _ _ (by rw [u8_and15 _ (u8n x).1 (u8n x).2]; omega) t y z w
theorem run_and7 (x : UInt8) (t : TypeId) (y z : Operand) (w : World) : ((do eqGuard .and t y z (bv x) (.int .u8 7); binOp .and t (bv x) (.int .u8 7) : Sem Value)).run P w = .ok (.int .u8 ((x.toNat % 8 : Nat) : Int)) w :=
  run_and _ _ (by rw [u8_and7 _ (u8n x).1 (u8n x).2]; omega) t y z w
theorem run_and63 (x : UInt8) (t : TypeId) (y z : Operand) (w : World) : ((do eqGuard .and t y z (bv x) (.int .u8 63); binOp .and t (bv x) (.int .u8 63) : Sem Value)).run P w = .ok (.int .u8 ((x.toNat % 64 : Nat) : Int)) w :=
  run_and _ _ (by rw [u8_and63 _ (u8n x).1 (u8n x).2]; omega) t y z w
set_option maxRecDepth 100000 in
theorem and192 : ∀ x : Fin 256, bits .and .u8 ((x.val : Nat) : Int) 192 = ((x.val / 64 * 64 : Nat) : Int) := by decide
theorem run_and192 (x : UInt8) (t : TypeId) (y z : Operand) (w : World) : ((do eqGuard .and t y z (bv x) (.int .u8 192); binOp .and t (bv x) (.int .u8 192) : Sem Value)).run P w = .ok (.int .u8 ((x.toNat / 64 * 64 : Nat) : Int)) w :=
  run_and _ _ (and192 ⟨x.toNat, x.toNat_lt⟩) t y z w
theorem conv_small (a : Nat) (ha : a < 256) {s d : TypeId} (hs : ∀ w, (underlying s).run P w = .ok (.int .u8) w) (hd : ∀ w, (underlying d).run P w = .ok (.int .i32) w) (w : World) : (convert s d (.int .u8 (a : Int))).run P w = .ok (.int .i32 (a : Int)) w := by
  have := conv_u8 (P := P) (UInt8.ofNat a) hs hd (by simp) w
  have h2 : (UInt8.ofNat a).toNat = a := by rw [UInt8.toNat_ofNat']; omega
  unfold bv at this
  rw [h2] at this
  exact this
theorem run_shl6 (a : Nat) (t : TypeId) (x y : Operand) {kd : IntKind} (h : a < 33554432) (w : World) : ((do eqGuard .shl t x y (.int .i32 (a : Int)) (.int kd 6); binOp .shl t (.int .i32 (a : Int)) (.int kd 6) : Sem Value)).run P w = .ok (.int .i32 ((a * 64 : Nat) : Int)) w := by
  have h4 : IntKind.i32.wrap ((a : Int) * 2 ^ 6) = (a : Int) * 2 ^ 6 := by rw [IntKind.wrap_i32]; omega
  have h2 : min (6 : Nat) IntKind.i32.bits = 6 := by simp [IntKind.bits]
  simp [eqGuard, binOp, Op.shift, h2]
  rw [show ((a : Int) * 64) = (a : Int) * 2 ^ 6 by omega, h4]
theorem run_or6 (a b : Nat) (h : a < 33554432) (hb : b < 64) (t : TypeId) (x y : Operand) (w : World) : ((do eqGuard .or t x y (.int .i32 ((a * 64 : Nat) : Int)) (.int .i32 (b : Int)); binOp .or t (.int .i32 ((a * 64 : Nat) : Int)) (.int .i32 (b : Int)) : Sem Value)).run P w = .ok (.int .i32 ((a * 64 + b : Nat) : Int)) w :=
  run_orB _ _ (by rw [i32_or6 _ _ (by omega) (by omega) (by omega) (by omega) (by omega)]; omega) t x y w
end
end Go.Proofs.YtnhidehpacidnaaDoor
/- Names: what chapter 3 says of a text, in plain words. -/
namespace Go.Proofs.YtnhidehpacidnaaDoor
open Go.Lib
set_option linter.unusedVariables false
set_option linter.unusedSimpArgs false
/-- May a rune not stand in a name? -/
def wrongR (r : Nat) : Bool := r < 32 || r == 127 || r == 47
/-- Does a text begin with bytes that are no rune? -/
def noRune (l : List UInt8) : Bool := (decodeL l).1 == 65533 && decide ((decodeL l).2 ≤ 1)
def finC (n : Nat) (bad : Bool) : Nat := if bad then 10 else if 12 < n then 5 else 0
def chkF : Nat → List UInt8 → Nat → Bool → Nat
  | 0, _, n, bad => finC n bad
  | f + 1, l, n, bad => if l = [] then finC n bad else if noRune l then 11 else chkF f (l.drop (decodeL l).2) (n + 1) (bad || wrongR (decodeL l).1)
theorem chkF_nil (f n : Nat) (bad : Bool) : chkF f [] n bad = finC n bad := by cases f <;> simp [chkF]
theorem chkF_fuel : ∀ (f g : Nat) (l : List UInt8) (n : Nat) (bad : Bool), l.length ≤ f → l.length ≤ g → chkF f l n bad = chkF g l n bad
  | 0, g, l, n, bad, h, _ => by
    have : l = [] := List.eq_nil_of_length_eq_zero (by omega)
    subst this; rw [chkF_nil, chkF_nil]
  | f + 1, 0, l, n, bad, _, h => by
    have : l = [] := List.eq_nil_of_length_eq_zero (by omega)
    subst this; rw [chkF_nil, chkF_nil]
  | f + 1, g + 1, l, n, bad, h1, h2 => by
    simp only [chkF]
    split
    · rfl
    · split
      · rfl
      · have := decodeL_width l
        exact chkF_fuel f g _ _ _ (by simp; omega) (by simp; omega)
/-- What is wrong with the rest of a name, n runes behind, bad if one of them may not be. -/
def chk (l : List UInt8) (n : Nat) (bad : Bool) : Nat := chkF l.length l n bad
theorem chk_nil (n : Nat) (bad : Bool) : chk [] n bad = finC n bad := chkF_nil _ _ _
theorem chk_none {l : List UInt8} (hl : l ≠ []) (h : noRune l = true) (n : Nat) (bad : Bool) : chk l n bad = 11 := by
  unfold chk
  cases l with
  | nil => exact absurd rfl hl
  | cons x l => rw [List.length_cons, chkF, if_neg hl, if_pos h]
theorem chk_some {l : List UInt8} (hl : l ≠ []) (h : noRune l = false) (n : Nat) (bad : Bool) : chk l n bad = chk (l.drop (decodeL l).2) (n + 1) (bad || wrongR (decodeL l).1) := by
  have hw := decodeL_width l
  unfold chk
  cases l with
  | nil => exact absurd rfl hl
  | cons x l =>
    rw [List.length_cons, chkF, if_neg hl, if_neg (by simp [h])]
    exact chkF_fuel _ _ _ _ _ (by simp at hw ⊢; omega) (Nat.le_refl _)
def bad0 (l : List UInt8) : Bool := l == [] || l == [46] || l == [46, 46]
/-- What is wrong with a name. -/
def checkN (l : List UInt8) : Nat := chk l 0 (bad0 l)
theorem finC_le (n : Nat) (bad : Bool) : finC n bad = 0 ∨ finC n bad = 5 ∨ finC n bad = 10 := by unfold finC; split; simp; split <;> simp
theorem decodeL_le' {l : List UInt8} (h : l ≠ []) : (decodeL l).2 ≤ l.length := decodeL_le l h
/-- The rune and the width that the document reads. -/
def oneR (l : List UInt8) : Nat × Nat := if noRune l then (0, 0) else decodeL l
/-- The first byte's own bits, and how many bytes it asks for. -/
def lead (b : Nat) : Nat × Nat := if 192 ≤ b ∧ b < 224 then (2, b % 32) else if 224 ≤ b ∧ b < 240 then (3, b % 16) else if 240 ≤ b ∧ b < 248 then (4, b % 8) else (0, 0)
/-- The following bytes' bits. -/
def restF (l : List UInt8) (n : Nat) : Nat → Nat → Nat → Option Nat
  | 0, _, v => some v
  | f + 1, k, v => if n ≤ k then some v else if (l.getD k 0).toNat / 64 = 2 then restF l n f (k + 1) (v * 64 + (l.getD k 0).toNat % 64) else none
def finO (n v : Nat) : Nat × Nat := if 1114111 < v ∨ (55296 ≤ v ∧ v ≤ 57343) ∨ (n = 2 ∧ v < 128) ∨ (n = 3 ∧ v < 2048) ∨ (n = 4 ∧ v < 65536) then (0, 0) else (v, n)
def oneM (l : List UInt8) : Nat × Nat :=
  if (l.getD 0 0).toNat < 128 then ((l.getD 0 0).toNat, 1)
  else if (lead (l.getD 0 0).toNat).1 = 0 ∨ l.length < (lead (l.getD 0 0).toNat).1 then (0, 0)
  else match restF l (lead (l.getD 0 0).toNat).1 4 1 (lead (l.getD 0 0).toNat).2 with
    | none => (0, 0)
    | some v => finO (lead (l.getD 0 0).toNat).1 v
theorem restF_end {l : List UInt8} {n k v : Nat} (h : n ≤ k) (f : Nat) : restF l n f k v = some v := by cases f <;> simp [restF, h]
theorem restF_bad {l : List UInt8} {n k v f : Nat} (h : k < n) (hb : ¬ (l.getD k 0).toNat / 64 = 2) : restF l n (f + 1) k v = none := by rw [restF, if_neg (by omega), if_neg hb]
theorem restF_ok {l : List UInt8} {n k v f : Nat} (h : k < n) (hb : (l.getD k 0).toNat / 64 = 2) : restF l n (f + 1) k v = restF l n f (k + 1) (v * 64 + (l.getD k 0).toNat % 64) := by rw [restF, if_neg (by omega), if_pos hb]
theorem oneM_ascii {l : List UInt8} (h : (l.getD 0 0).toNat < 128) : oneM l = ((l.getD 0 0).toNat, 1) := by unfold oneM; rw [if_pos h]
theorem oneM_short {l : List UInt8} {n v : Nat} (h : ¬ (l.getD 0 0).toNat < 128) (hl : lead (l.getD 0 0).toNat = (n, v)) (hn : n = 0 ∨ l.length < n) : oneM l = (0, 0) := by
  unfold oneM; rw [if_neg h, hl, if_pos hn]
theorem oneM_none {l : List UInt8} {n v : Nat} (h : ¬ (l.getD 0 0).toNat < 128) (hl : lead (l.getD 0 0).toNat = (n, v)) (hn : ¬ (n = 0 ∨ l.length < n)) (hr : restF l n 4 1 v = none) : oneM l = (0, 0) := by
  unfold oneM; rw [if_neg h, hl, if_neg hn]; dsimp only; rw [hr]
theorem oneM_some {l : List UInt8} {n v u : Nat} (h : ¬ (l.getD 0 0).toNat < 128) (hl : lead (l.getD 0 0).toNat = (n, v)) (hn : ¬ (n = 0 ∨ l.length < n)) (hr : restF l n 4 1 v = some u) : oneM l = finO n u := by
  unfold oneM; rw [if_neg h, hl, if_neg hn]; dsimp only; rw [hr]
theorem oneR_bad {l : List UInt8} (h : decodeN l.length (l.getD 0 0).toNat (l.getD 1 0).toNat (l.getD 2 0).toNat (l.getD 3 0).toNat = (65533, 1)) : oneR l = (0, 0) := by
  unfold oneR noRune
  rw [decodeL_N, h]
  rfl
theorem oneR_ok {l : List UInt8} {r k : Nat} (h : decodeN l.length (l.getD 0 0).toNat (l.getD 1 0).toNat (l.getD 2 0).toNat (l.getD 3 0).toNat = (r, k)) (hr : r ≠ 65533 ∨ 2 ≤ k) : oneR l = (r, k) := by
  unfold oneR noRune
  rw [decodeL_N, h]
  rw [if_neg]
  intro hc
  simp at hc
  omega
set_option maxRecDepth 10000 in
set_option maxHeartbeats 4000000 in
theorem oneM_eq (l : List UInt8) (hl : l ≠ []) : oneM l = oneR l := by
  have hn : 1 ≤ l.length := List.length_pos_iff.2 hl
  have hbad := @oneR_bad l
  have hok := @oneR_ok l
  have k0 := (l.getD 0 0).toNat_lt
  have k1 := (l.getD 1 0).toNat_lt
  have k2 := (l.getD 2 0).toNat_lt
  have k3 := (l.getD 3 0).toNat_lt
  unfold oneM
  generalize (l.getD 0 0).toNat = b0 at *
  have hb : b0 < 128 ∨ (128 ≤ b0 ∧ b0 < 192) ∨ (192 ≤ b0 ∧ b0 < 224) ∨ (224 ≤ b0 ∧ b0 < 240) ∨ (240 ≤ b0 ∧ b0 < 248) ∨ (248 ≤ b0 ∧ b0 < 256) := by omega
  rcases hb with h | h | h | h | h | h
  · rw [if_pos h]
    exact (hok (by unfold decodeN; (repeat' split) <;> first | rfl | (exfalso; omega)) (.inl (by omega))).symm
  · rw [if_neg (by omega), if_pos (.inl (by unfold lead; rw [if_neg (by omega), if_neg (by omega), if_neg (by omega)]))]
    exact (hbad (by unfold decodeN; (repeat' split) <;> first | rfl | (exfalso; omega))).symm
  · rw [if_neg (by omega)]
    have hlead : lead b0 = (2, b0 % 32) := by unfold lead; rw [if_pos h]
    rw [hlead]
    dsimp only
    simp only [restF]
    generalize (l.getD 1 0).toNat = b1 at *
    generalize (l.getD 2 0).toNat = b2 at *
    generalize (l.getD 3 0).toNat = b3 at *
    by_cases h1 : l.length < 2
    · rw [if_pos (.inr h1)]; exact (hbad (by unfold decodeN; (repeat' split) <;> first | rfl | (exfalso; omega))).symm
    · rw [if_neg (by omega), if_neg (by omega)]
      by_cases h2 : b1 / 64 = 2
      · rw [if_pos h2, if_pos (by omega)]
        dsimp only
        unfold finO
        by_cases h3 : b0 % 32 * 64 + b1 % 64 < 128
        · rw [if_pos (by omega)]; exact (hbad (by unfold decodeN; (repeat' split) <;> first | rfl | (exfalso; omega))).symm
        · rw [if_neg (by omega)]; exact (hok (by unfold decodeN; (repeat' split) <;> first | rfl | (exfalso; omega)) (.inr (by omega))).symm
      · rw [if_neg h2]; exact (hbad (by unfold decodeN; (repeat' split) <;> first | rfl | (exfalso; omega))).symm
  · rw [if_neg (by omega)]
    have hlead : lead b0 = (3, b0 % 16) := by unfold lead; rw [if_neg (by omega), if_pos h]
    rw [hlead]
    dsimp only
    simp only [restF]
    generalize (l.getD 1 0).toNat = b1 at *
    generalize (l.getD 2 0).toNat = b2 at *
    generalize (l.getD 3 0).toNat = b3 at *
    by_cases h1 : l.length < 3
    · rw [if_pos (.inr h1)]; exact (hbad (by unfold decodeN; (repeat' split) <;> first | rfl | (exfalso; omega))).symm
    · rw [if_neg (by omega), if_neg (by omega)]
      by_cases h2 : b1 / 64 = 2
      · rw [if_pos h2, if_neg (by omega)]
        by_cases h3 : b2 / 64 = 2
        · rw [if_pos h3, if_pos (by omega)]
          dsimp only
          unfold finO
          rw [show (b0 % 16 * 64 + b1 % 64) * 64 + b2 % 64 = b0 % 16 * 4096 + b1 % 64 * 64 + b2 % 64 by omega]
          by_cases h4 : b0 % 16 * 4096 + b1 % 64 * 64 + b2 % 64 < 2048 ∨ (55296 ≤ b0 % 16 * 4096 + b1 % 64 * 64 + b2 % 64 ∧ b0 % 16 * 4096 + b1 % 64 * 64 + b2 % 64 ≤ 57343)
          · rw [if_pos (by omega)]; exact (hbad (by unfold decodeN; (repeat' split) <;> first | rfl | (exfalso; omega))).symm
          · rw [if_neg (by omega)]; exact (hok (by unfold decodeN; (repeat' split) <;> first | rfl | (exfalso; omega)) (.inr (by omega))).symm
        · rw [if_neg h3]; exact (hbad (by unfold decodeN; (repeat' split) <;> first | rfl | (exfalso; omega))).symm
      · rw [if_neg h2]; exact (hbad (by unfold decodeN; (repeat' split) <;> first | rfl | (exfalso; omega))).symm
  · rw [if_neg (by omega)]
    have hlead : lead b0 = (4, b0 % 8) := by unfold lead; rw [if_neg (by omega), if_neg (by omega), if_pos h]
    rw [hlead]
    dsimp only
    simp only [restF]
    generalize (l.getD 1 0).toNat = b1 at *
    generalize (l.getD 2 0).toNat = b2 at *
    generalize (l.getD 3 0).toNat = b3 at *
    by_cases h1 : l.length < 4
    · rw [if_pos (.inr h1)]; exact (hbad (by unfold decodeN; (repeat' split) <;> first | rfl | (exfalso; omega))).symm
    · rw [if_neg (by omega), if_neg (by omega)]
      by_cases h2 : b1 / 64 = 2
      · rw [if_pos h2, if_neg (by omega)]
        by_cases h3 : b2 / 64 = 2
        · rw [if_pos h3, if_neg (by omega)]
          by_cases h5 : b3 / 64 = 2
          · rw [if_pos h5, if_pos (by omega)]
            dsimp only
            unfold finO
            rw [show ((b0 % 8 * 64 + b1 % 64) * 64 + b2 % 64) * 64 + b3 % 64 = b0 % 8 * 262144 + b1 % 64 * 4096 + b2 % 64 * 64 + b3 % 64 by omega]
            by_cases h4 : b0 % 8 * 262144 + b1 % 64 * 4096 + b2 % 64 * 64 + b3 % 64 < 65536 ∨ 1114111 < b0 % 8 * 262144 + b1 % 64 * 4096 + b2 % 64 * 64 + b3 % 64
            · rw [if_pos (by omega)]; exact (hbad (by unfold decodeN; (repeat' split) <;> first | rfl | (exfalso; omega))).symm
            · rw [if_neg (by omega)]; exact (hok (by unfold decodeN; (repeat' split) <;> first | rfl | (exfalso; omega)) (.inr (by omega))).symm
          · rw [if_neg h5]; exact (hbad (by unfold decodeN; (repeat' split) <;> first | rfl | (exfalso; omega))).symm
        · rw [if_neg h3]; exact (hbad (by unfold decodeN; (repeat' split) <;> first | rfl | (exfalso; omega))).symm
      · rw [if_neg h2]; exact (hbad (by unfold decodeN; (repeat' split) <;> first | rfl | (exfalso; omega))).symm
  · rw [if_neg (by omega), if_pos (.inl (by unfold lead; rw [if_neg (by omega), if_neg (by omega), if_neg (by omega)]))]
    exact (hbad (by unfold decodeN; (repeat' split) <;> first | rfl | (exfalso; omega))).symm
/-- A text cut at each stroke. -/
def splitL : List UInt8 → List (List UInt8)
  | [] => [[]]
  | c :: l => if c = 47 then [] :: splitL l else match splitL l with
    | p :: ps => (c :: p) :: ps
    | [] => [[c]]
theorem splitL_ne (l : List UInt8) : splitL l ≠ [] := by
  cases l with
  | nil => simp [splitL]
  | cons c l =>
    unfold splitL
    split
    · simp
    · split <;> simp
theorem splitL_len (l : List UInt8) : (splitL l).length ≤ l.length + 1 := by
  induction l with
  | nil => simp [splitL]
  | cons c l ih =>
    unfold splitL
    split
    · simp; omega
    · split
      · rename_i p ps h; rw [h] at ih; simp at ih ⊢; omega
      · simp
/-- Texts put together, a stroke between. -/
def joinL : List (List UInt8) → List UInt8
  | [] => []
  | [x] => x
  | x :: y :: r => x ++ 47 :: joinL (y :: r)
end Go.Proofs.YtnhidehpacidnaaDoor
/- Go's decoder of runes, as it is called here; the tables that it reads. -/
namespace Go.Proofs.YtnhidehpacidnaaDoor
open Go.RowKit Go.Lib
set_option linter.unusedVariables false
set_option linter.unusedSimpArgs false
/-- The library's tables and variables that are read. -/
def tabsP : HP := fun h => ∀ w, In h w → Lib.Utf8Tabs (ren.g 3) (ren.g 4) w ∧ extraV w
theorem tabs_le {h h' : Hlt} (hl : ∀ g o, h' g = some o → h g = some o) (ht : tabsP h') : tabsP h := fun w hi => ht w fun g o hg => hi g o (hl g o hg)
theorem tabs_star {Js : List HP} {P : HP} (k : Nat) (hk : Js[k]? = some P) (hp : ∀ h, P h → tabsP h) : ∀ h, starL Js h → tabsP h := fun h ⟨hs, h1, _, h3⟩ =>
  tabs_le (h3 k) (hp _ (h1 k P hk))
theorem orig_tabs {W : World} (h1 : Lib.Utf8Tabs (ren.g 3) (ren.g 4) W) (h2 : extraV W) : ∀ h, orig W h → tabsP h := fun h ho w hi => by
  have hk : ∀ (g : Nat) (o : Obj), W.heap[g]? = some o → w.heap[g]? = some o := fun g o hg => hi g o (ho g o hg)
  exact ⟨⟨fun c hc => cell_keep hk (h1.1 c hc), fun i hi => ⟨cell_keep hk (h1.2 i hi).1, cell_keep hk (h1.2 i hi).2⟩⟩, extra_keep hk h2⟩
/-- A contract that leaves the world, but for new memory. -/
theorem callsS_below {P : Program} {f : FuncId} {args : Array Value} {F : HP} {r : Value} (h : ∀ w, (∃ h, F h ∧ In h w) → Calls P f args w fun e w' => e = .returned r ∧ Below w.heap.size w w') : CallsS P f args F [] (fun v Ps => v = r ∧ Ps = []) := fun E w hS => by
  have hr : look (En 0 [F]) 0 = some F := rfl
  refine (h w (hS.read hr)).mono fun e w' ⟨he, hb⟩ => ⟨r, [], he, ⟨rfl, rfl⟩, hS.same ⟨hb.os, hb.tape, hb.output, hb.size, fun k hk _ => hb.block k hk⟩⟩
theorem callsS_same {P : Program} {f : FuncId} {args : Array Value} {F : HP} {r : Value} (h : ∀ w, Calls P f args w fun e w' => e = .returned r ∧ w' = w) : CallsS P f args F [] (fun v Ps => v = r ∧ Ps = []) :=
  callsS_below fun w _ => (h w).mono fun e w' ⟨he, hw⟩ => ⟨he, hw ▸ Below.refl _ _⟩
theorem strB_dataL (l : List UInt8) : (strB l).data.toList = l := by simp [strB]
theorem decode_spec (l : List UInt8) (hl : l ≠ []) (F : HP) (hF : ∀ h, F h → tabsP h) : CallsS Tryd.prog 25 #[sV l] F [] (fun v Ps => v = .tuple #[.int .i32 ((decodeL l).1 : Int), .int .i64 ((decodeL l).2 : Int)] ∧ Ps = []) :=
  callsS_below fun w ⟨h, hp, hi⟩ => by
    have := Any.utf8_DecodeRuneInString lays197 (strB l) w (hF h hp w hi).1
    have hn : ¬ (strB l).size = 0 := by rw [strB_size]; intro hc; exact hl (List.eq_nil_of_length_eq_zero hc)
    have hd : decodeGo (strB l) = decodeL l := by unfold decodeGo decodeL; rw [if_neg hn]; rfl
    rw [hd] at this
    exact this
end Go.Proofs.YtnhidehpacidnaaDoor
/- What the program says of its types of elements. -/
namespace Go.Proofs.YtnhidehpacidnaaDoor.TI
set_option linter.unusedVariables false
theorem hi5 : Tryd.prog.info? 5 = some Tryd.t5 := by kernel_rfl
theorem hz5 : Tryd.t5.zero = some (.int .u8 0) := by kernel_rfl
theorem hs5 : Tryd.t5.size = 1 := by kernel_rfl
theorem hby5 : Tryd.t5.bytes = 1 := by kernel_rfl
theorem hzs5 : (.int .u8 0 : Value).cells.size = 1 := by kernel_rfl
theorem hsm5 : (Tryd.prog.info? 5).map (·.size) = some 1 := by kernel_rfl
theorem hi3 : Tryd.prog.info? 3 = some Tryd.t3 := by kernel_rfl
theorem hz3 : Tryd.t3.zero = some (.int .i64 0) := by kernel_rfl
theorem hs3 : Tryd.t3.size = 1 := by kernel_rfl
theorem hby3 : Tryd.t3.bytes = 8 := by kernel_rfl
theorem hzs3 : (.int .i64 0 : Value).cells.size = 1 := by kernel_rfl
theorem hsm3 : (Tryd.prog.info? 3).map (·.size) = some 1 := by kernel_rfl
theorem hi25 : Tryd.prog.info? 25 = some Tryd.t25 := by kernel_rfl
theorem hz25 : Tryd.t25.zero = some (.agg (bs zeroId).toArray) := by kernel_rfl
theorem hs25 : Tryd.t25.size = 32 := by kernel_rfl
theorem hby25 : Tryd.t25.bytes = 32 := by kernel_rfl
theorem hzs25 : (.agg (bs zeroId).toArray : Value).cells.size = 32 := by kernel_rfl
theorem hsm25 : (Tryd.prog.info? 25).map (·.size) = some 32 := by kernel_rfl
theorem hi27 : Tryd.prog.info? 27 = some Tryd.t27 := by kernel_rfl
theorem hz27 : Tryd.t27.zero = some (.slice none 0 0) := by kernel_rfl
theorem hs27 : Tryd.t27.size = 1 := by kernel_rfl
theorem hby27 : Tryd.t27.bytes = 24 := by kernel_rfl
theorem hzs27 : (.slice none 0 0 : Value).cells.size = 1 := by kernel_rfl
theorem hsm27 : (Tryd.prog.info? 27).map (·.size) = some 1 := by kernel_rfl
theorem hi9 : Tryd.prog.info? 9 = some Tryd.t9 := by kernel_rfl
theorem hz9 : Tryd.t9.zero = some (.string ⟨#[]⟩) := by kernel_rfl
theorem hs9 : Tryd.t9.size = 1 := by kernel_rfl
theorem hby9 : Tryd.t9.bytes = 16 := by kernel_rfl
theorem hzs9 : (.string ⟨#[]⟩ : Value).cells.size = 1 := by kernel_rfl
theorem hsm9 : (Tryd.prog.info? 9).map (·.size) = some 1 := by kernel_rfl
theorem hi30 : Tryd.prog.info? 30 = some Tryd.t30 := by kernel_rfl
theorem hz30 : Tryd.t30.zero = some (.agg (entC [] zeroId).toArray) := by kernel_rfl
theorem hs30 : Tryd.t30.size = 33 := by kernel_rfl
theorem hby30 : Tryd.t30.bytes = 48 := by kernel_rfl
theorem hzs30 : (.agg (entC [] zeroId).toArray : Value).cells.size = 33 := by kernel_rfl
theorem hsm30 : (Tryd.prog.info? 30).map (·.size) = some 33 := by kernel_rfl
theorem hi22 : Tryd.prog.info? 22 = some Tryd.t22 := by kernel_rfl
theorem hz22 : Tryd.t22.zero = some (.slice none 0 0) := by kernel_rfl
theorem hs22 : Tryd.t22.size = 1 := by kernel_rfl
theorem hby22 : Tryd.t22.bytes = 24 := by kernel_rfl
theorem hzs22 : (.slice none 0 0 : Value).cells.size = 1 := by kernel_rfl
theorem hsm22 : (Tryd.prog.info? 22).map (·.size) = some 1 := by kernel_rfl
end Go.Proofs.YtnhidehpacidnaaDoor.TI
/- Facts of types: in TiE. -/
namespace Go.Proofs.YtnhidehpacidnaaDoor
end Go.Proofs.YtnhidehpacidnaaDoor
/- names: a name is checked. -/
namespace Go.Proofs.YtnhidehpacidnaaDoor
open Go.RowKit Go.Lib
set_option linter.unusedVariables false
set_option linter.unusedSimpArgs false

theorem bool_val {a b : Bool} (h : a = b) : Value.bool a = Value.bool b := by rw [h]
theorem int_val {k : IntKind} {a b : Int} (h : a = b) : Value.int k a = Value.int k b := by rw [h]
theorem wrongR_eq (r : Nat) : ((decide ((r : Int) < 32) || decide ((r : Int) = 127)) || decide ((r : Int) = 47)) = wrongR r := by
  have h1 : decide ((r : Int) < 32) = decide (r < 32) := decide_eq_decide.2 (by omega)
  have h2 : decide ((r : Int) = 127) = (r == 127) := Bool.eq_iff_iff.2 (by simp; omega)
  have h3 : decide ((r : Int) = 47) = (r == 47) := Bool.eq_iff_iff.2 (by simp; omega)
  rw [h1, h2, h3]; rfl
theorem noRune_eq (l : List UInt8) : (decide (((decodeL l).1 : Int) = 65533) && decide (((decodeL l).2 : Int) ≤ 1)) = noRune l := by
  have h1 : decide (((decodeL l).1 : Int) = 65533) = ((decodeL l).1 == 65533) := Bool.eq_iff_iff.2 (by simp; omega)
  have h2 : decide (((decodeL l).2 : Int) ≤ 1) = decide ((decodeL l).2 ≤ 1) := decide_eq_decide.2 (by omega)
  rw [h1, h2]; rfl
theorem wrong_nspec (r : Nat) (F : HP) : CallsS Tryd.prog 26 #[.int .i32 (r : Int)] F [] (fun v Ps => v = .bool (wrongR r) ∧ Ps = []) := by
  refine callsS_enter Tryd.func26 rfl Tryd.ntmps26 (by simp) (fun E => ?_)
  refine W_seq ?_
  refine W.pre (K' := [(0, _)]) (L' := [(0, _)]) ?_ ⟨rfl, trivial⟩ ⟨rfl, trivial⟩
  refine W_regL (WL_pure rfl rfl (by decide) (Pu_assign rfl rfl) (WL_nil (X_then ?_)))
  refine W_seq ?_
  refine W.pre (K' := [(0, _), (2, _)]) (L' := [(0, _)]) ?_ ⟨rfl, ⟨rfl, trivial⟩⟩ ⟨rfl, trivial⟩
  refine W_regL (WL_pure rfl rfl (by decide) (Pu_move rfl rfl) (WL_pure rfl rfl (by decide) (Pu_bin rfl rfl rfl (run_lss _ _ _ _ _ _)) (WL_pure rfl rfl (by decide) (Pu_move rfl rfl) (WL_guardP rfl rfl rfl rfl (by decide) (fun hb => (Pu_move rfl rfl)) (WL_guardP rfl rfl rfl rfl (by decide) (fun hb => (Pu_bin rfl (ev_gv rfl hb) rfl (run_eql _ _ _ _ _ _))) (WL_pure rfl rfl (by decide) (Pu_or rfl rfl rfl) (WL_pure rfl rfl (by decide) (Pu_move rfl rfl) (WL_guardP rfl rfl rfl rfl (by decide) (fun hb => (Pu_move rfl rfl)) (WL_guardP rfl rfl rfl rfl (by decide) (fun hb => (Pu_bin rfl (ev_gv rfl hb) rfl (run_eql _ _ _ _ _ _))) (WL_pure rfl rfl (by decide) (Pu_or rfl rfl rfl) (WL_pure rfl rfl (by decide) (Pu_assign rfl rfl) (WL_nil (X_then ?_)))))))))))))
  refine W_ret ?_
  exact X_ret [] (Ps := []) (res1 Tryd.results26 rfl) rfl (by decide) ⟨bool_val (wrongR_eq r), rfl⟩
theorem check_spec (l : List UInt8) (hl : l.length ≤ 140737488355328) (F : HP) (hF : ∀ h, F h → tabsP h) : CallsS Tryd.prog 22 #[sV l] F [] (fun v Ps => v = .int .i64 (checkN l : Int) ∧ Ps = []) := by
  refine callsS_enter Tryd.func22 rfl Tryd.ntmps22 (by simp) (fun E => ?_)
  refine W_seq ?_
  refine W.pre (K' := [(0, _)]) (L' := [(0, _)]) ?_ ⟨rfl, trivial⟩ ⟨rfl, trivial⟩
  refine W_regL (WL_pure rfl rfl (by decide) (Pu_assign rfl rfl) (WL_nil (X_then ?_)))
  refine W_seq ?_
  refine W.pre (K' := [(0, _), (2, _)]) (L' := [(0, _)]) ?_ ⟨rfl, ⟨rfl, trivial⟩⟩ ⟨rfl, trivial⟩
  refine W_regL (WL_pure rfl rfl (by decide) (Pu_move rfl rfl) (WL_pure rfl rfl (by decide) (Pu_bin rfl rfl rfl (run_strEq _ _ _ _ _)) (WL_pure rfl rfl (by decide) (Pu_move rfl rfl) (WL_guardP rfl rfl rfl rfl (by decide) (fun hb => (Pu_move rfl rfl)) (WL_guardP rfl rfl rfl rfl (by decide) (fun hb => (Pu_bin rfl (ev_gv rfl hb) rfl (run_strEq _ _ _ _ _))) (WL_pure rfl rfl (by decide) (Pu_or rfl rfl rfl) (WL_pure rfl rfl (by decide) (Pu_move rfl rfl) (WL_guardP rfl rfl rfl rfl (by decide) (fun hb => (Pu_move rfl rfl)) (WL_guardP rfl rfl rfl rfl (by decide) (fun hb => (Pu_bin rfl (ev_gv rfl hb) rfl (run_strEq _ _ _ _ _))) (WL_pure rfl rfl (by decide) (Pu_or rfl rfl rfl) (WL_pure rfl rfl (by decide) (Pu_assign rfl rfl) (WL_pure rfl rfl (by decide) (Pu_assign rfl rfl) (WL_nil (X_then ?_))))))))))))))
  refine W_seq ?_
  refine W_seq ?_
  refine W.pre (K' := [(0, _), (2, _), (3, _), (4, _)]) (L' := [(0, _)]) ?_ ⟨rfl, ⟨rfl, ⟨rfl, ⟨rfl, trivial⟩⟩⟩⟩ ⟨rfl, trivial⟩
  refine W_regL (WL_pure rfl rfl (by decide) (Pu_move rfl rfl) (WL_cons rfl rfl (by decide) (OpT_range (r := 101) rfl Tryd.underlying9 rfl (fun g101 => (WL_nil (X_then ?_))))))
  refine W_block ?_
  refine W_loop (α := Nat × Nat × Bool) (fun x => [(0, sV l), (3, .int .i64 (x.2.1 : Int)), (4, .bool x.2.2), (20, .pointer (some ⟨g101, 0, none⟩))]) (fun x => [(0, F), (101, iterP g101 (strB l) x.1)]) (fun x => chk (l.drop x.1) x.2.1 x.2.2 = checkN l ∧ x.2.1 ≤ x.1 ∧ x.1 ≤ l.length) (fun x => l.length - x.1) ((0, 0, bad0 l)) ⟨rfl, Nat.le_refl _, Nat.zero_le _⟩ ⟨rfl, ⟨rfl, ⟨rfl, ⟨rfl, trivial⟩⟩⟩⟩ ⟨rfl, ⟨rfl, trivial⟩⟩ (fun x hx => ?_)
  obtain ⟨hchk, hnp, hpl⟩ := hx
  refine W_seq ?_
  refine W.pre (K' := [(0, _), (3, _), (4, _), (20, _)]) (L' := [(0, _), (101, _)]) ?_ ⟨rfl, ⟨rfl, ⟨rfl, ⟨rfl, trivial⟩⟩⟩⟩ ⟨rfl, ⟨rfl, trivial⟩⟩
  rcases Nat.lt_or_ge (x.1) (l.length) with hnx3 | hnx3
  ·
    have hne : l.drop x.1 ≠ [] := by intro hc; have := congrArg List.length hc; simp at this; omega
    have hw := decodeL_width (l.drop x.1)
    have hle := decodeL_le (l.drop x.1) hne
    rw [List.length_drop] at hle
    refine W_regL (WL_cons rfl rfl (by decide) (OpT_nextL (r := 101) rfl rfl rfl hnx3 ?_))
    refine (WL_pure rfl rfl (by decide) (Pu_extract rfl rfl rfl) (WL_nil (X_then ?_)))
    refine W_seq ?_
    refine W_true rfl (rfl) ?_
    refine W_skip (X_then ?_)
    refine W_block ?_
    refine W_seq ?_
    refine W.pre (K' := [(0, _), (3, _), (4, _), (20, _), (21, _), (22, _)]) (L' := [(0, _), (101, _)]) ?_ ⟨rfl, ⟨rfl, ⟨rfl, ⟨rfl, ⟨rfl, ⟨rfl, trivial⟩⟩⟩⟩⟩⟩ ⟨rfl, ⟨rfl, trivial⟩⟩
    refine W_regL (WL_pure rfl rfl (by decide) (Pu_extract rfl rfl rfl) (WL_pure rfl rfl (by decide) (Pu_extract rfl rfl rfl) (WL_pure rfl rfl (by decide) (Pu_assign rfl rfl) (WL_pure rfl rfl (by decide) (Pu_assign rfl rfl) (WL_nil (X_then ?_))))))
    refine W_seq ?_
    refine W_seq ?_
    refine W.pre (K' := [(0, _), (3, _), (4, _), (5, _), (6, _), (20, _), (21, _), (22, _)]) (L' := [(0, _), (101, _)]) ?_ ⟨rfl, ⟨rfl, ⟨rfl, ⟨rfl, ⟨rfl, ⟨rfl, ⟨rfl, ⟨rfl, trivial⟩⟩⟩⟩⟩⟩⟩⟩ ⟨rfl, ⟨rfl, trivial⟩⟩
    refine W_regL (WL_pure rfl rfl (by decide) (Pu_move rfl rfl) (WL_pure rfl rfl (by decide) (Pu_move rfl rfl) (WL_pure rfl rfl (by decide) (Pu_sliceStrE (a := x.1) rfl Tryd.underlying9 rfl (.inr ⟨_, _, _, rfl, rfl, rfl⟩) (.inl ⟨rfl, rfl⟩) (by omega) (Nat.le_refl _) (take_rest _ _)) (WL_cons rfl rfl (by decide) (OpT_call 200 [0, 101] [] rfl Tryd.call25 rfl rfl rfl (by decide) (by decide) (decode_spec (l.drop x.1) hne _ (tabs_star 0 rfl hF)) (fun v29 Ps29 hR29 => ?_))))))
    obtain ⟨rfl, rfl⟩ := hR29
    refine (WL_pure rfl rfl (by decide) (Pu_move rfl rfl) (WL_pure rfl rfl (by decide) (Pu_extract rfl rfl rfl) (WL_pure rfl rfl (by decide) (Pu_extract rfl rfl rfl) (WL_pure rfl rfl (by decide) (Pu_assign rfl rfl) (WL_pure rfl rfl (by decide) (Pu_assign rfl rfl) (WL_nil (X_then ?_)))))))
    refine W_seq ?_
    refine W.pre (K' := [(0, _), (3, _), (4, _), (5, _), (6, _), (8, _), (20, _), (21, _), (22, _)]) (L' := [(0, _), (101, _)]) ?_ ⟨rfl, ⟨rfl, ⟨rfl, ⟨rfl, ⟨rfl, ⟨rfl, ⟨rfl, ⟨rfl, ⟨rfl, trivial⟩⟩⟩⟩⟩⟩⟩⟩⟩ ⟨rfl, ⟨rfl, trivial⟩⟩
    refine W_regL (WL_pure rfl rfl (by decide) (Pu_move rfl rfl) (WL_pure rfl rfl (by decide) (Pu_bin rfl rfl rfl (run_eql _ _ _ _ _ _)) (WL_pure rfl rfl (by decide) (Pu_move rfl rfl) (WL_guardP rfl rfl rfl rfl (by decide) (fun hb => (Pu_move rfl rfl)) (WL_guardP rfl rfl rfl rfl (by decide) (fun hb => (Pu_bin rfl (ev_gv rfl hb) rfl (run_leq _ _ _ _ _ _))) (WL_pure rfl rfl (by decide) (Pu_and rfl rfl rfl) (WL_nil (X_then ?_))))))))
    refine W_cond rfl (fun hc37 => ?_) (fun hc37 => ?_)
    ·
      rw [noRune_eq] at hc37
      refine W_seq ?_
      refine W.pre (K' := [(0, _), (3, _), (4, _), (5, _), (6, _), (8, _), (20, _), (21, _), (22, _), (37, _)]) (L' := [(0, _), (101, _)]) ?_ ⟨rfl, ⟨rfl, ⟨rfl, ⟨rfl, ⟨rfl, ⟨rfl, ⟨rfl, ⟨rfl, ⟨rfl, ⟨rfl, trivial⟩⟩⟩⟩⟩⟩⟩⟩⟩⟩ ⟨rfl, ⟨rfl, trivial⟩⟩
      refine W_regL (WL_pure rfl rfl (by decide) (Pu_assign rfl rfl) (WL_nil (X_then ?_)))
      refine W_ret (X_then_ret (X_block_ret (X_then_ret (X_block_ret (X_then_ret ?_)))))
      exact X_ret [] (Ps := []) (res1 Tryd.results22 rfl) rfl (by decide) ⟨by rw [← hchk, chk_none hne hc37]; rfl, rfl⟩
    ·
      rw [noRune_eq] at hc37
      have hno := hc37
      refine W_skip (X_then ?_)
      refine W_seq ?_
      refine W.pre (K' := [(0, _), (3, _), (4, _), (5, _), (6, _), (8, _), (20, _), (21, _), (22, _), (37, _)]) (L' := [(0, _), (101, _)]) ?_ ⟨rfl, ⟨rfl, ⟨rfl, ⟨rfl, ⟨rfl, ⟨rfl, ⟨rfl, ⟨rfl, ⟨rfl, ⟨rfl, trivial⟩⟩⟩⟩⟩⟩⟩⟩⟩⟩ ⟨rfl, ⟨rfl, trivial⟩⟩
      refine W_regL (WL_pure rfl rfl (by decide) (Pu_move rfl rfl) (WL_pure rfl rfl (by decide) (Pu_bin rfl rfl rfl (run_add _ _ _ _ _ (by omega))) (WL_pure rfl rfl (by decide) (Pu_assign rfl rfl) (WL_nil (X_then ?_)))))
      refine W.pre (K' := [(0, _), (3, _), (4, _), (5, _), (6, _), (8, _), (20, _), (21, _), (22, _), (37, _)]) (L' := [(0, _), (101, _)]) ?_ ⟨rfl, ⟨rfl, ⟨rfl, ⟨rfl, ⟨rfl, ⟨rfl, ⟨rfl, ⟨rfl, ⟨rfl, ⟨rfl, trivial⟩⟩⟩⟩⟩⟩⟩⟩⟩⟩ ⟨rfl, ⟨rfl, trivial⟩⟩
      rcases Bool.eq_false_or_eq_true (x.2.2) with hsp9 | hsp9
      ·
        refine W_regL (WL_pure rfl rfl (by decide) (Pu_move rfl rfl) (WL_pure rfl rfl (by decide) (Pu_move rfl rfl) (WL_gF rfl rfl rfl (by rw [hsp9]; rfl) rfl (by decide) (WL_gF rfl rfl rfl (by rw [hsp9]; rfl) rfl (by decide) (WL_pure rfl rfl (by decide) (Pu_pickT rfl rfl hsp9 rfl) (WL_pure rfl rfl (by decide) (Pu_assign rfl rfl) (WL_nil (X_block ?_))))))))
        exact X_round (x.1 + (decodeL (l.drop x.1)).2, x.2.1 + 1, (x.2.2 || wrongR (decodeL (l.drop x.1)).1)) ⟨by rw [← hchk, chk_some hne hno, List.drop_drop], by show x.2.1 + 1 ≤ x.1 + _; omega, by show x.1 + _ ≤ l.length; omega⟩ (by show l.length - (x.1 + _) < l.length - x.1; omega) ⟨rfl, rfl, congrArg some (show Value.bool true = Value.bool (x.2.2 || wrongR (decodeL (l.drop x.1)).1) by rw [hsp9]; rfl), rfl, trivial⟩ ⟨rfl, rfl, trivial⟩
      ·
        refine W_regL (WL_pure rfl rfl (by decide) (Pu_move rfl rfl) (WL_pure rfl rfl (by decide) (Pu_move rfl rfl) (WL_gPT rfl rfl rfl (by rw [hsp9]; rfl) rfl (by decide) (Pu_move rfl rfl) (WL_gT rfl rfl rfl (by rw [hsp9]; rfl) rfl (by decide) (OpT_call 300 [0, 101] [] rfl Tryd.call26 rfl rfl rfl (by decide) (by decide) (wrong_nspec (decodeL (l.drop x.1)).1 _) (fun v43 Ps43 hR43 => ?_))))))
        obtain ⟨rfl, rfl⟩ := hR43
        refine (WL_pure rfl rfl (by decide) (Pu_pickF rfl rfl hsp9 rfl) (WL_pure rfl rfl (by decide) (Pu_assign rfl rfl) (WL_nil (X_block ?_))))
        exact X_round (x.1 + (decodeL (l.drop x.1)).2, x.2.1 + 1, (x.2.2 || wrongR (decodeL (l.drop x.1)).1)) ⟨by rw [← hchk, chk_some hne hno, List.drop_drop], by show x.2.1 + 1 ≤ x.1 + _; omega, by show x.1 + _ ≤ l.length; omega⟩ (by show l.length - (x.1 + _) < l.length - x.1; omega) ⟨rfl, rfl, congrArg some (show Value.bool (wrongR (decodeL (l.drop x.1)).1) = Value.bool (x.2.2 || wrongR (decodeL (l.drop x.1)).1) by rw [hsp9]; rfl), rfl, trivial⟩ ⟨rfl, rfl, trivial⟩
  ·
    have hend : l.drop x.1 = [] := List.drop_of_length_le hnx3
    rw [hend, chk_nil] at hchk
    refine W_regL (WL_cons rfl rfl (by decide) (OpT_nextLE (r := 101) rfl rfl rfl hnx3 ?_))
    refine (WL_pure rfl rfl (by decide) (Pu_extract rfl rfl rfl) (WL_nil (X_then ?_)))
    refine W_seq ?_
    refine W_false rfl (rfl) ?_
    refine W_exit (X_then_exit (X_then_exit (X_block_exit (X_then ?_))))
    refine W_seq ?_
    refine W_block ?_
    refine W_seq ?_
    refine W.pre (K' := [(0, _), (3, _), (4, _), (20, _), (21, _), (22, _)]) (L' := [(0, _), (101, _)]) ?_ ⟨rfl, ⟨rfl, ⟨rfl, ⟨rfl, ⟨rfl, ⟨rfl, trivial⟩⟩⟩⟩⟩⟩ ⟨rfl, ⟨rfl, trivial⟩⟩
    refine W_regL (WL_pure rfl rfl (by decide) (Pu_move rfl rfl) (WL_pure rfl rfl (by decide) (Pu_assign rfl rfl) (WL_nil (X_then ?_))))
    refine W_cond rfl (fun hc45 => ?_) (fun hc45 => ?_)
    ·
      have hb := hc45
      refine W_seq ?_
      refine W.pre (K' := [(0, _), (3, _), (4, _), (20, _), (21, _), (22, _), (45, _)]) (L' := [(0, _), (101, _)]) ?_ ⟨rfl, ⟨rfl, ⟨rfl, ⟨rfl, ⟨rfl, ⟨rfl, ⟨rfl, trivial⟩⟩⟩⟩⟩⟩⟩ ⟨rfl, ⟨rfl, trivial⟩⟩
      refine W_regL (WL_pure rfl rfl (by decide) (Pu_assign rfl rfl) (WL_nil (X_then ?_)))
      refine W_ret (X_block_ret (X_then_ret ?_))
      exact X_ret [] (Ps := []) (res1 Tryd.results22 rfl) rfl (by decide) ⟨by rw [← hchk, finC, hb]; rfl, rfl⟩
    ·
      have hb := hc45
      refine W_seq ?_
      refine W.pre (K' := [(0, _), (3, _), (4, _), (20, _), (21, _), (22, _), (45, _)]) (L' := [(0, _), (101, _)]) ?_ ⟨rfl, ⟨rfl, ⟨rfl, ⟨rfl, ⟨rfl, ⟨rfl, ⟨rfl, trivial⟩⟩⟩⟩⟩⟩⟩ ⟨rfl, ⟨rfl, trivial⟩⟩
      refine W_regL (WL_pure rfl rfl (by decide) (Pu_move rfl rfl) (WL_pure rfl rfl (by decide) (Pu_bin rfl rfl rfl (run_gtr _ _ _ _ _ _)) (WL_pure rfl rfl (by decide) (Pu_assign rfl rfl) (WL_nil (X_then ?_)))))
      refine W_cond rfl (fun hc47 => ?_) (fun hc47 => ?_)
      ·
        have hb2 := of_decide_eq_true hc47
        refine W_seq ?_
        refine W.pre (K' := [(0, _), (3, _), (4, _), (20, _), (21, _), (22, _), (45, _), (47, _)]) (L' := [(0, _), (101, _)]) ?_ ⟨rfl, ⟨rfl, ⟨rfl, ⟨rfl, ⟨rfl, ⟨rfl, ⟨rfl, ⟨rfl, trivial⟩⟩⟩⟩⟩⟩⟩⟩ ⟨rfl, ⟨rfl, trivial⟩⟩
        refine W_regL (WL_pure rfl rfl (by decide) (Pu_assign rfl rfl) (WL_nil (X_then ?_)))
        refine W_ret (X_block_ret (X_then_ret ?_))
        exact X_ret [] (Ps := []) (res1 Tryd.results22 rfl) rfl (by decide) ⟨by rw [← hchk, finC, hb, if_neg (by decide), if_pos (by omega)]; rfl, rfl⟩
      ·
        have hb2 := of_decide_eq_false hc47
        refine W_skip (X_block (X_then ?_))
        refine W_seq ?_
        refine W.pre (K' := [(0, _), (3, _), (4, _), (20, _), (21, _), (22, _), (45, _), (47, _)]) (L' := [(0, _), (101, _)]) ?_ ⟨rfl, ⟨rfl, ⟨rfl, ⟨rfl, ⟨rfl, ⟨rfl, ⟨rfl, ⟨rfl, trivial⟩⟩⟩⟩⟩⟩⟩⟩ ⟨rfl, ⟨rfl, trivial⟩⟩
        refine W_regL (WL_pure rfl rfl (by decide) (Pu_assign rfl rfl) (WL_nil (X_then ?_)))
        refine W_ret ?_
        exact X_ret [] (Ps := []) (res1 Tryd.results22 rfl) rfl (by decide) ⟨by rw [← hchk, finC, hb, if_neg (by decide), if_neg (by omega)]; rfl, rfl⟩
end Go.Proofs.YtnhidehpacidnaaDoor
/- Names: paths, in plain words. -/
namespace Go.Proofs.YtnhidehpacidnaaDoor
open Go.RowKit Go.Lib
set_option linter.unusedVariables false
set_option linter.unusedSimpArgs false
def firstBad : List (List UInt8) → Nat
  | [] => 0
  | x :: r => if checkN x ≠ 0 then checkN x else firstBad r
/-- What is wrong with names. -/
def allN (ls : List (List UInt8)) : Nat := if 5 < ls.length then 4 else firstBad ls
theorem firstBad_at {ls : List (List UInt8)} {k : Nat} (h : k < ls.length) : firstBad (ls.drop k) = if checkN (ls.getD k []) ≠ 0 then checkN (ls.getD k []) else firstBad (ls.drop (k + 1)) := by
  rw [List.drop_eq_getElem_cons h, firstBad]
  simp [List.getElem?_eq_getElem h]
theorem firstBad_bad {ls : List (List UInt8)} {k : Nat} (h : k < ls.length) (hc : ¬ (checkN (ls.getD k []) : Int) = 0) : firstBad (ls.drop k) = checkN (ls.getD k []) := by
  rw [firstBad_at h, if_pos (by omega)]
theorem firstBad_good {ls : List (List UInt8)} {k : Nat} (h : k < ls.length) (hc : (checkN (ls.getD k []) : Int) = 0) : firstBad (ls.drop k) = firstBad (ls.drop (k + 1)) := by
  rw [firstBad_at h, if_neg (by omega)]
theorem firstBad_end {ls : List (List UInt8)} {k : Nat} (h : ls.length ≤ k) : firstBad (ls.drop k) = 0 := by rw [List.drop_of_length_le h]; rfl
/-- Is a text no path, by its strokes at the ends? -/
def noPath (l : List UInt8) : Bool := !(([47] : List UInt8).isPrefixOf l) || ([47] : List UInt8).isSuffixOf l
/-- A path's names, and what is wrong with it. -/
def splitN (l : List UInt8) : List (List UInt8) × Nat :=
  if l = [47] then ([], 0) else if noPath l then ([], 10) else if allN (splitL (l.drop 1)) ≠ 0 then ([], allN (splitL (l.drop 1))) else (splitL (l.drop 1), 0)
/-- The path of names, and what is wrong with them. -/
def joinN (ls : List (List UInt8)) : List UInt8 × Nat := if allN ls ≠ 0 then ([], allN ls) else (47 :: joinL ls, 0)
theorem splitL_mem {l x : List UInt8} (h : x ∈ splitL l) : x.length ≤ l.length := by
  induction l generalizing x with
  | nil => simp [splitL] at h; subst h; simp
  | cons c l ih =>
    unfold splitL at h
    split at h
    · rcases List.mem_cons.1 h with h | h
      · subst h; simp
      · have := ih h; simp; omega
    · split at h
      · rename_i p ps hp
        rcases List.mem_cons.1 h with h | h
        · subst h
          have := ih (x := p) (by rw [hp]; simp)
          simp; omega
        · have := ih (x := x) (by rw [hp]; simp [h])
          simp; omega
      · simp at h; subst h; simp
/-- The pieces, with what stands of the first one ahead. -/
def splitG : List UInt8 → List UInt8 → List (List UInt8)
  | cur, [] => [cur]
  | cur, c :: r => if c = 47 then cur :: splitG [] r else splitG (cur ++ [c]) r
theorem splitG_eq (l : List UInt8) : ∀ cur, splitG cur l = match splitL l with | p :: ps => (cur ++ p) :: ps | [] => [] := by
  induction l with
  | nil => intro cur; simp [splitG, splitL]
  | cons c l ih =>
    intro cur
    unfold splitG splitL
    split
    · rw [ih]
      have := splitL_ne l
      split <;> simp_all
    · rw [ih]
      have := splitL_ne l
      split <;> simp_all
theorem splitG_nil (l : List UInt8) : splitG [] l = splitL l := by
  rw [splitG_eq]
  have := splitL_ne l
  split <;> simp_all
theorem drop_cons {l : List UInt8} {k : Nat} (h : k < l.length) : l.drop k = at0 l k :: l.drop (k + 1) := by
  rw [List.drop_eq_getElem_cons h]
  simp [at0, List.getElem?_eq_getElem h]
theorem take_more {l : List UInt8} {a k : Nat} (ha : a ≤ k) (h : k < l.length) : (l.drop a).take (k + 1 - a) = (l.drop a).take (k - a) ++ [at0 l k] := by
  rw [show k + 1 - a = (k - a) + 1 by omega, List.take_add_one, List.getElem?_drop, show a + (k - a) = k by omega, List.getElem?_eq_getElem h]
  simp [at0, List.getElem?_eq_getElem h]
theorem splitG_stroke {l : List UInt8} {k : Nat} (h : k < l.length) (hc : at0 l k = 47) (cur : List UInt8) : splitG cur (l.drop k) = cur :: splitG [] (l.drop (k + 1)) := by
  rw [drop_cons h, splitG, if_pos hc]
theorem splitG_more {l : List UInt8} {k : Nat} (h : k < l.length) (hc : at0 l k ≠ 47) (cur : List UInt8) : splitG cur (l.drop k) = splitG (cur ++ [at0 l k]) (l.drop (k + 1)) := by
  rw [drop_cons h, splitG, if_neg hc]
theorem splitG_end {l : List UInt8} {k : Nat} (h : l.length ≤ k) (cur : List UInt8) : splitG cur (l.drop k) = [cur] := by
  rw [List.drop_of_length_le h]; rfl
theorem noPath_eq {l : List UInt8} (hl : 0 < l.length) : noPath l = (!(at0 l 0 == 47) || at0 l (l.length - 1) == 47) := by
  unfold noPath
  congr 1
  · cases l with
    | nil => simp at hl
    | cons c l => simp [List.isPrefixOf, at0]; rw [Bool.beq_comm]
  · rw [List.isSuffixOf, List.reverse_cons, List.reverse_nil, List.nil_append]
    have hr : l.reverse = at0 l (l.length - 1) :: (l.reverse.drop 1) := by
      have h1 : 0 < l.reverse.length := by simpa using hl
      have := List.drop_eq_getElem_cons h1
      rw [List.drop_zero] at this
      rw [this]
      congr 1
      simp [at0, List.getElem_reverse]
      rw [List.getElem?_eq_getElem (by omega)]
      rfl
    rw [hr, List.isPrefixOf]
    simp
    rw [Bool.beq_comm]
theorem noPath_nil : noPath [] = true := rfl
/-- Names, each with a stroke ahead. -/
def jn (ls : List (List UInt8)) : List UInt8 := (ls.map (47 :: ·)).flatten
theorem jn_join {ls : List (List UInt8)} (h : ls ≠ []) : jn ls = 47 :: joinL ls := by
  induction ls with
  | nil => exact absurd rfl h
  | cons x r ih =>
    cases r with
    | nil => simp [jn, joinL]
    | cons y r =>
      have := ih (by simp)
      simp only [jn, List.map_cons, List.flatten_cons, joinL] at this ⊢
      rw [this]
      simp
theorem jn_succ {ls : List (List UInt8)} {k : Nat} (h : k < ls.length) : jn (ls.take (k + 1)) = (jn (ls.take k) ++ [47]) ++ ls.getD k [] := by
  unfold jn
  rw [List.take_add_one, List.map_append, List.flatten_append]
  simp [List.getElem?_eq_getElem h]
theorem jn_le (ls : List (List UInt8)) (k : Nat) : (jn (ls.take k)).length ≤ (jn ls).length := by
  unfold jn
  conv => rhs; rw [← List.take_append_drop k ls]
  rw [List.map_append, List.flatten_append, List.length_append]
  omega
theorem jn_nil {ls : List (List UInt8)} : jn ls = [] ↔ ls = [] := by
  cases ls <;> simp [jn]
theorem joinL_len (ls : List (List UInt8)) : (joinL ls).length ≤ (jn ls).length := by
  by_cases h : ls = []
  · subst h; simp [joinL]
  · rw [jn_join h]; simp
theorem jn_mem {ls : List (List UInt8)} {x : List UInt8} (h : x ∈ ls) : x.length ≤ (jn ls).length := by
  induction ls with
  | nil => cases h
  | cons y r ih =>
    simp only [jn, List.map_cons, List.flatten_cons, List.length_append, List.length_cons]
    rcases List.mem_cons.1 h with h | h
    · subst h; omega
    · have := ih h; unfold jn at this; omega
theorem jn_count (ls : List (List UInt8)) : ls.length ≤ (jn ls).length := by
  induction ls with
  | nil => simp
  | cons y r ih =>
    simp only [jn, List.map_cons, List.flatten_cons, List.length_append, List.length_cons] at ih ⊢
    omega
theorem getD_mem {ls : List (List UInt8)} {k : Nat} (h : k < ls.length) : ls.getD k [] ∈ ls := by simp [List.getElem?_eq_getElem h]
theorem joinN_eq (ls : List (List UInt8)) : joinN ls = if allN ls ≠ 0 then ([], allN ls) else if jn ls = [] then ([47], 0) else (jn ls, 0) := by
  unfold joinN
  by_cases h : ls = []
  · subst h; rfl
  · have : ¬ jn ls = [] := fun hc => h (jn_nil.1 hc)
    rw [if_neg this, jn_join h]
end Go.Proofs.YtnhidehpacidnaaDoor
/- latticelaw3: names made of numbers. -/
namespace Go.Proofs.YtnhidehpacidnaaDoor
open Go.RowKit Go.Lib
set_option linter.unusedVariables false
set_option linter.unusedSimpArgs false

/-- The pieces that names are made of. -/
def some13 : List (List UInt8) := [[97], [98], [122], [65], [48], [46], [45], [32], [126], [195, 169], [226, 130, 172], [240, 159, 152, 128], [194, 128]]
def pieceN (z : Int) : List UInt8 := some13.getD (z % 13).toNat []
def fixN (o : List UInt8) : List UInt8 := if bad0 o then o ++ [120] else o
/-- A name made of numbers. -/
def nameN (zs : List Int) : List UInt8 := fixN (((zs.take 12).map pieceN).flatten)
theorem z13 (z : Int) : (z % 13).toNat < some13.length := by show (z % 13).toNat < 13; omega
theorem pieceN_mem (z : Int) : pieceN z ∈ some13 := getD_mem (z13 z)
theorem piece_len : ∀ p ∈ some13, 1 ≤ p.length ∧ p.length ≤ 4 := by decide
theorem pieces_len {ps : List (List UInt8)} (h : ∀ p ∈ ps, p ∈ some13) : ps.length ≤ ps.flatten.length ∧ ps.flatten.length ≤ 4 * ps.length := by
  induction ps with
  | nil => simp
  | cons p ps ih =>
    have h1 := piece_len p (h p (by simp))
    have h2 := ih fun q hq => h q (by simp [hq])
    simp only [List.length_cons, List.flatten_cons, List.length_append]
    omega
theorem map_pieces (zs : List Int) : ∀ p ∈ zs.map pieceN, p ∈ some13 := by
  intro p hp
  obtain ⟨z, _, rfl⟩ := List.mem_map.1 hp
  exact pieceN_mem z
def nameA (zs : List Int) (k : Nat) : List UInt8 := ((zs.take k).map pieceN).flatten
theorem nameA_succ {zs : List Int} {k : Nat} (h : k < zs.length) : nameA zs (k + 1) = nameA zs k ++ pieceN (zs.getD k 0) := by
  unfold nameA
  rw [List.take_add_one, List.map_append, List.flatten_append]
  simp [List.getElem?_eq_getElem h]
theorem nameA_len (zs : List Int) (k : Nat) (hk : k ≤ 12) : (nameA zs k).length ≤ 48 := by
  have h := (pieces_len (map_pieces (zs.take k))).2
  have h2 : ((zs.take k).map pieceN).length ≤ k := by simp; omega
  unfold nameA
  omega
theorem nameA_end {zs : List Int} {k : Nat} (h : k = 12 ∨ (zs.length ≤ k ∧ k ≤ 12)) : fixN (nameA zs k) = nameN zs := by
  unfold nameN nameA
  rcases h with rfl | ⟨h1, h2⟩
  · rfl
  · rw [List.take_of_length_le h1, List.take_of_length_le (by omega)]
theorem nameN_len (zs : List Int) : (nameN zs).length ≤ 49 := by
  have := nameA_len zs 12 (Nat.le_refl _)
  unfold nameN fixN
  unfold nameA at this
  split <;> simp <;> simp at this <;> omega
theorem within_nspec (a n : Int) (hn : 0 < n) (hn2 : n < 9223372036854775808) (F : HP) : CallsS Tryd.prog 16 #[.int .i64 a, .int .i64 n] F [] (fun v Ps => v = .int .i64 (a % n) ∧ Ps = []) := by
  have htb := tmod_bounds a hn
  refine callsS_enter Tryd.func16 rfl Tryd.ntmps16 (by simp) (fun E => ?_)
  refine W_seq ?_
  refine W.pre (K' := [(0, _), (1, _)]) (L' := [(0, _)]) ?_ ⟨rfl, ⟨rfl, trivial⟩⟩ ⟨rfl, trivial⟩
  refine W_regL (WL_pure rfl rfl (by decide) (Pu_assign rfl rfl) (WL_nil (X_then ?_)))
  refine W_seq ?_
  refine W.pre (K' := [(0, _), (1, _), (4, _)]) (L' := [(0, _)]) ?_ ⟨rfl, ⟨rfl, ⟨rfl, trivial⟩⟩⟩ ⟨rfl, trivial⟩
  refine W_regL (WL_pure rfl rfl (by decide) (Pu_move rfl rfl) (WL_pure rfl rfl (by decide) (Pu_move rfl rfl) (WL_pure rfl rfl (by decide) (Pu_bin rfl rfl rfl (run_tmod _ _ _ _ _ (by omega))) (WL_pure rfl rfl (by decide) (Pu_assign rfl rfl) (WL_nil (X_then ?_))))))
  refine W_seq ?_
  refine W_seq ?_
  refine W.pre (K' := [(0, _), (1, _), (4, _), (5, _)]) (L' := [(0, _)]) ?_ ⟨rfl, ⟨rfl, ⟨rfl, ⟨rfl, trivial⟩⟩⟩⟩ ⟨rfl, trivial⟩
  refine W_regL (WL_pure rfl rfl (by decide) (Pu_move rfl rfl) (WL_pure rfl rfl (by decide) (Pu_bin rfl rfl rfl (run_lss _ _ _ _ _ _)) (WL_nil (X_then ?_))))
  refine W_cond rfl (fun hc10 => ?_) (fun hc10 => ?_)
  ·
    have hlt := of_decide_eq_true hc10
    refine W.pre (K' := [(0, _), (1, _), (4, _), (5, _), (10, _)]) (L' := [(0, _)]) ?_ ⟨rfl, ⟨rfl, ⟨rfl, ⟨rfl, ⟨rfl, trivial⟩⟩⟩⟩⟩ ⟨rfl, trivial⟩
    refine W_regL (WL_pure rfl rfl (by decide) (Pu_move rfl rfl) (WL_pure rfl rfl (by decide) (Pu_move rfl rfl) (WL_pure rfl rfl (by decide) (Pu_bin rfl rfl rfl (run_add _ _ _ _ _ (by omega))) (WL_pure rfl rfl (by decide) (Pu_assign rfl rfl) (WL_nil (X_then ?_))))))
    refine W_seq ?_
    refine W.pre (K' := [(0, _), (1, _), (4, _), (5, _), (10, _)]) (L' := [(0, _)]) ?_ ⟨rfl, ⟨rfl, ⟨rfl, ⟨rfl, ⟨rfl, trivial⟩⟩⟩⟩⟩ ⟨rfl, trivial⟩
    refine W_regL (WL_pure rfl rfl (by decide) (Pu_move rfl rfl) (WL_pure rfl rfl (by decide) (Pu_assign rfl rfl) (WL_nil (X_then ?_))))
    refine W_ret ?_
    exact X_ret [] (Ps := []) (res1 Tryd.results16 rfl) rfl (by decide) ⟨int_val (emod_neg hn (of_decide_eq_true hc10)), rfl⟩
  ·
    refine W_skip (X_then ?_)
    refine W_seq ?_
    refine W.pre (K' := [(0, _), (1, _), (4, _), (5, _), (10, _)]) (L' := [(0, _)]) ?_ ⟨rfl, ⟨rfl, ⟨rfl, ⟨rfl, ⟨rfl, trivial⟩⟩⟩⟩⟩ ⟨rfl, trivial⟩
    refine W_regL (WL_pure rfl rfl (by decide) (Pu_move rfl rfl) (WL_pure rfl rfl (by decide) (Pu_assign rfl rfl) (WL_nil (X_then ?_))))
    refine W_ret ?_
    exact X_ret [] (Ps := []) (res1 Tryd.results16 rfl) rfl (by decide) ⟨int_val (emod_pos hn (of_decide_eq_false hc10)), rfl⟩
theorem name_spec (v : Value) (zs : List Int) (F : HP) (hF : ∀ h, F h → rdN v zs h) : CallsS Tryd.prog 6 #[v] F [] (fun r Ps => r = sV (nameN zs) ∧ Ps = []) := by
  refine callsS_enter Tryd.func6 rfl Tryd.ntmps6 (by simp) (fun E => ?_)
  refine W_seq ?_
  refine W.pre (K' := [(0, _)]) (L' := [(0, _)]) ?_ ⟨rfl, trivial⟩ ⟨rfl, trivial⟩
  refine W_regL (WL_pure rfl rfl (by decide) (Pu_assign rfl rfl) (WL_nil (X_then ?_)))
  refine W_seq ?_
  refine W.pre (K' := [(0, _), (2, _)]) (L' := [(0, _)]) ?_ ⟨rfl, ⟨rfl, trivial⟩⟩ ⟨rfl, trivial⟩
  refine W_regL (WL_cons rfl rfl (by decide) (OpT_buildOnes (r := 101) (ss some13) rfl rfl Tryd.runUnderlying52 Tryd.sizeOf9 Tryd.zeroValue9 rfl rfl (by decide) rfl (ss_cells _) (fun v6 => (WL_pure rfl rfl (by decide) (Pu_assign rfl rfl) (WL_nil (X_then ?_))))))
  refine W_seq ?_
  refine W.pre (K' := [(0, _), (2, _), (3, _)]) (L' := [(0, _), (101, _)]) ?_ ⟨rfl, ⟨rfl, ⟨rfl, trivial⟩⟩⟩ ⟨rfl, ⟨rfl, trivial⟩⟩
  refine W_regL (WL_pure rfl rfl (by decide) (Pu_assign rfl rfl) (WL_nil (X_then ?_)))
  refine W_seq ?_
  refine W_seq ?_
  refine W.pre (K' := [(0, _), (2, _), (3, _), (4, _)]) (L' := [(0, _), (101, _)]) ?_ ⟨rfl, ⟨rfl, ⟨rfl, ⟨rfl, trivial⟩⟩⟩⟩ ⟨rfl, ⟨rfl, trivial⟩⟩
  refine W_regL (WL_pure rfl rfl (by decide) (Pu_assign rfl rfl) (WL_nil (X_then ?_)))
  refine W_block ?_
  refine W_turn (P' := rowS 9 v6 some13) 101 rfl (fun h hp => hp) ?_
  refine W_loop (α := Nat) (fun i => [(0, v), (3, v6), (4, sV (nameA zs i)), (5, .int .i64 (i : Int))]) (fun i => [(0, F), (101, rowS 9 v6 some13)]) (fun i => i ≤ zs.length ∧ i ≤ 12) (fun i => 12 - i) (0) ⟨Nat.zero_le _, by decide⟩ ⟨rfl, ⟨rfl, ⟨rfl, ⟨rfl, trivial⟩⟩⟩⟩ ⟨rfl, ⟨rfl, trivial⟩⟩ (fun x hx => ?_)
  obtain ⟨hxl, hx12⟩ := hx
  have hal := nameA_len zs x hx12
  refine W_seq ?_
  refine W_seq ?_
  refine W.pre (K' := [(0, _), (3, _), (4, _), (5, _)]) (L' := [(0, _), (101, _)]) ?_ ⟨rfl, ⟨rfl, ⟨rfl, ⟨rfl, trivial⟩⟩⟩⟩ ⟨rfl, ⟨rfl, trivial⟩⟩
  refine W_regL (WL_pure rfl rfl (by decide) (Pu_move rfl rfl) (WL_pure rfl rfl (by decide) (Pu_move rfl rfl) (WL_pure rfl rfl (by decide) (Pu_len (r := 0) rfl Tryd.runUnderlying26 rfl rfl hF) (WL_pure rfl rfl (by decide) (Pu_bin rfl rfl rfl (run_lss _ _ _ _ _ _)) (WL_pure rfl rfl (by decide) (Pu_move rfl rfl) (WL_guardP rfl rfl rfl rfl (by decide) (fun hb => (Pu_move rfl rfl)) (WL_guardP rfl rfl rfl rfl (by decide) (fun hb => (Pu_bin rfl (ev_gv rfl hb) rfl (run_lss _ _ _ _ _ _))) (WL_pure rfl rfl (by decide) (Pu_and rfl rfl rfl) (WL_nil (X_then ?_))))))))))
  refine W_cond rfl (fun hc14 => ?_) (fun hc14 => ?_)
  ·
    simp only [Bool.and_eq_true, decide_eq_true_eq] at hc14
    have hlt : x < zs.length := by omega
    have hlt2 : x < 12 := by omega
    refine W_skip (X_then ?_)
    refine W_seq ?_
    refine W_block ?_
    refine W.pre (K' := [(0, _), (3, _), (4, _), (5, _), (14, _)]) (L' := [(0, _), (101, _)]) ?_ ⟨rfl, ⟨rfl, ⟨rfl, ⟨rfl, ⟨rfl, trivial⟩⟩⟩⟩⟩ ⟨rfl, ⟨rfl, trivial⟩⟩
    refine W_regL (WL_pure rfl rfl (by decide) (Pu_move rfl rfl) (WL_pure rfl rfl (by decide) (Pu_move rfl rfl) (WL_pure rfl rfl (by decide) (Pu_move rfl rfl) (WL_pure rfl rfl (by decide) (Pu_move rfl rfl) (WL_pure rfl rfl (by decide) (Pu_idxS1 (r := 0) rfl Tryd.runUnderlying26 Tryd.sizeOf3 rfl rfl rfl hF (by omega)) (WL_pure rfl rfl (by decide) (Pu_loadS (r := 0) rfl Tryd.isAgg3 rfl rfl hF (is_at hlt)) (WL_pure rfl rfl (by decide) (Pu_move rfl rfl) (WL_pure rfl rfl (by decide) (Pu_len (r := 101) rfl Tryd.runUnderlying52 rfl rfl rowS_rd) (WL_cons rfl rfl (by decide) (OpT_call 200 [0, 101] [] rfl Tryd.call16 rfl rfl rfl (by decide) (by decide) (within_nspec (zs.getD x 0) 13 (by omega) (by omega) _) (fun v25 Ps25 hR25 => ?_)))))))))))
    obtain ⟨rfl, rfl⟩ := hR25
    refine (WL_pure rfl rfl (by decide) (Pu_idxS1 (r := 101) rfl Tryd.runUnderlying52 Tryd.sizeOf9 rfl rfl rfl rowS_rd (by show 0 ≤ _ ∧ _ < (13 : Int); omega)) (WL_pure rfl rfl (by decide) (Pu_loadS (r := 101) rfl Tryd.isAgg9 rfl rfl rowS_rd (ss_at (z13 _))) (WL_pure rfl rfl (by decide) (Pu_bin rfl rfl rfl (run_addL _ _ _ _ _ (by have := (piece_len _ (pieceN_mem (zs.getD x 0))).2; unfold pieceN at this; omega))) (WL_pure rfl rfl (by decide) (Pu_assign rfl rfl) (WL_nil (X_block (X_then ?_)))))))
    refine W.pre (K' := [(0, _), (3, _), (4, _), (5, _), (14, _)]) (L' := [(0, _), (101, _)]) ?_ ⟨rfl, ⟨rfl, ⟨rfl, ⟨rfl, ⟨rfl, trivial⟩⟩⟩⟩⟩ ⟨rfl, ⟨rfl, trivial⟩⟩
    refine W_regL (WL_pure rfl rfl (by decide) (Pu_move rfl rfl) (WL_pure rfl rfl (by decide) (Pu_bin rfl rfl rfl (run_add _ _ _ _ _ (by omega))) (WL_pure rfl rfl (by decide) (Pu_assign rfl rfl) (WL_nil ?_))))
    exact X_round (x + 1) ⟨hlt, hlt2⟩ (by omega) ⟨rfl, rfl, congrArg some (by rw [nameA_succ hlt] <;> rfl), rfl, trivial⟩ ⟨rfl, rfl, trivial⟩
  ·
    simp only [Bool.and_eq_false_iff, decide_eq_false_iff_not] at hc14
    have hfin := nameA_end (zs := zs) (k := x) (by omega)
    refine W_exit (X_then_exit (X_then_exit (X_block_exit (X_then ?_))))
    refine W_seq ?_
    refine W_seq ?_
    refine W.pre (K' := [(0, _), (3, _), (4, _), (5, _), (14, _)]) (L' := [(0, _), (101, _)]) ?_ ⟨rfl, ⟨rfl, ⟨rfl, ⟨rfl, ⟨rfl, trivial⟩⟩⟩⟩⟩ ⟨rfl, ⟨rfl, trivial⟩⟩
    refine W_regL (WL_pure rfl rfl (by decide) (Pu_move rfl rfl) (WL_pure rfl rfl (by decide) (Pu_bin rfl rfl rfl (run_strEq _ _ _ _ _)) (WL_pure rfl rfl (by decide) (Pu_move rfl rfl) (WL_guardP rfl rfl rfl rfl (by decide) (fun hb => (Pu_move rfl rfl)) (WL_guardP rfl rfl rfl rfl (by decide) (fun hb => (Pu_bin rfl (ev_gv rfl hb) rfl (run_strEq _ _ _ _ _))) (WL_pure rfl rfl (by decide) (Pu_or rfl rfl rfl) (WL_pure rfl rfl (by decide) (Pu_move rfl rfl) (WL_guardP rfl rfl rfl rfl (by decide) (fun hb => (Pu_move rfl rfl)) (WL_guardP rfl rfl rfl rfl (by decide) (fun hb => (Pu_bin rfl (ev_gv rfl hb) rfl (run_strEq _ _ _ _ _))) (WL_pure rfl rfl (by decide) (Pu_or rfl rfl rfl) (WL_nil (X_then ?_))))))))))))
    refine W_cond rfl (fun hc38 => ?_) (fun hc38 => ?_)
    ·
      have hb : bad0 (nameA zs x) = true := hc38
      refine W.pre (K' := [(0, _), (3, _), (4, _), (5, _), (14, _), (38, _)]) (L' := [(0, _), (101, _)]) ?_ ⟨rfl, ⟨rfl, ⟨rfl, ⟨rfl, ⟨rfl, ⟨rfl, trivial⟩⟩⟩⟩⟩⟩ ⟨rfl, ⟨rfl, trivial⟩⟩
      refine W_regL (WL_pure rfl rfl (by decide) (Pu_move rfl rfl) (WL_pure rfl rfl (by decide) (Pu_bin rfl rfl rfl (run_addL _ _ _ _ _ (by simp only [List.length_cons, List.length_nil]; omega))) (WL_pure rfl rfl (by decide) (Pu_assign rfl rfl) (WL_nil (X_then ?_)))))
      refine W_seq ?_
      refine W.pre (K' := [(0, _), (3, _), (4, _), (5, _), (14, _), (38, _)]) (L' := [(0, _), (101, _)]) ?_ ⟨rfl, ⟨rfl, ⟨rfl, ⟨rfl, ⟨rfl, ⟨rfl, trivial⟩⟩⟩⟩⟩⟩ ⟨rfl, ⟨rfl, trivial⟩⟩
      refine W_regL (WL_pure rfl rfl (by decide) (Pu_move rfl rfl) (WL_pure rfl rfl (by decide) (Pu_assign rfl rfl) (WL_nil (X_then ?_))))
      refine W_ret ?_
      exact X_ret [] (Ps := []) (res1 Tryd.results6 rfl) rfl (by decide) ⟨by rw [← hfin, fixN, hb] <;> rfl, rfl⟩
    ·
      have hb : bad0 (nameA zs x) = false := hc38
      refine W_skip (X_then ?_)
      refine W_seq ?_
      refine W.pre (K' := [(0, _), (3, _), (4, _), (5, _), (14, _), (38, _)]) (L' := [(0, _), (101, _)]) ?_ ⟨rfl, ⟨rfl, ⟨rfl, ⟨rfl, ⟨rfl, ⟨rfl, trivial⟩⟩⟩⟩⟩⟩ ⟨rfl, ⟨rfl, trivial⟩⟩
      refine W_regL (WL_pure rfl rfl (by decide) (Pu_move rfl rfl) (WL_pure rfl rfl (by decide) (Pu_assign rfl rfl) (WL_nil (X_then ?_))))
      refine W_ret ?_
      exact X_ret [] (Ps := []) (res1 Tryd.results6 rfl) rfl (by decide) ⟨by rw [← hfin, fixN, hb] <;> rfl, rfl⟩
end Go.Proofs.YtnhidehpacidnaaDoor
/- Names: those made of numbers are names; paths there and back; in plain words. -/
namespace Go.Proofs.YtnhidehpacidnaaDoor
open Go.RowKit Go.Lib
set_option linter.unusedVariables false
set_option linter.unusedSimpArgs false
theorem dec_ascii (c : UInt8) (rest : List UInt8) (h : c.toNat < 128) : decodeL (c :: rest) = (c.toNat, 1) := by
  rw [decodeL_N]
  simp [decodeN, h]
theorem chk_step {p rest : List UInt8} {r : Nat} (hp : p ≠ []) (h : decodeL (p ++ rest) = (r, p.length)) (hr : r ≠ 65533) (n : Nat) (bad : Bool) : chk (p ++ rest) n bad = chk rest (n + 1) (bad || wrongR r) := by
  have hno : noRune (p ++ rest) = false := by unfold noRune; rw [h]; simp [hr]
  rw [chk_some (by simp [hp]) hno, h]
  simp
theorem chk_piece : ∀ p ∈ some13, ∀ (rest : List UInt8) (n : Nat) (bad : Bool), chk (p ++ rest) n bad = chk rest (n + 1) bad := by
  intro p hp rest n bad
  simp only [some13, List.mem_cons, List.mem_nil_iff, or_false] at hp
  have h1 : ∀ c : UInt8, c.toNat < 128 → wrongR c.toNat = false → chk ([c] ++ rest) n bad = chk rest (n + 1) bad := fun c hc hw => by
    rw [chk_step (by simp) (dec_ascii c rest hc) (by omega), hw, Bool.or_false]
  rcases hp with rfl | rfl | rfl | rfl | rfl | rfl | rfl | rfl | rfl | rfl | rfl | rfl | rfl
  · exact h1 97 (by decide) (by decide)
  · exact h1 98 (by decide) (by decide)
  · exact h1 122 (by decide) (by decide)
  · exact h1 65 (by decide) (by decide)
  · exact h1 48 (by decide) (by decide)
  · exact h1 46 (by decide) (by decide)
  · exact h1 45 (by decide) (by decide)
  · exact h1 32 (by decide) (by decide)
  · exact h1 126 (by decide) (by decide)
  · rw [chk_step (r := 233) (by simp) (by rw [decodeL_N]; simp [decodeN]) (by omega), show wrongR 233 = false by decide, Bool.or_false]
  · rw [chk_step (r := 8364) (by simp) (by rw [decodeL_N]; simp [decodeN]) (by omega), show wrongR 8364 = false by decide, Bool.or_false]
  · rw [chk_step (r := 128512) (by simp) (by rw [decodeL_N]; simp [decodeN]) (by omega), show wrongR 128512 = false by decide, Bool.or_false]
  · rw [chk_step (r := 128) (by simp) (by rw [decodeL_N]; simp [decodeN]) (by omega), show wrongR 128 = false by decide, Bool.or_false]
theorem chk_pieces {ps : List (List UInt8)} (h : ∀ p ∈ ps, p ∈ some13) (rest : List UInt8) (bad : Bool) : ∀ n, chk (ps.flatten ++ rest) n bad = chk rest (n + ps.length) bad := by
  induction ps with
  | nil => intro n; simp
  | cons p ps ih =>
    intro n
    rw [List.flatten_cons, List.append_assoc, chk_piece p (h p (by simp)), ih fun q hq => h q (by simp [hq])]
    congr 1
    simp; omega
theorem chk_x (n : Nat) (bad : Bool) : chk [120] n bad = finC (n + 1) bad := by
  have := chk_step (p := [120]) (rest := []) (by simp) (dec_ascii 120 [] (by decide)) (by decide) n bad
  rw [List.append_nil] at this
  rw [this, chk_nil, show wrongR (120 : UInt8).toNat = false by decide, Bool.or_false]
theorem bad0_fix (o : List UInt8) : bad0 (fixN o) = false := by
  unfold fixN
  split
  · rename_i h
    simp only [bad0, Bool.or_eq_true, beq_iff_eq] at h
    rcases h with (rfl | rfl) | rfl <;> decide
  · rename_i h; simpa using h
theorem bad0_len {o : List UInt8} (h : bad0 o = true) : o.length ≤ 2 := by
  simp only [bad0, Bool.or_eq_true, beq_iff_eq] at h
  rcases h with (rfl | rfl) | rfl <;> simp
theorem check_name (zs : List Int) : checkN (nameN zs) = 0 := by
  have hm := map_pieces (zs.take 12)
  have hl : ((zs.take 12).map pieceN).length ≤ 12 := by simp; omega
  unfold checkN
  rw [show bad0 (nameN zs) = false from bad0_fix _]
  unfold nameN fixN
  split
  · rename_i h
    have := (pieces_len hm).1
    have := bad0_len h
    rw [chk_pieces hm, chk_x]
    unfold finC
    rw [if_neg (by decide), if_neg (by omega)]
  · have := chk_pieces hm [] false 0
    rw [List.append_nil] at this
    rw [this, chk_nil]
    unfold finC
    rw [if_neg (by decide), if_neg (by omega)]
theorem piece_stroke : ∀ p ∈ some13, (47 : UInt8) ∉ p := by decide
theorem name_stroke (zs : List Int) : (47 : UInt8) ∉ nameN zs := by
  have h : (47 : UInt8) ∉ ((zs.take 12).map pieceN).flatten := by
    intro hc
    obtain ⟨p, hp, hc⟩ := List.mem_flatten.1 hc
    exact piece_stroke p (map_pieces _ p hp) hc
  unfold nameN fixN
  split
  · intro hc
    rcases List.mem_append.1 hc with hc | hc
    · exact h hc
    · simp at hc
  · exact h
theorem name_ne (zs : List Int) : nameN zs ≠ [] := by
  intro h
  have := bad0_fix (((zs.take 12).map pieceN).flatten)
  rw [show fixN _ = nameN zs from rfl, h] at this
  cases this
/-! paths there and back -/
theorem splitL_none {x : List UInt8} (h : (47 : UInt8) ∉ x) : splitL x = [x] := by
  induction x with
  | nil => rfl
  | cons c x ih =>
    rw [splitL, if_neg (fun hc => h (by simp [hc])), ih (fun hc => h (by simp [hc]))]
theorem splitL_app {x : List UInt8} (h : (47 : UInt8) ∉ x) (t : List UInt8) : splitL (x ++ 47 :: t) = x :: splitL t := by
  induction x with
  | nil => simp [splitL]
  | cons c x ih =>
    rw [List.cons_append, splitL, if_neg (fun hc => h (by simp [hc])), ih (fun hc => h (by simp [hc]))]
theorem splitL_join {ls : List (List UInt8)} (hne : ls ≠ []) (h : ∀ x ∈ ls, (47 : UInt8) ∉ x) : splitL (joinL ls) = ls := by
  induction ls with
  | nil => exact absurd rfl hne
  | cons x r ih =>
    cases r with
    | nil => exact splitL_none (h x (by simp))
    | cons y r =>
      rw [joinL, splitL_app (h x (by simp)), ih (by simp) fun z hz => h z (List.mem_cons_of_mem _ hz)]
theorem joinL_split (l : List UInt8) : joinL (splitL l) = l := by
  induction l with
  | nil => rfl
  | cons c l ih =>
    have hne := splitL_ne l
    unfold splitL
    split
    · rename_i h
      subst h
      cases hs : splitL l with
      | nil => exact absurd hs hne
      | cons p ps => rw [joinL, ← hs, ih]; rfl
    · split
      · rename_i p ps hs
        rw [hs] at ih
        cases ps with
        | nil => simp only [joinL] at ih ⊢; rw [ih]
        | cons q ps => simp only [joinL] at ih ⊢; rw [← ih]; rfl
      · rename_i hs; exact absurd hs hne
/-- What is split without fault is joined to the same. -/
theorem join_split {l : List UInt8} (h : (splitN l).2 = 0) : joinN (splitN l).1 = (l, 0) := by
  unfold splitN at h ⊢
  split at h
  · rename_i h1; subst h1; rw [if_pos rfl]; rfl
  · rename_i h1
    rw [if_neg h1]
    split at h
    · simp at h
    · rename_i h2
      rw [if_neg h2]
      split at h
      · rename_i h3; exact absurd h h3
      · rename_i h3
        rw [if_neg h3]
        unfold joinN
        rw [if_neg h3, joinL_split]
        have hp : l = 47 :: l.drop 1 := by
          simp only [noPath, Bool.or_eq_true, Bool.not_eq_true', not_or, Bool.not_eq_false, Bool.not_eq_true] at h2
          cases l with
          | nil => simp [List.isPrefixOf] at h2
          | cons c l => simp [List.isPrefixOf] at h2; simp [h2.1]
        rw [← hp]
theorem allN_zero {ls : List (List UInt8)} (h : allN ls = 0) : ls.length ≤ 5 ∧ ∀ x ∈ ls, checkN x = 0 := by
  unfold allN at h
  split at h
  · omega
  · refine ⟨by omega, ?_⟩
    have key : ∀ ls : List (List UInt8), firstBad ls = 0 → ∀ x ∈ ls, checkN x = 0 := by
      intro ls
      induction ls with
      | nil => intro _ x hx; cases hx
      | cons y r ih =>
        intro hf x hx
        rw [firstBad] at hf
        by_cases hy : checkN y ≠ 0
        · rw [if_pos hy] at hf; exact absurd hf hy
        · rw [if_neg hy] at hf
          rcases List.mem_cons.1 hx with rfl | hx
          · omega
          · exact ih hf x hx
    exact key ls h
theorem allN_good {ls : List (List UInt8)} (h5 : ls.length ≤ 5) (h : ∀ x ∈ ls, checkN x = 0) : allN ls = 0 := by
  unfold allN
  rw [if_neg (by omega)]
  clear h5
  induction ls with
  | nil => rfl
  | cons y r ih => rw [firstBad, if_neg (by rw [h y (by simp)]; simp), ih fun x hx => h x (by simp [hx])]
theorem allN_many {ls : List (List UInt8)} (h5 : 5 < ls.length) : allN ls = 4 := by unfold allN; rw [if_pos h5]
/-- Good names, without strokes: their path is split into them. -/
theorem noPath_join {ls : List (List UInt8)} (hne : ls ≠ []) (h : ∀ x ∈ ls, (47 : UInt8) ∉ x ∧ x ≠ []) : noPath (47 :: joinL ls) = false ∧ joinL ls ≠ [] := by
  have key : ∀ ls : List (List UInt8), ls ≠ [] → (∀ x ∈ ls, (47 : UInt8) ∉ x ∧ x ≠ []) → ∃ t c, joinL ls = t ++ [c] ∧ c ≠ 47 := by
    intro ls
    induction ls with
    | nil => intro h; exact absurd rfl h
    | cons x r ih =>
      intro _ h
      cases r with
      | nil =>
        obtain ⟨h1, h2⟩ := h x (by simp)
        refine ⟨x.dropLast, x.getLast h2, (List.dropLast_concat_getLast h2).symm, fun hc => h1 (hc ▸ List.getLast_mem h2)⟩
      | cons y r =>
        obtain ⟨t, c, ht, hc⟩ := ih (by simp) fun z hz => h z (List.mem_cons_of_mem _ hz)
        exact ⟨x ++ 47 :: t, c, by rw [joinL, ht]; simp, hc⟩
  obtain ⟨t, c, ht, hc⟩ := key ls hne h
  constructor
  · rw [ht]
    unfold noPath
    simp [List.isPrefixOf, List.isSuffixOf]
    exact fun h => hc h.symm
  · rw [ht]; simp
theorem split_join {ls : List (List UInt8)} (hne : ls ≠ []) (h : ∀ x ∈ ls, (47 : UInt8) ∉ x ∧ x ≠ []) : splitN (47 :: joinL ls) = if allN ls ≠ 0 then ([], allN ls) else (ls, 0) := by
  obtain ⟨h1, h2⟩ := noPath_join hne h
  unfold splitN
  rw [if_neg (by simp [h2]), if_neg (by simp [h1]), List.drop_succ_cons, List.drop_zero, splitL_join hne fun x hx => (h x hx).1]
end Go.Proofs.YtnhidehpacidnaaDoor
/- Blocks: plain words. -/
namespace Go.Proofs.YtnhidehpacidnaaDoor
set_option linter.unusedVariables false
set_option linter.unusedSimpArgs false
/-- How many bytes so many levels lead to. -/
def all8 : Nat → Int
  | 0 => 64
  | n + 1 => all8 n * 8
theorem all8_succ (n : Nat) : all8 n * 8 = all8 (n + 1) := rfl
theorem all8_pos (n : Nat) : 0 < all8 n := by
  induction n with
  | zero => decide
  | succ n ih => simp only [all8]; omega
theorem all8_mono (n : Nat) : ∀ k, all8 n ≤ all8 (n + k)
  | 0 => Int.le_refl _
  | k + 1 => by have := all8_mono n k; have h0 := all8_pos (n + k); show _ ≤ all8 (n + k) * 8; omega
theorem all8_le {n : Nat} (h : n ≤ 7) : all8 n ≤ 134217728 := by
  have := all8_mono n (7 - n)
  rw [show n + (7 - n) = 7 by omega] at this
  exact this
/-- The number of levels of a size. -/
def lev (size : Int) : Nat :=
  if size ≤ 64 then 0 else if size ≤ 512 then 1 else if size ≤ 4096 then 2 else if size ≤ 32768 then 3 else if size ≤ 262144 then 4 else if size ≤ 2097152 then 5 else if size ≤ 16777216 then 6 else 7
theorem lev_of {size : Int} {n : Nat} (h7 : n ≤ 7) (hlo : n = 0 ∨ all8 (n - 1) < size) (hhi : (decide (all8 n < size) && decide ((n : Int) < 7)) = false) : lev size = n := by
  have h : size ≤ all8 n ∨ n = 7 := by simp at hhi; omega
  clear hhi
  have : n = 0 ∨ n = 1 ∨ n = 2 ∨ n = 3 ∨ n = 4 ∨ n = 5 ∨ n = 6 ∨ n = 7 := by omega
  unfold lev
  rcases this with rfl | rfl | rfl | rfl | rfl | rfl | rfl | rfl <;> simp [all8] at hlo h <;> (repeat' split) <;> omega
/-- A number as sz bytes, the highest first. -/
def numB (n : Int) (sz : Nat) : List UInt8 := (List.range sz).map fun j => byte (n.fdiv (2 ^ (8 * (sz - 1 - j))))
/-- The last k of them. -/
def numTo (n : Int) (sz k : Nat) : List UInt8 := (List.range sz).map fun j => if sz - k ≤ j then byte (n.fdiv (2 ^ (8 * (sz - 1 - j)))) else 0
theorem numB_length (n : Int) (sz : Nat) : (numB n sz).length = sz := by simp [numB]
theorem numTo_length (n : Int) (sz k : Nat) : (numTo n sz k).length = sz := by simp [numTo]
theorem numTo_zero (n : Int) (sz : Nat) : bs (numTo n sz 0) = List.replicate sz (.int .u8 0) := by
  apply List.ext_getElem?
  intro j
  simp only [bs, numTo, List.map_map]
  rw [List.getElem?_map]
  by_cases hj : j < sz
  · rw [List.getElem?_range hj, List.getElem?_replicate]
    simp only [Option.map_some, hj, if_true, Nat.sub_zero]
    show some (bv (if sz ≤ j then _ else 0)) = _
    rw [if_neg (by omega)]
    rfl
  · rw [List.getElem?_eq_none (by simpa using hj), List.getElem?_eq_none (by simpa using hj)]
    rfl
theorem numTo_all (n : Int) (sz k : Nat) (hk : k ≤ sz) (h : ¬ (k : Int) < (sz : Int)) : numTo n sz k = numB n sz := by
  unfold numTo numB
  apply List.map_congr_left
  intro j _
  rw [if_pos (by omega)]
theorem numTo_set (n : Int) (sz k : Nat) (h : k < sz) : (bs (numTo n sz k)).set ((sz : Int) - 1 - (k : Int)).toNat (bv (byte (n.fdiv (2 ^ (8 * k))))) = bs (numTo n sz (k + 1)) := by
  have e : ((sz : Int) - 1 - (k : Int)).toNat = sz - 1 - k := by omega
  rw [e]
  apply List.ext_getElem?
  intro j
  rw [List.getElem?_set, bs_get, bs_get]
  unfold numTo
  rw [List.getElem?_map, List.getElem?_map]
  by_cases hj : j < sz
  · rw [List.getElem?_range hj]
    by_cases h1 : sz - 1 - k = j
    · subst h1
      simp only [Option.map_some, if_true]
      rw [if_pos (by rw [bs_length, List.length_map, List.length_range]; omega), if_pos (by omega), show sz - 1 - (sz - 1 - k) = k by omega]
    · rw [if_neg h1]
      simp only [Option.map_some]
      by_cases h2 : sz - k ≤ j
      · rw [if_pos h2, if_pos (by omega)]
      · rw [if_neg h2, if_neg (by omega)]
  · rw [List.getElem?_eq_none (by simpa using hj)]
    simp
    omega
theorem of_and_l {p q : Prop} [Decidable p] [Decidable q] (h : (decide p && decide q) = true) : p := by simp at h; exact h.1
theorem of_and_r {p q : Prop} [Decidable p] [Decidable q] (h : (decide p && decide q) = true) : q := by simp at h; exact h.2
/-- An inode's cells. -/
def nodeC (k s l : Int) (top : List UInt8) : List Value := [.int .i64 k, .int .i64 s, .int .i64 l] ++ bs top
def nodeV (k s l : Int) (top : List UInt8) : Value := .agg (nodeC k s l top).toArray
/-- What is wrong with an inode. -/
def wrongB (s l : Int) (top : List UInt8) : Bool := decide (s < 0) || decide (1048576 < s) || !decide (l = (lev s : Int)) || decide (s = 0) && !(top == zeroId)
def wrongN (k s l : Int) (top : List UInt8) : Int := if k ≠ 1 ∧ k ≠ 2 then 3 else if wrongB s l top then 1 else 0
theorem wrongN_kind {k s l : Int} {top : List UInt8} (h : (!decide (k = 1) && !decide (k = 2)) = true) : 3 = wrongN k s l top := by
  simp at h; unfold wrongN; rw [if_pos h]
theorem wrongN_bad {k s l : Int} {top : List UInt8} (h : (!decide (k = 1) && !decide (k = 2)) = false) (h2 : wrongB s l top = true) : 1 = wrongN k s l top := by
  unfold wrongN
  rw [if_neg (by simp at h; omega), if_pos h2]
theorem wrongN_ok {k s l : Int} {top : List UInt8} (h : (!decide (k = 1) && !decide (k = 2)) = false) (h2 : wrongB s l top = false) : 0 = wrongN k s l top := by
  unfold wrongN
  rw [if_neg (by simp at h; omega), if_neg (by simp [h2])]
/-- An inode, written. -/
def inodeB (k s l : Int) (top : List UInt8) : List UInt8 := [105, byte k] ++ numB s 4 ++ [byte l] ++ top
theorem take_top {k s l : Int} {top : List UInt8} (ht : top.length = 32) : ((nodeC k s l top).drop 3).take 32 = bs top := by
  show (bs top).take 32 = _
  rw [List.take_of_length_le (by rw [bs_length, ht]; omega)]
theorem one_node (k s l : Int) (top : List UInt8) : ∀ x ∈ nodeC k s l top, x.oneCell' = true := by
  intro x hx
  simp only [nodeC, List.mem_append] at hx
  rcases hx with hx | hx
  · simp at hx; rcases hx with rfl | rfl | rfl <;> rfl
  · exact bs_one _ x hx
theorem node_over {k s l : Int} {z top : List UInt8} (hz : z.length = 32) (ht : top.length = 32) : over (nodeC k s l z) 3 (bs top) = nodeC k s l top := by
  have := over_mid [Value.int .i64 k, .int .i64 s, .int .i64 l] (bs z) (bs top) [] (by rw [bs_length, bs_length, hz, ht])
  simpa [nodeC] using this
theorem zeroId_length : zeroId.length = 32 := rfl
/-- The number that bytes say. -/
def val (l : List UInt8) : Nat → Nat
  | 0 => 0
  | k + 1 => val l k * 2 ^ 8 + (at0 l k).toNat
theorem val_lt (l : List UInt8) : ∀ k, val l k < 2 ^ (8 * k)
  | 0 => by simp [val]
  | k + 1 => by
    have := val_lt l k
    have h := (at0 l k).toNat_lt
    have e : 2 ^ (8 * (k + 1)) = 2 ^ (8 * k) * 256 := by rw [Nat.mul_add, Nat.pow_add]
    rw [val, e]
    omega
theorem val_small (l : List UInt8) {k : Nat} (h : k ≤ 7) : val l k < 72057594037927936 := by
  have := val_lt l k
  have h2 : 2 ^ (8 * k) ≤ 2 ^ (8 * 7) := Nat.pow_le_pow_right (by omega) (by omega)
  omega
theorem val_take (l : List UInt8) (n : Nat) : ∀ k, k ≤ n → val (l.take n) k = val l k
  | 0, _ => rfl
  | k + 1, h => by
    rw [val, val, val_take l n k (by omega)]
    congr 2
    simp [at0, List.getElem?_take, show k < n by omega]
/-- An inode, read: what is read, the error. -/
def parsed (b : List UInt8) : Int × Int × Int × List UInt8 := ((at0 b 1).toNat, val (b.drop 2) 4, (at0 b 6).toNat, (b.drop 7).take 32)
def parseI (b : List UInt8) : (Int × Int × Int × List UInt8) × Int :=
  if b.length < 39 then ((0, 0, 0, zeroId), 8)
  else if at0 b 0 ≠ 105 ∨ wrongN (parsed b).1 (parsed b).2.1 (parsed b).2.2.1 (parsed b).2.2.2 ≠ 0 then ((0, 0, 0, zeroId), 11)
  else if 39 < b.length then ((0, 0, 0, zeroId), 9)
  else (parsed b, 0)
theorem node_copy {k s l : Int} {z top : List UInt8} (hz : z.length = 32) (ht : top.length = 32) : over (nodeC k s l z) 3 ((bs top).take (min top.length 32)) = nodeC k s l top := by
  rw [List.take_of_length_le (by rw [bs_length]; omega)]
  exact node_over hz ht
theorem parsed_top {b : List UInt8} (h : 39 ≤ b.length) : ((b.drop 7).take 32).length = 32 := by simp; omega
theorem val_lt6 (l : List UInt8) {k : Nat} (h : k ≤ 6) : val l k < 281474976710656 := by
  have := val_lt l k
  have h2 : 2 ^ (8 * k) ≤ 2 ^ (8 * 6) := Nat.pow_le_pow_right (by omega) (by omega)
  omega
theorem parseI_cut {b : List UInt8} (h : (b.length : Int) < 39) : parseI b = ((0, 0, 0, zeroId), 8) := by unfold parseI; rw [if_pos (by omega)]
theorem parseI_bad {b : List UInt8} (h : 39 ≤ b.length) (h2 : (!decide (((at0 b 0).toNat : Int) = 105) || !decide (wrongN (parsed b).1 (parsed b).2.1 (parsed b).2.2.1 (parsed b).2.2.2 = 0)) = true) : parseI b = ((0, 0, 0, zeroId), 11) := by
  unfold parseI
  rw [if_neg (by omega), if_pos]
  simp at h2
  rcases h2 with h2 | h2
  · left; intro e; rw [e] at h2; exact h2 rfl
  · exact .inr h2
theorem parseI_good {b : List UInt8} (h2 : (!decide (((at0 b 0).toNat : Int) = 105) || !decide (wrongN (parsed b).1 (parsed b).2.1 (parsed b).2.2.1 (parsed b).2.2.2 = 0)) = false) : ¬ (at0 b 0 ≠ 105 ∨ wrongN (parsed b).1 (parsed b).2.1 (parsed b).2.2.1 (parsed b).2.2.2 ≠ 0) := by
  simp at h2
  intro h
  rcases h with h | h
  · exact h (UInt8.toNat_inj.1 (by have := h2.1; simp; omega))
  · exact h h2.2
theorem parseI_more {b : List UInt8} (h : 39 ≤ b.length) (h2 : (!decide (((at0 b 0).toNat : Int) = 105) || !decide (wrongN (parsed b).1 (parsed b).2.1 (parsed b).2.2.1 (parsed b).2.2.2 = 0)) = false) (h3 : decide ((39 : Int) < (b.length : Int)) = true) : parseI b = ((0, 0, 0, zeroId), 9) := by
  have := of_decide_eq_true h3
  unfold parseI
  rw [if_neg (by omega), if_neg (parseI_good h2), if_pos (by omega)]
theorem parseI_ok {b : List UInt8} (h : 39 ≤ b.length) (h2 : (!decide (((at0 b 0).toNat : Int) = 105) || !decide (wrongN (parsed b).1 (parsed b).2.1 (parsed b).2.2.1 (parsed b).2.2.2 = 0)) = false) (h3 : decide ((39 : Int) < (b.length : Int)) = false) : parseI b = (parsed b, 0) := by
  have := of_decide_eq_false h3
  unfold parseI
  rw [if_neg (by omega), if_neg (parseI_good h2), if_neg (by omega)]
/-- What Inode answers. -/
def inodeR (k s l : Int) (top : List UInt8) : List UInt8 := if wrongN k s l top = 0 then inodeB k s l top else []
end Go.Proofs.YtnhidehpacidnaaDoor
/- Blocks: levels, within. -/
namespace Go.Proofs.YtnhidehpacidnaaDoor
open Go.RowKit
set_option linter.unusedVariables false

theorem levels_spec (size : Int) (F : HP) : CallsS Tryd.prog 24 #[.int .i64 size] F [] (fun v Ps => v = .int .i64 (lev size : Int) ∧ Ps = []) := by
  refine callsS_enter Tryd.func24 rfl Tryd.ntmps24 (by simp) (fun E => ?_)
  refine W_seq ?_
  refine W.pre (K' := [(0, _)]) (L' := [(0, _)]) ?_ ⟨rfl, trivial⟩ ⟨rfl, trivial⟩
  refine W_regL (WL_pure rfl rfl (by decide) (Pu_assign rfl rfl) (WL_nil (X_then ?_)))
  refine W_seq ?_
  refine W.pre (K' := [(0, _), (2, _)]) (L' := [(0, _)]) ?_ ⟨rfl, ⟨rfl, trivial⟩⟩ ⟨rfl, trivial⟩
  refine W_regL (WL_pure rfl rfl (by decide) (Pu_assign rfl rfl) (WL_nil (X_then ?_)))
  refine W_seq ?_
  refine W_seq ?_
  refine W.pre (K' := [(0, _), (2, _), (3, _)]) (L' := [(0, _)]) ?_ ⟨rfl, ⟨rfl, ⟨rfl, trivial⟩⟩⟩ ⟨rfl, trivial⟩
  refine W_regL (WL_pure rfl rfl (by decide) (Pu_assign rfl rfl) (WL_nil (X_then ?_)))
  refine W_block ?_
  refine W_loop (α := Nat) (fun n => [(0, .int .i64 size), (3, .int .i64 (n : Int)), (4, .int .i64 (all8 n))]) (fun n => [(0, F)]) (fun n => n ≤ 7 ∧ (n = 0 ∨ all8 (n - 1) < size)) (fun n => 7 - n) (0) ⟨by omega, .inl rfl⟩ ⟨rfl, ⟨rfl, ⟨rfl, trivial⟩⟩⟩ ⟨rfl, trivial⟩ (fun x hx => ?_)
  obtain ⟨h7, hlo⟩ := hx
  have hb := all8_le h7
  have h0 := all8_pos x
  refine W_seq ?_
  refine W_seq ?_
  refine W.pre (K' := [(0, _), (3, _), (4, _)]) (L' := [(0, _)]) ?_ ⟨rfl, ⟨rfl, ⟨rfl, trivial⟩⟩⟩ ⟨rfl, trivial⟩
  refine W_regL (WL_pure rfl rfl (by decide) (Pu_move rfl rfl) (WL_pure rfl rfl (by decide) (Pu_move rfl rfl) (WL_pure rfl rfl (by decide) (Pu_bin rfl rfl rfl (run_lss _ _ _ _ _ _)) (WL_pure rfl rfl (by decide) (Pu_move rfl rfl) (WL_guardP rfl rfl rfl rfl (by decide) (fun hb => (Pu_move rfl rfl)) (WL_guardP rfl rfl rfl rfl (by decide) (fun hb => (Pu_bin rfl (ev_gv rfl hb) rfl (run_lss _ _ _ _ _ _))) (WL_pure rfl rfl (by decide) (Pu_and rfl rfl rfl) (WL_nil (X_then ?_)))))))))
  refine W_cond rfl (fun hc11 => ?_) (fun hc11 => ?_)
  ·
    refine W_skip (X_then ?_)
    refine W_seq ?_
    refine W_block ?_
    refine W.pre (K' := [(0, _), (3, _), (4, _), (11, _)]) (L' := [(0, _)]) ?_ ⟨rfl, ⟨rfl, ⟨rfl, ⟨rfl, trivial⟩⟩⟩⟩ ⟨rfl, trivial⟩
    refine W_regL (WL_pure rfl rfl (by decide) (Pu_move rfl rfl) (WL_pure rfl rfl (by decide) (Pu_bin rfl rfl rfl (run_add _ _ _ _ _ (by omega))) (WL_pure rfl rfl (by decide) (Pu_assign rfl rfl) (WL_nil (X_block (X_then ?_))))))
    refine W.pre (K' := [(0, _), (3, _), (4, _), (11, _)]) (L' := [(0, _)]) ?_ ⟨rfl, ⟨rfl, ⟨rfl, ⟨rfl, trivial⟩⟩⟩⟩ ⟨rfl, trivial⟩
    refine W_regL (WL_pure rfl rfl (by decide) (Pu_move rfl rfl) (WL_pure rfl rfl (by decide) (Pu_bin rfl rfl rfl (run_mul _ _ _ _ _ (by omega))) (WL_pure rfl rfl (by decide) (Pu_assign rfl rfl) (WL_nil ?_))))
    rw [all8_succ]
    exact X_round (x + 1) ⟨by have h8 := of_and_r hc11; omega, .inr (by simpa using of_and_l hc11)⟩ (by have h8 := of_and_r hc11; omega) ⟨rfl, rfl, rfl, trivial⟩ ⟨rfl, trivial⟩
  ·
    refine W_exit (X_then_exit (X_then_exit (X_block_exit (X_then ?_))))
    refine W_seq ?_
    refine W.pre (K' := [(0, _), (3, _), (4, _), (11, _)]) (L' := [(0, _)]) ?_ ⟨rfl, ⟨rfl, ⟨rfl, ⟨rfl, trivial⟩⟩⟩⟩ ⟨rfl, trivial⟩
    refine W_regL (WL_pure rfl rfl (by decide) (Pu_move rfl rfl) (WL_pure rfl rfl (by decide) (Pu_assign rfl rfl) (WL_nil (X_then ?_))))
    refine W_ret ?_
    exact X_ret [] (Ps := []) (res1 Tryd.results24 rfl) rfl (by decide) ⟨by rw [lev_of h7 hlo hc11], rfl⟩
end Go.Proofs.YtnhidehpacidnaaDoor
/- Facts of types: in TiE. -/
namespace Go.Proofs.YtnhidehpacidnaaDoor
end Go.Proofs.YtnhidehpacidnaaDoor
/- Blocks: numbers in bytes. -/
namespace Go.Proofs.YtnhidehpacidnaaDoor
open Go.RowKit
set_option linter.unusedVariables false

theorem number_spec (n : Int) (sz : Nat) (hsz : sz ≤ 8) (F : HP) : CallsS Tryd.prog 21 #[.int .i64 n, .int .i64 (sz : Int)] F [] (fun v Ps => Ps = [rowP 5 1 v sz (bs (numB n sz))]) := by
  refine callsS_enter Tryd.func21 rfl Tryd.ntmps21 (by simp) (fun E => ?_)
  refine W_seq ?_
  refine W.pre (K' := [(0, _), (1, _)]) (L' := [(0, _)]) ?_ ⟨rfl, ⟨rfl, trivial⟩⟩ ⟨rfl, trivial⟩
  refine W_regL (WL_pure rfl rfl (by decide) (Pu_assign rfl rfl) (WL_nil (X_then ?_)))
  refine W_seq ?_
  refine W.pre (K' := [(0, _), (1, _), (4, _)]) (L' := [(0, _)]) ?_ ⟨rfl, ⟨rfl, ⟨rfl, trivial⟩⟩⟩ ⟨rfl, trivial⟩
  refine W_regL (WL_pure rfl rfl (by decide) (Pu_move rfl rfl) (WL_cons rfl rfl (by decide) (OpT_make (r := 101) (m := sz) rfl Tryd.underlying27 TI.hi5 TI.hz5 TI.hs5 rfl rfl (by rw [TI.hby5]; omega) (by unfold maxLen; omega) (made_one _ _) (fun v8 => ?_))))
  refine (WL_pure rfl rfl (by decide) (Pu_assign rfl rfl) (WL_nil (X_then ?_)))
  refine W_seq ?_
  refine W_seq ?_
  refine W.pre (K' := [(0, _), (1, _), (4, _), (5, _)]) (L' := [(0, _), (101, _)]) ?_ ⟨rfl, ⟨rfl, ⟨rfl, ⟨rfl, trivial⟩⟩⟩⟩ ⟨rfl, ⟨rfl, trivial⟩⟩
  refine W_regL (WL_pure rfl rfl (by decide) (Pu_move rfl rfl) (WL_pure rfl rfl (by decide) (Pu_len (r := 101) rfl Tryd.runUnderlying27 rfl rfl (fun _ h => rowP_rd h)) (WL_pure rfl rfl (by decide) (Pu_move rfl rfl) (WL_nil (X_then ?_)))))
  refine W_block ?_
  refine W_loop (α := Nat) (fun k => [(0, .int .i64 n), (1, .int .i64 (sz : Int)), (5, v8), (10, .int .i64 (sz : Int)), (11, .int .i64 (k : Int))]) (fun k => [(0, F), (101, rowP 5 1 v8 sz (bs (numTo n sz k)))]) (fun k => k ≤ sz) (fun k => sz - k) (0) (by omega) ⟨rfl, ⟨rfl, ⟨rfl, ⟨rfl, ⟨rfl, trivial⟩⟩⟩⟩⟩ ⟨rfl, by rw [numTo_zero]; rfl, trivial⟩ (fun x hx => ?_)
  have hlen := numTo_length n sz x
  refine W_seq ?_
  refine W.pre (K' := [(0, _), (1, _), (5, _), (10, _), (11, _)]) (L' := [(0, _), (101, _)]) ?_ ⟨rfl, ⟨rfl, ⟨rfl, ⟨rfl, ⟨rfl, trivial⟩⟩⟩⟩⟩ ⟨rfl, ⟨rfl, trivial⟩⟩
  refine W_regL (WL_pure rfl rfl (by decide) (Pu_bin rfl rfl rfl (run_lss _ _ _ _ _ _)) (WL_nil (X_then ?_)))
  refine W_seq ?_
  refine W_cond rfl (fun hc12 => ?_) (fun hc12 => ?_)
  ·
    have hlt := of_decide_eq_true hc12
    refine W_skip (X_then ?_)
    refine W_seq ?_
    refine W_block ?_
    refine W_seq ?_
    refine W.pre (K' := [(0, _), (1, _), (5, _), (10, _), (11, _), (12, _)]) (L' := [(0, _), (101, _)]) ?_ ⟨rfl, ⟨rfl, ⟨rfl, ⟨rfl, ⟨rfl, ⟨rfl, trivial⟩⟩⟩⟩⟩⟩ ⟨rfl, ⟨rfl, trivial⟩⟩
    refine W_regL (WL_pure rfl rfl (by decide) (Pu_move rfl rfl) (WL_pure rfl rfl (by decide) (Pu_assign rfl rfl) (WL_nil (X_then ?_))))
    refine W.pre (K' := [(0, _), (1, _), (5, _), (6, _), (10, _), (11, _), (12, _)]) (L' := [(0, _), (101, _)]) ?_ ⟨rfl, ⟨rfl, ⟨rfl, ⟨rfl, ⟨rfl, ⟨rfl, ⟨rfl, trivial⟩⟩⟩⟩⟩⟩⟩ ⟨rfl, ⟨rfl, trivial⟩⟩
    refine W_regL (WL_pure rfl rfl (by decide) (Pu_move rfl rfl) (WL_pure rfl rfl (by decide) (Pu_move rfl rfl) (WL_pure rfl rfl (by decide) (Pu_bin rfl rfl rfl (run_sub _ _ _ _ _ (by omega))) (WL_pure rfl rfl (by decide) (Pu_move rfl rfl) (WL_pure rfl rfl (by decide) (Pu_bin rfl rfl rfl (run_sub _ _ _ _ _ (by omega))) (WL_pure rfl rfl (by decide) (Pu_move rfl rfl) (WL_pure rfl rfl (by decide) (Pu_move rfl rfl) (WL_pure rfl rfl (by decide) (Pu_bin rfl rfl rfl (run_mul _ _ _ _ _ (by omega))) (WL_pure rfl rfl (by decide) (Pu_bin rfl rfl rfl (run_shr _ (8 * x) _ _ _ (by omega))) (WL_pure rfl rfl (by decide) (Pu_conv rfl rfl (conv_byte _ _ Tryd.runUnderlying3 Tryd.runUnderlying5)) (WL_pure rfl rfl (by decide) (Pu_idxS1 (r := 101) rfl Tryd.runUnderlying27 Tryd.sizeOf5 rfl rfl rfl (fun _ h => rowP_rd h) (by omega)) (WL_cons0 rfl rfl (OpT_storeS1 (r := 101) rfl Tryd.sizeOf5 rfl rfl rfl rfl (by rw [bs_length]; omega) (numTo_set n sz x (by omega)) ?_)))))))))))))
    refine (WL_nil (X_block (X_then ?_)))
    refine W.pre (K' := [(0, _), (1, _), (5, _), (6, _), (10, _), (11, _), (12, _)]) (L' := [(0, _), (101, _)]) ?_ ⟨rfl, ⟨rfl, ⟨rfl, ⟨rfl, ⟨rfl, ⟨rfl, ⟨rfl, trivial⟩⟩⟩⟩⟩⟩⟩ ⟨rfl, ⟨rfl, trivial⟩⟩
    refine W_regL (WL_pure rfl rfl (by decide) (Pu_bin rfl rfl rfl (run_add _ _ _ _ _ (by omega))) (WL_pure rfl rfl (by decide) (Pu_move rfl rfl) (WL_nil ?_)))
    exact X_round (x + 1) (by have := of_decide_eq_true hc12; omega) (by have := of_decide_eq_true hc12; omega) ⟨rfl, rfl, rfl, rfl, rfl, trivial⟩ ⟨rfl, rfl, trivial⟩
  ·
    refine W_exit (X_then_exit (X_then_exit (X_block_exit (X_then ?_))))
    refine W_seq ?_
    refine W.pre (K' := [(0, _), (1, _), (5, _), (10, _), (11, _), (12, _)]) (L' := [(0, _), (101, _)]) ?_ ⟨rfl, ⟨rfl, ⟨rfl, ⟨rfl, ⟨rfl, ⟨rfl, trivial⟩⟩⟩⟩⟩⟩ ⟨rfl, ⟨rfl, trivial⟩⟩
    refine W_regL (WL_pure rfl rfl (by decide) (Pu_move rfl rfl) (WL_pure rfl rfl (by decide) (Pu_assign rfl rfl) (WL_nil (X_then ?_))))
    refine W_ret ?_
    exact X_ret [101] (Ps := [_]) (res1 Tryd.results21 rfl) rfl (by decide) (by rw [numTo_all n sz x hx (by have := of_decide_eq_false hc12; omega)])
end Go.Proofs.YtnhidehpacidnaaDoor
/- Blocks: what is wrong with an inode; inodes written. -/
namespace Go.Proofs.YtnhidehpacidnaaDoor
open Go.RowKit
set_option linter.unusedVariables false

/-- Ids compared. -/
theorem run_idEq (xs ys : List UInt8) (hx : xs.length = 32) (hy : ys.length = 32) (x y : Operand) (w : World) : ((do eqGuard .eql 25 x y (.agg (bs xs).toArray) (.agg (bs ys).toArray); binOp .eql 25 (.agg (bs xs).toArray) (.agg (bs ys).toArray) : Sem Value)).run Tryd.prog w = .ok (.bool (xs == ys)) w := by
  have h := run_equalIn_bytes w 9998 25 5 32 Tryd.underlying25 Tryd.underlying5 (fun w => by kernel_rfl) xs ys hx hy
  have hg : Tryd.prog.eqGuardType Tryd.prog.depth 25 = false := Tryd.eqGuardType25
  rw [show List.map Extern.Stop.cell xs = bs xs from rfl, show List.map Extern.Stop.cell ys = bs ys from rfl] at h
  simp only [Nat.reduceAdd] at h
  simp [eqGuard, binOp, Op.equal, Op.maxDepth, h, hg, program, Sem.run]
theorem run_idNe (xs ys : List UInt8) (hx : xs.length = 32) (hy : ys.length = 32) (x y : Operand) (w : World) : ((do eqGuard .neq 25 x y (.agg (bs xs).toArray) (.agg (bs ys).toArray); binOp .neq 25 (.agg (bs xs).toArray) (.agg (bs ys).toArray) : Sem Value)).run Tryd.prog w = .ok (.bool (!(xs == ys))) w := by
  have h := run_equalIn_bytes w 9998 25 5 32 Tryd.underlying25 Tryd.underlying5 (fun w => by kernel_rfl) xs ys hx hy
  have hg : Tryd.prog.eqGuardType Tryd.prog.depth 25 = false := Tryd.eqGuardType25
  rw [show List.map Extern.Stop.cell xs = bs xs from rfl, show List.map Extern.Stop.cell ys = bs ys from rfl] at h
  simp only [Nat.reduceAdd] at h
  simp [eqGuard, binOp, Op.equal, Op.maxDepth, h, hg, program, Sem.run]
theorem nodeC_length {k s l : Int} {top : List UInt8} (ht : top.length = 32) : (nodeC k s l top).length = 35 := by simp [nodeC, bs_length, ht]
section
variable {E : Env} {n : Nat} {K : Slots} {L : Res} {o : Oper}
theorem Pu_idZero (ho : o.op = .build 25 #[]) : Pure Tryd.prog E n o K L (.agg (bs zeroId).toArray) := fun a w hA hS => by
  have h := run_build (P := Tryd.prog) w 25 #[] (bs zeroId).toArray (by kernel_rfl)
  simp [execOp, ho, h]
end

theorem wrong_spec (k s l : Int) (top : List UInt8) (ht : top.length = 32) (F : HP) : CallsS Tryd.prog 20 #[nodeV k s l top] F [] (fun v Ps => v = .int .i64 (wrongN k s l top) ∧ Ps = []) := by
  refine callsS_enter Tryd.func20 rfl Tryd.ntmps20 (by simp) (fun E => ?_)
  refine W_seq ?_
  refine W.pre (K' := [(0, _)]) (L' := [(0, _)]) ?_ ⟨rfl, trivial⟩ ⟨rfl, trivial⟩
  refine W_regL (WL_cons rfl rfl (by decide) (OpT_box (r := 101) rfl rfl rfl (fun g101 => (WL_pure rfl rfl (by decide) (Pu_assign rfl rfl) (WL_nil (X_then ?_))))))
  refine W_seq ?_
  refine W_block ?_
  refine W_seq ?_
  refine W.pre (K' := [(0, _), (1, _), (2, _)]) (L' := [(0, _), (101, _)]) ?_ ⟨rfl, ⟨rfl, ⟨rfl, trivial⟩⟩⟩ ⟨rfl, ⟨rfl, trivial⟩⟩
  refine W_regL (WL_pure rfl rfl (by decide) (Pu_fieldAddrB (off := 0) rfl rfl (by kernel_rfl)) (WL_pure rfl rfl (by decide) (Pu_loadB (r := 101) rfl Tryd.isAgg3 rfl rfl rfl) (WL_pure rfl rfl (by decide) (Pu_bin rfl rfl rfl (run_neq _ _ _ _ _ _)) (WL_pure rfl rfl (by decide) (Pu_move rfl rfl) (WL_guardP rfl rfl rfl rfl (by decide) (fun hb => (Pu_fieldAddrB (off := 0) rfl rfl (by kernel_rfl))) (WL_guardP rfl rfl rfl rfl (by decide) (fun hb => (Pu_loadB (r := 101) rfl Tryd.isAgg3 (ev_gv rfl hb) rfl rfl)) (WL_guardP rfl rfl rfl rfl (by decide) (fun hb => (Pu_bin rfl (ev_gv rfl hb) rfl (run_neq _ _ _ _ _ _))) (WL_pure rfl rfl (by decide) (Pu_and rfl rfl rfl) (WL_pure rfl rfl (by decide) (Pu_assign rfl rfl) (WL_nil (X_then ?_)))))))))))
  refine W_cond rfl (fun hc3 => ?_) (fun hc3 => ?_)
  ·
    refine W_seq ?_
    refine W.pre (K' := [(0, _), (1, _), (2, _), (3, _)]) (L' := [(0, _), (101, _)]) ?_ ⟨rfl, ⟨rfl, ⟨rfl, ⟨rfl, trivial⟩⟩⟩⟩ ⟨rfl, ⟨rfl, trivial⟩⟩
    refine W_regL (WL_pure rfl rfl (by decide) (Pu_assign rfl rfl) (WL_nil (X_then ?_)))
    refine W_ret (X_block_ret (X_then_ret ?_))
    exact X_ret [] (Ps := []) (res1 Tryd.results20 rfl) rfl (by decide) ⟨int_val (wrongN_kind hc3), rfl⟩
  ·
    refine W_seq ?_
    refine W.pre (K' := [(0, _), (1, _), (2, _), (3, _)]) (L' := [(0, _), (101, _)]) ?_ ⟨rfl, ⟨rfl, ⟨rfl, ⟨rfl, trivial⟩⟩⟩⟩ ⟨rfl, ⟨rfl, trivial⟩⟩
    refine W_draw (N := 28) (by kernel_rfl) rfl [(0, _), (101, _)] ⟨rfl, ⟨rfl, trivial⟩⟩ ?_
    refine (AH_take 0 rfl (by kernel_rfl) (by kernel_rfl) (by kernel_rfl) rfl rfl (by decide) (Pu_fieldAddrB (off := 1) rfl rfl (by kernel_rfl)) (AH_take 1 rfl (by kernel_rfl) (by kernel_rfl) (by kernel_rfl) rfl rfl (by decide) (Pu_loadB (r := 101) rfl Tryd.isAgg3 rfl rfl rfl) (AH_take 2 rfl (by kernel_rfl) (by kernel_rfl) (by kernel_rfl) rfl rfl (by decide) (Pu_bin rfl rfl rfl (run_lss _ _ _ _ _ _)) (AH_take 3 rfl (by kernel_rfl) (by kernel_rfl) (by kernel_rfl) rfl rfl (by decide) (Pu_move rfl rfl) (AH_takeG 4 rfl (by kernel_rfl) (by kernel_rfl) (by kernel_rfl) rfl rfl rfl rfl (by decide) (fun hb => (Pu_fieldAddrB (off := 1) rfl rfl (by kernel_rfl))) (AH_takeG 5 rfl (by kernel_rfl) (by kernel_rfl) (by kernel_rfl) rfl rfl rfl rfl (by decide) (fun hb => (Pu_loadB (r := 101) rfl Tryd.isAgg3 (ev_gv rfl hb) rfl rfl)) (AH_takeG 6 rfl (by kernel_rfl) (by kernel_rfl) (by kernel_rfl) rfl rfl rfl rfl (by decide) (fun hb => (Pu_bin rfl (ev_gv rfl hb) rfl (run_gtr _ _ _ _ _ _))) (AH_take 7 rfl (by kernel_rfl) (by kernel_rfl) (by kernel_rfl) rfl rfl (by decide) (Pu_or rfl rfl rfl) (AH_take 8 rfl (by kernel_rfl) (by kernel_rfl) (by kernel_rfl) rfl rfl (by decide) (Pu_move rfl rfl) (AH_takeG 9 rfl (by kernel_rfl) (by kernel_rfl) (by kernel_rfl) rfl rfl rfl rfl (by decide) (fun hb => (Pu_fieldAddrB (off := 2) rfl rfl (by kernel_rfl))) (AH_takeG 10 rfl (by kernel_rfl) (by kernel_rfl) (by kernel_rfl) rfl rfl rfl rfl (by decide) (fun hb => (Pu_loadB (r := 101) rfl Tryd.isAgg3 (ev_gv rfl hb) rfl rfl)) (AH_takeG 11 rfl (by kernel_rfl) (by kernel_rfl) (by kernel_rfl) rfl rfl rfl rfl (by decide) (fun hb => (Pu_fieldAddrB (off := 1) rfl rfl (by kernel_rfl))) (AH_takeG 12 rfl (by kernel_rfl) (by kernel_rfl) (by kernel_rfl) rfl rfl rfl rfl (by decide) (fun hb => (Pu_loadB (r := 101) rfl Tryd.isAgg3 (ev_gv rfl hb) rfl rfl)) (AH_ready [13] (by kernel_rfl) (by decide) ?_))))))))))))))
    refine AHs_consG (V := .int .i64 (lev s : Int)) rfl rfl rfl rfl rfl (by decide) (fun hb => (OpT_call 200 [0, 101] [] rfl Tryd.call24 (evL_cons (ev_gv rfl hb) evL_nil) rfl rfl (by decide) (by decide) (levels_spec s _) (fun v26 Ps26 hR26 => ⟨hR26.1, fun w hw => by rw [hR26.2] at hw; exact hw.sub (AllIn.look ⟨rfl, rfl, trivial⟩)⟩))) ⟨rfl, ⟨rfl, trivial⟩⟩ ?_ ?_
    ·
      refine (AH_takeG 14 rfl (by kernel_rfl) (by kernel_rfl) (by kernel_rfl) rfl rfl rfl rfl (by decide) (fun hb => (Pu_bin rfl (ev_gv rfl hb) (ev_gv rfl hb) (run_neq _ _ _ _ _ _))) (AH_take 15 rfl (by kernel_rfl) (by kernel_rfl) (by kernel_rfl) rfl rfl (by decide) (Pu_or rfl rfl rfl) (AH_take 16 rfl (by kernel_rfl) (by kernel_rfl) (by kernel_rfl) rfl rfl (by decide) (Pu_move rfl rfl) (AH_takeG 17 rfl (by kernel_rfl) (by kernel_rfl) (by kernel_rfl) rfl rfl rfl rfl (by decide) (fun hb => (Pu_fieldAddrB (off := 1) rfl rfl (by kernel_rfl))) (AH_takeG 18 rfl (by kernel_rfl) (by kernel_rfl) (by kernel_rfl) rfl rfl rfl rfl (by decide) (fun hb => (Pu_loadB (r := 101) rfl Tryd.isAgg3 (ev_gv rfl hb) rfl rfl)) (AH_takeG 19 rfl (by kernel_rfl) (by kernel_rfl) (by kernel_rfl) rfl rfl rfl rfl (by decide) (fun hb => (Pu_bin rfl (ev_gv rfl hb) rfl (run_eql _ _ _ _ _ _))) (AH_takeG 20 rfl (by kernel_rfl) (by kernel_rfl) (by kernel_rfl) rfl rfl rfl rfl (by decide) (fun hb => (Pu_move rfl (ev_gv rfl hb))) (AH_takeG2 21 rfl (by kernel_rfl) (by kernel_rfl) (by kernel_rfl) rfl rfl rfl rfl (by decide) (fun hb => (Pu_fieldAddrB (off := 3) rfl rfl (by kernel_rfl))) (AH_takeG2 22 rfl (by kernel_rfl) (by kernel_rfl) (by kernel_rfl) rfl rfl rfl rfl (by decide) (fun hb => (Pu_loadBN (r := 101) rfl Tryd.isAgg25 Tryd.sizeOf25 (ev_gv rfl hb) rfl (by rw [bs_length, ht]) (by show (bs top).take 32 = _; rw [List.take_of_length_le (by rw [bs_length, ht]; omega)]))) (AH_takeG2 23 rfl (by kernel_rfl) (by kernel_rfl) (by kernel_rfl) rfl rfl rfl rfl (by decide) (fun hb => (Pu_idZero rfl)) (AH_takeG2 24 rfl (by kernel_rfl) (by kernel_rfl) (by kernel_rfl) rfl rfl rfl rfl (by decide) (fun hb => (Pu_bin rfl (ev_gv rfl hb) (ev_gv rfl hb) (run_idNe _ _ ht zeroId_length _ _))) (AH_takeG 25 rfl (by kernel_rfl) (by kernel_rfl) (by kernel_rfl) rfl rfl rfl rfl (by decide) (fun hb => (Pu_and2 hb rfl (ev_gv rfl hb) rfl)) (AH_take 26 rfl (by kernel_rfl) (by kernel_rfl) (by kernel_rfl) rfl rfl (by decide) (Pu_or rfl rfl rfl) (AH_take 27 rfl (by kernel_rfl) (by kernel_rfl) (by kernel_rfl) rfl rfl (by decide) (Pu_assign rfl rfl) (AH_done (by kernel_rfl) (X_then ?_))))))))))))))))
      refine W_cond rfl (fun hc12 => ?_) (fun hc12 => ?_)
      ·
        refine W_seq ?_
        refine W.pre (K' := [(0, _), (1, _), (2, _), (3, _), (12, _)]) (L' := [(0, _), (101, _)]) ?_ ⟨rfl, ⟨rfl, ⟨rfl, ⟨rfl, ⟨rfl, trivial⟩⟩⟩⟩⟩ ⟨rfl, ⟨rfl, trivial⟩⟩
        refine W_regL (WL_pure rfl rfl (by decide) (Pu_assign rfl rfl) (WL_nil (X_then ?_)))
        refine W_ret (X_block_ret (X_then_ret ?_))
        exact X_ret [] (Ps := []) (res1 Tryd.results20 rfl) rfl (by decide) ⟨int_val (wrongN_bad hc3 hc12), rfl⟩
      ·
        refine W_skip (X_block (X_then ?_))
        refine W_seq ?_
        refine W.pre (K' := [(0, _), (1, _), (2, _), (3, _), (12, _)]) (L' := [(0, _), (101, _)]) ?_ ⟨rfl, ⟨rfl, ⟨rfl, ⟨rfl, ⟨rfl, trivial⟩⟩⟩⟩⟩ ⟨rfl, ⟨rfl, trivial⟩⟩
        refine W_regL (WL_pure rfl rfl (by decide) (Pu_assign rfl rfl) (WL_nil (X_then ?_)))
        refine W_ret ?_
        exact X_ret [] (Ps := []) (res1 Tryd.results20 rfl) rfl (by decide) ⟨int_val (wrongN_ok hc3 hc12), rfl⟩
    exact AHs_nil
theorem inode_spec (k s l : Int) (top : List UInt8) (ht : top.length = 32) (F : HP) : CallsS Tryd.prog 15 #[nodeV k s l top] F [] (fun v Ps => ∃ v', v = .tuple #[v', .int .i64 (wrongN k s l top)] ∧ Ps = [rowB 5 v' (inodeR k s l top)]) := by
  refine callsS_enter Tryd.func15 rfl Tryd.ntmps15 (by simp) (fun E => ?_)
  refine W_seq ?_
  refine W.pre (K' := [(0, _)]) (L' := [(0, _)]) ?_ ⟨rfl, trivial⟩ ⟨rfl, trivial⟩
  refine W_regL (WL_cons rfl rfl (by decide) (OpT_box (r := 101) rfl rfl rfl (fun g101 => (WL_pure rfl rfl (by decide) (Pu_assign rfl rfl) (WL_pure rfl rfl (by decide) (Pu_assign rfl rfl) (WL_nil (X_then ?_)))))))
  refine W_seq ?_
  refine W_seq ?_
  refine W.pre (K' := [(0, _), (1, _), (2, _), (3, _)]) (L' := [(0, _), (101, _)]) ?_ ⟨rfl, ⟨rfl, ⟨rfl, ⟨rfl, trivial⟩⟩⟩⟩ ⟨rfl, ⟨rfl, trivial⟩⟩
  refine W_regL (WL_pure rfl rfl (by decide) (Pu_loadBN (r := 101) rfl Tryd.isAgg51 Tryd.sizeOf51 rfl rfl (nodeC_length ht) (load_all (nodeC_length ht))) (WL_cons rfl rfl (by decide) (OpT_call 200 [0, 101] [] rfl Tryd.call20 rfl rfl rfl (by decide) (by decide) (wrong_spec k s l top ht _) (fun v7 Ps7 hR7 => ?_))))
  obtain ⟨rfl, rfl⟩ := hR7
  refine (WL_pure rfl rfl (by decide) (Pu_assign rfl rfl) (WL_nil (X_then ?_)))
  refine W_seq ?_
  refine W.pre (K' := [(0, _), (1, _), (2, _), (3, _), (4, _)]) (L' := [(0, _), (101, _)]) ?_ ⟨rfl, ⟨rfl, ⟨rfl, ⟨rfl, ⟨rfl, trivial⟩⟩⟩⟩⟩ ⟨rfl, ⟨rfl, trivial⟩⟩
  refine W_regL (WL_pure rfl rfl (by decide) (Pu_move rfl rfl) (WL_pure rfl rfl (by decide) (Pu_bin rfl rfl rfl (run_neq _ _ _ _ _ _)) (WL_nil (X_then ?_))))
  refine W_cond rfl (fun hc9 => ?_) (fun hc9 => ?_)
  ·
    refine W_seq ?_
    refine W.pre (K' := [(0, _), (1, _), (2, _), (3, _), (4, _), (9, _)]) (L' := [(0, _), (101, _)]) ?_ ⟨rfl, ⟨rfl, ⟨rfl, ⟨rfl, ⟨rfl, ⟨rfl, trivial⟩⟩⟩⟩⟩⟩ ⟨rfl, ⟨rfl, trivial⟩⟩
    refine W_regL (WL_pure rfl rfl (by decide) (Pu_move rfl rfl) (WL_pure rfl rfl (by decide) (Pu_assign rfl rfl) (WL_pure rfl rfl (by decide) (Pu_assign rfl rfl) (WL_nil (X_then ?_)))))
    refine W_ret (X_then_ret ?_)
    refine X_nilRow 900 5 1 ?_
    exact X_ret [900] (Ps := [_]) (res2 Tryd.results15 rfl rfl) rfl (by decide) ⟨_, rfl, by rw [inodeR, if_neg (by simpa using hc9)]; rfl⟩
  ·
    refine W_skip (X_then ?_)
    refine W_seq ?_
    refine W.pre (K' := [(0, _), (1, _), (2, _), (3, _), (4, _), (9, _)]) (L' := [(0, _), (101, _)]) ?_ ⟨rfl, ⟨rfl, ⟨rfl, ⟨rfl, ⟨rfl, ⟨rfl, trivial⟩⟩⟩⟩⟩⟩ ⟨rfl, ⟨rfl, trivial⟩⟩
    refine W_draw (N := 9) (by kernel_rfl) rfl [(0, _), (101, _)] ⟨rfl, ⟨rfl, trivial⟩⟩ ?_
    refine (AH_take 0 rfl (by kernel_rfl) (by kernel_rfl) (by kernel_rfl) rfl rfl (by decide) (Pu_fieldAddrB (off := 0) rfl rfl (by kernel_rfl)) (AH_take 1 rfl (by kernel_rfl) (by kernel_rfl) (by kernel_rfl) rfl rfl (by decide) (Pu_loadB (r := 101) rfl Tryd.isAgg3 rfl rfl rfl) (AH_take 2 rfl (by kernel_rfl) (by kernel_rfl) (by kernel_rfl) rfl rfl (by decide) (Pu_conv rfl rfl (conv_byte _ _ Tryd.runUnderlying3 Tryd.runUnderlying5)) (AH_take 4 rfl (by kernel_rfl) (by kernel_rfl) (by kernel_rfl) rfl rfl (by decide) (Pu_fieldAddrB (off := 1) rfl rfl (by kernel_rfl)) (AH_take 5 rfl (by kernel_rfl) (by kernel_rfl) (by kernel_rfl) rfl rfl (by decide) (Pu_loadB (r := 101) rfl Tryd.isAgg3 rfl rfl rfl) (AH_ready [3, 6] (by kernel_rfl) (by decide) ?_))))))
    refine AHs_cons rfl rfl rfl (by decide) (OpT_buildOnes (r := 201) (bs [105, byte k]) rfl rfl Tryd.runUnderlying27 Tryd.sizeOf5 Tryd.zeroValue5 rfl rfl (by decide) rfl (bs_cells _) (fun v14 => ⟨⟨rfl, ⟨rfl, trivial⟩⟩, ?_⟩)) ?_
    ·
      refine (AH_ready [6] (by kernel_rfl) (by decide) ?_)
      refine AHs_cons rfl rfl rfl (by decide) (OpT_call 300 [0, 101, 201] [] rfl Tryd.call21 rfl rfl rfl (by decide) (by decide) (number_spec s 4 (by omega) _) (fun v17 Ps17 hR17 => ?_)) ?_
      ·
        subst hR17
        refine ⟨⟨rfl, ⟨rfl, trivial⟩⟩, ?_⟩
        refine (AH_ready [7] (by kernel_rfl) (by decide) ?_)
        refine AHs_cons rfl rfl rfl (by decide) (OpT_append (r := 201) (r2 := 300) rfl Tryd.underlying27 TI.hi5 TI.hz5 TI.hs5 TI.hby5 TI.hzs5 (by decide) rfl rfl rfl rfl (fun _ h => rowP_rd h) (bs_one _) (by unfold maxLen; omega) (by omega) (fun v18 => ?_)) ?_
        ·
          refine ⟨⟨rfl, ⟨rfl, trivial⟩⟩, ?_⟩
          refine (AH_take 8 rfl (by kernel_rfl) (by kernel_rfl) (by kernel_rfl) rfl rfl (by decide) (Pu_assign rfl rfl) (AH_done (by kernel_rfl) (X_then ?_)))
          refine W_seq ?_
          refine W.pre (K' := [(0, _), (1, _), (2, _), (3, _), (4, _), (5, _), (9, _)]) (L' := [(0, _), (101, _), (201, _), (300, _)]) ?_ ⟨rfl, ⟨rfl, ⟨rfl, ⟨rfl, ⟨rfl, ⟨rfl, ⟨rfl, trivial⟩⟩⟩⟩⟩⟩⟩ ⟨rfl, ⟨rfl, ⟨rfl, ⟨rfl, trivial⟩⟩⟩⟩
          refine W_draw (N := 11) (by kernel_rfl) rfl [(0, _), (101, _)] ⟨rfl, ⟨rfl, trivial⟩⟩ ?_
          refine (AH_take 0 rfl (by kernel_rfl) (by kernel_rfl) (by kernel_rfl) rfl rfl (by decide) (Pu_move rfl rfl) (AH_take 1 rfl (by kernel_rfl) (by kernel_rfl) (by kernel_rfl) rfl rfl (by decide) (Pu_fieldAddrB (off := 2) rfl rfl (by kernel_rfl)) (AH_take 2 rfl (by kernel_rfl) (by kernel_rfl) (by kernel_rfl) rfl rfl (by decide) (Pu_loadB (r := 101) rfl Tryd.isAgg3 rfl rfl rfl) (AH_take 3 rfl (by kernel_rfl) (by kernel_rfl) (by kernel_rfl) rfl rfl (by decide) (Pu_conv rfl rfl (conv_byte _ _ Tryd.runUnderlying3 Tryd.runUnderlying5)) (AH_take 6 rfl (by kernel_rfl) (by kernel_rfl) (by kernel_rfl) rfl rfl (by decide) (Pu_fieldAddrB (off := 3) rfl rfl (by kernel_rfl)) (AH_take 7 rfl (by kernel_rfl) (by kernel_rfl) (by kernel_rfl) rfl rfl (by decide) (Pu_sliceArr rfl Tryd.runUnderlying25 Tryd.sizeOf5 rfl) (AH_ready [4] (by kernel_rfl) (by decide) ?_)))))))
          refine AHs_cons rfl rfl rfl (by decide) (OpT_buildOnes (r := 301) (bs [byte l]) rfl rfl Tryd.runUnderlying27 Tryd.sizeOf5 Tryd.zeroValue5 rfl rfl (by decide) rfl (bs_cells _) (fun v23 => ⟨⟨rfl, ⟨rfl, trivial⟩⟩, ?_⟩)) ?_
          ·
            refine (AH_ready [5] (by kernel_rfl) (by decide) ?_)
            refine AHs_cons rfl rfl rfl (by decide) (OpT_append (r := 201) (r2 := 301) rfl Tryd.underlying27 TI.hi5 TI.hz5 TI.hs5 TI.hby5 TI.hzs5 (by decide) rfl rfl rfl rfl (fun _ h => rowP_rd h) (bs_one _) (by unfold maxLen; omega) (by omega) (fun v24 => ?_)) ?_
            ·
              refine ⟨⟨rfl, ⟨rfl, trivial⟩⟩, ?_⟩
              refine (AH_ready [8] (by kernel_rfl) (by decide) ?_)
              refine AHs_cons rfl rfl rfl (by decide) (OpT_append (r := 201) (r2 := 101) rfl Tryd.underlying27 TI.hi5 TI.hz5 TI.hs5 TI.hby5 TI.hzs5 (by decide) rfl rfl rfl rfl (fun _ h => blk_rd (xs := bs top) h (take_top ht) (by rw [bs_length, ht]) (by omega)) (bs_one _) (by unfold maxLen; omega) (by omega) (fun v27 => ?_)) ?_
              ·
                refine ⟨⟨rfl, ⟨rfl, trivial⟩⟩, ?_⟩
                refine (AH_take 9 rfl (by kernel_rfl) (by kernel_rfl) (by kernel_rfl) rfl rfl (by decide) (Pu_assign rfl rfl) (AH_take 10 rfl (by kernel_rfl) (by kernel_rfl) (by kernel_rfl) rfl rfl (by decide) (Pu_assign rfl rfl) (AH_done (by kernel_rfl) (X_then ?_))))
                refine W_ret ?_
                exact X_ret [201] (Ps := [_]) (res2 Tryd.results15 rfl rfl) rfl (by decide) ⟨_, by simp at hc9; rw [hc9], by rw [inodeR, if_pos (by simpa using hc9)]; exact congrArg (· :: []) (rowB_of _ (by simp [inodeB, numB_length, ht]) (by unfold inodeB; simp only [bs_append]))⟩
              exact AHs_nil
            exact AHs_nil
          exact AHs_nil
        exact AHs_nil
      exact AHs_nil
    refine AHs_cons rfl rfl rfl (by decide) (OpT_call 300 [0, 101] [] rfl Tryd.call21 rfl rfl rfl (by decide) (by decide) (number_spec s 4 (by omega) _) (fun v17 Ps17 hR17 => ?_)) ?_
    ·
      subst hR17
      refine ⟨⟨rfl, ⟨rfl, trivial⟩⟩, ?_⟩
      refine (AH_ready [3] (by kernel_rfl) (by decide) ?_)
      refine AHs_cons rfl rfl rfl (by decide) (OpT_buildOnes (r := 301) (bs [105, byte k]) rfl rfl Tryd.runUnderlying27 Tryd.sizeOf5 Tryd.zeroValue5 rfl rfl (by decide) rfl (bs_cells _) (fun v14 => ⟨⟨rfl, ⟨rfl, trivial⟩⟩, ?_⟩)) ?_
      ·
        refine (AH_ready [7] (by kernel_rfl) (by decide) ?_)
        refine AHs_cons rfl rfl rfl (by decide) (OpT_append (r := 301) (r2 := 300) rfl Tryd.underlying27 TI.hi5 TI.hz5 TI.hs5 TI.hby5 TI.hzs5 (by decide) rfl rfl rfl rfl (fun _ h => rowP_rd h) (bs_one _) (by unfold maxLen; omega) (by omega) (fun v18 => ?_)) ?_
        ·
          refine ⟨⟨rfl, ⟨rfl, trivial⟩⟩, ?_⟩
          refine (AH_take 8 rfl (by kernel_rfl) (by kernel_rfl) (by kernel_rfl) rfl rfl (by decide) (Pu_assign rfl rfl) (AH_done (by kernel_rfl) (X_then ?_)))
          refine W_seq ?_
          refine W.pre (K' := [(0, _), (1, _), (2, _), (3, _), (4, _), (5, _), (9, _)]) (L' := [(0, _), (101, _), (300, _), (301, _)]) ?_ ⟨rfl, ⟨rfl, ⟨rfl, ⟨rfl, ⟨rfl, ⟨rfl, ⟨rfl, trivial⟩⟩⟩⟩⟩⟩⟩ ⟨rfl, ⟨rfl, ⟨rfl, ⟨rfl, trivial⟩⟩⟩⟩
          refine W_draw (N := 11) (by kernel_rfl) rfl [(0, _), (101, _)] ⟨rfl, ⟨rfl, trivial⟩⟩ ?_
          refine (AH_take 0 rfl (by kernel_rfl) (by kernel_rfl) (by kernel_rfl) rfl rfl (by decide) (Pu_move rfl rfl) (AH_take 1 rfl (by kernel_rfl) (by kernel_rfl) (by kernel_rfl) rfl rfl (by decide) (Pu_fieldAddrB (off := 2) rfl rfl (by kernel_rfl)) (AH_take 2 rfl (by kernel_rfl) (by kernel_rfl) (by kernel_rfl) rfl rfl (by decide) (Pu_loadB (r := 101) rfl Tryd.isAgg3 rfl rfl rfl) (AH_take 3 rfl (by kernel_rfl) (by kernel_rfl) (by kernel_rfl) rfl rfl (by decide) (Pu_conv rfl rfl (conv_byte _ _ Tryd.runUnderlying3 Tryd.runUnderlying5)) (AH_take 6 rfl (by kernel_rfl) (by kernel_rfl) (by kernel_rfl) rfl rfl (by decide) (Pu_fieldAddrB (off := 3) rfl rfl (by kernel_rfl)) (AH_take 7 rfl (by kernel_rfl) (by kernel_rfl) (by kernel_rfl) rfl rfl (by decide) (Pu_sliceArr rfl Tryd.runUnderlying25 Tryd.sizeOf5 rfl) (AH_ready [4] (by kernel_rfl) (by decide) ?_)))))))
          refine AHs_cons rfl rfl rfl (by decide) (OpT_buildOnes (r := 302) (bs [byte l]) rfl rfl Tryd.runUnderlying27 Tryd.sizeOf5 Tryd.zeroValue5 rfl rfl (by decide) rfl (bs_cells _) (fun v23 => ⟨⟨rfl, ⟨rfl, trivial⟩⟩, ?_⟩)) ?_
          ·
            refine (AH_ready [5] (by kernel_rfl) (by decide) ?_)
            refine AHs_cons rfl rfl rfl (by decide) (OpT_append (r := 301) (r2 := 302) rfl Tryd.underlying27 TI.hi5 TI.hz5 TI.hs5 TI.hby5 TI.hzs5 (by decide) rfl rfl rfl rfl (fun _ h => rowP_rd h) (bs_one _) (by unfold maxLen; omega) (by omega) (fun v24 => ?_)) ?_
            ·
              refine ⟨⟨rfl, ⟨rfl, trivial⟩⟩, ?_⟩
              refine (AH_ready [8] (by kernel_rfl) (by decide) ?_)
              refine AHs_cons rfl rfl rfl (by decide) (OpT_append (r := 301) (r2 := 101) rfl Tryd.underlying27 TI.hi5 TI.hz5 TI.hs5 TI.hby5 TI.hzs5 (by decide) rfl rfl rfl rfl (fun _ h => blk_rd (xs := bs top) h (take_top ht) (by rw [bs_length, ht]) (by omega)) (bs_one _) (by unfold maxLen; omega) (by omega) (fun v27 => ?_)) ?_
              ·
                refine ⟨⟨rfl, ⟨rfl, trivial⟩⟩, ?_⟩
                refine (AH_take 9 rfl (by kernel_rfl) (by kernel_rfl) (by kernel_rfl) rfl rfl (by decide) (Pu_assign rfl rfl) (AH_take 10 rfl (by kernel_rfl) (by kernel_rfl) (by kernel_rfl) rfl rfl (by decide) (Pu_assign rfl rfl) (AH_done (by kernel_rfl) (X_then ?_))))
                refine W_ret ?_
                exact X_ret [301] (Ps := [_]) (res2 Tryd.results15 rfl rfl) rfl (by decide) ⟨_, by simp at hc9; rw [hc9], by rw [inodeR, if_pos (by simpa using hc9)]; exact congrArg (· :: []) (rowB_of _ (by simp [inodeB, numB_length, ht]) (by unfold inodeB; simp only [bs_append]))⟩
              exact AHs_nil
            exact AHs_nil
          exact AHs_nil
        exact AHs_nil
      exact AHs_nil
    exact AHs_nil
end Go.Proofs.YtnhidehpacidnaaDoor
/- Blocks: plain words on rows of ids. -/
namespace Go.Proofs.YtnhidehpacidnaaDoor
set_option linter.unusedVariables false
set_option linter.unusedSimpArgs false
theorem numB_four (n : Int) : numB n 4 = [byte (n.fdiv (2 ^ 24)), byte (n.fdiv (2 ^ 16)), byte (n.fdiv (2 ^ 8)), byte n] := by
  have : n.fdiv 1 = n := by simp
  simp [numB, List.range_succ, this]
theorem val_four (l : List UInt8) : val l 4 = (at0 l 0).toNat * 2 ^ 24 + (at0 l 1).toNat * 2 ^ 16 + (at0 l 2).toNat * 2 ^ 8 + (at0 l 3).toNat := by
  simp only [val]; omega
/-- The first k bytes, zeros behind. -/
def idTo (l : List UInt8) (k : Nat) : List UInt8 := l.take k ++ List.replicate (32 - k) 0
theorem idTo_zero (l : List UInt8) : idTo l 0 = zeroId := by simp [idTo, zeroId]
theorem idTo_length (l : List UInt8) {k : Nat} (hl : 32 ≤ l.length) (hk : k ≤ 32) : (idTo l k).length = 32 := by simp [idTo]; omega
theorem idTo_all (l : List UInt8) : idTo l 32 = l.take 32 := by simp [idTo]
theorem idTo_set (l : List UInt8) {k : Nat} (hl : 32 ≤ l.length) (hk : k < 32) : (bs (idTo l k)).set k (bv (at0 l k)) = bs (idTo l (k + 1)) := by
  have e : (bs (idTo l k)).set k (bv (at0 l k)) = bs ((idTo l k).set k (at0 l k)) := by simp [bs, List.map_set]
  rw [e]
  congr 1
  apply List.ext_getElem?
  intro j
  rw [List.getElem?_set]
  unfold idTo
  by_cases h1 : k = j
  · subst h1
    rw [if_pos rfl, if_pos (by simp; omega), List.getElem?_append_left (by simp; omega), List.getElem?_take, if_pos (by omega), List.getElem?_eq_getElem (by omega)]
    simp [at0, show k < l.length by omega]
  · rw [if_neg h1]
    by_cases h2 : j < k
    · rw [List.getElem?_append_left (by simp; omega), List.getElem?_append_left (by simp; omega), List.getElem?_take, List.getElem?_take, if_pos h2, if_pos (by omega)]
    · rw [List.getElem?_append_right (by simp; omega), List.getElem?_append_right (by simp; omega), List.getElem?_replicate, List.getElem?_replicate]
      simp only [List.length_take]
      by_cases h3 : j < 32
      · rw [if_pos (by omega), if_pos (by omega)]
      · rw [if_neg (by omega), if_neg (by omega)]
/-- An inner block of the first k of these. -/
def innerTo (l : List (List UInt8)) (k : Nat) : List UInt8 := [110, byte l.length] ++ (l.take k).flatten
def innerE (l : List (List UInt8)) : Int := if l.length = 0 then 1 else if 8 < l.length then 4 else 0
def innerR (l : List (List UInt8)) : List UInt8 := if innerE l = 0 then innerTo l l.length else []
theorem innerTo_succ {l : List (List UInt8)} {k : Nat} (h : k < l.length) : innerTo l (k + 1) = innerTo l k ++ l.getD k [] := by
  unfold innerTo
  rw [List.take_succ_eq_append_getElem h, List.flatten_append, ← List.append_assoc]
  congr 1
  simp [h]
theorem flat_ids {l : List (List UInt8)} (h : Ids l) : l.flatten.length = l.length * 32 := by
  induction l with
  | nil => rfl
  | cons x l ih =>
    rw [List.flatten_cons, List.length_append, ih (fun y hy => h y (by simp [hy])), h x (by simp), List.length_cons]
    omega
theorem innerTo_length {l : List (List UInt8)} (h : Ids l) {k : Nat} (hk : k ≤ l.length) : (innerTo l k).length = 2 + k * 32 := by
  unfold innerTo
  rw [List.length_append, flat_ids (h.take k), List.length_take, Nat.min_eq_left hk]
  rfl
/-- The ids of an inner block. -/
def idsOf (b : List UInt8) (n : Nat) : List (List UInt8) := (List.range n).map fun i => (b.drop (2 + i * 32)).take 32
theorem idsOf_length (b : List UInt8) (n : Nat) : (idsOf b n).length = n := by simp [idsOf]
theorem idsOf_ids {b : List UInt8} {n : Nat} (h : 2 + n * 32 ≤ b.length) : Ids (idsOf b n) := by
  intro x hx
  simp only [idsOf, List.mem_map, List.mem_range] at hx
  obtain ⟨i, hi, rfl⟩ := hx
  simp
  omega
theorem idsOf_succ (b : List UInt8) (n : Nat) : idsOf b (n + 1) = idsOf b n ++ [(b.drop (2 + n * 32)).take 32] := by simp [idsOf, List.range_succ]
/-- The first k of them, zeros behind. -/
def idsTo (b : List UInt8) (n k : Nat) : List (List UInt8) := idsOf b k ++ List.replicate (n - k) zeroId
theorem idsTo_zero (b : List UInt8) (n : Nat) : idsTo b n 0 = List.replicate n zeroId := by simp [idsTo, idsOf]
theorem idsTo_all (b : List UInt8) (n : Nat) : idsTo b n n = idsOf b n := by simp [idsTo]
theorem idsTo_length (b : List UInt8) {n k : Nat} (h : k ≤ n) : (idsTo b n k).length = n := by simp [idsTo, idsOf_length]; omega
theorem idsTo_ids {b : List UInt8} {n k : Nat} (h : 2 + k * 32 ≤ b.length) : Ids (idsTo b n k) := by
  intro x hx
  simp only [idsTo, List.mem_append] at hx
  rcases hx with hx | hx
  · exact idsOf_ids h x hx
  · rw [List.eq_of_mem_replicate hx]; rfl
theorem idsTo_set {b : List UInt8} {n k : Nat} (hk : k < n) : (idsTo b n k).set k ((b.drop (2 + k * 32)).take 32) = idsTo b n (k + 1) := by
  unfold idsTo
  rw [List.set_append_right _ _ (by rw [idsOf_length]; omega), idsOf_length, Nat.sub_self, idsOf_succ, List.append_assoc]
  congr 1
  rw [show n - k = (n - (k + 1)) + 1 by omega, List.replicate_succ]
  rfl
theorem idsC_step {l : List (List UInt8)} (h : Ids l) {k : Nat} (hk : k < l.length) {y : List UInt8} (hy : 32 ≤ y.length) : over (idsC l) (k * 32) ((bs y).take (min y.length 32)) = idsC (l.set k (y.take 32)) := by
  rw [Nat.min_eq_right hy, ← bs_take]
  exact idsC_set h hk (by simp; omega)
def parseNE (b : List UInt8) : Int :=
  if b.length < 2 then 8
  else if at0 b 0 ≠ 110 ∨ (at0 b 1).toNat < 1 ∨ 8 < (at0 b 1).toNat then 11
  else if b.length < 2 + (at0 b 1).toNat * 32 then 8
  else if 2 + (at0 b 1).toNat * 32 < b.length then 9 else 0
def parseNL (b : List UInt8) : List (List UInt8) := if parseNE b = 0 then idsOf b (at0 b 1).toNat else []
theorem parseNE_cut {b : List UInt8} (h : decide ((b.length : Int) < 2) = true) : parseNE b = 8 := by have := of_decide_eq_true h; unfold parseNE; rw [if_pos (by omega)]
theorem parseNE_bad {b : List UInt8} (h : decide ((b.length : Int) < 2) = false) (h2 : (!decide (((at0 b 0).toNat : Int) = 110) || decide (((at0 b 1).toNat : Int) < 1) || decide (8 < ((at0 b 1).toNat : Int))) = true) : parseNE b = 11 := by
  have := of_decide_eq_false h
  unfold parseNE
  rw [if_neg (by omega), if_pos]
  simp at h2
  rcases h2 with (h2 | h2) | h2
  · left; intro e; rw [e] at h2; exact h2 rfl
  · right; left; omega
  · right; right; omega
theorem parseN_good {b : List UInt8} (h2 : (!decide (((at0 b 0).toNat : Int) = 110) || decide (((at0 b 1).toNat : Int) < 1) || decide (8 < ((at0 b 1).toNat : Int))) = false) : at0 b 0 = 110 ∧ 1 ≤ (at0 b 1).toNat ∧ (at0 b 1).toNat ≤ 8 := by
  simp at h2
  exact ⟨UInt8.toNat_inj.1 (by have := h2.1.1; simp; omega), by omega, by omega⟩
theorem parseNE_later {b : List UInt8} (h : decide ((b.length : Int) < 2) = false) (h2 : (!decide (((at0 b 0).toNat : Int) = 110) || decide (((at0 b 1).toNat : Int) < 1) || decide (8 < ((at0 b 1).toNat : Int))) = false) :
    parseNE b = if b.length < 2 + (at0 b 1).toNat * 32 then 8 else if 2 + (at0 b 1).toNat * 32 < b.length then 9 else 0 := by
  have := of_decide_eq_false h
  obtain ⟨q1, q2, q3⟩ := parseN_good h2
  unfold parseNE
  rw [if_neg (by omega), if_neg]
  rintro (h | h | h)
  · exact h q1
  · omega
  · omega
theorem parseNL_err {b : List UInt8} {e : Int} (h : parseNE b = e) (he : e ≠ 0) : parseNL b = [] := by unfold parseNL; rw [h, if_neg he]
section
variable {a b : List (List UInt8)} {k : Nat}
theorem take_next (hk : k < a.length) (hl : a.length = b.length) (h : a.take k = b.take k) (he : a.getD k [] = b.getD k []) : a.take (k + 1) = b.take (k + 1) := by
  rw [List.take_succ_eq_append_getElem hk, List.take_succ_eq_append_getElem (hl ▸ hk), h]
  simp [hk, hl ▸ hk] at he
  rw [he]
theorem beq_lens (h : (!decide ((a.length : Int) = (b.length : Int))) = true) : false = (a == b) := by
  cases hab : (a == b) with
  | false => rfl
  | true => have := eq_of_beq hab; subst this; simp at h
theorem beq_at (hk : k < a.length) (he : ¬ a.getD k [] = b.getD k []) : false = (a == b) := by
  cases hab : (a == b) with
  | false => rfl
  | true => have := eq_of_beq hab; subst this; exact absurd rfl he
theorem beq_all (hl : a.length = b.length) (h : a.take a.length = b.take a.length) : true = (a == b) := by
  rw [List.take_length, hl, List.take_length] at h
  simp [h]
end
end Go.Proofs.YtnhidehpacidnaaDoor
/- Blocks: plain words on bytes with some turned. -/
namespace Go.Proofs.YtnhidehpacidnaaDoor
set_option linter.unusedVariables false
set_option linter.unusedSimpArgs false
/-- The first k turns. -/
def turnTo (x : List UInt8) (a : List Int) (y : List UInt8) : Nat → List UInt8
  | 0 => x
  | k + 1 => (turnTo x a y k).set (a.getD k 0 % ((turnTo x a y k).length : Int)).toNat (at0 (turnTo x a y k) (a.getD k 0 % ((turnTo x a y k).length : Int)).toNat + at0 y k)
/-- How many turns there are. -/
def turnN (x : List UInt8) (a : List Int) (y : List UInt8) : Nat := if x.length = 0 then 0 else min (min a.length y.length) 3
theorem turnTo_length (x : List UInt8) (a : List Int) (y : List UInt8) (k : Nat) : (turnTo x a y k).length = x.length := by
  induction k with
  | zero => rfl
  | succ k ih => simp [turnTo, ih]
theorem turnTo_set (x : List UInt8) (a : List Int) (y : List UInt8) (k : Nat) : (bs (turnTo x a y k)).set (a.getD k 0 % ((turnTo x a y k).length : Int)).toNat (bv (at0 (turnTo x a y k) (a.getD k 0 % ((turnTo x a y k).length : Int)).toNat + at0 y k)) = bs (turnTo x a y (k + 1)) := by
  simp [turnTo, bs, List.map_set]
theorem turn_guard {k a b c : Nat} (h : (decide ((k : Int) < (a : Int)) && decide ((k : Int) < (b : Int)) && decide ((k : Int) < 3) && decide ((0 : Int) < (c : Int))) = true) : k < a ∧ k < b ∧ k < 3 ∧ 0 < c := by
  simp at h; omega
theorem turn_end {x : List UInt8} {a : List Int} {y : List UInt8} {k : Nat} (hk : k ≤ turnN x a y) (h : (decide ((k : Int) < (a.length : Int)) && decide ((k : Int) < (y.length : Int)) && decide ((k : Int) < 3) && decide ((0 : Int) < ((turnTo x a y k).length : Int))) = false) : k = turnN x a y := by
  rw [turnTo_length] at h
  unfold turnN at hk ⊢
  split at hk
  · rename_i h0; rw [if_pos h0]; omega
  · rename_i h0
    rw [if_neg h0]
    have hp : decide ((0 : Int) < (x.length : Int)) = true := by simp; omega
    rw [hp, Bool.and_true] at h
    simp at h
    omega
theorem turn_le {x : List UInt8} {a : List Int} {y : List UInt8} {k : Nat} (h1 : k < a.length) (h2 : k < y.length) (h3 : k < 3) (hp : 0 < x.length) : k + 1 ≤ turnN x a y := by
  unfold turnN
  rw [if_neg (by omega)]
  omega
theorem tmod_odd {c : Int} (h : c.tmod 2 = 1) : 0 < c := by
  rcases Int.lt_or_le 0 c with h1 | h1
  · exact h1
  · obtain ⟨d, rfl⟩ : ∃ d, c = -d := ⟨-c, by omega⟩
    rw [Int.neg_tmod] at h
    have := Int.tmod_nonneg 2 (show 0 ≤ d by omega)
    omega
/-- Bytes with some turned, or cut off. -/
def turned (x : List UInt8) (a : List Int) (y : List UInt8) : List UInt8 := turnTo x a y (turnN x a y)
def bentX (x : List UInt8) (a : List Int) (y : List UInt8) (cut : Int) : List UInt8 := if cut.tmod 2 = 1 then (turned x a y).take ((cut / 2) % ((turned x a y).length + 1)).toNat else turned x a y
end Go.Proofs.YtnhidehpacidnaaDoor
/- Blocks: what is written is read again; inodes compared. -/
namespace Go.Proofs.YtnhidehpacidnaaDoor
open Go.RowKit
set_option linter.unusedVariables false
set_option linter.unusedSimpArgs false
theorem at0_append_left {a b : List UInt8} {k : Nat} (h : k < a.length) : at0 (a ++ b) k = at0 a k := by simp [at0, List.getElem?_append_left h]
theorem val_append {a b : List UInt8} : ∀ k, k ≤ a.length → val (a ++ b) k = val a k
  | 0, _ => rfl
  | k + 1, h => by rw [val, val, val_append k (by omega), at0_append_left (by omega)]
theorem val_num (s : Int) (h0 : 0 ≤ s) (h1 : s < 4294967296) : (val (numB s 4) 4 : Int) = s := by
  rw [numB_four, val_four]
  have e : ∀ k : Nat, s.fdiv (2 ^ k) = s / 2 ^ k := fun k => Int.fdiv_eq_ediv_of_nonneg _ (by apply Int.pow_nonneg; omega)
  have e24 := byte_toNat (s.fdiv (2 ^ 24))
  have e16 := byte_toNat (s.fdiv (2 ^ 16))
  have e8 := byte_toNat (s.fdiv (2 ^ 8))
  have e0 := byte_toNat s
  rw [e, show (2 : Int) ^ 24 = 16777216 from by decide] at e24
  rw [e, show (2 : Int) ^ 16 = 65536 from by decide] at e16
  rw [e, show (2 : Int) ^ 8 = 256 from by decide] at e8
  show (((byte (s.fdiv (2 ^ 24))).toNat * 2 ^ 24 + (byte (s.fdiv (2 ^ 16))).toNat * 2 ^ 16 + (byte (s.fdiv (2 ^ 8))).toNat * 2 ^ 8 + (byte s).toNat : Nat) : Int) = s
  rw [e, e, e, show (2 : Int) ^ 24 = 16777216 from by decide, show (2 : Int) ^ 16 = 65536 from by decide, show (2 : Int) ^ 8 = 256 from by decide]
  omega
theorem byte_small {n : Int} (h0 : 0 ≤ n) (h1 : n < 256) : ((byte n).toNat : Int) = n := by rw [byte_toNat]; omega
theorem lev_le (s : Int) : lev s ≤ 7 := by unfold lev; repeat' split
                                           all_goals omega
theorem wrong_zero {k s l : Int} {top : List UInt8} (h : wrongN k s l top = 0) : (k = 1 ∨ k = 2) ∧ 0 ≤ s ∧ s ≤ 1048576 ∧ l = (lev s : Int) := by
  unfold wrongN at h
  split at h
  · cases h
  · split at h
    · cases h
    · rename_i h1 h2
      unfold wrongB at h2
      simp at h2
      omega
theorem parse_inode {k s l : Int} {top : List UInt8} (ht : top.length = 32) (h : wrongN k s l top = 0) : parseI (inodeB k s l top) = ((k, s, l, top), 0) := by
  obtain ⟨hk, hs0, hs1, hl⟩ := wrong_zero h
  have hll := lev_le s
  have hlen : (inodeB k s l top).length = 39 := by simp [inodeB, numB_length, ht]
  have e1 : at0 (inodeB k s l top) 0 = 105 := by simp [inodeB, at0]
  have e2 : ((at0 (inodeB k s l top) 1).toNat : Int) = k := by
    have : at0 (inodeB k s l top) 1 = byte k := by simp [inodeB, at0]
    rw [this]
    exact byte_small (by omega) (by omega)
  have d2 : (inodeB k s l top).drop 2 = numB s 4 ++ ([byte l] ++ top) := by simp [inodeB]
  have e3 : (val ((inodeB k s l top).drop 2) 4 : Int) = s := by
    rw [d2, val_append 4 (by rw [numB_length]; omega)]
    exact val_num s hs0 (by omega)
  have e4 : ((at0 (inodeB k s l top) 6).toNat : Int) = l := by
    have : at0 (inodeB k s l top) 6 = byte l := by
      rw [inodeB, numB_four]
      simp [at0]
    rw [this]
    exact byte_small (by omega) (by omega)
  have e5 : ((inodeB k s l top).drop 7).take 32 = top := by
    rw [inodeB, numB_four]
    simp [← ht]
  have hp : parsed (inodeB k s l top) = (k, s, l, top) := by unfold parsed; rw [e2, e3, e4, e5]
  unfold parseI
  rw [if_neg (by omega), hp, if_neg (by simp [e1, h]), if_neg (by omega)]
theorem innerE_zero {l : List (List UInt8)} (h : innerE l = 0) : 1 ≤ l.length ∧ l.length ≤ 8 := by
  unfold innerE at h
  split at h
  · cases h
  · split at h
    · cases h
    · omega
theorem flat_drop {l : List (List UInt8)} (h : Ids l) : ∀ i, i < l.length → (l.flatten.drop (i * 32)).take 32 = l.getD i [] := by
  induction l with
  | nil => intro i hi; simp at hi
  | cons x l ih =>
    intro i hi
    have hx := h x (by simp)
    cases i with
    | zero => simp [← hx]
    | succ i =>
      have := ih (fun y hy => h y (by simp [hy])) i (by simpa using hi)
      rw [List.flatten_cons, show (i + 1) * 32 = x.length + i * 32 by rw [hx]; omega, ← List.drop_drop, List.drop_left, this]
      rfl
theorem parse_inner {l : List (List UInt8)} (hl : Ids l) (h : innerE l = 0) : parseNE (innerR l) = 0 ∧ parseNL (innerR l) = l := by
  obtain ⟨h1, h2⟩ := innerE_zero h
  have hR : innerR l = [110, byte l.length] ++ l.flatten := by unfold innerR; rw [if_pos h, innerTo, List.take_length]
  have hlen : (innerR l).length = 2 + l.length * 32 := by rw [hR]; simp [flat_ids hl]; omega
  have e0 : at0 (innerR l) 0 = 110 := by rw [hR]; rfl
  have e1 : (at0 (innerR l) 1).toNat = l.length := by
    have : at0 (innerR l) 1 = byte l.length := by rw [hR]; rfl
    rw [this]
    have := byte_small (n := (l.length : Int)) (by omega) (by omega)
    omega
  have hE : parseNE (innerR l) = 0 := by
    unfold parseNE
    rw [if_neg (by omega), if_neg (by rintro (h | h | h); exact h e0; omega; omega), if_neg (by omega), if_neg (by omega)]
  refine ⟨hE, ?_⟩
  unfold parseNL
  rw [if_pos hE, e1]
  unfold idsOf
  apply List.ext_getElem?
  intro i
  rw [List.getElem?_map]
  by_cases hi : i < l.length
  · rw [List.getElem?_range hi, List.getElem?_eq_getElem hi, Option.map_some, hR, ← List.drop_drop]
    have := flat_drop hl i hi
    simp [hi] at this
    simp [this]
  · rw [List.getElem?_eq_none (by simpa using hi), List.getElem?_eq_none (by omega)]
    rfl
theorem parseNL_ids (b : List UInt8) : Ids (parseNL b) ∧ (parseNL b).length ≤ 8 := by
  unfold parseNL
  split
  · rename_i h
    unfold parseNE at h
    split at h
    · cases h
    · split at h
      · cases h
      · split at h
        · cases h
        · split at h
          · cases h
          · exact ⟨idsOf_ids (by omega), by rw [idsOf_length]; omega⟩
  · exact ⟨fun x hx => by simp at hx, by simp⟩
theorem parseI_top (b : List UInt8) : (parseI b).1.2.2.2.length = 32 := by
  unfold parseI
  repeat' split
  all_goals first | rfl | (simp [parsed]; omega)
/-- Inodes compared. -/
def nodeEq (k s l : Int) (top : List UInt8) (k' s' l' : Int) (top' : List UInt8) : Bool := k == k' && (s == s' && (l == l' && (top == top' && true)))
theorem run_nodeNe (k s l k' s' l' : Int) (top top' : List UInt8) (ht : top.length = 32) (ht' : top'.length = 32) (x y : Operand) (w : World) : ((do eqGuard .neq 51 x y (nodeV k s l top) (nodeV k' s' l' top'); binOp .neq 51 (nodeV k s l top) (nodeV k' s' l' top') : Sem Value)).run Tryd.prog w = .ok (.bool (!(nodeEq k s l top k' s' l' top'))) w := by
  have hid := run_equalIn_bytes w 9997 25 5 32 Tryd.underlying25 Tryd.underlying5 (fun w => by kernel_rfl) top top' ht ht'
  rw [show List.map Extern.Stop.cell top = bs top from rfl, show List.map Extern.Stop.cell top' = bs top' from rfl] at hid
  simp only [Nat.reduceAdd] at hid
  have p0 : ∀ (k s l : Int) (top : List UInt8), (part 3 (nodeC k s l top).toArray 0).run Tryd.prog w = .ok (.int .i64 k) w := fun k s l top => by simp [part, Tryd.isAgg3, nodeC]
  have p1 : ∀ (k s l : Int) (top : List UInt8), (part 3 (nodeC k s l top).toArray 1).run Tryd.prog w = .ok (.int .i64 s) w := fun k s l top => by simp [part, Tryd.isAgg3, nodeC]
  have p2 : ∀ (k s l : Int) (top : List UInt8), (part 3 (nodeC k s l top).toArray 2).run Tryd.prog w = .ok (.int .i64 l) w := fun k s l top => by simp [part, Tryd.isAgg3, nodeC]
  have p3 : ∀ (k s l : Int) (top : List UInt8), top.length = 32 → (part 25 (nodeC k s l top).toArray 3).run Tryd.prog w = .ok (.agg (bs top).toArray) w := fun k s l top h => by
    have e : (nodeC k s l top).toArray.extract 3 35 = (bs top).toArray := by
      apply Array.toList_inj.1
      rw [Array.toList_extract]
      exact take_top h
    simp [part, Tryd.isAgg25, Tryd.sizeOf25, e]
    exact take_top h
  have hi : ∀ a b : Int, (Op.equalIn 9999 3 (.int .i64 a) (.int .i64 b)).run Tryd.prog w = .ok (a == b) w := fun a b => run_equalIn_int (P := Tryd.prog) (w := w) 9998 3 .i64 .i64 a b Tryd.underlying3
  exact (run_structEq w (by kernel_rfl) Tryd.stoodInHeld51 (gs := [("Kind", 3, 0), ("Size", 3, 1), ("Levels", 3, 2), ("Top", 25, 3)]) (by kernel_rfl) Tryd.eqGuardType51
    (.cons (by decide) (p0 _ _ _ _) (p0 _ _ _ _) (hi _ _) (.cons (by decide) (p1 _ _ _ _) (p1 _ _ _ _) (hi _ _) (.cons (by decide) (p2 _ _ _ _) (p2 _ _ _ _) (hi _ _) (.cons (by decide) (p3 _ _ _ _ ht) (p3 _ _ _ _ ht') hid .nil)))) x y).2
end Go.Proofs.YtnhidehpacidnaaDoor
/- Blocks: plain words of the laws. -/
namespace Go.Proofs.YtnhidehpacidnaaDoor
set_option linter.unusedVariables false
set_option linter.unusedSimpArgs false
/-- The inode that a law takes. -/
def nodeS (k s : Int) : Int := s % 5000
def nodeM (k s l : Int) (top : List UInt8) (how : Int) : Int × Int × Int × List UInt8 :=
  if how.tmod 3 = 0 then (k, s, l, top) else (1 + k % 2, s % 5000, (lev (s % 5000) : Int), if s % 5000 = 0 then zeroId else top)
theorem nodeM_top {k s l : Int} {top : List UInt8} (how : Int) (h : top.length = 32) : (nodeM k s l top how).2.2.2.length = 32 := by
  unfold nodeM; repeat' split
  all_goals first | exact h | rfl
theorem known_node : wrongN 1 0 0 zeroId = 0 := by decide
theorem known_len : (inodeR 1 0 0 zeroId).length = 39 := by rw [inodeR, if_pos known_node]; rfl
theorem known_at : at0 (inodeR 1 0 0 zeroId) 0 = 105 := by rw [inodeR, if_pos known_node]; rfl
theorem innerR_le (l : List (List UInt8)) (h : Ids l) : (innerR l).length ≤ 300 := by
  unfold innerR
  split
  · rename_i h0
    have := innerE_zero h0
    rw [innerTo_length h (Nat.le_refl _)]
    omega
  · simp
theorem inodeR_le (k s l : Int) (top : List UInt8) (h : top.length = 32) : (inodeR k s l top).length ≤ 39 := by
  unfold inodeR
  split
  · simp [inodeB, numB_length, h]
  · simp
theorem rows4 {α : Type} (P : α → Prop) (a b c d z : α) (ha : P a) (hb : P b) (hc : P c) (hd : P d) : ∀ i, i < 4 → P ([a, b, c, d].getD i z) := by
  intro i hi
  have : i = 0 ∨ i = 1 ∨ i = 2 ∨ i = 3 := by omega
  rcases this with rfl | rfl | rfl | rfl <;> assumption
theorem four_at {a b c d : Value} {k : Nat} (h : k < 4) : [a, b, c, d][k]? = some ([a, b, c, d].getD k undef) := by
  have : k = 0 ∨ k = 1 ∨ k = 2 ∨ k = 3 := by omega
  rcases this with rfl | rfl | rfl | rfl <;> rfl
theorem sizes_end {size levels : Int} {least : Nat} {k : Int} (hk : k = 1 ∨ k = 2) (hs0 : 0 ≤ size) (hs1 : size < 1048578) (hl : least = lev size) :
    ((decide (wrongN k size levels zeroId = 0) == (decide (size ≤ 1048576) && decide (levels = (least : Int)))) && (decide (wrongN k size levels zeroId = 0) || decide (wrongN k size levels zeroId = 1))) = true := by
  subst hl
  have hk' : ¬ (k ≠ 1 ∧ k ≠ 2) := by omega
  unfold wrongN
  rw [if_neg hk']
  have hB : wrongB size levels zeroId = (decide (1048576 < size) || !decide (levels = (lev size : Int))) := by
    unfold wrongB
    have h0 : decide (size < 0) = false := by simp; omega
    simp [h0]
  rw [hB]
  by_cases h1 : 1048576 < size
  · have h2 : ¬ size ≤ 1048576 := by omega
    simp [h1, h2]
  · have h2 : size ≤ 1048576 := by omega
    by_cases h3 : levels = (lev size : Int)
    · simp [h2, h3]
    · simp [h2, h3]
theorem inners_end {l : List (List UInt8)} (hl : Ids l) {rows : List (List UInt8)} {i : Nat} (h3 : rows.getD 3 [] = innerR l) {e : Int} (b : List UInt8) (hb : b = rows.getD i []) :
    ((!(parseNL b == parseNL b) || !decide (parseNE b = parseNE b)) || (decide ((i : Int) = 3) && decide (innerE l = 0) && !(parseNL b == l))) = false := by
  simp
  intro hi hE
  have : i = 3 := by omega
  subst this
  rw [hb, h3]
  exact (parse_inner hl hE).2
theorem nodeEq_refl (k s l : Int) (top : List UInt8) : nodeEq k s l top k s l top = true := by simp [nodeEq]
theorem nodes_end {k s l : Int} {top : List UInt8} (ht : top.length = 32) {rows : List (List UInt8)} {i : Nat} (h3 : rows.getD 3 [] = inodeR k s l top) {e : Int} (he : e = wrongN k s l top) (b : List UInt8) (hb : b = rows.getD i []) :
    ((!(nodeEq (parseI b).1.1 (parseI b).1.2.1 (parseI b).1.2.2.1 (parseI b).1.2.2.2 (parseI b).1.1 (parseI b).1.2.1 (parseI b).1.2.2.1 (parseI b).1.2.2.2) || !decide ((parseI b).2 = (parseI b).2)) || (decide ((i : Int) = 3) && decide (e = 0) && !(nodeEq (parseI b).1.1 (parseI b).1.2.1 (parseI b).1.2.2.1 (parseI b).1.2.2.2 k s l top))) = false := by
  rw [nodeEq_refl]
  simp
  intro hi hE
  have : i = 3 := by omega
  subst this
  subst he
  rw [hb, h3, inodeR, if_pos hE, parse_inode ht hE]
  exact nodeEq_refl _ _ _ _
end Go.Proofs.YtnhidehpacidnaaDoor
/- Blocks: what the law of directories needs of the other blocks. -/
namespace Go.Proofs.YtnhidehpacidnaaDoor
open Go.RowKit
set_option linter.unusedVariables false

theorem refId_spec (v : Value) (l : List UInt8) (F : HP) (hF : ∀ h, F h → rdB v l h) (hl : 32 ≤ l.length) : CallsS Tryd.prog 19 #[v] F [] (fun r Ps => r = .agg (bs (l.take 32)).toArray ∧ Ps = []) := by
  refine callsS_enter Tryd.func19 rfl Tryd.ntmps19 (by simp) (fun E => ?_)
  refine W_seq ?_
  refine W.pre (K' := [(0, _)]) (L' := [(0, _)]) ?_ ⟨rfl, trivial⟩ ⟨rfl, trivial⟩
  refine W_regL (WL_cons rfl rfl (by decide) (OpT_alloc (r := 101) (cs := (bs zeroId)) rfl (zero_run (by kernel_rfl : (Tryd.prog.info? 25).bind (·.zero) = some (.agg (bs zeroId).toArray))) rfl (fun g101 => (WL_nil (X_then ?_)))))
  refine W_seq ?_
  refine W.pre (K' := [(0, _), (2, _)]) (L' := [(0, _), (101, _)]) ?_ ⟨rfl, ⟨rfl, trivial⟩⟩ ⟨rfl, ⟨rfl, trivial⟩⟩
  refine W_regL (WL_cons rfl rfl (by decide) (OpT_alloc (r := 102) (cs := (bs zeroId)) rfl (zero_run (by kernel_rfl : (Tryd.prog.info? 25).bind (·.zero) = some (.agg (bs zeroId).toArray))) rfl (fun g102 => (WL_nil (X_then ?_)))))
  refine W_seq ?_
  refine W_seq ?_
  refine W.pre (K' := [(0, _), (2, _), (3, _)]) (L' := [(0, _), (101, _), (102, _)]) ?_ ⟨rfl, ⟨rfl, ⟨rfl, trivial⟩⟩⟩ ⟨rfl, ⟨rfl, ⟨rfl, trivial⟩⟩⟩
  refine W_regL (WL_pure rfl rfl (by decide) (Pu_assign rfl rfl) (WL_nil (X_then ?_)))
  refine W_block ?_
  refine W_loop (α := Nat) (fun k => [(0, v), (2, .pointer (some ⟨g101, 0, none⟩)), (3, .pointer (some ⟨g102, 0, none⟩)), (4, .int .i64 (k : Int))]) (fun k => [(0, F), (101, blk g101 25 (bs zeroId)), (102, blk g102 25 (bs (idTo l k)))]) (fun k => k ≤ 32) (fun k => 32 - k) (0) (by omega) ⟨rfl, ⟨rfl, ⟨rfl, ⟨rfl, trivial⟩⟩⟩⟩ ⟨rfl, rfl, by rw [idTo_zero]; rfl, trivial⟩ (fun x hx => ?_)
  refine W_seq ?_
  refine W_seq ?_
  refine W.pre (K' := [(0, _), (2, _), (3, _), (4, _)]) (L' := [(0, _), (101, _), (102, _)]) ?_ ⟨rfl, ⟨rfl, ⟨rfl, ⟨rfl, trivial⟩⟩⟩⟩ ⟨rfl, ⟨rfl, ⟨rfl, trivial⟩⟩⟩
  refine W_regL (WL_pure rfl rfl (by decide) (Pu_move rfl rfl) (WL_pure rfl rfl (by decide) (Pu_bin rfl rfl rfl (run_lss _ _ _ _ _ _)) (WL_nil (X_then ?_))))
  refine W_cond rfl (fun hc6 => ?_) (fun hc6 => ?_)
  ·
    refine W_skip (X_then ?_)
    refine W_seq ?_
    refine W_block ?_
    refine W.pre (K' := [(0, _), (2, _), (3, _), (4, _), (6, _)]) (L' := [(0, _), (101, _), (102, _)]) ?_ ⟨rfl, ⟨rfl, ⟨rfl, ⟨rfl, ⟨rfl, trivial⟩⟩⟩⟩⟩ ⟨rfl, ⟨rfl, ⟨rfl, trivial⟩⟩⟩
    refine W_regL (WL_pure rfl rfl (by decide) (Pu_move rfl rfl) (WL_pure rfl rfl (by decide) (Pu_move rfl rfl) (WL_pure rfl rfl (by decide) (Pu_move rfl rfl) (WL_pure rfl rfl (by decide) (Pu_idxS1 (r := 0) rfl Tryd.runUnderlying27 Tryd.sizeOf5 rfl rfl rfl hF (by have := of_decide_eq_true hc6; omega)) (WL_pure rfl rfl (by decide) (Pu_loadS (r := 0) rfl Tryd.isAgg5 rfl rfl hF (bs_at1 (k := x) (by have := of_decide_eq_true hc6; omega))) (WL_pure rfl rfl (by decide) (Pu_idxA rfl Tryd.runUnderlying25 Tryd.sizeOf5 rfl rfl (by have := of_decide_eq_true hc6; omega)) (WL_cons0 rfl rfl (OpT_storeB1 (r := 102) rfl Tryd.sizeOf5 rfl rfl rfl rfl (by rw [bs_length, idTo_length l hl hx]; have := of_decide_eq_true hc6; omega) ((congrArg (fun q => List.set _ q _) (Nat.zero_add _)).trans (idTo_set l hl (by have := of_decide_eq_true hc6; omega))) ?_))))))))
    refine (WL_nil (X_block (X_then ?_)))
    refine W.pre (K' := [(0, _), (2, _), (3, _), (4, _), (6, _)]) (L' := [(0, _), (101, _), (102, _)]) ?_ ⟨rfl, ⟨rfl, ⟨rfl, ⟨rfl, ⟨rfl, trivial⟩⟩⟩⟩⟩ ⟨rfl, ⟨rfl, ⟨rfl, trivial⟩⟩⟩
    refine W_regL (WL_pure rfl rfl (by decide) (Pu_move rfl rfl) (WL_pure rfl rfl (by decide) (Pu_bin rfl rfl rfl (run_add _ _ _ _ _ (by omega))) (WL_pure rfl rfl (by decide) (Pu_assign rfl rfl) (WL_nil ?_))))
    exact X_round (x + 1) (by have := of_decide_eq_true hc6; omega) (by have := of_decide_eq_true hc6; omega) ⟨rfl, rfl, rfl, rfl, trivial⟩ ⟨rfl, rfl, rfl, trivial⟩
  ·
    obtain rfl : x = 32 := by have := of_decide_eq_false hc6; omega
    refine W_exit (X_then_exit (X_then_exit (X_block_exit (X_then ?_))))
    refine W_seq ?_
    refine W.pre (K' := [(0, _), (2, _), (3, _), (4, _), (6, _)]) (L' := [(0, _), (101, _), (102, _)]) ?_ ⟨rfl, ⟨rfl, ⟨rfl, ⟨rfl, ⟨rfl, trivial⟩⟩⟩⟩⟩ ⟨rfl, ⟨rfl, ⟨rfl, trivial⟩⟩⟩
    refine W_regL (WL_pure rfl rfl (by decide) (Pu_loadBN (r := 102) rfl Tryd.isAgg25 Tryd.sizeOf25 rfl rfl (by rw [bs_length, idTo_length l hl hx]) (load_all (by rw [bs_length, idTo_length l hl hx]))) (WL_cons0 rfl rfl (OpT_storeAll (r := 101) rfl Tryd.sizeOf25 rfl rfl rfl rfl (by rw [bs_length, idTo_length l hl hx]) (bs_one _) ?_)))
    refine (WL_nil (X_then ?_))
    refine W_ret ?_
    exact X_ret [] (Ps := []) (resC1 (r := 101) Tryd.results19 rfl Tryd.isAgg25 Tryd.sizeOf25 rfl (by rw [bs_length, idTo_length l hl hx])) rfl (by decide) ⟨by rw [idTo_all], rfl⟩
theorem inner_spec (v : Value) (l : List (List UInt8)) (hl : Ids l) (F : HP) (hF : ∀ h, F h → rdI v l h) : CallsS Tryd.prog 14 #[v] F [] (fun r Ps => ∃ v', r = .tuple #[v', .int .i64 (innerE l)] ∧ Ps = [rowB 5 v' (innerR l)]) := by
  refine callsS_enter Tryd.func14 rfl Tryd.ntmps14 (by simp) (fun E => ?_)
  refine W_seq ?_
  refine W.pre (K' := [(0, _)]) (L' := [(0, _)]) ?_ ⟨rfl, trivial⟩ ⟨rfl, trivial⟩
  refine W_regL (WL_pure rfl rfl (by decide) (Pu_assign rfl rfl) (WL_pure rfl rfl (by decide) (Pu_assign rfl rfl) (WL_nil (X_then ?_))))
  refine W_seq ?_
  refine W_block ?_
  refine W_seq ?_
  refine W.pre (K' := [(0, _), (2, _), (3, _)]) (L' := [(0, _)]) ?_ ⟨rfl, ⟨rfl, ⟨rfl, trivial⟩⟩⟩ ⟨rfl, trivial⟩
  refine W_regL (WL_pure rfl rfl (by decide) (Pu_move rfl rfl) (WL_pure rfl rfl (by decide) (Pu_len (r := 0) rfl Tryd.runUnderlying56 rfl rfl hF) (WL_pure rfl rfl (by decide) (Pu_bin rfl rfl rfl (run_eql _ _ _ _ _ _)) (WL_pure rfl rfl (by decide) (Pu_assign rfl rfl) (WL_nil (X_then ?_))))))
  refine W_cond rfl (fun hc7 => ?_) (fun hc7 => ?_)
  ·
    have h0 := of_decide_eq_true hc7
    refine W_seq ?_
    refine W.pre (K' := [(0, _), (2, _), (3, _), (7, _)]) (L' := [(0, _)]) ?_ ⟨rfl, ⟨rfl, ⟨rfl, ⟨rfl, trivial⟩⟩⟩⟩ ⟨rfl, trivial⟩
    refine W_regL (WL_pure rfl rfl (by decide) (Pu_assign rfl rfl) (WL_pure rfl rfl (by decide) (Pu_assign rfl rfl) (WL_nil (X_then ?_))))
    refine W_ret (X_block_ret (X_then_ret ?_))
    refine X_nilRow 9900 5 1 ?_
    have hE : innerE l = 1 := by unfold innerE; rw [if_pos (by omega)]
    exact X_ret [9900] (Ps := [_]) (res2 Tryd.results14 rfl rfl) rfl (by decide) ⟨_, by rw [hE], by rw [innerR, if_neg (by rw [hE]; decide)]; rfl⟩
  ·
    have h0 := of_decide_eq_false hc7
    refine W_seq ?_
    refine W.pre (K' := [(0, _), (2, _), (3, _), (7, _)]) (L' := [(0, _)]) ?_ ⟨rfl, ⟨rfl, ⟨rfl, ⟨rfl, trivial⟩⟩⟩⟩ ⟨rfl, trivial⟩
    refine W_regL (WL_pure rfl rfl (by decide) (Pu_move rfl rfl) (WL_pure rfl rfl (by decide) (Pu_len (r := 0) rfl Tryd.runUnderlying56 rfl rfl hF) (WL_pure rfl rfl (by decide) (Pu_bin rfl rfl rfl (run_gtr _ _ _ _ _ _)) (WL_pure rfl rfl (by decide) (Pu_assign rfl rfl) (WL_nil (X_then ?_))))))
    refine W_cond rfl (fun hc11 => ?_) (fun hc11 => ?_)
    ·
      have h8 := of_decide_eq_true hc11
      refine W_seq ?_
      refine W.pre (K' := [(0, _), (2, _), (3, _), (7, _), (11, _)]) (L' := [(0, _)]) ?_ ⟨rfl, ⟨rfl, ⟨rfl, ⟨rfl, ⟨rfl, trivial⟩⟩⟩⟩⟩ ⟨rfl, trivial⟩
      refine W_regL (WL_pure rfl rfl (by decide) (Pu_assign rfl rfl) (WL_pure rfl rfl (by decide) (Pu_assign rfl rfl) (WL_nil (X_then ?_))))
      refine W_ret (X_block_ret (X_then_ret ?_))
      refine X_nilRow 9900 5 1 ?_
      have hE : innerE l = 4 := by unfold innerE; rw [if_neg (by omega), if_pos (by omega)]
      exact X_ret [9900] (Ps := [_]) (res2 Tryd.results14 rfl rfl) rfl (by decide) ⟨_, by rw [hE], by rw [innerR, if_neg (by rw [hE]; decide)]; rfl⟩
    ·
      have h8 := of_decide_eq_false hc11
      refine W_skip (X_block (X_then ?_))
      refine W_seq ?_
      refine W.pre (K' := [(0, _), (2, _), (3, _), (7, _), (11, _)]) (L' := [(0, _)]) ?_ ⟨rfl, ⟨rfl, ⟨rfl, ⟨rfl, ⟨rfl, trivial⟩⟩⟩⟩⟩ ⟨rfl, trivial⟩
      refine W_regL (WL_pure rfl rfl (by decide) (Pu_move rfl rfl) (WL_pure rfl rfl (by decide) (Pu_len (r := 0) rfl Tryd.runUnderlying56 rfl rfl hF) (WL_pure rfl rfl (by decide) (Pu_conv rfl rfl (conv_byte _ _ Tryd.runUnderlying3 Tryd.runUnderlying5)) (WL_cons rfl rfl (by decide) (OpT_buildOnes (r := 101) (bs [110, byte l.length]) rfl rfl Tryd.runUnderlying27 Tryd.sizeOf5 Tryd.zeroValue5 rfl rfl (by decide) rfl (bs_cells _) (fun v18 => (WL_pure rfl rfl (by decide) (Pu_assign rfl rfl) (WL_nil (X_then ?_)))))))))
      refine W_seq ?_
      refine W_seq ?_
      refine W.pre (K' := [(0, _), (2, _), (3, _), (4, _), (7, _), (11, _)]) (L' := [(0, _), (101, _)]) ?_ ⟨rfl, ⟨rfl, ⟨rfl, ⟨rfl, ⟨rfl, ⟨rfl, trivial⟩⟩⟩⟩⟩⟩ ⟨rfl, ⟨rfl, trivial⟩⟩
      refine W_regL (WL_pure rfl rfl (by decide) (Pu_move rfl rfl) (WL_pure rfl rfl (by decide) (Pu_len (r := 0) rfl Tryd.runUnderlying56 rfl rfl hF) (WL_pure rfl rfl (by decide) (Pu_move rfl rfl) (WL_nil (X_then ?_)))))
      refine W_block ?_
      refine W_loop (α := Nat × Value) (fun k => [(0, v), (4, k.2), (19, v), (20, .int .i64 (l.length : Int)), (21, .int .i64 (k.1 : Int))]) (fun k => [(0, F), (101, rowB 5 k.2 (innerTo l k.1))]) (fun k => k.1 ≤ l.length) (fun k => l.length - k.1) ((0, v18)) (Nat.zero_le _) ⟨rfl, ⟨rfl, ⟨rfl, ⟨rfl, ⟨rfl, trivial⟩⟩⟩⟩⟩ ⟨rfl, ⟨rfl, trivial⟩⟩ (fun x hx => ?_)
      unfold rowB
      refine W_seq ?_
      refine W.pre (K' := [(0, _), (4, _), (19, _), (20, _), (21, _)]) (L' := [(0, _), (101, _)]) ?_ ⟨rfl, ⟨rfl, ⟨rfl, ⟨rfl, ⟨rfl, trivial⟩⟩⟩⟩⟩ ⟨rfl, ⟨rfl, trivial⟩⟩
      refine W_regL (WL_pure rfl rfl (by decide) (Pu_bin rfl rfl rfl (run_lss _ _ _ _ _ _)) (WL_nil (X_then ?_)))
      refine W_seq ?_
      refine W_cond rfl (fun hc22 => ?_) (fun hc22 => ?_)
      ·
        have hlt : x.1 < l.length := by have := of_decide_eq_true hc22; omega
        have hid := hl.get hlt
        refine W_skip (X_then ?_)
        refine W_seq ?_
        refine W_block ?_
        refine W_seq ?_
        refine W.pre (K' := [(0, _), (4, _), (19, _), (20, _), (21, _), (22, _)]) (L' := [(0, _), (101, _)]) ?_ ⟨rfl, ⟨rfl, ⟨rfl, ⟨rfl, ⟨rfl, ⟨rfl, trivial⟩⟩⟩⟩⟩⟩ ⟨rfl, ⟨rfl, trivial⟩⟩
        refine W_regL (WL_pure rfl rfl (by decide) (Pu_idxS (r := 0) rfl Tryd.runUnderlying56 Tryd.sizeOf25 rfl rfl rfl hF (by omega)) (WL_pure rfl rfl (by decide) (Pu_loadSN (r := 0) rfl Tryd.isAgg25 Tryd.sizeOf25 rfl rfl hF ((bs_length _).trans hid) (by decide) (idsC_get (k := x.1) hl hlt)) (WL_cons rfl rfl (by decide) (OpT_alloc (r := 102) (cs := (bs zeroId)) rfl (zero_run (by kernel_rfl : (Tryd.prog.info? 25).bind (·.zero) = some (.agg (bs zeroId).toArray))) rfl (fun g102 => (WL_cons0 rfl rfl (OpT_storeAll (r := 102) rfl Tryd.sizeOf25 rfl rfl rfl rfl ((bs_length _).trans hid) (bs_one _) ?_)))))))
        refine (WL_nil (X_then ?_))
        refine W.pre (K' := [(0, _), (4, _), (6, _), (19, _), (20, _), (21, _), (22, _)]) (L' := [(0, _), (101, _), (102, _)]) ?_ ⟨rfl, ⟨rfl, ⟨rfl, ⟨rfl, ⟨rfl, ⟨rfl, ⟨rfl, trivial⟩⟩⟩⟩⟩⟩⟩ ⟨rfl, ⟨rfl, ⟨rfl, trivial⟩⟩⟩
        refine W_regL (WL_pure rfl rfl (by decide) (Pu_move rfl rfl) (WL_pure rfl rfl (by decide) (Pu_sliceArr rfl Tryd.runUnderlying25 Tryd.sizeOf5 rfl) (WL_cons rfl rfl (by decide) (OpT_append (r := 101) (r2 := 102) rfl Tryd.underlying27 TI.hi5 TI.hz5 TI.hs5 TI.hby5 TI.hzs5 (by decide) rfl rfl rfl rfl (fun _ h => id_rd hid h) (bs_one _) (by rw [innerTo_length hl hx]; unfold maxLen; omega) (by rw [innerTo_length hl hx]; omega) (fun v27 => ?_)))))
        refine (WL_pure rfl rfl (by decide) (Pu_assign rfl rfl) (WL_nil (X_block (X_then ?_))))
        refine W.pre (K' := [(0, _), (4, _), (6, _), (19, _), (20, _), (21, _), (22, _)]) (L' := [(0, _), (101, _), (102, _)]) ?_ ⟨rfl, ⟨rfl, ⟨rfl, ⟨rfl, ⟨rfl, ⟨rfl, ⟨rfl, trivial⟩⟩⟩⟩⟩⟩⟩ ⟨rfl, ⟨rfl, ⟨rfl, trivial⟩⟩⟩
        refine W_regL (WL_pure rfl rfl (by decide) (Pu_bin rfl rfl rfl (run_add _ _ _ _ _ (by omega))) (WL_pure rfl rfl (by decide) (Pu_move rfl rfl) (WL_nil ?_)))
        exact X_round (x.1 + 1, v27) (by show x.1 + 1 ≤ l.length; omega) (by show l.length - (x.1 + 1) < _; omega) ⟨rfl, ⟨rfl, ⟨rfl, ⟨rfl, ⟨rfl, trivial⟩⟩⟩⟩⟩ ⟨rfl, look_eq rfl (rowB_of (innerTo l (x.1 + 1)) (by rw [innerTo_succ hlt, List.length_append, hid]) (by rw [innerTo_succ hlt, bs_append])), trivial⟩
      ·
        have hfin : x.1 = l.length := by have := of_decide_eq_false hc22; omega
        refine W_exit (X_then_exit (X_then_exit (X_block_exit (X_then ?_))))
        refine W_seq ?_
        refine W.pre (K' := [(0, _), (4, _), (19, _), (20, _), (21, _), (22, _)]) (L' := [(0, _), (101, _)]) ?_ ⟨rfl, ⟨rfl, ⟨rfl, ⟨rfl, ⟨rfl, ⟨rfl, trivial⟩⟩⟩⟩⟩⟩ ⟨rfl, ⟨rfl, trivial⟩⟩
        refine W_regL (WL_pure rfl rfl (by decide) (Pu_move rfl rfl) (WL_pure rfl rfl (by decide) (Pu_assign rfl rfl) (WL_pure rfl rfl (by decide) (Pu_assign rfl rfl) (WL_nil (X_then ?_)))))
        refine W_ret ?_
        have hE : innerE l = 0 := by unfold innerE; rw [if_neg (by omega), if_neg (by omega)]
        exact X_ret [101] (Ps := [_]) (res2 Tryd.results14 rfl rfl) rfl (by decide) ⟨_, by rw [hE], by rw [innerR, if_pos hE, ← hfin]⟩
theorem within_spec (a n : Int) (hn : 0 < n) (hn2 : n < 9223372036854775808) (F : HP) : CallsS Tryd.prog 13 #[.int .i64 a, .int .i64 n] F [] (fun v Ps => v = .int .i64 (a % n) ∧ Ps = []) := by
  have htb := tmod_bounds a hn
  refine callsS_enter Tryd.func13 rfl Tryd.ntmps13 (by simp) (fun E => ?_)
  refine W_seq ?_
  refine W.pre (K' := [(0, _), (1, _)]) (L' := [(0, _)]) ?_ ⟨rfl, ⟨rfl, trivial⟩⟩ ⟨rfl, trivial⟩
  refine W_regL (WL_pure rfl rfl (by decide) (Pu_assign rfl rfl) (WL_nil (X_then ?_)))
  refine W_seq ?_
  refine W.pre (K' := [(0, _), (1, _), (4, _)]) (L' := [(0, _)]) ?_ ⟨rfl, ⟨rfl, ⟨rfl, trivial⟩⟩⟩ ⟨rfl, trivial⟩
  refine W_regL (WL_pure rfl rfl (by decide) (Pu_move rfl rfl) (WL_pure rfl rfl (by decide) (Pu_move rfl rfl) (WL_pure rfl rfl (by decide) (Pu_bin rfl rfl rfl (run_tmod _ _ _ _ _ (by omega))) (WL_pure rfl rfl (by decide) (Pu_assign rfl rfl) (WL_nil (X_then ?_))))))
  refine W_seq ?_
  refine W_seq ?_
  refine W.pre (K' := [(0, _), (1, _), (4, _), (5, _)]) (L' := [(0, _)]) ?_ ⟨rfl, ⟨rfl, ⟨rfl, ⟨rfl, trivial⟩⟩⟩⟩ ⟨rfl, trivial⟩
  refine W_regL (WL_pure rfl rfl (by decide) (Pu_move rfl rfl) (WL_pure rfl rfl (by decide) (Pu_bin rfl rfl rfl (run_lss _ _ _ _ _ _)) (WL_nil (X_then ?_))))
  refine W_cond rfl (fun hc10 => ?_) (fun hc10 => ?_)
  ·
    have hlt := of_decide_eq_true hc10
    refine W.pre (K' := [(0, _), (1, _), (4, _), (5, _), (10, _)]) (L' := [(0, _)]) ?_ ⟨rfl, ⟨rfl, ⟨rfl, ⟨rfl, ⟨rfl, trivial⟩⟩⟩⟩⟩ ⟨rfl, trivial⟩
    refine W_regL (WL_pure rfl rfl (by decide) (Pu_move rfl rfl) (WL_pure rfl rfl (by decide) (Pu_move rfl rfl) (WL_pure rfl rfl (by decide) (Pu_bin rfl rfl rfl (run_add _ _ _ _ _ (by omega))) (WL_pure rfl rfl (by decide) (Pu_assign rfl rfl) (WL_nil (X_then ?_))))))
    refine W_seq ?_
    refine W.pre (K' := [(0, _), (1, _), (4, _), (5, _), (10, _)]) (L' := [(0, _)]) ?_ ⟨rfl, ⟨rfl, ⟨rfl, ⟨rfl, ⟨rfl, trivial⟩⟩⟩⟩⟩ ⟨rfl, trivial⟩
    refine W_regL (WL_pure rfl rfl (by decide) (Pu_move rfl rfl) (WL_pure rfl rfl (by decide) (Pu_assign rfl rfl) (WL_nil (X_then ?_))))
    refine W_ret ?_
    exact X_ret [] (Ps := []) (res1 Tryd.results13 rfl) rfl (by decide) ⟨int_val (emod_neg hn (of_decide_eq_true hc10)), rfl⟩
  ·
    refine W_skip (X_then ?_)
    refine W_seq ?_
    refine W.pre (K' := [(0, _), (1, _), (4, _), (5, _), (10, _)]) (L' := [(0, _)]) ?_ ⟨rfl, ⟨rfl, ⟨rfl, ⟨rfl, ⟨rfl, trivial⟩⟩⟩⟩⟩ ⟨rfl, trivial⟩
    refine W_regL (WL_pure rfl rfl (by decide) (Pu_move rfl rfl) (WL_pure rfl rfl (by decide) (Pu_assign rfl rfl) (WL_nil (X_then ?_))))
    refine W_ret ?_
    exact X_ret [] (Ps := []) (res1 Tryd.results13 rfl) rfl (by decide) ⟨int_val (emod_pos hn (of_decide_eq_false hc10)), rfl⟩
theorem bend_spec (vb vat vby vr : Value) (x : List UInt8) (at_ : List Int) (by_ : List UInt8) (cut : Int) (raw : List UInt8) (F : HP) (hFb : ∀ h, F h → rdB vb x h) (hFat : ∀ h, F h → rdN vat at_ h) (hFby : ∀ h, F h → rdB vby by_ h) (hFr : ∀ h, F h → rdB vr raw h)
    (hx1 : x.length ≤ 100000) (hr1 : raw.length ≤ 100000) (hc : -9223372036854775808 ≤ cut ∧ cut ≤ 9223372036854775807) :
    CallsS Tryd.prog 9 #[vb, vat, vby, .int .i64 cut, vr] F [] (fun r Ps => ∃ vx vy PX, Ps = [rowP 27 1 r 4 [vx, vy, vr, vb], PX, rowB 5 vy (bentX x at_ by_ cut ++ raw)] ∧ ∀ h, PX h → rdB vx (bentX x at_ by_ cut) h) := by
  refine callsS_enter Tryd.func9 rfl Tryd.ntmps9 (by simp) (fun E => ?_)
  refine W_seq ?_
  refine W.pre (K' := [(0, _), (1, _), (2, _), (3, _), (4, _)]) (L' := [(0, _)]) ?_ ⟨rfl, ⟨rfl, ⟨rfl, ⟨rfl, ⟨rfl, trivial⟩⟩⟩⟩⟩ ⟨rfl, trivial⟩
  refine W_regL (WL_pure rfl rfl (by decide) (Pu_assign rfl rfl) (WL_nil (X_then ?_)))
  refine W_seq ?_
  refine W.pre (K' := [(0, _), (1, _), (2, _), (3, _), (4, _), (10, _)]) (L' := [(0, _)]) ?_ ⟨rfl, ⟨rfl, ⟨rfl, ⟨rfl, ⟨rfl, ⟨rfl, trivial⟩⟩⟩⟩⟩⟩ ⟨rfl, trivial⟩
  refine W_regL (WL_cons rfl rfl (by decide) (OpT_buildOnes (r := 101) [] rfl rfl Tryd.runUnderlying27 Tryd.sizeOf5 Tryd.zeroValue5 rfl rfl (by decide) rfl (by simp [Value.cells]) (fun v13 => (WL_pure rfl rfl (by decide) (Pu_move rfl rfl) (WL_cons rfl rfl (by decide) (OpT_append (r := 101) (r2 := 0) (k1 := 0) rfl Tryd.underlying27 TI.hi5 TI.hz5 TI.hs5 TI.hby5 TI.hzs5 (by decide) rfl rfl rfl rfl hFb (bs_one _) (by unfold maxLen; omega) (by omega) (fun v15 => ?_)))))))
  refine (WL_pure rfl rfl (by decide) (Pu_assign rfl rfl) (WL_nil (X_then ?_)))
  refine W_seq ?_
  refine W_seq ?_
  refine W.pre (K' := [(0, _), (1, _), (2, _), (3, _), (4, _), (10, _), (11, _)]) (L' := [(0, _), (101, _)]) ?_ ⟨rfl, ⟨rfl, ⟨rfl, ⟨rfl, ⟨rfl, ⟨rfl, ⟨rfl, trivial⟩⟩⟩⟩⟩⟩⟩ ⟨rfl, ⟨rfl, trivial⟩⟩
  refine W_regL (WL_pure rfl rfl (by decide) (Pu_assign rfl rfl) (WL_nil (X_then ?_)))
  refine W_block ?_
  have hv15 := List.nil_append (bs x)
  refine W_loop (α := Nat) (fun k => [(0, vb), (1, vat), (2, vby), (3, .int .i64 cut), (4, vr), (11, v15), (12, .int .i64 (k : Int))]) (fun k => [(0, F), (101, rowB 5 v15 (turnTo x at_ by_ k))]) (fun k => k ≤ turnN x at_ by_) (fun k => turnN x at_ by_ - k) (0) (Nat.zero_le _) ⟨rfl, ⟨rfl, ⟨rfl, ⟨rfl, ⟨rfl, ⟨rfl, ⟨rfl, trivial⟩⟩⟩⟩⟩⟩⟩ ⟨rfl, look_eq rfl (rowB_of x (by omega) hv15), trivial⟩ (fun k hx => ?_)
  unfold rowB
  have hk := hx
  refine W_seq ?_
  refine W_seq ?_
  refine W.pre (K' := [(0, _), (1, _), (2, _), (3, _), (4, _), (11, _), (12, _)]) (L' := [(0, _), (101, _)]) ?_ ⟨rfl, ⟨rfl, ⟨rfl, ⟨rfl, ⟨rfl, ⟨rfl, ⟨rfl, trivial⟩⟩⟩⟩⟩⟩⟩ ⟨rfl, ⟨rfl, trivial⟩⟩
  refine W_regL (WL_pure rfl rfl (by decide) (Pu_move rfl rfl) (WL_pure rfl rfl (by decide) (Pu_move rfl rfl) (WL_pure rfl rfl (by decide) (Pu_len (r := 0) rfl Tryd.runUnderlying26 rfl rfl hFat) (WL_pure rfl rfl (by decide) (Pu_bin rfl rfl rfl (run_lss _ _ _ _ _ _)) (WL_pure rfl rfl (by decide) (Pu_move rfl rfl) (WL_guardP rfl rfl rfl rfl (by decide) (fun hb => (Pu_move rfl rfl)) (WL_guardP rfl rfl rfl rfl (by decide) (fun hb => (Pu_move rfl rfl)) (WL_guardP rfl rfl rfl rfl (by decide) (fun hb => (Pu_len (r := 0) rfl Tryd.runUnderlying27 (ev_gv rfl hb) rfl hFby)) (WL_guardP rfl rfl rfl rfl (by decide) (fun hb => (Pu_bin rfl (ev_gv rfl hb) (ev_gv rfl hb) (run_lss _ _ _ _ _ _))) (WL_pure rfl rfl (by decide) (Pu_and rfl rfl rfl) (WL_pure rfl rfl (by decide) (Pu_move rfl rfl) (WL_guardP rfl rfl rfl rfl (by decide) (fun hb => (Pu_move rfl rfl)) (WL_guardP rfl rfl rfl rfl (by decide) (fun hb => (Pu_bin rfl (ev_gv rfl hb) rfl (run_lss _ _ _ _ _ _))) (WL_pure rfl rfl (by decide) (Pu_and rfl rfl rfl) (WL_pure rfl rfl (by decide) (Pu_move rfl rfl) (WL_guardP rfl rfl rfl rfl (by decide) (fun hb => (Pu_move rfl rfl)) (WL_guardP rfl rfl rfl rfl (by decide) (fun hb => (Pu_len (r := 101) rfl Tryd.runUnderlying27 (ev_gv rfl hb) rfl (fun _ h => rowP_rd h))) (WL_guardP rfl rfl rfl rfl (by decide) (fun hb => (Pu_bin rfl (ev_gv rfl hb) rfl (run_gtr _ _ _ _ _ _))) (WL_pure rfl rfl (by decide) (Pu_and rfl rfl rfl) (WL_nil (X_then ?_)))))))))))))))))))))
  refine W_cond rfl (fun hc34 => ?_) (fun hc34 => ?_)
  ·
    have hg := turn_guard hc34
    obtain ⟨g1, g2, g3, g4⟩ := hg
    have hlx : (turnTo x at_ by_ k).length ≤ 100000 := by rw [turnTo_length]; exact hx1
    have hp : 0 < x.length := by rw [turnTo_length] at g4; exact g4
    have hm0 := Int.emod_nonneg (at_.getD k 0) (show ((turnTo x at_ by_ k).length : Int) ≠ 0 by omega)
    have hm1 := Int.emod_lt_of_pos (at_.getD k 0) (show 0 < ((turnTo x at_ by_ k).length : Int) by omega)
    refine W_skip (X_then ?_)
    refine W_seq ?_
    refine W_block ?_
    refine W.pre (K' := [(0, _), (1, _), (2, _), (3, _), (4, _), (11, _), (12, _), (34, _)]) (L' := [(0, _), (101, _)]) ?_ ⟨rfl, ⟨rfl, ⟨rfl, ⟨rfl, ⟨rfl, ⟨rfl, ⟨rfl, ⟨rfl, trivial⟩⟩⟩⟩⟩⟩⟩⟩ ⟨rfl, ⟨rfl, trivial⟩⟩
    refine W_draw (N := 17) (by kernel_rfl) rfl [(0, _)] ⟨rfl, trivial⟩ ?_
    refine (AH_take 0 rfl (by kernel_rfl) (by kernel_rfl) (by kernel_rfl) rfl rfl (by decide) (Pu_move rfl rfl) (AH_take 1 rfl (by kernel_rfl) (by kernel_rfl) (by kernel_rfl) rfl rfl (by decide) (Pu_move rfl rfl) (AH_take 2 rfl (by kernel_rfl) (by kernel_rfl) (by kernel_rfl) rfl rfl (by decide) (Pu_move rfl rfl) (AH_take 3 rfl (by kernel_rfl) (by kernel_rfl) (by kernel_rfl) rfl rfl (by decide) (Pu_idxS1 (r := 0) rfl Tryd.runUnderlying26 Tryd.sizeOf3 rfl rfl rfl hFat (by omega)) (AH_take 4 rfl (by kernel_rfl) (by kernel_rfl) (by kernel_rfl) rfl rfl (by decide) (Pu_loadS (r := 0) rfl Tryd.isAgg3 rfl rfl hFat (is_at (k := k) g1)) (AH_take 5 rfl (by kernel_rfl) (by kernel_rfl) (by kernel_rfl) rfl rfl (by decide) (Pu_move rfl rfl) (AH_take 10 rfl (by kernel_rfl) (by kernel_rfl) (by kernel_rfl) rfl rfl (by decide) (Pu_move rfl rfl) (AH_take 11 rfl (by kernel_rfl) (by kernel_rfl) (by kernel_rfl) rfl rfl (by decide) (Pu_move rfl rfl) (AH_take 12 rfl (by kernel_rfl) (by kernel_rfl) (by kernel_rfl) rfl rfl (by decide) (Pu_idxS1 (r := 0) rfl Tryd.runUnderlying27 Tryd.sizeOf5 rfl rfl rfl hFby (by omega)) (AH_take 13 rfl (by kernel_rfl) (by kernel_rfl) (by kernel_rfl) rfl rfl (by decide) (Pu_loadS (r := 0) rfl Tryd.isAgg5 rfl rfl hFby (bs_at1 (k := k) g2)) (AH_ready [6] (by kernel_rfl) (by decide) ?_)))))))))))
    refine AHs_cons rfl rfl rfl (by decide) (OpT_run (Pu_len (r := 101) rfl Tryd.runUnderlying27 rfl rfl (fun _ h => rowP_rd h)) ⟨⟨rfl, trivial⟩, ?_⟩) ?_
    ·
      refine (AH_ready [7] (by kernel_rfl) (by decide) ?_)
      refine AHs_cons rfl rfl rfl (by decide) (OpT_call 200 [0, 101] [] rfl Tryd.call13 rfl rfl rfl (by decide) (by decide) (within_spec _ _ (by omega) (by omega) _) (fun v44 Ps44 hR44 => ?_)) ?_
      ·
        obtain ⟨rfl, rfl⟩ := hR44
        refine ⟨⟨rfl, trivial⟩, ?_⟩
        refine (AH_ready [8] (by kernel_rfl) (by decide) ?_)
        refine AHs_cons rfl rfl rfl (by decide) (OpT_run (Pu_idxS1 (r := 101) rfl Tryd.runUnderlying27 Tryd.sizeOf5 rfl rfl rfl (fun _ h => rowP_rd h) ⟨hm0, hm1⟩) ⟨⟨rfl, trivial⟩, ?_⟩) ?_
        ·
          refine (AH_ready [9] (by kernel_rfl) (by decide) ?_)
          refine AHs_cons rfl rfl rfl (by decide) (OpT_run (Pu_loadS (r := 101) rfl Tryd.isAgg5 rfl rfl (fun _ h => rowP_rd h) (bs_at1 (by omega))) ⟨⟨rfl, trivial⟩, ?_⟩) ?_
          ·
            refine (AH_take 14 rfl (by kernel_rfl) (by kernel_rfl) (by kernel_rfl) rfl rfl (by decide) (Pu_bin rfl rfl rfl (run_addU8 _ _ _ _ _)) (AH_ready [15] (by kernel_rfl) (by decide) ?_))
            refine AHs_cons rfl rfl rfl (by decide) (OpT_run (Pu_idxS1 (r := 101) rfl Tryd.runUnderlying27 Tryd.sizeOf5 rfl rfl rfl (fun _ h => rowP_rd h) ⟨hm0, hm1⟩) ⟨⟨rfl, trivial⟩, ?_⟩) ?_
            ·
              refine (AH_ready [16] (by kernel_rfl) (by decide) ?_)
              refine AHs_cons0 rfl rfl rfl (OpT_storeS1 (r := 101) rfl Tryd.sizeOf5 rfl rfl rfl rfl (by rw [bs_length]; omega) (turnTo_set x at_ by_ k) ?_) ?_
              ·
                refine ⟨⟨rfl, trivial⟩, ?_⟩
                refine (AH_done (by kernel_rfl) (X_block (X_then ?_)))
                refine W.pre (K' := [(0, _), (1, _), (2, _), (3, _), (4, _), (11, _), (12, _), (34, _)]) (L' := [(0, _), (101, _)]) ?_ ⟨rfl, ⟨rfl, ⟨rfl, ⟨rfl, ⟨rfl, ⟨rfl, ⟨rfl, ⟨rfl, trivial⟩⟩⟩⟩⟩⟩⟩⟩ ⟨rfl, ⟨rfl, trivial⟩⟩
                refine W_regL (WL_pure rfl rfl (by decide) (Pu_move rfl rfl) (WL_pure rfl rfl (by decide) (Pu_bin rfl rfl rfl (run_add _ _ _ _ _ (by omega))) (WL_pure rfl rfl (by decide) (Pu_assign rfl rfl) (WL_nil ?_))))
                exact X_round (k + 1) (turn_le g1 g2 g3 hp) (by have := turn_le g1 g2 g3 hp; omega) ⟨rfl, rfl, rfl, rfl, rfl, rfl, rfl, trivial⟩ ⟨rfl, look_eq rfl (rowB_of (turnTo x at_ by_ (k + 1)) (by rw [turnTo_length, turnTo_length]) rfl), trivial⟩
              exact AHs_nil
            exact AHs_nil
          exact AHs_nil
        exact AHs_nil
      exact AHs_nil
    exact AHs_nil
  ·
    have hfin := turn_end hk hc34
    have hlx : (turnTo x at_ by_ k).length ≤ 100000 := by rw [turnTo_length]; exact hx1
    refine W_exit (X_then_exit (X_then_exit (X_block_exit (X_then ?_))))
    refine W_seq ?_
    refine W_seq ?_
    refine W.pre (K' := [(0, _), (1, _), (2, _), (3, _), (4, _), (11, _), (12, _), (34, _)]) (L' := [(0, _), (101, _)]) ?_ ⟨rfl, ⟨rfl, ⟨rfl, ⟨rfl, ⟨rfl, ⟨rfl, ⟨rfl, ⟨rfl, trivial⟩⟩⟩⟩⟩⟩⟩⟩ ⟨rfl, ⟨rfl, trivial⟩⟩
    refine W_regL (WL_pure rfl rfl (by decide) (Pu_move rfl rfl) (WL_pure rfl rfl (by decide) (Pu_bin rfl rfl rfl (run_tmod _ _ _ _ _ (by omega))) (WL_pure rfl rfl (by decide) (Pu_bin rfl rfl rfl (run_eql _ _ _ _ _ _)) (WL_nil (X_then ?_)))))
    refine W_cond rfl (fun hc55 => ?_) (fun hc55 => ?_)
    ·
      have hodd := of_decide_eq_true hc55
      have hcp := tmod_odd hodd
      have hq0 := Int.ediv_nonneg (a := cut) (b := 2) (by omega) (by omega)
      have hq1 : cut / 2 ≤ cut := Int.ediv_le_self _ (by omega)
      have hm2 := Int.emod_nonneg (cut / 2) (show ((turnTo x at_ by_ k).length : Int) + 1 ≠ 0 by omega)
      have hm3 := Int.emod_lt_of_pos (cut / 2) (show 0 < ((turnTo x at_ by_ k).length : Int) + 1 by omega)
      refine W.pre (K' := [(0, _), (1, _), (2, _), (3, _), (4, _), (11, _), (12, _), (34, _), (55, _)]) (L' := [(0, _), (101, _)]) ?_ ⟨rfl, ⟨rfl, ⟨rfl, ⟨rfl, ⟨rfl, ⟨rfl, ⟨rfl, ⟨rfl, ⟨rfl, trivial⟩⟩⟩⟩⟩⟩⟩⟩⟩ ⟨rfl, ⟨rfl, trivial⟩⟩
      refine W_regL (WL_pure rfl rfl (by decide) (Pu_move rfl rfl) (WL_pure rfl rfl (by decide) (Pu_move rfl rfl) (WL_pure rfl rfl (by decide) (Pu_bin rfl rfl rfl (run_quo _ _ _ _ _ (by omega))) (WL_pure rfl rfl (by decide) (Pu_move rfl rfl) (WL_pure rfl rfl (by decide) (Pu_len (r := 101) rfl Tryd.runUnderlying27 rfl rfl (fun _ h => rowP_rd h)) (WL_pure rfl rfl (by decide) (Pu_bin rfl rfl rfl (run_add _ _ _ _ _ (by rw [turnTo_length]; omega))) (WL_cons rfl rfl (by decide) (OpT_call 200 [0, 101] [] rfl Tryd.call13 rfl rfl rfl (by decide) (by decide) (within_spec _ _ (by omega) (by rw [turnTo_length]; omega) _) (fun v62 Ps62 hR62 => ?_)))))))))
      obtain ⟨rfl, rfl⟩ := hR62
      refine (WL_pure rfl rfl (by decide) (Pu_slice (r := 101) (b := ((cut / 2) % ((turnTo x at_ by_ k).length + 1)).toNat) rfl Tryd.runUnderlying27 Tryd.sizeOf5 rfl rfl (fun _ h => rowP_rd h) (.inl ⟨rfl, rfl⟩) (.inr ⟨_, _, _, rfl, rfl, (by omega)⟩) (Nat.zero_le _) (by omega)) (WL_pure rfl rfl (by decide) (Pu_assign rfl rfl) (WL_nil (X_then ?_))))
      refine W_seq ?_
      refine W.pre (K' := [(0, _), (1, _), (2, _), (3, _), (4, _), (11, _), (12, _), (34, _), (55, _)]) (L' := [(0, _), (101, _)]) ?_ ⟨rfl, ⟨rfl, ⟨rfl, ⟨rfl, ⟨rfl, ⟨rfl, ⟨rfl, ⟨rfl, ⟨rfl, trivial⟩⟩⟩⟩⟩⟩⟩⟩⟩ ⟨rfl, ⟨rfl, trivial⟩⟩
      refine W_fact (r := 101) rfl (fun h hp => rd_one ((fun h hp => rdB_front (b := ((cut / 2) % ((turnTo x at_ by_ k).length + 1)).toNat) (rowP_rd hp) (by omega)) h hp)) (fun hs0 => ?_)
      refine W_fact (r := 0) rfl (fun h hp => rd_one (hFb h hp)) (fun hs1 => ?_)
      refine W_fact (r := 0) rfl (fun h hp => rd_one (hFr h hp)) (fun hs2 => ?_)
      have hbl : ((turnTo x at_ by_ k).take ((cut / 2) % ((turnTo x at_ by_ k).length + 1)).toNat).length ≤ 100000 := by rw [List.length_take]; rw [turnTo_length]; omega
      refine W_regL (WL_pure rfl rfl (by decide) (Pu_move rfl rfl) (WL_cons rfl rfl (by decide) (OpT_buildOnes (r := 201) [] rfl rfl Tryd.runUnderlying27 Tryd.sizeOf5 Tryd.zeroValue5 rfl rfl (by decide) rfl (by simp [Value.cells]) (fun v65 => (WL_pure rfl rfl (by decide) (Pu_move rfl rfl) (WL_cons rfl rfl (by decide) (OpT_append (r := 201) (r2 := 101) (k1 := 0) rfl Tryd.underlying27 TI.hi5 TI.hz5 TI.hs5 TI.hby5 TI.hzs5 (by decide) rfl rfl rfl rfl (fun h hp => rdB_front (b := ((cut / 2) % ((turnTo x at_ by_ k).length + 1)).toNat) (rowP_rd hp) (by omega)) (bs_one _) (by unfold maxLen; omega) (by omega) (fun v67 => ?_))))))))
      refine (WL_pure rfl rfl (by decide) (Pu_move rfl rfl) (WL_cons rfl rfl (by decide) (OpT_append (r := 201) (r2 := 0) rfl Tryd.underlying27 TI.hi5 TI.hz5 TI.hs5 TI.hby5 TI.hzs5 (by decide) rfl rfl rfl rfl hFr (bs_one _) (by unfold maxLen; omega) (by omega) (fun v69 => ?_))))
      refine WL_fact (r := 201) rfl (fun h hp => rd_one (rowP_rd hp)) (fun hs3 => ?_)
      refine (WL_pure rfl rfl (by decide) (Pu_move rfl rfl) (WL_pure rfl rfl (by decide) (Pu_move rfl rfl) (WL_cons rfl rfl (by decide) (OpT_buildOnes (r := 202) [_, _, _, _] rfl rfl Tryd.runUnderlying38 Tryd.sizeOf27 Tryd.zeroValue27 rfl rfl (by decide) rfl (by intro u hu; simp only [List.mem_cons, List.not_mem_nil, or_false] at hu; rcases hu with rfl | rfl | rfl | rfl <;> (apply cells_one; assumption)) (fun v72 => (WL_pure rfl rfl (by decide) (Pu_assign rfl rfl) (WL_nil (X_then ?_))))))))
      refine W_ret ?_
      have hB : (turnTo x at_ by_ k).take ((cut / 2) % ((turnTo x at_ by_ k).length + 1)).toNat = bentX x at_ by_ cut := by unfold bentX turned; rw [if_pos hodd, ← hfin]
      exact X_ret [202, 101, 201] (Ps := [_, _, _]) (res1 Tryd.results9 rfl) rfl (by decide) ⟨_, _, _, congrArg (fun q => [_, _, q]) (rowB_of (bentX x at_ by_ cut ++ raw) (by rw [← hB]; simp) (by rw [← hB, bs_append, List.nil_append])), by rw [← hB]; exact (fun h hp => rdB_front (b := ((cut / 2) % ((turnTo x at_ by_ k).length + 1)).toNat) (rowP_rd hp) (by omega))⟩
    ·
      have hodd := of_decide_eq_false hc55
      refine W_skip (X_then ?_)
      refine W_seq ?_
      refine W.pre (K' := [(0, _), (1, _), (2, _), (3, _), (4, _), (11, _), (12, _), (34, _), (55, _)]) (L' := [(0, _), (101, _)]) ?_ ⟨rfl, ⟨rfl, ⟨rfl, ⟨rfl, ⟨rfl, ⟨rfl, ⟨rfl, ⟨rfl, ⟨rfl, trivial⟩⟩⟩⟩⟩⟩⟩⟩⟩ ⟨rfl, ⟨rfl, trivial⟩⟩
      refine W_fact (r := 101) rfl (fun h hp => rd_one ((fun _ h => rowP_rd h) h hp)) (fun hs0 => ?_)
      refine W_fact (r := 0) rfl (fun h hp => rd_one (hFb h hp)) (fun hs1 => ?_)
      refine W_fact (r := 0) rfl (fun h hp => rd_one (hFr h hp)) (fun hs2 => ?_)
      have hbl : (turnTo x at_ by_ k).length ≤ 100000 := by rw [turnTo_length]; omega
      refine W_regL (WL_pure rfl rfl (by decide) (Pu_move rfl rfl) (WL_cons rfl rfl (by decide) (OpT_buildOnes (r := 102) [] rfl rfl Tryd.runUnderlying27 Tryd.sizeOf5 Tryd.zeroValue5 rfl rfl (by decide) rfl (by simp [Value.cells]) (fun v65 => (WL_pure rfl rfl (by decide) (Pu_move rfl rfl) (WL_cons rfl rfl (by decide) (OpT_append (r := 102) (r2 := 101) (k1 := 0) rfl Tryd.underlying27 TI.hi5 TI.hz5 TI.hs5 TI.hby5 TI.hzs5 (by decide) rfl rfl rfl rfl (fun _ h => rowP_rd h) (bs_one _) (by unfold maxLen; omega) (by omega) (fun v67 => ?_))))))))
      refine (WL_pure rfl rfl (by decide) (Pu_move rfl rfl) (WL_cons rfl rfl (by decide) (OpT_append (r := 102) (r2 := 0) rfl Tryd.underlying27 TI.hi5 TI.hz5 TI.hs5 TI.hby5 TI.hzs5 (by decide) rfl rfl rfl rfl hFr (bs_one _) (by unfold maxLen; omega) (by omega) (fun v69 => ?_))))
      refine WL_fact (r := 102) rfl (fun h hp => rd_one (rowP_rd hp)) (fun hs3 => ?_)
      refine (WL_pure rfl rfl (by decide) (Pu_move rfl rfl) (WL_pure rfl rfl (by decide) (Pu_move rfl rfl) (WL_cons rfl rfl (by decide) (OpT_buildOnes (r := 103) [_, _, _, _] rfl rfl Tryd.runUnderlying38 Tryd.sizeOf27 Tryd.zeroValue27 rfl rfl (by decide) rfl (by intro u hu; simp only [List.mem_cons, List.not_mem_nil, or_false] at hu; rcases hu with rfl | rfl | rfl | rfl <;> (apply cells_one; assumption)) (fun v72 => (WL_pure rfl rfl (by decide) (Pu_assign rfl rfl) (WL_nil (X_then ?_))))))))
      refine W_ret ?_
      have hB : turnTo x at_ by_ k = bentX x at_ by_ cut := by unfold bentX turned; rw [if_neg hodd, ← hfin]
      exact X_ret [103, 101, 102] (Ps := [_, _, _]) (res1 Tryd.results9 rfl) rfl (by decide) ⟨_, _, _, congrArg (fun q => [_, _, q]) (rowB_of (bentX x at_ by_ cut ++ raw) (by rw [← hB]; simp) (by rw [← hB, bs_append, List.nil_append])), by rw [← hB]; exact (fun _ h => rowP_rd h)⟩
theorem known_spec (F : HP) : CallsS Tryd.prog 5 #[] F [] (fun v Ps => v = .bool true ∧ Ps = []) := by
  refine callsS_enter Tryd.func5 rfl Tryd.ntmps5 (by simp) (fun E => ?_)
  refine W_seq ?_
  refine W_regL (WL_pure rfl rfl (by decide) (Pu_assign rfl rfl) (WL_nil (X_then ?_)))
  refine W_seq ?_
  refine W.pre (K' := [(0, _)]) (L' := [(0, _)]) ?_ ⟨rfl, trivial⟩ ⟨rfl, trivial⟩
  refine W_regL (WL_cons rfl rfl (by decide) (OpT_call 200 [0] [] rfl Tryd.call14 rfl rfl rfl (by decide) (by decide) (inner_spec (.slice none 0 0) [] (fun x hx => by simp at hx) _ (fun h _ => rd_const 0 32 h)) (fun v6 Ps6 hR6 => ?_)))
  obtain ⟨v', rfl, rfl⟩ := hR6
  refine (WL_pure rfl rfl (by decide) (Pu_move rfl rfl) (WL_pure rfl rfl (by decide) (Pu_extract rfl rfl rfl) (WL_pure rfl rfl (by decide) (Pu_extract rfl rfl rfl) (WL_pure rfl rfl (by decide) (Pu_assign rfl rfl) (WL_pure rfl rfl (by decide) (Pu_assign rfl rfl) (WL_nil (X_then ?_)))))))
  refine W_seq ?_
  refine W.pre (K' := [(0, _), (2, _)]) (L' := [(0, _), (200, _)]) ?_ ⟨rfl, ⟨rfl, trivial⟩⟩ ⟨rfl, ⟨rfl, trivial⟩⟩
  refine W_regL (WL_pure rfl rfl (by decide) (Pu_build (V := nodeV 1 0 0 zeroId) [(0, 1), (1, 1), (2, 1), (3, 32)] (nodeC 0 0 0 zeroId) rfl rfl (by kernel_rfl) (by kernel_rfl) (.one rfl rfl (by simp [nodeC, bs_length, zeroId_length]) rfl (.nil _)) rfl) (WL_cons rfl rfl (by decide) (OpT_call 300 [0, 200] [] rfl Tryd.call15 rfl rfl rfl (by decide) (by decide) (inode_spec 1 0 0 zeroId zeroId_length _) (fun v11 Ps11 hR11 => ?_))))
  obtain ⟨v2, rfl, rfl⟩ := hR11
  refine (WL_pure rfl rfl (by decide) (Pu_move rfl rfl) (WL_pure rfl rfl (by decide) (Pu_extract rfl rfl rfl) (WL_pure rfl rfl (by decide) (Pu_extract rfl rfl rfl) (WL_pure rfl rfl (by decide) (Pu_assign rfl rfl) (WL_pure rfl rfl (by decide) (Pu_assign rfl rfl) (WL_nil (X_then ?_)))))))
  refine W_seq ?_
  refine W.pre (K' := [(0, _), (2, _), (3, _), (4, _)]) (L' := [(0, _), (200, _), (300, _)]) ?_ ⟨rfl, ⟨rfl, ⟨rfl, ⟨rfl, trivial⟩⟩⟩⟩ ⟨rfl, ⟨rfl, ⟨rfl, trivial⟩⟩⟩
  refine W_regL (WL_pure rfl rfl (by decide) (Pu_move rfl rfl) (WL_pure rfl rfl (by decide) (Pu_bin rfl rfl rfl (run_eql _ _ _ _ _ _)) (WL_pure rfl rfl (by decide) (Pu_move rfl rfl) (WL_guardP rfl rfl rfl rfl (by decide) (fun hb => (Pu_move rfl rfl)) (WL_guardP rfl rfl rfl rfl (by decide) (fun hb => (Pu_bin rfl (ev_gv rfl hb) rfl (run_eql _ _ _ _ _ _))) (WL_pure rfl rfl (by decide) (Pu_and rfl rfl rfl) (WL_pure rfl rfl (by decide) (Pu_move rfl rfl) (WL_guardP rfl rfl rfl rfl (by decide) (fun hb => (Pu_move rfl rfl)) (WL_guardP rfl rfl rfl rfl (by decide) (fun hb => (Pu_len (r := 300) rfl Tryd.runUnderlying27 (ev_gv rfl hb) rfl rowB_rd)) (WL_guardP rfl rfl rfl rfl (by decide) (fun hb => (Pu_bin rfl (ev_gv rfl hb) rfl (run_eql _ _ _ _ _ _))) (WL_pure rfl rfl (by decide) (Pu_and rfl rfl rfl) (WL_pure rfl rfl (by decide) (Pu_move rfl rfl) (WL_guardP rfl rfl rfl rfl (by decide) (fun hb => (Pu_move rfl rfl)) (WL_guardP rfl rfl rfl rfl (by decide) (fun hb => (Pu_idxS1 (r := 300) rfl Tryd.runUnderlying27 Tryd.sizeOf5 (ev_gv rfl hb) rfl rfl rowB_rd (by rw [known_len]; omega))) (WL_guardP rfl rfl rfl rfl (by decide) (fun hb => (Pu_loadS (r := 300) rfl Tryd.isAgg5 (ev_gv rfl hb) rfl rowB_rd (bs_at1 (k := 0) (by rw [known_len]; omega)))) (WL_guardP rfl rfl rfl rfl (by decide) (fun hb => (Pu_bin rfl (ev_gv rfl hb) rfl (run_eql _ _ _ _ _ _))) (WL_pure rfl rfl (by decide) (Pu_and rfl rfl rfl) (WL_pure rfl rfl (by decide) (Pu_assign rfl rfl) (WL_nil (X_then ?_))))))))))))))))))))
  refine W_ret ?_
  exact X_ret [] (Ps := []) (res1 Tryd.results5 rfl) rfl (by decide) ⟨bool_val (by rw [known_node, known_len, known_at]; rfl), rfl⟩
end Go.Proofs.YtnhidehpacidnaaDoor
/- Directories, in plain words. -/
namespace Go.Proofs.YtnhidehpacidnaaDoor
open Go.RowKit Go.Lib
set_option linter.unusedVariables false
set_option linter.unusedSimpArgs false
theorem less_irr : ∀ a : List UInt8, Op.bytesLess a a = false
  | [] => rfl
  | x :: l => by simp [Op.bytesLess, less_irr l]
theorem less_tri : ∀ a b : List UInt8, (!Op.bytesLess a b) = (Op.bytesLess b a || b == a)
  | [], [] => rfl
  | [], y :: m => rfl
  | x :: l, [] => rfl
  | x :: l, y :: m => by
    have ih := less_tri l m
    simp only [Op.bytesLess]
    rcases Nat.lt_trichotomy x.toNat y.toNat with h | h | h
    · have h1 : x < y := UInt8.lt_iff_toNat_lt.2 h
      have h2 : ¬ y < x := fun hc => by have := UInt8.lt_iff_toNat_lt.1 hc; omega
      have h3 : (y == x) = false := by simp; intro hc; subst hc; omega
      have h4 : (y :: m == x :: l) = false := by simp; intro hc; subst hc; omega
      simp [h1, h2, h3, h4]
    · have h0 : x = y := UInt8.toNat_inj.1 h
      subst h0
      have h1 : ¬ x < x := fun hc => by have := UInt8.lt_iff_toNat_lt.1 hc; omega
      have h4 : (x :: m == x :: l) = (m == l) := by simp
      simp [h1, h4, ih]
    · have h1 : y < x := UInt8.lt_iff_toNat_lt.2 h
      have h2 : ¬ x < y := fun hc => by have := UInt8.lt_iff_toNat_lt.1 hc; omega
      have h3 : (x == y) = false := by simp; intro hc; subst hc; omega
      simp [h1, h2, h3]
def nms (es : List Ent) : List (List UInt8) := es.map (·.1)
theorem nms_length (es : List Ent) : (nms es).length = es.length := by simp [nms]
theorem nms_at {es : List Ent} {k : Nat} (h : k < es.length) : (nms es).getD k [] = (es.getD k ent0).1 := by simp [nms, h]
/-- The first k names rise. -/
def riseP (ns : List (List UInt8)) (k : Nat) : Prop := ∀ j, j < k → 1 ≤ j → Op.bytesLess (ns.getD (j - 1) []) (ns.getD j []) = true
instance (ns : List (List UInt8)) (k : Nat) : Decidable (riseP ns k) := by unfold riseP; infer_instance
theorem riseP_succ {ns : List (List UInt8)} {k : Nat} (h : riseP ns k) (h1 : 1 ≤ k → Op.bytesLess (ns.getD (k - 1) []) (ns.getD k []) = true) : riseP ns (k + 1) := fun j hj hj1 => by
  rcases Nat.lt_or_ge j k with hlt | hge
  · exact h j hlt hj1
  · obtain rfl : j = k := by omega
    exact h1 hj1
theorem riseP_not {ns : List (List UInt8)} {k m : Nat} (hk : 1 ≤ k) (hm : k < m) (h : Op.bytesLess (ns.getD (k - 1) []) (ns.getD k []) = false) : ¬ riseP ns m := fun hr => by
  have := hr k hm hk
  rw [h] at this; cases this
/-- What is wrong with a directory. -/
def dirE (es : List Ent) : Nat := if firstBad (nms es) ≠ 0 then firstBad (nms es) else if ¬ riseP (nms es) es.length then 1 else if 20 < es.length then 4 else 0
theorem dirE_bad {es : List Ent} (h : firstBad (nms es) ≠ 0) : dirE es = firstBad (nms es) := by unfold dirE; rw [if_pos h]
theorem dirE_fall {es : List Ent} (h : firstBad (nms es) = 0) (h2 : ¬ riseP (nms es) es.length) : dirE es = 1 := by unfold dirE; rw [if_neg (fun hc => hc h), if_pos h2]
theorem dirE_many {es : List Ent} (h : firstBad (nms es) = 0) (h2 : riseP (nms es) es.length) (h3 : 20 < es.length) : dirE es = 4 := by unfold dirE; rw [if_neg (fun hc => hc h), if_neg (fun hc => hc h2), if_pos h3]
theorem dirE_ok {es : List Ent} (h : firstBad (nms es) = 0) (h2 : riseP (nms es) es.length) (h3 : ¬ 20 < es.length) : dirE es = 0 := by unfold dirE; rw [if_neg (fun hc => hc h), if_neg (fun hc => hc h2), if_neg h3]
/-- An entry's bytes. -/
def entB (e : Ent) : List UInt8 := [byte (e.1.length : Int)] ++ e.1 ++ e.2
def dirTo (es : List Ent) (k : Nat) : List UInt8 := ((es.take k).map entB).flatten
def dirB (es : List Ent) : List UInt8 := (es.map entB).flatten
theorem dirTo_succ {es : List Ent} {k : Nat} (h : k < es.length) : dirTo es (k + 1) = dirTo es k ++ [byte ((es.getD k ent0).1.length : Int)] ++ (es.getD k ent0).1 ++ (es.getD k ent0).2 := by
  unfold dirTo
  rw [List.take_add_one, List.map_append, List.flatten_append]
  simp [List.getElem?_eq_getElem h, entB]
theorem dirTo_all (es : List Ent) : dirTo es es.length = dirB es := by simp [dirTo, dirB]
theorem dirTo_len {es : List Ent} {b : Nat} (hE : Ents es) (hb : ∀ e ∈ es, e.1.length ≤ b) (k : Nat) : (dirTo es k).length ≤ (b + 33) * es.length := by
  have key : ∀ ls : List Ent, (∀ e ∈ ls, e.2.length = 32) → (∀ e ∈ ls, e.1.length ≤ b) → ((ls.map entB).flatten).length ≤ (b + 33) * ls.length := by
    intro ls
    induction ls with
    | nil => intro _ _; simp
    | cons e ls ih =>
      intro h1 h2
      have i1 := ih (fun x hx => h1 x (by simp [hx])) (fun x hx => h2 x (by simp [hx]))
      have a1 := h1 e (by simp)
      have a2 := h2 e (by simp)
      simp only [List.map_cons, List.flatten_cons, List.length_append, entB, List.length_cons, List.length_nil] at i1 ⊢
      rw [Nat.mul_add]
      omega
  have h1 := key (es.take k) (fun e he => hE e (List.mem_of_mem_take he)) (fun e he => hb e (List.mem_of_mem_take he))
  have h2 : (es.take k).length ≤ es.length := by simp; omega
  exact Nat.le_trans h1 (Nat.mul_le_mul_left _ h2)
/-- A directory's bytes, or none, and what is wrong. -/
def dirR (es : List Ent) : List UInt8 := if dirE es = 0 then dirB es else []
/-- Bytes read as entries. -/
def finP (acc : List Ent) : List Ent × Nat := if dirE acc ≠ 0 then ([], dirE acc) else (acc, 0)
def need (b : List UInt8) : Nat := 1 + (at0 b 0).toNat + 32
def entOf (b : List UInt8) : Ent := ((b.drop 1).take (at0 b 0).toNat, (b.drop (1 + (at0 b 0).toNat)).take 32)
def parF : Nat → List UInt8 → List Ent → List Ent × Nat
  | 0, _, acc => finP acc
  | f + 1, b, acc => if b = [] then finP acc else if b.length < need b then ([], 8) else parF f (b.drop (need b)) (acc ++ [entOf b])
theorem parF_fuel : ∀ (f g : Nat) (b : List UInt8) (acc : List Ent), b.length ≤ f → b.length ≤ g → parF f b acc = parF g b acc
  | 0, 0, _, _, _, _ => rfl
  | 0, g + 1, b, acc, h, _ => by
    have : b = [] := List.eq_nil_of_length_eq_zero (by omega)
    subst this; simp [parF]
  | f + 1, 0, b, acc, _, h => by
    have : b = [] := List.eq_nil_of_length_eq_zero (by omega)
    subst this; simp [parF]
  | f + 1, g + 1, b, acc, h1, h2 => by
    simp only [parF]
    split
    · rfl
    · split
      · rfl
      · exact parF_fuel f g _ _ (by unfold need; simp; omega) (by unfold need; simp; omega)
def par (b : List UInt8) (acc : List Ent) : List Ent × Nat := parF b.length b acc
theorem par_nil (acc : List Ent) : par [] acc = finP acc := rfl
theorem par_cut {b : List UInt8} (hb : b ≠ []) (h : b.length < need b) (acc : List Ent) : par b acc = ([], 8) := by
  unfold par
  cases b with
  | nil => exact absurd rfl hb
  | cons x b => rw [List.length_cons, parF, if_neg hb, if_pos h]
theorem par_next {b : List UInt8} (hb : b ≠ []) (h : ¬ b.length < need b) (acc : List Ent) : par b acc = par (b.drop (need b)) (acc ++ [entOf b]) := by
  unfold par
  cases b with
  | nil => exact absurd rfl hb
  | cons x b =>
    rw [List.length_cons, parF, if_neg hb, if_neg h]
    refine parF_fuel _ _ _ _ ?_ (Nat.le_refl _)
    have h2 : 1 ≤ need (x :: b) := by unfold need; omega
    rw [List.length_drop, List.length_cons]
    omega
theorem entOf_id {b : List UInt8} (h : ¬ b.length < need b) : (entOf b).2.length = 32 := by
  unfold need at h
  simp [entOf]; omega
theorem Ents.snoc {es : List Ent} (h : Ents es) {e : Ent} (he : e.2.length = 32) : Ents (es ++ [e]) := fun x hx => by
  rcases List.mem_append.1 hx with hx | hx
  · exact h x hx
  · simp at hx; subst hx; exact he
theorem Ents.nil : Ents [] := fun x hx => by cases hx
/-- A row that a fold reads has at most so many entries as bytes. -/
theorem finP_len (acc : List Ent) : (finP acc).1.length ≤ acc.length := by unfold finP; split <;> simp
theorem par_len : ∀ (n : Nat) (b : List UInt8) (acc : List Ent), b.length ≤ n → (par b acc).1.length ≤ acc.length + b.length ∧ (Ents acc → Ents (par b acc).1)
  | n, b, acc, h => by
    by_cases hb : b = []
    · subst hb
      rw [par_nil]
      refine ⟨by have := finP_len acc; simpa using this, fun hE => ?_⟩
      unfold finP; split
      · exact Ents.nil
      · exact hE
    · by_cases hl : b.length < need b
      · rw [par_cut hb hl]; exact ⟨by simp, fun _ => Ents.nil⟩
      · rw [par_next hb hl]
        have hn1 : 33 ≤ need b := by unfold need; omega
        have hb0 : 0 < b.length := List.length_pos_iff.2 hb
        match n, h with
        | 0, h => omega
        | n + 1, h =>
          obtain ⟨i1, i2⟩ := par_len n (b.drop (need b)) (acc ++ [entOf b]) (by simp; omega)
          refine ⟨?_, fun hE => i2 (hE.snoc (entOf_id hl))⟩
          simp only [List.length_append, List.length_cons, List.length_nil, List.length_drop] at i1
          omega
/-! there and back -/
theorem par_entB {e : Ent} (h1 : e.1.length < 256) (h2 : e.2.length = 32) (rest : List UInt8) (acc : List Ent) : par (entB e ++ rest) acc = par rest (acc ++ [e]) := by
  have hb : (byte (e.1.length : Int)).toNat = e.1.length := by have := byte_toNat (e.1.length : Int); omega
  have ha : at0 (entB e ++ rest) 0 = byte (e.1.length : Int) := rfl
  have hn : need (entB e ++ rest) = 1 + e.1.length + 32 := by unfold need; rw [ha, hb]
  have hl : (entB e).length = 1 + e.1.length + 32 := by simp [entB, h2]; omega
  have ho : entOf (entB e ++ rest) = e := by
    unfold entOf
    rw [ha, hb]
    have hd1 : (entB e ++ rest).drop 1 = e.1 ++ (e.2 ++ rest) := by simp [entB]
    have hd2 : (entB e ++ rest).drop (1 + e.1.length) = e.2 ++ rest := by
      rw [← List.drop_drop, hd1, List.drop_left]
    rw [hd1, hd2, List.take_left, ← h2, List.take_left]
  rw [par_next (by simp [entB]) (by rw [hn, List.length_append, hl]; omega), ho, hn, ← hl, List.drop_left]
theorem par_dirB {es : List Ent} (hE : Ents es) (hn : ∀ e ∈ es, e.1.length < 256) : ∀ acc, par (dirB es) acc = finP (acc ++ es) := by
  induction es with
  | nil => intro acc; rw [List.append_nil]; rfl
  | cons e es ih =>
    intro acc
    rw [show dirB (e :: es) = entB e ++ dirB es from rfl, par_entB (hn e (by simp)) (hE e (by simp)), ih (fun x hx => hE x (by simp [hx])) fun x hx => hn x (by simp [hx]), List.append_assoc]
    rfl
/-- A good name has at most 48 bytes. -/
theorem chk_len : ∀ (n : Nat) (l : List UInt8) (k : Nat) (bad : Bool), l.length ≤ n → chk l k bad = 0 → l.length + 4 * k ≤ 48
  | n, l, k, bad, hn, h => by
    by_cases hl : l = []
    · subst hl
      rw [chk_nil] at h
      unfold finC at h
      split at h
      · cases h
      · split at h
        · cases h
        · simp; omega
    · cases hno : noRune l with
      | true => rw [chk_none hl hno] at h; cases h
      | false =>
        rw [chk_some hl hno] at h
        have hw := decodeL_width l
        have hle := decodeL_le l hl
        have h4 : (decodeL l).2 ≤ 4 := by
          rw [decodeL_N]
          rcases decodeN_shape l.length (l.getD 0 0).toNat (l.getD 1 0).toNat (l.getD 2 0).toNat (l.getD 3 0).toNat with ⟨_, e⟩ | ⟨_, _, _, _, e⟩ | ⟨_, _, _, _, _, _, e⟩ | ⟨_, _, _, _, _, _, _, e⟩ | e <;> rw [e] <;> simp
        match n, hn with
        | 0, hn => exact absurd (List.eq_nil_of_length_eq_zero (by omega)) hl
        | n + 1, hn =>
          have := chk_len n (l.drop (decodeL l).2) (k + 1) _ (by simp; omega) h
          rw [List.length_drop] at this
          omega
theorem check_len {l : List UInt8} (h : checkN l = 0) : l.length ≤ 48 := by have := chk_len l.length l 0 _ (Nat.le_refl _) h; omega
theorem firstBad_zero {ns : List (List UInt8)} (h : firstBad ns = 0) : ∀ x ∈ ns, checkN x = 0 := by
  induction ns with
  | nil => intro x hx; cases hx
  | cons y r ih =>
    rw [firstBad] at h
    by_cases hy : checkN y ≠ 0
    · rw [if_pos hy] at h; exact absurd h hy
    · rw [if_neg hy] at h
      intro x hx
      rcases List.mem_cons.1 hx with rfl | hx
      · omega
      · exact ih h x hx
theorem firstBad_all {ns : List (List UInt8)} (h : ∀ x ∈ ns, checkN x = 0) : firstBad ns = 0 := by
  induction ns with
  | nil => rfl
  | cons y r ih => rw [firstBad, if_neg (by rw [h y (by simp)]; simp), ih fun x hx => h x (by simp [hx])]
theorem dirE_zero {es : List Ent} (h : dirE es = 0) : (∀ e ∈ es, e.1.length ≤ 48) ∧ es.length ≤ 20 := by
  unfold dirE at h
  split at h
  · rename_i h1; exact absurd h h1
  · rename_i h1
    split at h
    · cases h
    · split at h
      · cases h
      · refine ⟨fun e he => check_len (firstBad_zero (by omega : firstBad (nms es) = 0) e.1 (List.mem_map.2 ⟨e, he, rfl⟩)), by omega⟩
/-- What was written is read as it was. -/
theorem par_dirR {es : List Ent} (hE : Ents es) (h : dirE es = 0) : par (dirR es) [] = (es, 0) := by
  unfold dirR
  rw [if_pos h, par_dirB hE (fun e he => by have := (dirE_zero h).1 e he; omega), List.nil_append]
  unfold finP
  rw [if_neg (fun hc => hc h)]
end Go.Proofs.YtnhidehpacidnaaDoor
