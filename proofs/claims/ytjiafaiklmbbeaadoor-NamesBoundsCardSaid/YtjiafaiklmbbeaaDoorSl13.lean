/- Symbolic states, part 13: strings. -/
import Derived.Test.YtjiafaiklmbbeaaDoorSl12
import Derived.Test.YtjiafaiklmbbeaaDoorCat
import Derived.Lib.MapLaws
namespace Go.Proofs.YtjiafaiklmbbeaaDoor
open Go.RowKit
set_option linter.unusedVariables false
set_option linter.unusedSimpArgs false
/-- A string's value. -/
abbrev sV (l : List UInt8) : Value := .string (strB l)
theorem strB_append (a b : List UInt8) : strB a ++ strB b = strB (a ++ b) := by
  apply ByteArray.ext
  simp [strB]
theorem strB_data (s : ByteArray) : s = strB s.data.toList := by
  apply ByteArray.ext
  simp [strB]
theorem strB_extract (l : List UInt8) (a b : Nat) : (strB l).extract a b = strB ((l.drop a).take (b - a)) := by
  apply ByteArray.ext
  simp [strB, ByteArray.data_extract, List.extract_eq_take_drop]
theorem strB_get (l : List UInt8) (k : Nat) (h : k < l.length) : (strB l)[k]? = some (at0 l k) := by
  have h' : k < (strB l).size := by rw [strB_size]; exact h
  rw [getElem?_pos (strB l) k h']
  simp only [strB, at0, Option.some.injEq]
  show l.toArray[k] = _
  simp [h]
  rfl
section
variable {P : Program} {E : Env} {n : Nat} {K : Slots} {L : Res} {o : Oper} {C : Value → Res → Prop}
theorem Pu_lenStr {t : TypeId} {x : Operand} {l : List UInt8} (ho : o.op = .call { callee := .builtin .len, args := #[x], argTypes := #[t] }) (hu : P.underlying t = some .string) (hx : evK K x = some (sV l)) : Pure P E n o K L (.int .i64 (l.length : Int)) := fun a w hA hS => by
  simp [execOp, ho, resolve, invoke, builtin, hA.eval hx, Builtin.len_, run_underlying hu, goInt, strB_size]
theorem Pu_idxStr {t : TypeId} {x y : Operand} {l : List UInt8} {kd : IntKind} {ix : Int} (ho : o.op = .index t x y) (hu : P.underlying t = some .string) (hx : evK K x = some (sV l)) (hy : evK K y = some (.int kd ix)) (hi : 0 ≤ ix ∧ ix < (l.length : Int)) : Pure P E n o K L (bv (at0 l ix.toNat)) := fun a w hA hS => by
  have h := strB_get l ix.toNat (by omega)
  simp [execOp, ho, hA.eval hx, hA.eval hy, Instr.index, asIntOf, run_underlying hu, hi.1, h, bv]
theorem run_sliceStr (w : World) {t : TypeId} {l : List UInt8} (hu : P.underlying t = some .string) {lo hi : Option Value} {a b : Nat}
    (hlo : (lo = none ∧ a = 0) ∨ ∃ k i, lo = some (.int k i) ∧ i = (a : Int)) (hhi : (hi = none ∧ b = l.length) ∨ ∃ k i, hi = some (.int k i) ∧ i = (b : Int)) (hab : a ≤ b) (hbc : b ≤ l.length) :
    (Instr.sliceAt t (sV l) lo hi none).run P w = .ok (sV ((l.drop a).take (b - a))) w := by
  have hb : (Instr.sliceBounds false (strB l).size (strB l).size lo hi none).run P w = .ok (a, b, (strB l).size) w := by
    have sb : ∀ (k : IntKind) (a y : Nat) (code : BoundsCode), a ≤ y → (Instr.sliceBound (.int k (a : Int)) y code).run P w = .ok a w := by
      intro k a y code h
      simp only [Instr.sliceBound, asIntOf, Sem.run_bind, Sem.run_pure, Result.andThen_ok]
      rw [if_pos (by omega)]
      simp
    unfold Instr.sliceBounds
    rw [strB_size]
    rcases hlo with ⟨rfl, rfl⟩ | ⟨k, i, rfl, rfl⟩ <;> rcases hhi with ⟨rfl, rfl⟩ | ⟨k', i', rfl, rfl⟩
    all_goals simp only [Sem.run_bind, Sem.run_pure, Result.andThen_ok, sb _ _ _ _ hbc, sb _ _ _ _ hab, if_true, Bool.false_eq_true, if_false, Option.isSome_none]
  unfold Instr.sliceAt
  simp only [Sem.run_bind, run_underlying hu, Result.andThen_ok]
  unfold Instr.slice
  simp only [Sem.run_bind, run_underlying hu, Result.andThen_ok, hb, Sem.run_pure, strB_extract, Option.isSome_none, Bool.false_eq_true, if_false]
theorem Pu_sliceStr {t : TypeId} {a b : Nat} {x : Operand} {lo hi : Option Operand} {l : List UInt8} (ho : o.op = .slice t x lo hi none) (hu : P.underlying t = some .string)
    (hx : evK K x = some (sV l))
    (hlo : (lo = none ∧ a = 0) ∨ ∃ y k i, lo = some y ∧ evK K y = some (.int k i) ∧ i = (a : Int)) (hhi : (hi = none ∧ b = l.length) ∨ ∃ y k i, hi = some y ∧ evK K y = some (.int k i) ∧ i = (b : Int)) (hab : a ≤ b) (hbm : b ≤ l.length) : Pure P E n o K L (sV ((l.drop a).take (b - a))) :=
  (fun ac w hA hS => by
    have := run_sliceStr (P := P) w hu (l := l) (lo := lo.map ac.eval) (hi := hi.map ac.eval) (a := a) (b := b)
      (by rcases hlo with ⟨rfl, rfl⟩ | ⟨y, k, i, rfl, hy, hi⟩
          · exact .inl ⟨rfl, rfl⟩
          · exact .inr ⟨k, i, by simp [hA.eval hy], hi⟩)
      (by rcases hhi with ⟨rfl, rfl⟩ | ⟨y, k, i, rfl, hy, hi⟩
          · exact .inl ⟨rfl, rfl⟩
          · exact .inr ⟨k, i, by simp [hA.eval hy], hi⟩) hab hbm
    simp only [execOp, ho, hA.eval hx, Option.map_none, Sem.run_bind, this]; rfl)
theorem Pu_sliceStrE {t : TypeId} {a b : Nat} {x : Operand} {lo hi : Option Operand} {l l' : List UInt8} (ho : o.op = .slice t x lo hi none) (hu : P.underlying t = some .string)
    (hx : evK K x = some (sV l))
    (hlo : (lo = none ∧ a = 0) ∨ ∃ y k i, lo = some y ∧ evK K y = some (.int k i) ∧ i = (a : Int)) (hhi : (hi = none ∧ b = l.length) ∨ ∃ y k i, hi = some y ∧ evK K y = some (.int k i) ∧ i = (b : Int)) (hab : a ≤ b) (hbm : b ≤ l.length) (hl : (l.drop a).take (b - a) = l') : Pure P E n o K L (sV l') := by
  subst hl
  exact Pu_sliceStr ho hu hx hlo hhi hab hbm
theorem take_rest (l : List UInt8) (a : Nat) : (l.drop a).take (l.length - a) = l.drop a := List.take_of_length_le (by simp)
theorem take_front (l : List UInt8) (b : Nat) : (l.drop 0).take (b - 0) = l.take b := by simp
theorem run_addL (a b : List UInt8) (t : TypeId) (x y : Operand) (h : a.length + b.length ≤ 9223372036854775807) (w : World) : ((do eqGuard .add t x y (sV a) (sV b); binOp .add t (sV a) (sV b) : Sem Value)).run P w = .ok (sV (a ++ b)) w := by
  have := run_addStr (P := P) a b t x y (by rw [strB_size, strB_size]; exact h) w
  rw [strB_append] at this
  exact this
theorem run_lssStr (a b : List UInt8) (t : TypeId) (x y : Operand) (w : World) : ((do eqGuard .lss t x y (sV a) (sV b); binOp .lss t (sV a) (sV b) : Sem Value)).run P w = .ok (.bool (Op.bytesLess a b)) w := by
  simp [eqGuard, binOp, Op.stringOp, strB_toList]
/-- The next rune of a string, whatever it is. -/
def nextV (s : ByteArray) (pos : Nat) : Value := if pos < s.size then .tuple #[.bool true, .int .i64 (pos : Int), .int .i32 ((Utf8.decode s pos).1 : Int)] else .tuple #[.bool false]
theorem OpT_nextM {r g pos : Nat} {s : ByteArray} {x : Operand} (ho : o.op = .next x true) (hx : evK K x = some (.pointer (some ⟨g, 0, none⟩))) (hr : look L r = some (iterP g s pos)) (hmore : pos < s.size)
    (k : C (.tuple #[.bool true, .int .i64 (pos : Int), .int .i32 ((Utf8.decode s pos).1 : Int)]) ((r, iterP g s (pos + (Utf8.decode s pos).2)) :: L)) : OpT P E n o K L C :=
  OpT_next ho hx hr (fun _ => k) (fun h => by omega)
theorem OpT_nextE {r g pos : Nat} {s : ByteArray} {x : Operand} (ho : o.op = .next x true) (hx : evK K x = some (.pointer (some ⟨g, 0, none⟩))) (hr : look L r = some (iterP g s pos)) (hend : s.size ≤ pos)
    (k : C (.tuple #[.bool false]) L) : OpT P E n o K L C :=
  OpT_next ho hx hr (fun h => by omega) (fun _ => k)
theorem decode_at (l : List UInt8) (i : Nat) : Utf8.decode (strB l) i = Lib.decodeL (l.drop i) := by
  rw [← Lib.decodeL_drop]
  simp [strB]
theorem OpT_nextL {r g pos : Nat} {l : List UInt8} {x : Operand} (ho : o.op = .next x true) (hx : evK K x = some (.pointer (some ⟨g, 0, none⟩))) (hr : look L r = some (iterP g (strB l) pos)) (hmore : pos < l.length)
    (k : C (.tuple #[.bool true, .int .i64 (pos : Int), .int .i32 ((Lib.decodeL (l.drop pos)).1 : Int)]) ((r, iterP g (strB l) (pos + (Lib.decodeL (l.drop pos)).2)) :: L)) : OpT P E n o K L C :=
  OpT_nextM ho hx hr (by rw [strB_size]; exact hmore) (by rw [decode_at]; exact k)
theorem OpT_nextLE {r g pos : Nat} {l : List UInt8} {x : Operand} (ho : o.op = .next x true) (hx : evK K x = some (.pointer (some ⟨g, 0, none⟩))) (hr : look L r = some (iterP g (strB l) pos)) (hend : l.length ≤ pos)
    (k : C (.tuple #[.bool false]) L) : OpT P E n o K L C := OpT_nextE ho hx hr (by rw [strB_size]; exact hend) k
end
/-- A row of strings. -/
def ss (ls : List (List UInt8)) : List Value := ls.map sV
theorem ss_length (ls : List (List UInt8)) : (ss ls).length = ls.length := by simp [ss]
theorem ss_append (a b : List (List UInt8)) : ss (a ++ b) = ss a ++ ss b := by simp [ss]
theorem ss_at {ls : List (List UInt8)} {k : Nat} (h : k < ls.length) : (ss ls)[k]? = some (sV (ls.getD k [])) := by simp [ss, h]
theorem ss_one (ls : List (List UInt8)) : ∀ u ∈ ss ls, u.oneCell' = true := by
  intro u hu
  simp only [ss, List.mem_map] at hu
  obtain ⟨x, _, rfl⟩ := hu
  rfl
theorem ss_cells (ls : List (List UInt8)) : ∀ u ∈ ss ls, u.cells = #[u] := by
  intro u hu
  simp only [ss, List.mem_map] at hu
  obtain ⟨x, _, rfl⟩ := hu
  rfl
/-- Strings that can be read; a row of strings. -/
abbrev rdS (v : Value) (ls : List (List UInt8)) : HP := rdP 1 v ls.length (ss ls)
def rowS (e : TypeId) (v : Value) (ls : List (List UInt8)) : HP := rowP e 1 v ls.length (ss ls)
theorem rowS_rd {e : TypeId} {v : Value} {ls : List (List UInt8)} : ∀ h, rowS e v ls h → rdS v ls h := fun h hr => rowP_rd hr
theorem rowS_of {e : TypeId} {v : Value} {n : Nat} {xs : List Value} (ls : List (List UInt8)) (hn : n = ls.length) (hx : xs = ss ls) : rowP e 1 v n xs = rowS e v ls := by subst hn; subst hx; rfl
end Go.Proofs.YtjiafaiklmbbeaaDoor
