/- Symbolic states, part 12: ranges over strings. -/
import Derived.Test.YtjiafaiklmbbeaaDoorSl11
namespace Go.Proofs.YtjiafaiklmbbeaaDoor
open Go.RowKit
set_option linter.unusedVariables false
set_option linter.unusedSimpArgs false
/-- A string's iterator. -/
def iterP (g : Nat) (s : ByteArray) (pos : Nat) : HP := fun h => h g = some (.stringIter s pos)
section
variable {P : Program} {E : Env} {n : Nat} {K : Slots} {L : Res} {o : Oper} {C : Value → Res → Prop}
theorem OpT_next {r g pos : Nat} {s : ByteArray} {x : Operand} (ho : o.op = .next x true) (hx : evK K x = some (.pointer (some ⟨g, 0, none⟩))) (hr : look L r = some (iterP g s pos))
    (hmore : pos < s.size → C (.tuple #[.bool true, .int .i64 (pos : Int), .int .i32 ((Utf8.decode s pos).1 : Int)]) ((r, iterP g s (pos + (Utf8.decode s pos).2)) :: L)) (hend : s.size ≤ pos → C (.tuple #[.bool false]) L) : OpT P E n o K L C := fun a w Kc Q hA hS hK => by
  obtain ⟨h, q1, q2⟩ := hS.read hr
  have hg : w.heap[g]? = some (.stringIter s pos) := q2 _ _ q1
  have hget : (getObj g).run P w = .ok (.stringIter s pos) w := by simp [getObj, Sem.run, hg]
  unfold Oper.wp execOp
  simp only [ho, hA.eval hx, Sem.run_bind]
  by_cases hp : pos < s.size
  · have hset : (setObj g (.stringIter s (pos + (Utf8.decode s pos).2))).run P w = .ok () { w with heap := w.heap.setIfInBounds g (.stringIter s (pos + (Utf8.decode s pos).2)) } := by simp [setObj, Sem.run, hg]
    have hrun : (Instr.next (.pointer (some ⟨g, 0, none⟩)) true o.type).run P w = .ok (.tuple #[.bool true, .int .i64 (pos : Int), .int .i32 ((Utf8.decode s pos).1 : Int)]) { w with heap := w.heap.setIfInBounds g (.stringIter s (pos + (Utf8.decode s pos).2)) } := by
      unfold Instr.next
      simp [hget, hp, hset, goInt]
    rw [hrun]
    refine hK _ _ _ (hmore hp) (hS.step hr fun h hp2 hin => ?_)
    have hlt := lt_of_heap hg
    refine ⟨[g], fun q => if q = g then some (.stringIter s (pos + (Utf8.decode s pos).2)) else none, ?_, ?_, by simp [iterP], fun q o ho => ?_, fun q hq => ?_⟩
    · intro k hk; simp at hk; subst hk; rw [show h k = _ from hp2]; rfl
    · refine ⟨rfl, rfl, rfl, by simp, fun k hk hm => ?_⟩
      have : g ≠ k := fun h => hm (by simp [h])
      simp [Array.getElem?_setIfInBounds, this]
    · by_cases hqg : q = g
      · subst hqg; simp at ho; subst ho; simp [Array.getElem?_setIfInBounds, hlt]
      · simp [hqg] at ho
    · by_cases hqg : q = g
      · subst hqg; left; rw [show h q = _ from hp2]; rfl
      · simp [hqg] at hq
  · have hrun : (Instr.next (.pointer (some ⟨g, 0, none⟩)) true o.type).run P w = .ok (.tuple #[.bool false]) w := by
      unfold Instr.next
      simp [hget, hp]
    rw [hrun]
    exact hK _ _ _ (hend (by omega)) hS
theorem OpT_range {r t : Nat} {s : ByteArray} {x : Operand} (ho : o.op = .range t x) (hu : P.underlying t = some .string) (hx : evK K x = some (.string s)) (k : ∀ g, C (.pointer (some ⟨g, 0, none⟩)) ((r, iterP g s 0) :: L)) : OpT P E n o K L C := fun a w Kc Q hA hS hK => by
  have hrun : (Instr.range t (.string s)).run P w = .ok (.pointer (some ⟨w.heap.size, 0, none⟩)) (w.alloc (.stringIter s 0)) := by
    unfold Instr.range
    simp [run_underlying hu]
  unfold Oper.wp execOp
  simp only [ho, hA.eval hx, Sem.run_bind, hrun, Result.andThen_ok, Sem.run_pure]
  refine hK _ _ _ (k _) (hS.new r ?_ (fun g => if g = w.heap.size then some (.stringIter s 0) else none) ?_ ?_ ?_)
  · exact ⟨rfl, rfl, rfl, by simp, fun k hk _ => heap_alloc_old w _ hk⟩
  · simp [iterP]
  · intro g o h
    by_cases hg : g = w.heap.size
    · subst hg
      simp at h
      subst h
      exact heap_alloc_new w _
    · simp [hg] at h
  · intro g hg
    by_cases hg' : g = w.heap.size
    · omega
    · simp [hg'] at hg
/-- Strings put together. -/
theorem run_addStr (a b : List UInt8) (t : TypeId) (x y : Operand) (h : (strB a).size + (strB b).size ≤ 9223372036854775807) (w : World) : ((do eqGuard .add t x y (.string (strB a)) (.string (strB b)); binOp .add t (.string (strB a)) (.string (strB b)) : Sem Value)).run P w = .ok (.string (strB a ++ strB b)) w := by
  have h' : ((strB a).size : Int) + ((strB b).size : Int) ≤ 9223372036854775807 := by omega
  simp [eqGuard, binOp, Op.stringOp, h']
end
end Go.Proofs.YtjiafaiklmbbeaaDoor
