/- Making a row and appending, at one operation of a region that draws its order. -/
import Derived.Test.YtjiafaiklmbbeaaDoorMem2
namespace Go.Proofs.YtjiafaiklmbbeaaDoor
open Go.RowKit

theorem maxLen_eq : maxLen = 9223372036854775807 := rfl

theorem upon_make_rd {P : Program} {w : World} {o : Oper} {a : Act} {K : Act → World → Prop} {Q : Exit → Act → World → Prop}
    (t e : TypeId) (i : TypeInfo) (z : Value) (h1 : P.underlying t = some (.slice e)) (h2 : P.info? e = some i) (h3 : i.zero = some z) (h4 : i.size = 1) (hz : z.cells = #[z])
    (kl kc : IntKind) (n : Nat) (b2 : i.bytes * n ≤ 281474976710656) (b3 : n ≤ maxLen)
    (hK : ∀ w', w'.ownsRow 0 e 1 (.slice (some ⟨w.heap.size, 0, none⟩) n n) n (List.replicate n z) → Chg [] w w' → K (a.put o.dst (.slice (some ⟨w.heap.size, 0, none⟩) n n)) w') :
    Oper.upon P o a K Q ((Sem.run P (Instr.makeSlice t (.int kl n) (.int kc n)) w).andThen fun a w' => Result.ok (Next.value a) w') := by
  obtain ⟨w', hrun, r1, r2⟩ := run_make_full (P := P) w 0 t e i z 1 h1 h2 h3 h4 kl kc n b2 b3 (Nat.zero_le _)
  rw [hrun]
  simp only [Result.andThen]
  refine hK w' ?_ ((Chg.refl _ w).grown r2 (by simp))
  rw [hz, toList_madeCells_one] at r1
  simpa using r1

theorem upon_append_rd {P : Program} {w : World} {o : Oper} {a : Act} {K : Act → World → Prop} {Q : Exit → Act → World → Prop} (t ty : TypeId)
    (e : TypeId) (i : TypeInfo) (z : Value) (size bytes : Nat) (ht : P.underlying t = some (.slice e)) (hi : P.info? e = some i) (hz : i.zero = some z)
    (hsize : i.size = size) (hby : i.bytes = bytes) (hzs : z.cells.size = size) (hsz : 0 < size)
    (v : Value) (n : Nat) (xs : List Value) (hown : w.ownsRow 0 e size v n xs)
    (vx : Value) (m : Nat) (news : List Value) (hr : Rd w size vx m news) (h1 : ∀ u ∈ news, u.oneCell' = true)
    (h63 : n + m ≤ maxLen) (hbytes : (n + m) * bytes ≤ 140737488355328)
    (h : ∀ A' c' w', w'.ownsRow 0 e size (.slice A' (n + m) c') (n + m) (xs ++ news) → Chg v.ownBlock.toList w w' → ((Value.slice A' (n + m) c').ownBlock = v.ownBlock ∨ (Value.slice A' (n + m) c').ownBlock = some w.heap.size) → K (a.put o.dst (.slice A' (n + m) c')) w') :
    Oper.upon P o a K Q ((Sem.run P (Builtin.append_ #[t, t] ty #[v, vx]) w).andThen fun a w' => Result.ok (Next.value a) w') := by
  obtain ⟨v', w', hrun, h2, h3, h4⟩ := run_append_rd (P := P) w t ty e i z size bytes ht hi hz hsize hby hzs hsz v n xs hown vx m news hr h1 h63 hbytes
  rw [hrun]
  obtain ⟨A', c', rfl, _⟩ := own_form h2
  exact h A' c' w' h2 h3 h4
end Go.Proofs.YtjiafaiklmbbeaaDoor
