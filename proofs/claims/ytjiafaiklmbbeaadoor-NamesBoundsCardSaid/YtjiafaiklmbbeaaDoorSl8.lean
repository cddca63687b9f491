/- Symbolic states, part 8: cap, a slice against nil, a row grown from nothing, a row cut. -/
import Derived.Test.YtjiafaiklmbbeaaDoorSl7
import Derived.Lib.AppendZeros
namespace Go.Proofs.YtjiafaiklmbbeaaDoor
open Go.RowKit
set_option linter.unusedVariables false
set_option linter.unusedSimpArgs false
section
variable {P : Program} {E : Env} {n : Nat} {K : Slots} {L : Res} {o : Oper} {C : Value → Res → Prop}
theorem Pu_cap {t e : TypeId} {x : Operand} {A : Option Addr} {m c : Nat} (ho : o.op = .call { callee := .builtin .cap, args := #[x], argTypes := #[t] }) (hu : ∀ w, (underlying t).run P w = .ok (.slice e) w) (hx : evK K x = some (.slice A m c)) : Pure P E n o K L (.int .i64 (c : Int)) := fun a w hA hS => by
  simp [execOp, ho, resolve, invoke, builtin, hA.eval hx, Builtin.cap_, hu, goInt]
/-- Is it nil? -/
def nilV : Value → Bool
  | .slice none _ _ => true
  | _ => false
theorem rdP_nil {size n : Nat} {v : Value} {xs : List Value} {h : Hlt} (hr : rdP size v n xs h) (hn : nilV v = true) : n = 0 := by
  obtain ⟨_, A, c, rfl, h3, h4, _⟩ := hr
  cases A with
  | none => have := h4 rfl; omega
  | some a => cases hn
theorem run_equalNil {t e : TypeId} (hu : P.underlying t = some (.slice e)) (d : Nat) (A : Option Addr) (m c : Nat) (w : World) : (Op.equalIn (d + 1) t (.slice A m c) (.slice none 0 0)).run P w = .ok A.isNone w := by
  unfold Op.equalIn
  cases A <;> simp [run_underlying hu]
theorem run_eqNil {t e : TypeId} (hu : P.underlying t = some (.slice e)) (A : Option Addr) (m c : Nat) (x y : Operand) (w : World) : ((do eqGuard .eql t x y (.slice A m c) (.slice none 0 0); binOp .eql t (.slice A m c) (.slice none 0 0) : Sem Value)).run P w = .ok (.bool A.isNone) w := by
  have h := run_equalNil (P := P) hu 9999 A m c w
  simp only [eqGuard, binOp, Op.equal, Sem.run_bind, Sem.run_pure, Result.andThen_ok]
  simp [show Op.maxDepth = 9999 + 1 from rfl, h]
theorem Pu_eqNil {t e r m : Nat} {size : Nat} {x y : Operand} {v : Value} {xs : List Value} {Pr : HP} {ty : TypeId} (ho : o.op = .binOp .eql t x y ty) (hu : P.underlying t = some (.slice e)) (hx : evK K x = some v) (hy : evK K y = some (.slice none 0 0))
    (hr : look L r = some Pr) (hrd : ∀ h, Pr h → rdP size v m xs h) : Pure P E n o K L (.bool (nilV v)) := fun a w hA hS => by
  obtain ⟨A, c, hv⟩ : ∃ A c, v = .slice A m c := hS.get hr (fun h hp => rdP_slice (hrd h hp))
  subst hv
  have h2 : nilV (.slice A m c) = A.isNone := by cases A <;> rfl
  rw [h2]
  exact Pu_bin ho hx hy (fun w => run_eqNil (P := P) hu A m c x y w) a w hA hS
theorem AH_fact {Q : Exit → Act → World → Prop} {ops : Array Oper} {S : Res} {fuel : Nat} {listed : Array Bool} {r : Nat} {Pr : HP} {φ : Prop} (hr : look L r = some Pr) (hp : ∀ h, Pr h → φ) (k : φ → AH P E n ops S fuel listed K L Q) : AH P E n ops S fuel listed K L Q := fun a w hA hS hh => k (hS.get hr hp) a w hA hS hh
theorem run_neb (a b : Bool) (t : TypeId) (hu : P.underlying t = some .bool) (x y : Operand) (w : World) : ((do eqGuard .neq t x y (.bool a) (.bool b); binOp .neq t (.bool a) (.bool b) : Sem Value)).run P w = .ok (.bool (!(a == b))) w := by
  have h : (Op.equalIn 10000 t (.bool a) (.bool b)).run P w = .ok (a == b) w := by
    rw [show (10000 : Nat) = 9999 + 1 from rfl]
    unfold Op.equalIn
    simp [run_underlying hu]
  simp only [eqGuard, binOp, Op.equal, Sem.run_bind, Sem.run_pure, Result.andThen_ok]
  simp [show Op.maxDepth = 10000 from rfl, h]
/-- append of zeros to nothing. -/
theorem OpT_growNil {t tn r m e size : Nat} {kn kq : IntKind} {x y : Operand} {i : TypeInfo} {z : Value} {q : Int}
    (ho : o.op = .call { callee := .builtin .append, args := #[x, y], argTypes := #[t, tn] }) (ht : P.underlying t = some (.slice e)) (htn : P.underlying tn = some (.int kn)) (hi : P.info? e = some i) (hz : i.zero = some z)
    (hsize : i.size = size) (hzs : z.cells.size = size) (hsz : 0 < size) (hx : evK K x = some (.slice none 0 0)) (hy : evK K y = some (.int kq q)) (hq : q = (m : Int)) (h0 : 0 < m) (h63 : m ≤ maxLen) (hbytes : m * i.bytes ≤ 140737488355328)
    (k : ∀ v' xs, xs.length = m * size → C v' ((r, rowP e size v' m xs) :: L)) : OpT P E n o K L C := fun a w Kc Q hA hS hK => by
  subst hsize hq
  have hrun := Lib.run_append_nil_zeros (P := P) w t tn o.type e i z kq kn ht htn hi hz m h0 hsz (by unfold maxLen at h63; omega) (by omega)
  unfold Oper.wp execOp
  simp only [ho, resolve, invoke, builtin, Sem.run_bind, Sem.run_pure, Result.andThen_ok, List.map_toArray, List.map_cons, List.map_nil, hA.eval hx, hA.eval hy, hrun]
  have hge : m ≤ grownCap w m 0 e := grownCap_ge w _ _ _
  have hle : grownCap w m 0 e ≤ maxLen := grownCap_le_maxLen w m 0 e h63
  have hsize : (Builtin.zeroCells z.cells m ++ Builtin.zeroCells z.cells (grownCap w m 0 e - m)).size = grownCap w m 0 e * i.size := by
    rw [Array.size_append, size_zeroCells, size_zeroCells, hzs, ← Nat.add_mul]
    congr 1
    omega
  have hlen : ((Builtin.zeroCells z.cells m ++ Builtin.zeroCells z.cells (grownCap w m 0 e - m)).toList.take (m * i.size)).length = m * i.size := by
    rw [List.length_take, Array.length_toList, hsize]
    have := Nat.mul_le_mul_right i.size hge
    omega
  have hown : (w.drew.alloc (.cells (Builtin.zeroCells z.cells m ++ Builtin.zeroCells z.cells (grownCap w m 0 e - m)) e)).ownsRow 0 e i.size (.slice (some ⟨w.heap.size, 0, none⟩) m (grownCap w m 0 e)) m ((Builtin.zeroCells z.cells m ++ Builtin.zeroCells z.cells (grownCap w m 0 e - m)).toList.take (m * i.size)) :=
    ⟨hlen, .inr ⟨w.heap.size, _, _, rfl, Nat.zero_le _, heap_alloc_new w.drew _, hge, hle, hsize, rfl⟩⟩
  obtain ⟨h', c1, c2, c3⟩ := rowP_of_own hown
  refine hK _ _ _ (k _ _ hlen) (hS.new r ?_ h' c1 c2 fun g hg => ?_)
  · exact ⟨rfl, rfl, rfl, by simp, fun k hk _ => heap_alloc_old w.drew _ hk⟩
  · have := c3 g hg
    simp [Value.ownBlock] at this
    omega
/-- A row cut. -/
theorem rowP_cut {e : TypeId} {size : Nat} {v : Value} {n m : Nat} {xs : List Value} {h : Hlt} (hr : rowP e size v n xs h) (hm : m ≤ n) : rowP e size (subV size v 0 m) m (xs.take (m * size)) h := by
  have hle := Nat.mul_le_mul_right size hm
  refine ⟨by rw [List.length_take, hr.1]; omega, ?_⟩
  rcases hr.2 with ⟨rfl, rfl⟩ | ⟨g, cap, cur, rfl, hg, hnc, hmx, hs, ht⟩
  · obtain rfl : m = 0 := by omega
    exact .inl ⟨rfl, rfl⟩
  · refine .inr ⟨g, cap, cur, ?_, hg, by omega, hmx, hs, ?_⟩
    · unfold subV
      by_cases hc : cap = 0
      · simp [hc]
      · simp [hc]
        unfold Addr.add
        simp
    · rw [← ht, List.take_take, Nat.min_eq_left hle]
end
end Go.Proofs.YtjiafaiklmbbeaaDoor
