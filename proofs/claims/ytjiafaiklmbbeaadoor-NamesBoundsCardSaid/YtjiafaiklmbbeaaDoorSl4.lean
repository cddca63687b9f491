/- Symbolic states: operations that write. -/
import Derived.Test.YtjiafaiklmbbeaaDoorSl3
namespace Go.Proofs.YtjiafaiklmbbeaaDoor
open Go.RowKit
set_option linter.unusedVariables false
set_option linter.unusedSimpArgs false

/-- xs with ys laid over from place k on. -/
def over {α : Type} (xs : List α) (k : Nat) (ys : List α) : List α := xs.take k ++ (ys ++ xs.drop (k + ys.length))
theorem over_length {α : Type} (xs : List α) (k : Nat) (ys : List α) (h : k + ys.length ≤ xs.length) : (over xs k ys).length = xs.length := by simp [over]; omega
theorem over_mid {α : Type} (a b c d : List α) (h : b.length = c.length) : over (a ++ (b ++ d)) a.length c = a ++ (c ++ d) := by
  unfold over
  rw [List.take_left, ← h, ← List.append_assoc a b d, show a.length + b.length = (a ++ b).length by simp, List.drop_left]
theorem over_all {α : Type} (b c : List α) (h : b.length = c.length) : over b 0 c = c := by simp [over, ← h]
theorem over_get {α : Type} (xs ys : List α) (k j : Nat) (h : k + ys.length ≤ xs.length) : (over xs k ys)[j]? = if j < k then xs[j]? else if j < k + ys.length then ys[j - k]? else xs[j]? := by
  unfold over
  by_cases h1 : j < k
  · rw [if_pos h1, List.getElem?_append_left (by simp; omega), List.getElem?_take, if_pos h1]
  · rw [if_neg h1, List.getElem?_append_right (by simp; omega), List.length_take, Nat.min_eq_left (by omega)]
    by_cases h2 : j < k + ys.length
    · rw [if_pos h2, List.getElem?_append_left (by omega)]
    · rw [if_neg h2, List.getElem?_append_right (by omega), List.getElem?_drop]
      congr 1
      omega
theorem over_one {α : Type} (xs : List α) (k : Nat) (u : α) (h : k < xs.length) : over xs k [u] = xs.set k u := by
  apply List.ext_getElem?
  intro j
  rw [over_get _ _ _ _ (by simp; omega), List.getElem?_set]
  by_cases h1 : j < k
  · rw [if_pos h1, if_neg (by omega)]
  · rw [if_neg h1]
    by_cases h2 : j = k
    · subst h2; simp [h]
    · rw [if_neg (by simp; omega), if_neg (by omega)]

theorem over_take {α : Type} (cur xs ys : List α) (k m : Nat) (hx : cur.take m = xs) (hm : xs.length = m) (h : k + ys.length ≤ m) : (over cur k ys).take m = over xs k ys := by
  have hc : m ≤ cur.length := by rw [← hm, ← hx, List.length_take]; omega
  apply List.ext_getElem?
  intro j
  rw [List.getElem?_take, over_get cur ys k j (by omega), over_get xs ys k j (by omega), ← hx, List.getElem?_take]
  by_cases j1 : j < m
  · simp only [j1, if_true]
  · rw [if_neg j1, if_neg (by omega), if_neg (by omega), if_neg j1]
def single (g : Nat) (o : Obj) : Hlt := fun k => if k = g then some o else none
theorem single_same (g : Nat) (o : Obj) : single g o g = some o := by simp [single]
theorem single_in {g : Nat} {o : Obj} {w : World} (h : w.heap[g]? = some o) : In (single g o) w := fun k o' hk => by
  unfold single at hk
  split at hk
  · rename_i e; subst e; injection hk with hk; subst hk; exact h
  · cases hk
theorem single_dom {g : Nat} {o : Obj} {k : Nat} (h : (single g o k).isSome = true) : k = g := by
  unfold single at h
  split at h
  · assumption
  · cases h
theorem chg_setRow (w : World) (g : Nat) (cs : Array Value) : Chg [g] w (w.setRow g cs) := ⟨rfl, rfl, rfl, by simp [World.setRow], fun k _ hk => setRow_other w g k cs (by simpa using hk)⟩

section
variable {P : Program} {E : Env} {n : Nat} {K : Slots} {L : Res} {o : Oper} {C : Value → Res → Prop}
/-- A block's cells are turned. -/
theorem Sat.setRow {L : Res} {w : World} {Pr P' : HP} (hS : Sat E L w) {r g : Nat} {e : TypeId} (hr : look L r = some Pr) (new : Array Value)
    (h1 : ∀ h, Pr h → ∃ cur, h g = some (.cells cur e (0, 0))) (h2 : ∀ h, h g = some (.cells new e (0, 0)) → P' h) : Sat E ((r, P') :: L) (w.setRow g new) := by
  refine hS.step hr fun h hp hi => ?_
  obtain ⟨cur, hc⟩ := h1 h hp
  have hh := setRow_heap w g cur new e (0, 0) (hi _ _ hc)
  refine ⟨[g], single g (.cells new e (0, 0)), ?_, chg_setRow w g new, h2 _ (single_same _ _), single_in hh, fun k hk => ?_⟩
  · intro k hk; simp at hk; subst hk; simp [hc]
  · have := single_dom hk; subst this; left; simp [hc]
theorem run_storeAt_row (w : World) (t g off : Nat) (e : TypeId) (cur : Array Value) (u : Value) (hg : w.heap[g]? = some (.cells cur e (0, 0))) (hs : ∀ w, (sizeOf t).run P w = .ok u.cells.size w) (hfit : off + u.cells.size ≤ cur.size) (h1 : ∀ x ∈ u.cells.toList, x.oneCell' = true) :
    (Instr.storeAt t (.pointer (some ⟨g, off, none⟩)) u).run P w = .ok () (w.setRow g (over cur.toList off u.cells.toList).toArray) := by
  have hst := run_storeCells_at P g off e u.cells.toList 0 cur w hg (by simpa using hfit) h1
  simp only [Nat.add_zero] at hst
  simp only [Instr.storeAt, Instr.sureAddr, Sem.run_bind, Sem.run_pure, Result.andThen_ok, storeVar, hs, ne_eq, not_true, if_false]
  rw [hst]
  simp [over]
/-- A store into a block. -/
theorem OpT_storeB {t r g off te : Nat} {x y : Operand} {cs cs' : List Value} {u : Value} (ho : o.op = .store t x y) (hs : ∀ w, (sizeOf t).run P w = .ok u.cells.size w) (hx : evK K x = some (.pointer (some ⟨g, off, none⟩))) (hy : evK K y = some u) (hr : look L r = some (blk g te cs))
    (hfit : off + u.cells.size ≤ cs.length) (h1 : ∀ x ∈ u.cells.toList, x.oneCell' = true) (hcs : over cs off u.cells.toList = cs') (k : C undef ((r, blk g te cs') :: L)) : OpT P E n o K L C := fun a w Kc Q hA hS hK => by
  have hg : w.heap[g]? = some (.cells cs.toArray te (0, 0)) := by
    obtain ⟨h, q1, q2⟩ := hS.read hr
    exact q2 _ _ q1
  have hrun := run_storeAt_row (P := P) w t g off te cs.toArray u hg hs (by simpa using hfit) h1
  unfold Oper.wp execOp
  simp only [ho, hA.eval hx, hA.eval hy, Sem.run_bind, hrun, Result.andThen_ok, Sem.run_pure]
  refine hK _ _ _ k (hS.setRow hr _ (fun h hp => ⟨_, hp⟩) fun h hh => ?_)
  rw [← hcs]
  unfold blk
  simpa using hh
/-- A store into an element of a row. -/
theorem OpT_storeS {t r k0 k1 e size : Nat} {x y : Operand} {v u : Value} {xs xs' : List Value} (ho : o.op = .store t x y) (hs : ∀ w, (sizeOf t).run P w = .ok u.cells.size w) (hx : evK K x = some (.pointer (some ((adrOf v).add k0)))) (hy : evK K y = some u) (hr : look L r = some (rowP e size v k1 xs))
    (hpos : 0 < u.cells.size) (hfit : k0 + u.cells.size ≤ xs.length) (h1 : ∀ x ∈ u.cells.toList, x.oneCell' = true) (hxs : over xs k0 u.cells.toList = xs') (k : C undef ((r, rowP e size v k1 xs') :: L)) : OpT P E n o K L C := fun a w Kc Q hA hS hK => by
  obtain ⟨h, q1, q2⟩ := hS.read hr
  obtain ⟨hl, q1⟩ := q1
  rcases q1 with ⟨rfl, rfl⟩ | ⟨g, cap, cur, rfl, hg, hnc, hm, hsz, ht⟩
  · simp at hl; subst hl; rw [List.length_nil] at hfit; omega
  · have hle : xs.length ≤ cur.size := by rw [hl, hsz]; exact Nat.mul_le_mul_right _ hnc
    have hx' : a.eval x = .pointer (some ⟨g, k0, none⟩) := by rw [hA.eval hx]; simp only [adrOf, addr_add0]
    have hrun := run_storeAt_row (P := P) w t g k0 e cur u (q2 _ _ hg) hs (by omega) h1
    unfold Oper.wp execOp
    simp only [ho, hx', hA.eval hy, Sem.run_bind, hrun, Result.andThen_ok, Sem.run_pure]
    refine hK _ _ _ k (hS.setRow (e := e) hr _ (fun h hp => ?_) fun h hh => ?_)
    · obtain ⟨_, hp⟩ := hp
      rcases hp with ⟨hv, _⟩ | ⟨g', cap', cur', hv, hg', _⟩
      · cases hv
      · injection hv with hv _ _; injection hv with hv; injection hv with hv; subst hv; exact ⟨_, hg'⟩
    · have hol : (over cur.toList k0 u.cells.toList).length = cur.size := by rw [over_length _ _ _ (by simp; omega)]; simp
      refine ⟨by rw [← hxs, over_length _ _ _ (by simpa using hfit)]; exact hl, .inr ⟨g, cap, _, rfl, hh, hnc, hm, by simp [hol, hsz], ?_⟩⟩
      rw [← hxs, List.toList_toArray]
      exact over_take _ _ _ _ _ ht hl (by rw [← hl]; simpa using hfit)
theorem cells_one {u : Value} (h : u.oneCell' = true) : u.cells = #[u] := by cases u <;> first | rfl | cases h
/-- One cell. -/
theorem OpT_storeB1 {t r g off te : Nat} {x y : Operand} {cs cs' : List Value} {u : Value} (ho : o.op = .store t x y) (hs : ∀ w, (sizeOf t).run P w = .ok 1 w) (hx : evK K x = some (.pointer (some ⟨g, off, none⟩))) (hy : evK K y = some u) (hr : look L r = some (blk g te cs))
    (h1 : u.oneCell' = true) (hfit : off < cs.length) (hcs : cs.set off u = cs') (k : C undef ((r, blk g te cs') :: L)) : OpT P E n o K L C :=
  OpT_storeB ho (by rw [cells_one h1]; exact hs) hx hy hr (by rw [cells_one h1]; exact hfit) (by rw [cells_one h1]; intro x hx; simp at hx; subst hx; exact h1) (by rw [cells_one h1, List.toList_toArray, over_one _ _ _ hfit]; exact hcs) k
theorem OpT_storeS1 {t r k0 k1 e size : Nat} {x y : Operand} {v u : Value} {xs xs' : List Value} (ho : o.op = .store t x y) (hs : ∀ w, (sizeOf t).run P w = .ok 1 w) (hx : evK K x = some (.pointer (some ((adrOf v).add k0)))) (hy : evK K y = some u) (hr : look L r = some (rowP e size v k1 xs))
    (h1 : u.oneCell' = true) (hfit : k0 < xs.length) (hxs : xs.set k0 u = xs') (k : C undef ((r, rowP e size v k1 xs') :: L)) : OpT P E n o K L C :=
  OpT_storeS ho (by rw [cells_one h1]; exact hs) hx hy hr (by rw [cells_one h1]; exact Nat.one_pos) (by rw [cells_one h1]; exact hfit) (by rw [cells_one h1]; intro x hx; simp at hx; subst hx; exact h1) (by rw [cells_one h1, List.toList_toArray, over_one _ _ _ hfit]; exact hxs) k
/-- make: a row of zeros. -/
theorem OpT_make {t e r m size : Nat} {x y : Operand} {i : TypeInfo} {z : Value} {kl kc : IntKind} {xs : List Value} (ho : o.op = .makeSlice t x y) (ht : P.underlying t = some (.slice e)) (hi : P.info? e = some i) (hz : i.zero = some z) (hsize : i.size = size)
    (hx : evK K x = some (.int kl (m : Int))) (hy : evK K y = some (.int kc (m : Int))) (hb : i.bytes * m ≤ 281474976710656) (hm : m ≤ maxLen) (hxs : (madeCells z.cells (m * size)).toList = xs) (k : ∀ v, C v ((r, rowP e size v m xs) :: L)) : OpT P E n o K L C := fun a w Kc Q hA hS hK => by
  obtain ⟨w', hrun, r1, r2⟩ := run_make_full (P := P) w 0 t e i z size ht hi hz hsize kl kc m hb hm (Nat.zero_le _)
  unfold Oper.wp execOp
  simp only [ho, hA.eval hx, hA.eval hy, Sem.run_bind, hrun, Result.andThen_ok, Sem.run_pure]
  rw [hxs] at r1
  obtain ⟨h', c1, c2, c3⟩ := rowP_of_own r1
  refine hK _ _ _ (k _) (hS.new r ((Chg.refl _ w).grown r2 (by simp)) h' c1 c2 fun g hg => ?_)
  have := c3 g hg
  simp [Value.ownBlock] at this
  omega
/-- make with room for more. -/
theorem OpT_makeCap {t e r m size : Nat} {x y : Operand} {i : TypeInfo} {z : Value} {kl kc : IntKind} (ho : o.op = .makeSlice t x y) (ht : P.underlying t = some (.slice e)) (hi : P.info? e = some i) (hz : i.zero = some z) (hsize : i.size = size)
    (hx : evK K x = some (.int kl 0)) (hy : evK K y = some (.int kc (m : Int))) (hb : i.bytes * m ≤ 281474976710656) (hm : m ≤ maxLen) (k : ∀ v, C v ((r, rowP e size v 0 []) :: L)) : OpT P E n o K L C := fun a w Kc Q hA hS hK => by
  obtain ⟨w', hrun, r1, r2⟩ := run_make_own (P := P) w 0 t e i z size ht hi hz hsize kl kc m hb hm (Nat.zero_le _)
  unfold Oper.wp execOp
  simp only [ho, hA.eval hx, hA.eval hy, Sem.run_bind, hrun, Result.andThen_ok, Sem.run_pure]
  obtain ⟨h', c1, c2, c3⟩ := rowP_of_own r1
  refine hK _ _ _ (k _) (hS.new r ((Chg.refl _ w).grown r2 (by simp)) h' c1 c2 fun g hg => ?_)
  have := c3 g hg
  simp [Value.ownBlock] at this
  omega
/-- copy into a block. -/
theorem OpT_copyB {tD tS r r2 g off te el dl dc m : Nat} {x y : Operand} {cs cs' ys : List Value} {vs : Value} {P2 : HP} (ho : o.op = .call { callee := .builtin .copy, args := #[x, y], argTypes := #[tD, tS] }) (hu : P.underlying tD = some (.slice el)) (hsz : (P.info? el).map (·.size) = some 1)
    (hx : evK K x = some (.slice (some ⟨g, off, none⟩) dl dc)) (hy : evK K y = some vs) (hr : look L r = some (blk g te cs)) (hr2 : look L r2 = some P2) (hrd : ∀ h, P2 h → rdP 1 vs m ys h) (h1 : ∀ x ∈ ys, x.oneCell' = true)
    (hfit : off + min m dl ≤ cs.length) (hcs : over cs off (ys.take (min m dl)) = cs') (k : C (.int .i64 ((min m dl : Nat) : Int)) ((r, blk g te cs') :: L)) : OpT P E n o K L C := fun a w Kc Q hA hS hK => by
  have hg : w.heap[g]? = some (.cells cs.toArray te (0, 0)) := by
    obtain ⟨h, q1, q2⟩ := hS.read hr
    exact q2 _ _ q1
  obtain ⟨h2, q1, q2⟩ := hS.read hr2
  obtain ⟨hl, A, c, rfl, hmc, h0, hrdc⟩ := hrd h2 q1
  rw [Nat.mul_one] at hl
  have hmin : (ys.take (min m dl)).length = min m dl := by simp [hl]
  by_cases hz : min m dl = 0
  · have hrun := run_copy_none (P := P) w tD tS o.type el (some ⟨g, off, none⟩) A dl dc m c hu hsz hz
    unfold Oper.wp execOp
    simp only [ho, resolve, invoke, builtin, Sem.run_bind, Sem.run_pure, Result.andThen_ok, List.map_toArray, List.map_cons, List.map_nil, hA.eval hx, hA.eval hy, hrun]
    have hcs2 : cs = cs' := by rw [← hcs, hz]; simp [over]
    subst hcs2
    have hv : goInt 0 = .int .i64 ((min m dl : Nat) : Int) := by rw [hz]; rfl
    rw [hv]
    exact hK _ _ _ k (hS.cons hr fun h hp => hp)
  · cases A with
    | none => have := h0 rfl; omega
    | some ad =>
      have hrun := run_copy_row (P := P) w tD tS o.type el g off dl dc ad m c cs.toArray te (ys.take (min m dl)) hu hsz hg hmin (fun j v hj => by
        rw [List.getElem?_take] at hj
        split at hj
        · exact cellH_in q2 (hrdc ad rfl j v hj)
        · cases hj) (by rw [hmin]; simpa using hfit) (fun v hv => h1 v (List.mem_of_mem_take hv))
      unfold Oper.wp execOp
      simp only [ho, resolve, invoke, builtin, Sem.run_bind, Sem.run_pure, Result.andThen_ok, List.map_toArray, List.map_cons, List.map_nil, hA.eval hx, hA.eval hy, hrun, hmin]
      refine hK _ _ _ k (hS.setRow hr _ (fun h hp => ⟨_, hp⟩) fun h hh => ?_)
      rw [← hcs]
      unfold blk over
      simpa [hmin] using hh
/-- copy into a row, from a place on. -/
theorem OpT_copyS {tD tS r r2 k0 k1 e el dl dc m size : Nat} {x y : Operand} {v : Value} {xs xs' ys : List Value} {vs : Value} {P2 : HP} (ho : o.op = .call { callee := .builtin .copy, args := #[x, y], argTypes := #[tD, tS] }) (hu : P.underlying tD = some (.slice el)) (hsz : (P.info? el).map (·.size) = some 1)
    (hx : evK K x = some (.slice (some ((adrOf v).add k0)) dl dc)) (hy : evK K y = some vs) (hr : look L r = some (rowP e size v k1 xs)) (hr2 : look L r2 = some P2) (hrd : ∀ h, P2 h → rdP 1 vs m ys h) (h1 : ∀ x ∈ ys, x.oneCell' = true)
    (hfit : k0 + min m dl ≤ xs.length) (hxs : over xs k0 (ys.take (min m dl)) = xs') (k : C (.int .i64 ((min m dl : Nat) : Int)) ((r, rowP e size v k1 xs') :: L)) : OpT P E n o K L C := fun a w Kc Q hA hS hK => by
  obtain ⟨h2, q1, q2⟩ := hS.read hr2
  obtain ⟨hl, A, c, rfl, hmc, h0, hrdc⟩ := hrd h2 q1
  rw [Nat.mul_one] at hl
  have hmin : (ys.take (min m dl)).length = min m dl := by simp [hl]
  by_cases hz : min m dl = 0
  · have hrun := run_copy_none (P := P) w tD tS o.type el (some ((adrOf v).add k0)) A dl dc m c hu hsz hz
    unfold Oper.wp execOp
    simp only [ho, resolve, invoke, builtin, Sem.run_bind, Sem.run_pure, Result.andThen_ok, List.map_toArray, List.map_cons, List.map_nil, hA.eval hx, hA.eval hy, hrun]
    have hcs2 : xs = xs' := by rw [← hxs, hz]; simp [over]
    subst hcs2
    have hv : goInt 0 = .int .i64 ((min m dl : Nat) : Int) := by rw [hz]; rfl
    rw [hv]
    exact hK _ _ _ k (hS.cons hr fun h hp => hp)
  · cases A with
    | none => have := h0 rfl; omega
    | some ad =>
      obtain ⟨h, p1, p2⟩ := hS.read hr
      obtain ⟨hxl, p1⟩ := p1
      rcases p1 with ⟨rfl, rfl⟩ | ⟨g, cap, cur, rfl, hg, hnc, hm, hsz2, ht⟩
      · simp at hxl; subst hxl; simp at hfit; omega
      · have hle : xs.length ≤ cur.size := by rw [hxl, hsz2]; exact Nat.mul_le_mul_right _ hnc
        have hx' : a.eval x = .slice (some ⟨g, k0, none⟩) dl dc := by rw [hA.eval hx]; simp only [adrOf, addr_add0]
        have hrun := run_copy_row (P := P) w tD tS o.type el g k0 dl dc ad m c cur e (ys.take (min m dl)) hu hsz (p2 _ _ hg) hmin (fun j v hj => by
          rw [List.getElem?_take] at hj
          split at hj
          · exact cellH_in q2 (hrdc ad rfl j v hj)
          · cases hj) (by rw [hmin]; omega) (fun v hv => h1 v (List.mem_of_mem_take hv))
        unfold Oper.wp execOp
        simp only [ho, resolve, invoke, builtin, Sem.run_bind, Sem.run_pure, Result.andThen_ok, List.map_toArray, List.map_cons, List.map_nil, hx', hA.eval hy, hrun, hmin]
        refine hK _ _ _ k (hS.setRow (e := e) hr _ (fun h hp => ?_) fun h hh => ?_)
        · obtain ⟨_, hp⟩ := hp
          rcases hp with ⟨hv, _⟩ | ⟨g', cap', cur', hv, hg', _⟩
          · cases hv
          · injection hv with hv _ _; injection hv with hv; injection hv with hv; subst hv; exact ⟨_, hg'⟩
        · have hol : (over cur.toList k0 (ys.take (min m dl))).length = cur.size := by rw [over_length _ _ _ (by rw [hmin]; simp; omega)]; simp
          have hh2 : h g = some (.cells (over cur.toList k0 (ys.take (min m dl))).toArray e (0, 0)) := by unfold over; rw [hmin, ← List.append_assoc]; exact hh
          refine ⟨by rw [← hxs, over_length _ _ _ (by rw [hmin]; exact hfit)]; exact hxl, .inr ⟨g, cap, _, rfl, hh2, hnc, hm, by simp [hol, hsz2], ?_⟩⟩
          rw [← hxs, List.toList_toArray]
          exact over_take _ _ _ _ _ ht hxl (by rw [hmin, ← hxl]; exact hfit)
end
theorem made_one (z : Value) (n : Nat) : (madeCells #[z] (n * 1)).toList = List.replicate n z := by rw [Nat.mul_one]; exact toList_madeCells_one _ _
/-- A shift to the right. -/
theorem run_shr {P : Program} (a : Int) (k : Nat) (t : TypeId) (x y : Operand) {kd : IntKind} (h : k ≤ 64) (w : World) : ((do eqGuard .shr t x y (.int .i64 a) (.int kd (k : Int)); binOp .shr t (.int .i64 a) (.int kd (k : Int)) : Sem Value)).run P w = .ok (.int .i64 (a.fdiv (2 ^ k))) w := by
  have h1 : ¬ ((k : Int) < 0) := by omega
  have h2 : min k IntKind.i64.bits = k := by simp [IntKind.bits]; omega
  simp [eqGuard, binOp, Op.shift, h1, h2]
  rw [Int.fdiv_eq_ediv_of_nonneg _ (by apply Int.pow_nonneg; omega)]
end Go.Proofs.YtjiafaiklmbbeaaDoor
