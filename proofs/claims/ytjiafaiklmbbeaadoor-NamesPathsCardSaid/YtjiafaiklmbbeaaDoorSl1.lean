/- Symbolic states: the kinds of resources, and a rule for each operation. -/
import Derived.Test.YtjiafaiklmbbeaaDoorSl0
import Derived.IntWalk
namespace Go.Proofs.YtjiafaiklmbbeaaDoor
open Go.RowKit
set_option linter.unusedVariables false
set_option linter.unusedSimpArgs false

def cellH (h : Hlt) (a : Addr) : Option Value := match h a.block with
  | some (.cells c _ _) => if a.spot.isSome then none else c[a.off]?
  | _ => none
theorem cellH_in {h : Hlt} {w : World} (hi : In h w) {a : Addr} {u : Value} (hc : cellH h a = some u) : w.cell? a = some u := by
  unfold cellH at hc
  cases hb : h a.block with
  | none => simp [hb] at hc
  | some o =>
    have := hi _ _ hb
    simp only [World.cell?, this]
    rw [hb] at hc
    exact hc
theorem lt_cellH {h : Hlt} {a : Addr} {u : Value} (hc : cellH h a = some u) : (h a.block).isSome = true := by
  unfold cellH at hc
  cases hb : h a.block with
  | none => simp [hb] at hc
  | some o => rfl
/-- A block, known whole. -/
def blk (g : Nat) (t : TypeId) (cs : List Value) : HP := fun h => h g = some (.cells cs.toArray t (0, 0))
/-- A row that may grow. -/
def rowP (e : TypeId) (size : Nat) (v : Value) (n : Nat) (xs : List Value) : HP := fun h => xs.length = n * size ∧
  ((v = .slice none 0 0 ∧ n = 0) ∨ ∃ g cap cur, v = .slice (some ⟨g, 0, none⟩) n cap ∧ h g = some (.cells cur e (0, 0)) ∧ n ≤ cap ∧ cap ≤ maxLen ∧ cur.size = cap * size ∧ cur.toList.take (n * size) = xs)
/-- What can be read through a slice. -/
def rdP (size : Nat) (v : Value) (n : Nat) (xs : List Value) : HP := fun h => xs.length = n * size ∧
  ∃ A c, v = .slice A n c ∧ n ≤ c ∧ (A = none → c = 0) ∧ ∀ ad, A = some ad → ∀ j u, xs[j]? = some u → cellH h (ad.add j) = some u
theorem blk_cell {g : Nat} {t : TypeId} {cs : List Value} {h : Hlt} (hb : blk g t cs h) (j : Nat) : cellH h ⟨g, j, none⟩ = cs[j]? := by
  unfold blk at hb
  simp [cellH, hb]
theorem addr_add0 (g j : Nat) : (⟨g, 0, none⟩ : Addr).add j = ⟨g, j, none⟩ := by unfold Addr.add; split <;> simp_all
theorem addr_add (g o j : Nat) : (⟨g, o, none⟩ : Addr).add j = ⟨g, o + j, none⟩ := by unfold Addr.add; split <;> simp_all
theorem rowP_rd {e : TypeId} {size : Nat} {v : Value} {n : Nat} {xs : List Value} {h : Hlt} (hr : rowP e size v n xs h) : rdP size v n xs h := by
  refine ⟨hr.1, ?_⟩
  rcases hr.2 with ⟨rfl, rfl⟩ | ⟨g, cap, cur, rfl, hg, hnc, hm, hs, ht⟩
  · exact ⟨none, 0, rfl, Nat.le_refl _, fun _ => rfl, fun ad h => by cases h⟩
  · refine ⟨_, cap, rfl, hnc, fun h => (by cases h), fun ad h j u hu => ?_⟩
    injection h with h
    subst h
    rw [addr_add0]
    simp only [cellH, hg]
    rw [← ht, List.getElem?_take] at hu
    split at hu
    · simpa using hu
    · cases hu
theorem rdP_Rd {size : Nat} {v : Value} {n : Nat} {xs : List Value} {h : Hlt} {w : World} (hr : rdP size v n xs h) (hi : In h w) (hs : 0 < size) : Rd w size v n xs := by
  obtain ⟨h1, A, c, h2, h3, h4, h5⟩ := hr
  refine ⟨h1, A, c, h2, h3, h4, fun ad had => ⟨fun hn => ?_, fun j u hu => cellH_in hi (h5 ad had j u hu)⟩⟩
  have h0 : 0 < xs.length := by rw [h1]; exact Nat.mul_pos hn hs
  have := h5 ad had 0 xs[0] (List.getElem?_eq_getElem h0)
  have hl := hi.lt (lt_cellH this)
  rwa [block_of_add] at hl
theorem rowP_own {e : TypeId} {size : Nat} {v : Value} {n : Nat} {xs : List Value} {h : Hlt} {w : World} (hr : rowP e size v n xs h) (hi : In h w) : w.ownsRow 0 e size v n xs := by
  refine ⟨hr.1, ?_⟩
  rcases hr.2 with h1 | ⟨g, cap, cur, rfl, hg, rest⟩
  · exact .inl h1
  · exact .inr ⟨g, cap, cur, rfl, Nat.zero_le _, hi _ _ hg, rest⟩
theorem rowP_block {e : TypeId} {size : Nat} {v : Value} {n : Nat} {xs : List Value} {h : Hlt} (hr : rowP e size v n xs h) {k : Nat} (hk : v.ownBlock = some k) : (h k).isSome = true := by
  rcases hr.2 with ⟨rfl, _⟩ | ⟨g, cap, cur, rfl, hg, _⟩
  · cases hk
  · simp [Value.ownBlock] at hk
    subst hk
    simp [hg]
theorem rowP_of_own {e : TypeId} {size : Nat} {v : Value} {n : Nat} {xs : List Value} {w : World} (ho : w.ownsRow 0 e size v n xs) : ∃ h, rowP e size v n xs h ∧ In h w ∧ ∀ g, (h g).isSome = true → v.ownBlock = some g := by
  rcases ho.2 with h1 | ⟨g, cap, cur, rfl, _, hg, rest⟩
  · refine ⟨fun _ => none, ⟨ho.1, .inl h1⟩, ?_, ?_⟩
    · intro g o h; cases h
    · intro g h; cases h
  · refine ⟨fun k => if k = g then some (.cells cur e (0, 0)) else none, ⟨ho.1, .inr ⟨g, cap, cur, rfl, by simp, rest⟩⟩, fun k o hk => ?_, fun k hk => ?_⟩
    · by_cases hkg : k = g
      · subst hkg; simp at hk; subst hk; exact hg
      · simp [hkg] at hk
    · by_cases hkg : k = g
      · subst hkg; rfl
      · simp [hkg] at hk
/-- What part of a block reads as. -/
theorem blk_rd {g o m c : Nat} {t : TypeId} {cs xs : List Value} {size : Nat} {h : Hlt} (hb : blk g t cs h) (hx : (cs.drop o).take (m * size) = xs) (hl : xs.length = m * size) (hc : m ≤ c) : rdP size (.slice (some ⟨g, o, none⟩) m c) m xs h := by
  refine ⟨hl, _, c, rfl, hc, fun h => (by cases h), fun ad had j u hu => ?_⟩
  injection had with had
  subst had
  rw [addr_add, blk_cell hb]
  rw [← hx, List.getElem?_take] at hu
  split at hu
  · rw [List.getElem?_drop] at hu; exact hu
  · cases hu
theorem rdP_slice {size : Nat} {v : Value} {n : Nat} {xs : List Value} {h : Hlt} (hr : rdP size v n xs h) : ∃ A c, v = .slice A n c := by
  obtain ⟨_, A, c, h2, _⟩ := hr
  exact ⟨A, c, h2⟩

/-- Where a slice starts. -/
def adrOf : Value → Addr
  | .slice (some a) _ _ => a
  | _ => ⟨0, 0, none⟩
def capOf : Value → Nat
  | .slice _ _ c => c
  | _ => 0
/-- v[a:b], an element having so many cells. -/
def subV (size : Nat) (v : Value) (a b : Nat) : Value := match v with
  | .slice A _ c => .slice (if c = a then A else A.map (·.add (a * size))) (b - a) (c - a)
  | v => v
theorem rdP_sub {size : Nat} {v : Value} {n : Nat} {xs : List Value} {h : Hlt} (hr : rdP size v n xs h) {a b : Nat} (hab : a ≤ b) (hb : b ≤ n) : rdP size (subV size v a b) (b - a) ((xs.drop (a * size)).take ((b - a) * size)) h := by
  obtain ⟨h1, A, c, rfl, h3, h4, h5⟩ := hr
  have e1 : a * size + (b - a) * size = b * size := by rw [← Nat.add_mul]; congr 1; omega
  have e2 : b * size ≤ n * size := Nat.mul_le_mul_right _ hb
  refine ⟨?_, (if c = a then A else A.map (·.add (a * size))), c - a, rfl, by omega, fun hn => ?_, fun ad had j u hu => ?_⟩
  · simp [h1]; omega
  · split at hn
    · omega
    · cases A with
      | none => have := h4 rfl; omega
      | some a => simp at hn
  · rw [List.getElem?_take] at hu
    split at hu
    · rw [List.getElem?_drop] at hu
      split at had
      · have h6 := (List.getElem?_eq_some_iff.1 hu).1
        have h7 : a = n := by omega
        subst h7
        rw [h1] at h6
        omega
      · cases A with
        | none => simp at had
        | some a' =>
          simp at had
          subst had
          rw [add_of_add]
          exact h5 a' rfl _ _ hu
    · cases hu

section
variable {P : Program} {E : Env} {n : Nat} {K : Slots} {L : Res} {o : Oper} {C : Value → Res → Prop}
/-- An operation that yields a value, whatever the world of this kind. -/
def Pure (P : Program) (E : Env) (n : Nat) (o : Oper) (K : Slots) (L : Res) (v : Value) : Prop := ∀ a w, Agr n K a → Sat E L w → (execOp a.eval o).run P w = .ok (.value v) w
theorem OpT_run {v : Value} (h : Pure P E n o K L v) (k : C v L) : OpT P E n o K L C := fun a w Kc Q hA hS hK => by
  unfold Oper.wp
  rw [h a w hA hS]
  exact hK v L w k hS
theorem Pu_move {x : Operand} {v : Value} (ho : o.op = .move x) (hx : evK K x = some v) : Pure P E n o K L v :=
  (fun a w hA hS => by simp only [execOp, ho, hA.eval hx, Sem.run_pure])
theorem Pu_assign {x : Operand} {v : Value} (ho : o.op = .assign x) (hx : evK K x = some v) : Pure P E n o K L v :=
  (fun a w hA hS => by simp only [execOp, ho, hA.eval hx, Sem.run_pure])
theorem Pu_bin {op : BinOp} {t ty : TypeId} {x y : Operand} {vx vy v : Value} (ho : o.op = .binOp op t x y ty) (hx : evK K x = some vx) (hy : evK K y = some vy)
    (h : ∀ w, ((do eqGuard op t x y vx vy; binOp op t vx vy : Sem Value)).run P w = .ok v w) : Pure P E n o K L v :=
  (fun a w hA hS => by simp only [execOp, ho, hA.eval hx, hA.eval hy, Sem.run_bind] at h ⊢; rw [h w]; rfl)
theorem Pu_un {op : UnOp} {t : TypeId} {x : Operand} {vx v : Value} (ho : o.op = .unOp op t x) (hx : evK K x = some vx)
    (h : ∀ w, (Op.unary op vx).run P w = .ok v w) : Pure P E n o K L v :=
  (fun a w hA hS => by simp only [execOp, ho, hA.eval hx, Sem.run_bind, h w]; rfl)
theorem Pu_conv {s d : TypeId} {x : Operand} {vx v : Value} (ho : o.op = .convert s d x) (hx : evK K x = some vx)
    (h : ∀ w, (convert s d vx).run P w = .ok v w) : Pure P E n o K L v :=
  (fun a w hA hS => by simp only [execOp, ho, hA.eval hx, Sem.run_bind, h w]; rfl)
theorem Pu_pick {c x y : Operand} {b : Bool} {vx vy v : Value} (ho : o.op = .pick c x y) (hc : evK K c = some (.bool b)) (hx : evK K x = some vx) (hy : evK K y = some vy) (h : (if b then vx else vy) = v) : Pure P E n o K L v :=
  (fun a w hA hS => by simp only [execOp, ho, hA.eval hc, hA.eval hx, hA.eval hy]; subst h; cases b <;> rfl)
/-- b || e: what stands there when b does not. -/
theorem Pu_or {c y : Operand} {b e : Bool} (ho : o.op = .pick c (.const (.bool true)) y) (hc : evK K c = some (.bool b)) (hy : evK K y = some (gv (b == false) (.bool e))) : Pure P E n o K L (.bool (b || e)) :=
  Pu_pick ho hc rfl hy (by cases b <;> rfl)
theorem Pu_and {c x : Operand} {b e : Bool} (ho : o.op = .pick c x (.const (.bool false))) (hc : evK K c = some (.bool b)) (hx : evK K x = some (gv (b == true) (.bool e))) : Pure P E n o K L (.bool (b && e)) :=
  Pu_pick ho hc hx rfl (by cases b <;> rfl)
/-- The same under a guard c of their own. -/
theorem Pu_or2 {c y : Operand} {b e g : Bool} (hg : g = true) (ho : o.op = .pick c (.const (.bool true)) y) (hc : evK K c = some (.bool b)) (hy : evK K y = some (gv (g && (b == false)) (.bool e))) : Pure P E n o K L (.bool (b || e)) :=
  Pu_pick ho hc rfl hy (by subst hg; cases b <;> rfl)
theorem Pu_and2 {c x : Operand} {b e g : Bool} (hg : g = true) (ho : o.op = .pick c x (.const (.bool false))) (hc : evK K c = some (.bool b)) (hx : evK K x = some (gv (g && (b == true)) (.bool e))) : Pure P E n o K L (.bool (b && e)) :=
  Pu_pick ho hc hx rfl (by subst hg; cases b <;> rfl)
theorem Pu_extract {x : Operand} {i : Nat} {vs : Array Value} {v : Value} (ho : o.op = .extract x i) (hx : evK K x = some (.tuple vs)) (hv : vs[i]? = some v) : Pure P E n o K L v :=
  (fun a w hA hS => by simp only [execOp, ho, hA.eval hx, Instr.extract, hv, Sem.run_bind, Sem.run_pure]; rfl)
theorem Pu_nilCheck {x : Operand} {ad : Addr} (ho : o.op = .nilCheck x) (hx : evK K x = some (.pointer (some ad))) : Pure P E n o K L (.pointer (some ad)) :=
  (fun a w hA hS => by simp only [execOp, ho, hA.eval hx, Sem.run_pure])

/-- Where a field stands. -/
def fieldOff (P : Program) (s f : Nat) : Option Nat := match P.underlying s with
  | some (.struct fs) => match fs[f]? with
    | some fd => match P.info? fd.type with
      | some i => if i.size = 0 then none else some fd.offset
      | none => none
    | none => none
  | _ => none
theorem Pu_fieldAddr {s f off : Nat} {x : Operand} {ad ad' : Addr} (ho : o.op = .fieldAddr s x f) (hx : evK K x = some (.pointer (some ad))) (hf : fieldOff P s f = some off) (had : ad.add off = ad') : Pure P E n o K L (.pointer (some ad')) := by
  refine (fun a w hA hS => ?_)
  unfold fieldOff at hf
  cases hu : P.underlying s with
  | none => simp [hu] at hf
  | some d =>
    rw [hu] at hf
    cases d with
    | struct fs =>
      simp only at hf
      cases hq : fs[f]? with
      | none => simp [hq] at hf
      | some fd =>
        simp only [hq] at hf
        cases hi : P.info? fd.type with
        | none => simp [hi] at hf
        | some i =>
          simp only [hi] at hf
          split at hf
          · cases hf
          · rename_i hsz
            injection hf with hf
            subst hf
            simp [execOp, ho, hA.eval hx, Instr.fieldAt, run_underlying hu, hq, Instr.sureAddr, fieldPlace, sizeOf, typeInfo, hi, hsz, had]
    | _ => simp at hf
theorem Pu_fieldAddrB {s f off g b : Nat} {x : Operand} (ho : o.op = .fieldAddr s x f) (hx : evK K x = some (.pointer (some ⟨g, b, none⟩))) (hf : fieldOff P s f = some off) : Pure P E n o K L (.pointer (some ⟨g, b + off, none⟩)) :=
  Pu_fieldAddr ho hx hf (addr_add g b off)

/-- A load of one cell. -/
theorem Pu_load1 {t r : Nat} {x : Operand} {ad : Addr} {Pr : HP} {v : Value} (ho : o.op = .load t x) (ha : ∀ w, (isAgg t).run P w = .ok false w) (hx : evK K x = some (.pointer (some ad))) (hr : look L r = some Pr)
    (hc : ∀ h, Pr h → cellH h ad = some v) : Pure P E n o K L v :=
  (fun a w hA hS => by
    obtain ⟨h, h1, h2⟩ := hS.read hr
    have h3 := cellH_in h2 (hc h h1)
    simp [execOp, ho, hA.eval hx, Instr.loadAt, Instr.sureAddr, loadVar, ha, h3])
theorem Pu_loadB {t r g off te : Nat} {x : Operand} {cs : List Value} {v : Value} (ho : o.op = .load t x) (ha : ∀ w, (isAgg t).run P w = .ok false w) (hx : evK K x = some (.pointer (some ⟨g, off, none⟩))) (hr : look L r = some (blk g te cs))
    (hv : cs[off]? = some v) : Pure P E n o K L v :=
  Pu_load1 ho ha hx hr (fun h hb => by rw [blk_cell hb]; exact hv)
/-- A load of many cells. -/
theorem Pu_loadN {t r m : Nat} {x : Operand} {ad : Addr} {Pr : HP} {xs : List Value} (ho : o.op = .load t x) (ha : ∀ w, (isAgg t).run P w = .ok true w) (hs : ∀ w, (sizeOf t).run P w = .ok m w) (hm : xs.length = m) (hx : evK K x = some (.pointer (some ad))) (hr : look L r = some Pr)
    (hc : ∀ h, Pr h → ∀ j u, xs[j]? = some u → cellH h (ad.add j) = some u) : Pure P E n o K L (.agg xs.toArray) :=
  (fun a w hA hS => by
    obtain ⟨h, h1, h2⟩ := hS.read hr
    have h3 := run_loadCells_list (P := P) w ad xs (fun j u hu => cellH_in h2 (hc h h1 j u hu))
    rw [hm] at h3
    simp only [execOp, ho, hA.eval hx, Instr.loadAt, Instr.sureAddr, loadVar, Sem.run_bind, Sem.run_pure, Result.andThen_ok, ha, hs, if_true, h3])
theorem Pu_loadBN {t r m g off te : Nat} {x : Operand} {cs xs : List Value} (ho : o.op = .load t x) (ha : ∀ w, (isAgg t).run P w = .ok true w) (hs : ∀ w, (sizeOf t).run P w = .ok m w) (hx : evK K x = some (.pointer (some ⟨g, off, none⟩))) (hr : look L r = some (blk g te cs))
    (hm : xs.length = m) (hv : (cs.drop off).take m = xs) : Pure P E n o K L (.agg xs.toArray) :=
  Pu_loadN ho ha hs hm hx hr (fun h hb j u hu => by
    rw [addr_add, blk_cell hb]
    rw [← hv, List.getElem?_take] at hu
    split at hu
    · rw [List.getElem?_drop] at hu; exact hu
    · cases hu)

/-- New blocks. -/
theorem Sat.blk {L : Res} {w : World} (hS : Sat E L w) (r : Nat) (t : TypeId) (cs : Array Value) : Sat E ((r, Proofs.YtjiafaiklmbbeaaDoor.blk w.heap.size t cs.toList) :: L) (w.alloc (.cells cs t)) := by
  refine hS.new r ((Chg.refl [] w).alloc _) (fun g => if g = w.heap.size then some (.cells cs t (0, 0)) else none) ?_ ?_ ?_
  · simp [Proofs.YtjiafaiklmbbeaaDoor.blk]
  · intro g o h
    by_cases hg : g = w.heap.size
    · subst hg; simp at h; subst h; exact heap_alloc_new w _
    · simp [hg] at h
  · intro g h
    by_cases hg : g = w.heap.size
    · omega
    · simp [hg] at h
theorem OpT_box {t r : Nat} {x : Operand} {v : Value} {cs : List Value} (ho : o.op = .box t x) (hx : evK K x = some v) (hv : v.cells = cs.toArray) (k : ∀ g, C (.pointer (some ⟨g, 0, none⟩)) ((r, blk g t cs) :: L)) : OpT P E n o K L C := fun a w Kc Q hA hS hK => by
  have hrun : (execOp a.eval o).run P w = .ok (.value (.pointer (some ⟨w.heap.size, 0, none⟩))) (w.alloc (.cells v.cells t)) := by
    simp only [execOp, ho, hA.eval hx, Instr.box, newVar, newRow, newObj, Sem.run, Sem.run_bind, Sem.run_pure, Result.andThen_ok]; rfl
  unfold Oper.wp
  rw [hrun]
  refine hK _ _ _ (k _) ?_
  have := hS.blk r t v.cells
  rwa [hv, List.toList_toArray, ← hv] at this
theorem OpT_alloc {t r : Nat} {z : Value} {cs : List Value} (ho : o.op = .alloc t) (hz : ∀ w, (zeroValue t).run P w = .ok z w) (hv : z.cells = cs.toArray) (k : ∀ g, C (.pointer (some ⟨g, 0, none⟩)) ((r, blk g t cs) :: L)) : OpT P E n o K L C := fun a w Kc Q hA hS hK => by
  have hrun : (execOp a.eval o).run P w = .ok (.value (.pointer (some ⟨w.heap.size, 0, none⟩))) (w.alloc (.cells z.cells t)) := by
    simp only [execOp, ho, Instr.alloc, hz, newVar, newRow, newObj, Sem.run, Sem.run_bind, Sem.run_pure, Result.andThen_ok]; rfl
  unfold Oper.wp
  rw [hrun]
  refine hK _ _ _ (k _) ?_
  have := hS.blk r t z.cells
  rwa [hv, List.toList_toArray, ← hv] at this
/-- The parts of a literal. -/
def evP (K : Slots) : List (Nat × Operand) → Option (List (Nat × Value))
  | [] => some []
  | (i, x) :: l => match evK K x, evP K l with
    | some v, some vs => some ((i, v) :: vs)
    | _, _ => none
theorem evP_map {n : Nat} {K : Slots} {a : Act} (hA : Agr n K a) : ∀ {ps : List (Nat × Operand)} {vs : List (Nat × Value)}, evP K ps = some vs → ps.map (fun p => (p.1, a.eval p.2)) = vs
  | [], vs, h => by simp [evP] at h; subst h; rfl
  | (i, x) :: l, vs, h => by
    rw [evP] at h
    cases h1 : evK K x with
    | none => simp [h1] at h
    | some v =>
      cases h2 : evP K l with
      | none => simp [h1, h2] at h
      | some us =>
        simp [h1, h2] at h
        subst h
        simp [hA.eval h1]
        exact evP_map hA h2
/-- A row of the call's own that is written out. -/
theorem OpT_buildSlice {t e len size r : Nat} {ps : List (Nat × Operand)} {vs : List (Nat × Value)} {cs : List Value} (ho : o.op = .buildSlice t len ps.toArray) (hp : evP K ps = some vs) (hlen : cs.length = len * size) (hm : len ≤ maxLen)
    (hb : ∀ w, (Instr.buildSlice t len vs.toArray).run P w = .ok (.slice (some ⟨w.heap.size, 0, none⟩) len len) (w.alloc (.cells cs.toArray e)))
    (k : ∀ v, C v ((r, rowP e size v len cs) :: L)) : OpT P E n o K L C := fun a w Kc Q hA hS hK => by
  have hrun : (execOp a.eval o).run P w = .ok (.value (.slice (some ⟨w.heap.size, 0, none⟩) len len)) (w.alloc (.cells cs.toArray e)) := by
    have hq := evP_map hA hp
    have : (ps.toArray.map fun (i, x) => (i, a.eval x)) = vs.toArray := by simp [← hq]
    simp only [execOp, ho, this, Sem.run_bind, hb w]; rfl
  unfold Oper.wp
  rw [hrun]
  refine hK _ _ _ (k _) ?_
  have hS2 := hS.blk r e cs.toArray
  have hS3 := hS2.cons (P' := rowP e size (.slice (some ⟨w.heap.size, 0, none⟩) len len) len cs) (look_same r _ L) (fun h hb => by
    refine ⟨hlen, .inr ⟨_, len, cs.toArray, rfl, ?_, Nat.le_refl _, hm, by simp [hlen], by simp [← hlen]⟩⟩
    unfold Proofs.YtjiafaiklmbbeaaDoor.blk at hb
    simpa using hb)
  exact hS3.sub (fun r' P' h => by
    by_cases hr : r = r'
    · subst hr; rw [look_same] at h ⊢; exact h
    · rw [look_other hr] at h; rw [look_other hr, look_other hr]; exact h)
theorem run_buildSlice_ones {t e sz : Nat} {parts : List (Nat × Value)} (w : World) (hu : ∀ w, (underlying t).run P w = .ok (.slice e) w) (hs : ∀ w, (sizeOf e).run P w = .ok 1 w) (cs : List Value) (z : Value) (hz : ∀ w, (zeroValue e).run P w = .ok z w) (hz1 : z.cells = #[z]) (hsz : cs.length = sz) (hsm : sz ≤ 1000)
    (hp : parts = (cs.zipIdx 0).map (fun p => (p.2, p.1))) (h1 : ∀ u ∈ cs, u.cells = #[u]) : (Instr.buildSlice t sz parts.toArray).run P w = .ok (.slice (some ⟨w.heap.size, 0, none⟩) sz sz) (w.alloc (.cells cs.toArray e)) := by
  have key : ∀ (l : List Value) (pre suf : List Value), suf.length = l.length → (∀ u ∈ l, u.cells = #[u]) →
      Instr.fill (fun i => some (i * 1, 1)) (pre ++ suf).toArray ((l.zipIdx pre.length).map fun p => (p.2, p.1)) = some (pre ++ l).toArray := by
    intro l
    induction l with
    | nil => intro pre suf hl _; have : suf = [] := List.eq_nil_of_length_eq_zero (by simpa using hl); subst this; simp [Instr.fill]
    | cons u l ih =>
      intro pre suf hl h1
      cases suf with
      | nil => simp at hl
      | cons s suf =>
        have hu1 := h1 u (by simp)
        have := ih (pre ++ [u]) suf (by simpa using hl) (fun x hx => h1 x (by simp [hx]))
        simp only [List.zipIdx_cons, List.map_cons, Instr.fill, hu1]
        simp at this ⊢
        exact this
  subst hsz
  have hk := key cs [] (List.replicate cs.length z) (by simp) h1
  simp only [List.nil_append, List.length_nil] at hk
  rw [← hp] at hk
  unfold Instr.buildSlice
  simp only [Sem.run_bind, hu, hs, Result.andThen_ok]
  rw [if_neg (by omega)]
  by_cases h0 : cs.length = 0
  · have hc : cs = [] := List.eq_nil_of_length_eq_zero h0
    subst hc
    simp at hp
    subst hp
    have hr0 : Array.range 0 = #[] := by apply Array.ext <;> simp
    simp [Instr.fill, newRow, newObj, Sem.run, hr0]
  · have hzc : (Array.range (cs.length * 1)).map (fun x => (#[z] : Array Value)[x % (#[z] : Array Value).size]!) = (List.replicate cs.length z).toArray := by
      apply Array.ext
      · simp
      · intro i hi1 hi2
        simp [Nat.mod_one]
    rw [if_neg (by omega)]
    simp only [Sem.run_bind, Sem.run_pure, Result.andThen_ok, hz, hz1, hzc, hk, newRow, newObj, Sem.run]
    rfl

theorem OpT_buildOnes {t e len r : Nat} {ps : List (Nat × Operand)} {vs : List (Nat × Value)} (cs : List Value) {z : Value} (ho : o.op = .buildSlice t len ps.toArray) (hp : evP K ps = some vs) (hu : ∀ w, (underlying t).run P w = .ok (.slice e) w) (hs : ∀ w, (sizeOf e).run P w = .ok 1 w)
    (hz : ∀ w, (zeroValue e).run P w = .ok z w) (hz1 : z.cells = #[z]) (hlen : cs.length = len) (hsm : len ≤ 1000) (hv : vs = (cs.zipIdx 0).map (fun p => (p.2, p.1))) (h1 : ∀ u ∈ cs, u.cells = #[u]) (k : ∀ v, C v ((r, rowP e 1 v len cs) :: L)) : OpT P E n o K L C :=
  OpT_buildSlice ho hp (by omega) (by unfold maxLen; omega) (fun w => run_buildSlice_ones w hu hs cs z hz hz1 hlen hsm hv h1) k
/-- len of a slice. -/
theorem Pu_len {t r m : Nat} {size : Nat} {x : Operand} {v : Value} {xs : List Value} {Pr : HP} {e : TypeId} (ho : o.op = .call { callee := .builtin .len, args := #[x], argTypes := #[t] }) (hu : ∀ w, (underlying t).run P w = .ok (.slice e) w) (hx : evK K x = some v)
    (hr : look L r = some Pr) (hrd : ∀ h, Pr h → rdP size v m xs h) : Pure P E n o K L (.int .i64 (m : Int)) :=
  (fun a w hA hS => by
    obtain ⟨A, c, hv⟩ : ∃ A c, v = .slice A m c := hS.get hr (fun h hp => rdP_slice (hrd h hp))
    subst hv
    simp [execOp, ho, resolve, invoke, builtin, hA.eval hx, Builtin.len_, hu, goInt])
/-- append of what can be read, to a row. -/
theorem OpT_append {t r r2 m k1 e size bytes : Nat} {x y : Operand} {v vy : Value} {xs news : List Value} {P2 : HP} {i : TypeInfo} {z : Value}
    (ho : o.op = .call { callee := .builtin .append, args := #[x, y], argTypes := #[t, t] }) (ht : P.underlying t = some (.slice e)) (hi : P.info? e = some i) (hz : i.zero = some z)
    (hsize : i.size = size) (hby : i.bytes = bytes) (hzs : z.cells.size = size) (hsz : 0 < size) (hx : evK K x = some v) (hy : evK K y = some vy) (hr : look L r = some (rowP e size v k1 xs))
    (hr2 : look L r2 = some P2) (hrd : ∀ h, P2 h → rdP size vy m news h) (h1 : ∀ u ∈ news, u.oneCell' = true) (h63 : k1 + m ≤ maxLen) (hbytes : (k1 + m) * bytes ≤ 140737488355328)
    (k : ∀ v', C v' ((r, rowP e size v' (k1 + m) (xs ++ news)) :: L)) : OpT P E n o K L C := fun a w Kc Q hA hS hK => by
  obtain ⟨h2, q1, q2⟩ := hS.read hr2
  have hRd := rdP_Rd (hrd h2 q1) q2 hsz
  obtain ⟨h3, q3, q4⟩ := hS.read hr
  have hOwn := rowP_own q3 q4
  obtain ⟨v', w', hrun, g1, g2, g3⟩ := run_append_rd (P := P) w t o.type e i z size bytes ht hi hz hsize hby hzs hsz v k1 xs hOwn vy m news hRd h1 h63 hbytes
  unfold Oper.wp execOp
  simp only [ho, resolve, invoke, builtin, Sem.run_bind, Sem.run_pure, Result.andThen_ok, List.map_toArray, List.map_cons, List.map_nil, hA.eval hx, hA.eval hy, hrun]
  refine hK _ _ _ (k v') (hS.step hr fun h hp hin => ?_)
  obtain ⟨h', c1, c2, c3⟩ := rowP_of_own g1
  refine ⟨v.ownBlock.toList, h', ?_, g2, c1, c2, fun g hg => ?_⟩
  · intro k hk
    simp at hk
    exact rowP_block hp hk
  · have hb := c3 g hg
    rcases g3 with h4 | h4
    · left; exact rowP_block hp (h4 ▸ hb)
    · right; rw [h4] at hb; injection hb with hb; omega
/-- A slice of a slice. -/
theorem run_slice_sub (w : World) {t e size m : Nat} {v : Value} {A : Option Addr} {c : Nat} (hv : v = .slice A m c) (hu : ∀ w, (underlying t).run P w = .ok (.slice e) w) (hs : ∀ w, (sizeOf e).run P w = .ok size w) {lo hi : Option Value} {a b : Nat}
    (hlo : (lo = none ∧ a = 0) ∨ ∃ k i, lo = some (.int k i) ∧ i = (a : Int)) (hhi : (hi = none ∧ b = m) ∨ ∃ k i, hi = some (.int k i) ∧ i = (b : Int)) (hab : a ≤ b) (hbc : b ≤ c) :
    (Instr.sliceAt t v lo hi none).run P w = .ok (subV size v a b) w := by
  subst hv
  have hb : (Instr.sliceBounds true m c lo hi none).run P w = .ok (a, b, c) w := by
    have sb : ∀ (k : IntKind) (a y : Nat) (code : BoundsCode), a ≤ y → (Instr.sliceBound (.int k (a : Int)) y code).run P w = .ok a w := by
      intro k a y code h
      simp only [Instr.sliceBound, asIntOf, Sem.run_bind, Sem.run_pure, Result.andThen_ok]
      rw [if_pos (by omega)]
      simp
    unfold Instr.sliceBounds
    rcases hlo with ⟨rfl, rfl⟩ | ⟨k, i, rfl, rfl⟩ <;> rcases hhi with ⟨rfl, rfl⟩ | ⟨k', i', rfl, rfl⟩
    all_goals simp only [Sem.run_bind, Sem.run_pure, Result.andThen_ok, sb _ _ _ _ hbc, sb _ _ _ _ hab, if_true, Bool.false_eq_true, if_false, Option.isSome_none]
  unfold Instr.sliceAt
  simp only [Sem.run_bind, hu, Result.andThen_ok]
  unfold Instr.slice
  simp only [Sem.run_bind, hu, Result.andThen_ok, hb, hs, Sem.run_pure, subV]
theorem Pu_slice {t r e size m a b : Nat} {x : Operand} {lo hi : Option Operand} {v : Value} {xs : List Value} {Pr : HP} (ho : o.op = .slice t x lo hi none) (hu : ∀ w, (underlying t).run P w = .ok (.slice e) w) (hs : ∀ w, (sizeOf e).run P w = .ok size w)
    (hx : evK K x = some v) (hr : look L r = some Pr) (hrd : ∀ h, Pr h → rdP size v m xs h)
    (hlo : (lo = none ∧ a = 0) ∨ ∃ y k i, lo = some y ∧ evK K y = some (.int k i) ∧ i = (a : Int)) (hhi : (hi = none ∧ b = m) ∨ ∃ y k i, hi = some y ∧ evK K y = some (.int k i) ∧ i = (b : Int)) (hab : a ≤ b) (hbm : b ≤ m) : Pure P E n o K L (subV size v a b) :=
  (fun ac w hA hS => by
    obtain ⟨A, c, hv, hmc⟩ : ∃ A c, v = .slice A m c ∧ m ≤ c := hS.get hr (fun h hp => by obtain ⟨_, A, c, h2, h3, _⟩ := hrd h hp; exact ⟨A, c, h2, h3⟩)
    have := run_slice_sub (P := P) w hv hu hs (lo := lo.map ac.eval) (hi := hi.map ac.eval) (a := a) (b := b)
      (by rcases hlo with ⟨rfl, rfl⟩ | ⟨y, k, i, rfl, hy, hi⟩
          · exact .inl ⟨rfl, rfl⟩
          · exact .inr ⟨k, i, by simp [hA.eval hy], hi⟩)
      (by rcases hhi with ⟨rfl, rfl⟩ | ⟨y, k, i, rfl, hy, hi⟩
          · exact .inl ⟨rfl, rfl⟩
          · exact .inr ⟨k, i, by simp [hA.eval hy], hi⟩) hab (by omega)
    simp only [execOp, ho, hA.eval hx, Option.map_none, Sem.run_bind, this]; rfl)
/-- A slice of a whole array. -/
theorem Pu_sliceArr {t e g off m : Nat} {x : Operand} (ho : o.op = .slice t x none none none) (hu : ∀ w, (underlying t).run P w = .ok (.array m e) w) (hs : ∀ w, (sizeOf e).run P w = .ok 1 w) (hx : evK K x = some (.pointer (some ⟨g, off, none⟩))) : Pure P E n o K L (.slice (some ⟨g, off, none⟩) m m) :=
  (fun ac w hA hS => by
    simp only [execOp, ho, hA.eval hx, Option.map_none, Sem.run_bind, Instr.sliceAt, hu, hs, Result.andThen_ok, Instr.sureAddr, Instr.sliceBounds, Sem.run_pure]
    by_cases hm : m = 0 <;> simp [hm, Addr.add])
/-- The address of a slice's element. -/
theorem Pu_idxS {t r e size m : Nat} {x y : Operand} {v : Value} {xs : List Value} {Pr : HP} {kd : IntKind} {ix : Int} (ho : o.op = .indexAddr t x y) (hu : ∀ w, (underlying t).run P w = .ok (.slice e) w) (hs : ∀ w, (sizeOf e).run P w = .ok size w)
    (hx : evK K x = some v) (hy : evK K y = some (.int kd ix)) (hr : look L r = some Pr) (hrd : ∀ h, Pr h → rdP size v m xs h) (hi : 0 ≤ ix ∧ ix < (m : Int)) : Pure P E n o K L (.pointer (some ((adrOf v).add (ix.toNat * size)))) :=
  (fun ac w hA hS => by
    obtain ⟨ad, c, hv⟩ : ∃ ad c, v = .slice (some ad) m c := hS.get hr (fun h hp => by
      obtain ⟨_, A, c, h2, h3, h4, _⟩ := hrd h hp
      cases A with
      | none => have := h4 rfl; omega
      | some ad => exact ⟨ad, c, h2⟩)
    subst hv
    simp [execOp, ho, hA.eval hx, hA.eval hy, Instr.indexAt, asIntOf, hu, hs, hi, adrOf])
/-- An element of what can be read. -/
theorem Pu_loadS {t r m k0 size : Nat} {x : Operand} {v u : Value} {xs : List Value} {Pr : HP} (ho : o.op = .load t x) (ha : ∀ w, (isAgg t).run P w = .ok false w) (hx : evK K x = some (.pointer (some ((adrOf v).add k0)))) (hr : look L r = some Pr)
    (hrd : ∀ h, Pr h → rdP size v m xs h) (hv : xs[k0]? = some u) : Pure P E n o K L u :=
  Pu_load1 ho ha hx hr (fun h hp => by
    obtain ⟨h1, A, c, rfl, h3, h4, h5⟩ := hrd h hp
    cases A with
    | none =>
      have := h4 rfl
      have := (List.getElem?_eq_some_iff.1 hv).1
      rw [h1, show m = 0 by omega, Nat.zero_mul] at this
      omega
    | some ad => exact h5 ad rfl _ _ hv)
end

/-- A byte of a list. -/
def at0 (l : List UInt8) (k : Nat) : UInt8 := l.getD k 0
theorem bs_at {l : List UInt8} {k : Nat} (h : k < l.length) : (bs l)[k * 1]? = some (bv (at0 l k)) := by
  rw [Nat.mul_one, bs_get, List.getElem?_eq_getElem h]
  simp [at0, h]

/-! ### Calls -/
section
variable {P : Program} {E : Env} {n : Nat} {K : Slots} {L : Res} {o : Oper} {C : Value → Res → Prop}
theorem evArgs {n : Nat} {K : Slots} {a : Act} (hA : Agr n K a) : ∀ {xs : List Operand} {vs : List Value}, xs.map (evK K) = vs.map some → xs.map a.eval = vs
  | [], [], _ => rfl
  | x :: xs, v :: vs, h => by
    simp only [List.map_cons, List.cons.injEq] at h ⊢
    exact ⟨hA.eval h.1, evArgs hA h.2⟩
  | [], _ :: _, h => by simp at h
  | _ :: _, [], h => by simp at h
def evL (K : Slots) : List Operand → Option (List Value)
  | [] => some []
  | x :: xs => match evK K x, evL K xs with
    | some v, some vs => some (v :: vs)
    | _, _ => none
theorem evL_map {K : Slots} : ∀ {xs : List Operand} {vs : List Value}, evL K xs = some vs → xs.map (evK K) = vs.map some
  | [], vs, h => by simp [evL] at h; subst h; rfl
  | x :: xs, vs, h => by
    rw [evL] at h
    cases h1 : evK K x with
    | none => simp [h1] at h
    | some v =>
      cases h2 : evL K xs with
      | none => simp [h1, h2] at h
      | some us =>
        simp [h1, h2] at h
        subst h
        simp [h1, evL_map h2]
theorem evL_nil {K : Slots} : evL K [] = some [] := rfl
theorem evL_cons {K : Slots} {x : Operand} {v : Value} {xs : List Operand} {vs : List Value} (h : evK K x = some v) (h2 : evL K xs = some vs) : evL K (x :: xs) = some (v :: vs) := by rw [evL, h, h2]
/-- A call of a function of the program: J is what is kept aside (it may be read), Cs what is handed over. -/
theorem OpT_call {f : FuncId} {xs : List Operand} {vs : List Value} {ts : Array TypeId} {R : Value → List HP → Prop} (b : Nat) (J Cs : List Nat) {Js Ps : List HP}
    (ho : o.op = .call { callee := .value (.func f), args := xs.toArray, argTypes := ts }) (hc : ∀ args w, (callFunc f args).run P w = .ok (.enter f args) w) (hx : evL K xs = some vs)
    (hJ : lookL L J = some Js) (hC : lookL L Cs = some Ps) (hn : (J ++ Cs).Nodup) (hb : ∀ j ∈ J, j < b)
    (spec : CallsS P f vs.toArray (starL Js) Ps R) (k : ∀ v Ps', R v Ps' → C v (En b Ps' ++ zipR J Js)) : OpT P E n o K L C := fun a w Kc Q hA hS hK => by
  have hargs := evArgs hA (evL_map hx)
  have hrun : (execOp a.eval o).run P w = .ok (.enter f vs.toArray) w := by
    have : (xs.toArray.map a.eval) = vs.toArray := by simp [hargs]
    simp only [execOp, ho, resolve, Act.eval, this, Deferred.ofValue, Sem.run_bind, Sem.run_pure, Result.andThen_ok, invoke, Array.append_empty, Array.empty_append, hc]
  unfold Oper.wp
  rw [hrun]
  refine (spec E w (hS.pack (.of hJ) (.of hC) hn)).mono fun e w' ⟨v, Ps', he, hR, hS'⟩ => ?_
  subst he
  exact hK _ _ _ (k v Ps' hR) (hS'.unpack b (List.nodup_append.1 hn).1 hb)
end
/-! ### Returns -/
section
variable {P : Program} {E : Env} {n : Nat} {K : Slots} {L : Res} {F : HP} {R : Value → List HP → Prop} {fn : Func}
theorem X_ret {v : Value} (ids : List Nat) {Ps : List HP} (hv : ∀ a w, Agr n K a → Sat E L w → (results fn a.tmps).run P w = .ok v w) (hl : lookL L (0 :: ids) = some (F :: Ps)) (hn : (0 :: ids).Nodup) (hR : R v Ps) : X E n (bodyPost P fn (Ret E F R)) .ret K L :=
  fun a w hA hS => ⟨hA.1, v, hv a w hA hS, v, Ps, rfl, hR, hS.pick (.of hl) hn⟩
theorem X_end {v : Value} (ids : List Nat) {Ps : List HP} (hv : ∀ a w, Agr n K a → Sat E L w → (results fn a.tmps).run P w = .ok v w) (hl : lookL L (0 :: ids) = some (F :: Ps)) (hn : (0 :: ids).Nodup) (hR : R v Ps) : X E n (bodyPost P fn (Ret E F R)) .normal K L :=
  fun a w hA hS => ⟨hA.1, v, hv a w hA hS, v, Ps, rfl, hR, hS.pick (.of hl) hn⟩
theorem res1 {t : Nat} {v : Value} (hr : fn.results = #[.tmp t]) (hv : look K t = some v) : ∀ a w, Agr n K a → Sat E L w → (results fn a.tmps).run P w = .ok v w := fun a w hA _ => by
  simp [results, hr, hA.2.2 t v hv]
theorem res2 {t u : Nat} {v x : Value} (hr : fn.results = #[.tmp t, .tmp u]) (hv : look K t = some v) (hx : look K u = some x) : ∀ a w, Agr n K a → Sat E L w → (results fn a.tmps).run P w = .ok (.tuple #[v, x]) w := fun a w hA _ => by
  simp [results, hr, hA.2.2 t v hv, hA.2.2 u x hx]
theorem res0 (hr : fn.results = #[]) : ∀ a w, Agr n K a → Sat E L w → (results fn a.tmps).run P w = .ok (.tuple #[]) w := fun a w hA _ => by
  simp [results, hr]
end
/-! ### Numbers -/
section
variable {P : Program}
theorem int_beq (a b : Int) : (a == b) = decide (a = b) := by by_cases h : a = b <;> simp [h]
theorem run_lss (a b : Int) (t : TypeId) (x y : Operand) (kd : IntKind) (w : World) : ((do eqGuard .lss t x y (.int kd a) (.int kd b); binOp .lss t (.int kd a) (.int kd b) : Sem Value)).run P w = .ok (.bool (decide (a < b))) w := by
  simp [eqGuard, binOp, Op.intCmp]
theorem run_gtr (a b : Int) (t : TypeId) (x y : Operand) (kd : IntKind) (w : World) : ((do eqGuard .gtr t x y (.int kd a) (.int kd b); binOp .gtr t (.int kd a) (.int kd b) : Sem Value)).run P w = .ok (.bool (decide (b < a))) w := by
  simp [eqGuard, binOp, Op.intCmp]
theorem run_leq (a b : Int) (t : TypeId) (x y : Operand) (kd : IntKind) (w : World) : ((do eqGuard .leq t x y (.int kd a) (.int kd b); binOp .leq t (.int kd a) (.int kd b) : Sem Value)).run P w = .ok (.bool (decide (a ≤ b))) w := by
  simp [eqGuard, binOp, Op.intCmp]
theorem run_geq (a b : Int) (t : TypeId) (x y : Operand) (kd : IntKind) (w : World) : ((do eqGuard .geq t x y (.int kd a) (.int kd b); binOp .geq t (.int kd a) (.int kd b) : Sem Value)).run P w = .ok (.bool (decide (b ≤ a))) w := by
  simp [eqGuard, binOp, Op.intCmp]
theorem run_eql (a b : Int) (t : TypeId) (x y : Operand) (kd : IntKind) (w : World) : ((do eqGuard .eql t x y (.int kd a) (.int kd b); binOp .eql t (.int kd a) (.int kd b) : Sem Value)).run P w = .ok (.bool (decide (a = b))) w := by
  simp [eqGuard, binOp, Op.intCmp]
  exact int_beq a b
theorem run_neq (a b : Int) (t : TypeId) (x y : Operand) (kd : IntKind) (w : World) : ((do eqGuard .neq t x y (.int kd a) (.int kd b); binOp .neq t (.int kd a) (.int kd b) : Sem Value)).run P w = .ok (.bool (!decide (a = b))) w := by
  simp [eqGuard, binOp, Op.intCmp]
  rw [bne, int_beq]
theorem run_add (a b : Int) (t : TypeId) (x y : Operand) (h : -9223372036854775808 ≤ a + b ∧ a + b < 9223372036854775808) (w : World) : ((do eqGuard .add t x y (.int .i64 a) (.int .i64 b); binOp .add t (.int .i64 a) (.int .i64 b) : Sem Value)).run P w = .ok (.int .i64 (a + b)) w := by
  have := IntWalk.i64_in (a + b) (by omega)
  simp [eqGuard, binOp, Op.intArith, this]
theorem run_sub (a b : Int) (t : TypeId) (x y : Operand) (h : -9223372036854775808 ≤ a - b ∧ a - b < 9223372036854775808) (w : World) : ((do eqGuard .sub t x y (.int .i64 a) (.int .i64 b); binOp .sub t (.int .i64 a) (.int .i64 b) : Sem Value)).run P w = .ok (.int .i64 (a - b)) w := by
  have := IntWalk.i64_in (a - b) (by omega)
  simp [eqGuard, binOp, Op.intArith, this]
theorem run_mul (a b : Int) (t : TypeId) (x y : Operand) (h : -9223372036854775808 ≤ a * b ∧ a * b < 9223372036854775808) (w : World) : ((do eqGuard .mul t x y (.int .i64 a) (.int .i64 b); binOp .mul t (.int .i64 a) (.int .i64 b) : Sem Value)).run P w = .ok (.int .i64 (a * b)) w := by
  have := IntWalk.i64_in (a * b) (by omega)
  simp [eqGuard, binOp, Op.intArith, this]
end
end Go.Proofs.YtjiafaiklmbbeaaDoor
