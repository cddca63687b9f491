/- Symbolic states: arrays in memory, rows of ids, the whole law. -/
import Derived.Test.YtjiafaiklmbbeaaDoorSl5
namespace Go.Proofs.YtjiafaiklmbbeaaDoor
open Go.RowKit
set_option linter.unusedVariables false
set_option linter.unusedSimpArgs false
section
variable {P : Program} {E : Env} {n : Nat} {K : Slots} {L : Res} {o : Oper} {C : Value → Res → Prop}
/-- The address of an element of an array in memory, one cell each. -/
theorem Pu_idxA {t e g off m : Nat} {x y : Operand} {kd : IntKind} {ix : Int} (ho : o.op = .indexAddr t x y) (hu : ∀ w, (underlying t).run P w = .ok (.array m e) w) (hs : ∀ w, (sizeOf e).run P w = .ok 1 w)
    (hx : evK K x = some (.pointer (some ⟨g, off, none⟩))) (hy : evK K y = some (.int kd ix)) (hi : 0 ≤ ix ∧ ix < (m : Int)) : Pure P E n o K L (.pointer (some ⟨g, off + ix.toNat, none⟩)) := fun ac w hA hS => by
  simp [execOp, ho, hA.eval hx, hA.eval hy, Instr.indexAt, asIntOf, hu, hs, hi, Instr.sureAddr, addr_add]
/-- An element of an array by value. -/
theorem Pu_index {t e m : Nat} {x y : Operand} {kd : IntKind} {ix : Int} {cs : List Value} {u : Value} (ho : o.op = .index t x y) (hu : ∀ w, (underlying t).run P w = .ok (.array m e) w) (hs : ∀ w, (sizeOf e).run P w = .ok 1 w) (ha : ∀ w, (isAgg e).run P w = .ok false w)
    (hx : evK K x = some (.agg cs.toArray)) (hy : evK K y = some (.int kd ix)) (hi : 0 ≤ ix ∧ ix < (m : Int)) (hv : cs[ix.toNat]? = some u) : Pure P E n o K L u := fun ac w hA hS => by
  simp [execOp, ho, hA.eval hx, hA.eval hy, Instr.index, asIntOf, hu, hs, hi, part, ha, hv]
/-- An element of many cells, of what can be read. -/
theorem Pu_loadSN {t r m k0 size sz : Nat} {x : Operand} {v : Value} {xs ys : List Value} {Pr : HP} (ho : o.op = .load t x) (ha : ∀ w, (isAgg t).run P w = .ok true w) (hs : ∀ w, (sizeOf t).run P w = .ok sz w) (hx : evK K x = some (.pointer (some ((adrOf v).add k0)))) (hr : look L r = some Pr)
    (hrd : ∀ h, Pr h → rdP size v m xs h) (hl : ys.length = sz) (hpos : 0 < sz) (hv : (xs.drop k0).take sz = ys) : Pure P E n o K L (.agg ys.toArray) :=
  Pu_loadN ho ha hs hl hx hr (fun h hp j u hu => by
    obtain ⟨h1, A, c, rfl, h3, h4, h5⟩ := hrd h hp
    have hu2 : xs[k0 + j]? = some u := by
      rw [← hv, List.getElem?_take] at hu
      split at hu
      · rw [List.getElem?_drop] at hu; exact hu
      · cases hu
    cases A with
    | none =>
      have := h4 rfl
      have := (List.getElem?_eq_some_iff.1 hu2).1
      rw [h1, show m = 0 by omega, Nat.zero_mul] at this
      omega
    | some ad =>
      have := h5 ad rfl _ _ hu2
      simp only [adrOf, add_of_add]
      exact this)
theorem run_or (a b k : Nat) (t : TypeId) (x y : Operand) (ha : a % 2 ^ k = 0) (ha2 : a < 4611686018427387904) (hb : b < 2 ^ k) (hk : k ≤ 62) (w : World) : ((do eqGuard .or t x y (.int .i64 (a : Int)) (.int .i64 (b : Int)); binOp .or t (.int .i64 (a : Int)) (.int .i64 (b : Int)) : Sem Value)).run P w = .ok (.int .i64 ((a + b : Nat) : Int)) w := by
  have e : a = a / 2 ^ k * 2 ^ k := by have := Nat.div_add_mod a (2 ^ k); rw [Nat.mul_comm]; omega
  have := run_orJoin (P := P) (a / 2 ^ k) b k t x y (by rw [← e]; exact ha2) hb hk w
  rw [← e] at this
  exact this
end
/-- All blocks of a world, as they are. -/
def orig (W : World) : HP := fun h => ∀ g o, W.heap[g]? = some o → h g = some o
theorem Rd.orig {W : World} {size : Nat} {v : Value} {n : Nat} {xs : List Value} (hr : Rd W size v n xs) : ∀ h, orig W h → rdP size v n xs h := fun h ho => by
  obtain ⟨h1, A, c, h2, h3, h4, h5⟩ := hr
  refine ⟨h1, A, c, h2, h3, h4, fun ad had j u hu => ?_⟩
  have hc := (h5 ad had).2 j u hu
  unfold World.cell? at hc
  unfold cellH
  cases hb : W.heap[(ad.add j).block]? with
  | none => simp [hb] at hc
  | some ob => rw [ho _ _ hb]; rw [hb] at hc; exact hc
theorem calls_law {P : Program} {f : FuncId} {args : Array Value} {W : World} {r : Value} (spec : CallsS P f args (orig W) [] (fun v Ps => v = r)) : Calls P f args W (fun e W' => e = .returned r ∧ Chg [] W W') := by
  have hS : Sat ⟨W.os, W.tape, W.output⟩ (En 0 [orig W]) W := by
    refine ⟨⟨rfl, rfl, rfl⟩, fun r g => if r = 0 then W.heap[g]? else none, ?_, ?_, ?_⟩
    · intro r P hr
      rw [En] at hr
      by_cases h0 : 0 = r
      · subst h0; rw [look_same] at hr; injection hr with hr; subst hr; intro g o h; simpa using h
      · rw [look_other h0] at hr; simp [En, look] at hr
    · intro r r' g hne hg
      by_cases h0 : r = 0
      · subst h0; simp [Ne.symm hne]
      · simp [h0] at hg
    · intro r g o h
      by_cases h0 : r = 0
      · simpa [h0] using h
      · simp [h0] at h
  refine (spec _ W hS).mono fun e W' ⟨v, Ps, he, hv, hS'⟩ => ?_
  subst hv
  refine ⟨he, ?_⟩
  obtain ⟨⟨e1, e2, e3⟩, hs, h1, h2, h3⟩ := hS'
  have ho := h1 0 _ (look_same _ _ _)
  have hb : ∀ k, k < W.heap.size → W'.heap[k]? = W.heap[k]? := fun k hk => by
    rw [Array.getElem?_eq_getElem hk]
    exact h3 0 k _ (ho k _ (Array.getElem?_eq_getElem hk))
  refine ⟨e1, e2, e3, ?_, fun k hk _ => hb k hk⟩
  rcases Nat.lt_or_ge W'.heap.size W.heap.size with hlt | hge
  · have := hb W'.heap.size hlt
    rw [Array.getElem?_eq_none (Nat.le_refl _), Array.getElem?_eq_getElem hlt] at this
    cases this
  · exact hge
/-- Ids, one behind another. -/
def idsC (l : List (List UInt8)) : List Value := (l.map bs).flatten
def Ids (l : List (List UInt8)) : Prop := ∀ x ∈ l, x.length = 32
theorem idsC_length {l : List (List UInt8)} (h : Ids l) : (idsC l).length = l.length * 32 := by
  induction l with
  | nil => rfl
  | cons x l ih =>
    have h1 := ih (fun y hy => h y (List.mem_cons_of_mem _ hy))
    have h2 := h x (List.mem_cons_self ..)
    simp only [idsC, List.map_cons, List.flatten_cons, List.length_append, bs_length, List.length_cons] at h1 ⊢
    rw [h1, h2]
    omega
theorem idsC_append (l m : List (List UInt8)) : idsC (l ++ m) = idsC l ++ idsC m := by simp [idsC]
theorem idsC_one (x : List UInt8) : idsC [x] = bs x := by simp [idsC]
theorem Ids.take {l : List (List UInt8)} (h : Ids l) (k : Nat) : Ids (l.take k) := fun x hx => h x (List.mem_of_mem_take hx)
theorem idsC_get {l : List (List UInt8)} (h : Ids l) {k : Nat} (hk : k < l.length) : ((idsC l).drop (k * 32)).take 32 = bs (l.getD k []) := by
  have e : l = l.take k ++ (l.getD k [] :: l.drop (k + 1)) := by
    rw [show l.getD k [] = l[k] by simp [hk]]
    rw [← List.drop_eq_getElem_cons hk, List.take_append_drop]
  have hx : (l.getD k []).length = 32 := h _ (by rw [show l.getD k [] = l[k] by simp [hk]]; exact List.getElem_mem hk)
  have hl : (idsC (l.take k)).length = k * 32 := by rw [idsC_length (h.take k), List.length_take, Nat.min_eq_left (by omega)]
  rw [congrArg idsC e, idsC_append, ← hl, List.drop_left]
  show ((idsC ([l.getD k []] ++ l.drop (k + 1)))).take 32 = _
  rw [idsC_append, idsC_one, List.take_append, bs_length, hx]
  rw [List.take_of_length_le (show (bs (l.getD k [])).length ≤ 32 by rw [bs_length, hx]; omega), Nat.sub_self, List.take_zero, List.append_nil]
theorem idsC_oneCell (l : List (List UInt8)) : ∀ u ∈ idsC l, u.oneCell' = true := by
  intro u hu
  simp only [idsC, List.mem_flatten, List.mem_map] at hu
  obtain ⟨xs, ⟨x, _, rfl⟩, hu⟩ := hu
  exact bs_one x u hu
theorem Ids.get {l : List (List UInt8)} (h : Ids l) {k : Nat} (hk : k < l.length) : (l.getD k []).length = 32 := h _ (by rw [show l.getD k [] = l[k] by simp [hk]]; exact List.getElem_mem hk)
/-- A row of ids that can be read. -/
abbrev rdI (v : Value) (l : List (List UInt8)) : HP := rdP 32 v l.length (idsC l)
/-- The remainder as the document has it. -/
theorem emod_neg {a n : Int} (hn : 0 < n) (h : a.tmod n < 0) : a.tmod n + n = a % n := by
  have hb2 : -n < a.tmod n := by have := Int.lt_tmod_of_pos a hn; omega
  have h1 := Int.mul_tdiv_add_tmod a n
  have h2 : a % n = (a.tmod n) % n := by
    conv => lhs; rw [← h1]
    rw [Int.add_comm, Int.add_mul_emod_self_left]
  rw [h2, ← Int.add_emod_right, Int.emod_eq_of_lt (by omega) (by omega)]
theorem emod_pos {a n : Int} (hn : 0 < n) (h : ¬ a.tmod n < 0) : a.tmod n = a % n := by
  have hb1 := Int.tmod_lt_of_pos a hn
  have h1 := Int.mul_tdiv_add_tmod a n
  have h2 : a % n = (a.tmod n) % n := by
    conv => lhs; rw [← h1]
    rw [Int.add_comm, Int.add_mul_emod_self_left]
  rw [h2, Int.emod_eq_of_lt (by omega) (by omega)]
theorem tmod_bounds (a : Int) {n : Int} (hn : 0 < n) : -n < a.tmod n ∧ a.tmod n < n := ⟨by have := Int.lt_tmod_of_pos a hn; omega, Int.tmod_lt_of_pos a hn⟩
theorem look_eq {L : Res} {r : Nat} {P P' : HP} (h : look L r = some P) (e : P = P') : look L r = some P' := e ▸ h
theorem lookV_eq {K : Slots} {r : Nat} {v v' : Value} (h : look K r = some v) (e : v = v') : look K r = some v' := e ▸ h
/-- A row of ids of the call's own. -/
def rowI (e : TypeId) (v : Value) (l : List (List UInt8)) : HP := rowP e 32 v l.length (idsC l)
theorem rowI_of {e : TypeId} {v : Value} {n : Nat} {xs : List Value} (l : List (List UInt8)) (hn : n = l.length) (hx : xs = idsC l) : rowP e 32 v n xs = rowI e v l := by subst hn; subst hx; rfl
theorem rowI_rd {e : TypeId} {v : Value} {l : List (List UInt8)} : ∀ h, rowI e v l h → rdI v l h := fun h hr => rowP_rd hr
/-- The bytes of one id of a row. -/
theorem rd_id {v : Value} {l : List (List UInt8)} {k : Nat} {h : Hlt} (hr : rdI v l h) (hi : Ids l) (hk : k < l.length) : rdB (.slice (some ((adrOf v).add (k * 32))) 32 32) (l.getD k []) h := by
  have hx := hi.get hk
  obtain ⟨h1, A, c, rfl, h3, h4, h5⟩ := hr
  unfold rdB
  rw [hx]
  refine ⟨by rw [bs_length, hx], some ((adrOf (.slice A l.length c)).add (k * 32)), 32, rfl, Nat.le_refl _, fun h => (by cases h), fun ad had j u hu => ?_⟩
  injection had with had
  subst had
  cases A with
  | none => have := h4 rfl; omega
  | some ad =>
    have hg := idsC_get hi hk
    have hu2 : (idsC l)[k * 32 + j]? = some u := by
      rw [← hg, List.getElem?_take] at hu
      split at hu
      · rw [List.getElem?_drop] at hu; exact hu
      · cases hu
    simp only [adrOf, add_of_add]
    exact h5 ad rfl _ _ hu2
theorem id_rd {g t : Nat} {x : List UInt8} {h : Hlt} (hx : x.length = 32) (hb : blk g t (bs x) h) : rdP 1 (.slice (some ⟨g, 0, none⟩) 32 32) 32 (bs x) h :=
  blk_rd hb (by rw [List.drop_zero]; exact List.take_of_length_le (by rw [bs_length, hx]; omega)) (by rw [bs_length, hx]) (Nat.le_refl _)
theorem idsC_set {l : List (List UInt8)} (h : Ids l) {k : Nat} (hk : k < l.length) {x : List UInt8} (hx : x.length = 32) : over (idsC l) (k * 32) (bs x) = idsC (l.set k x) := by
  have e : l = l.take k ++ (l.getD k [] :: l.drop (k + 1)) := by
    rw [show l.getD k [] = l[k] by simp [hk]]
    rw [← List.drop_eq_getElem_cons hk, List.take_append_drop]
  have hl : (idsC (l.take k)).length = k * 32 := by rw [idsC_length (h.take k), List.length_take, Nat.min_eq_left (by omega)]
  have e2 : l.set k x = l.take k ++ ([x] ++ l.drop (k + 1)) := by
    rw [List.set_eq_take_append_cons_drop, if_pos hk]; rfl
  rw [e2, idsC_append, idsC_append, idsC_one]
  conv => lhs; rw [congrArg idsC e]
  rw [idsC_append, ← hl]
  show over (idsC (l.take k) ++ idsC ([l.getD k []] ++ l.drop (k + 1))) _ _ = _
  rw [idsC_append, idsC_one]
  exact over_mid _ _ _ _ (by rw [bs_length, bs_length, h.get hk, hx])
section
variable {P : Program} {E : Env} {n : Nat} {K : Slots} {L : Res} {o : Oper} {C : Value → Res → Prop}
/-- An array behind a pointer, as a slice. -/
theorem Pu_sliceArrE {t e m : Nat} {x : Operand} {ad : Addr} (ho : o.op = .slice t x none none none) (hu : ∀ w, (underlying t).run P w = .ok (.array m e) w) (hs : ∀ w, (sizeOf e).run P w = .ok 1 w) (hx : evK K x = some (.pointer (some ad))) : Pure P E n o K L (.slice (some ad) m m) := fun ac w hA hS => by
  simp only [execOp, ho, hA.eval hx, Option.map_none, Sem.run_bind, Instr.sliceAt, hu, hs, Result.andThen_ok, Instr.sureAddr, Instr.sliceBounds, Sem.run_pure]
  by_cases hm : m = 0 <;> simp [hm, Addr.add]
theorem fill_cons {place : Nat → Option (Nat × Nat)} {i off sz : Nat} {v : Value} {cs : Array Value} {rest : List (Nat × Value)} (h : place i = some (off, sz)) (hv : v.cells.size = sz) (hfit : off + sz ≤ cs.size) :
    Instr.fill place cs ((i, v) :: rest) = Instr.fill place (v.cells.zipIdx.foldl (fun cs (c, j) => cs.setIfInBounds (off + j) c) cs) rest := by
  simp only [Instr.fill, h]
  rw [if_neg (by simp [hv]; omega)]
theorem flatten_len {rows : List (List Value)} {sz : Nat} (hr : ∀ r ∈ rows, r.length = sz) : rows.flatten.length = rows.length * sz := by
  induction rows with
  | nil => simp
  | cons r l ih =>
    rw [List.flatten_cons, List.length_append, hr r (by simp), ih (fun x hx => hr x (by simp [hx])), List.length_cons, Nat.add_mul]
    omega
/-- A row of structs, or of arrays, that is written out. -/
theorem run_buildSlice_rows {t e sz m : Nat} {parts : List (Nat × Value)} (w : World) (hu : ∀ w, (underlying t).run P w = .ok (.slice e) w) (hs : ∀ w, (sizeOf e).run P w = .ok sz w) (rows : List (List Value)) (z : Value) (hz : ∀ w, (zeroValue e).run P w = .ok z w) (hz1 : z.cells.size = sz) (hpos : 0 < sz) (hm : rows.length = m) (hsm : m * sz ≤ 16777216)
    (hr : ∀ r ∈ rows, r.length = sz) (hp : parts = ((rows.map fun r => Value.agg r.toArray).zipIdx 0).map (fun p => (p.2, p.1))) : (Instr.buildSlice t m parts.toArray).run P w = .ok (.slice (some ⟨w.heap.size, 0, none⟩) m m) (w.alloc (.cells rows.flatten.toArray e)) := by
  have key : ∀ (l : List (List Value)) (pre : List Value) (k : Nat) (suf : List Value), pre.length = k * sz → suf.length = l.length * sz → (∀ r ∈ l, r.length = sz) →
      Instr.fill (fun i => some (i * sz, sz)) (pre ++ suf).toArray (((l.map fun r => Value.agg r.toArray).zipIdx k).map fun p => (p.2, p.1)) = some (pre ++ l.flatten).toArray := by
    intro l
    induction l with
    | nil => intro pre k suf h1 h2 _; have : suf = [] := List.eq_nil_of_length_eq_zero (by simpa using h2); subst this; simp [Instr.fill]
    | cons r l ih =>
      intro pre k suf h1 h2 h3
      have hr := h3 r (by simp)
      have hsl : suf.length = sz + l.length * sz := by rw [h2]; simp [Nat.add_mul]; omega
      rw [List.map_cons, List.zipIdx_cons, List.map_cons]
      rw [fill_cons (off := k * sz) (sz := sz) rfl (by simpa [Value.cells] using hr) (by simp [h1]; omega)]
      simp only [Value.cells]
      have hzf := zipIdx_fold r 0 (k * sz) (pre ++ suf).toArray (by simp [hr, h1]; omega)
      rw [Nat.add_zero] at hzf
      rw [← Array.foldl_toList, Array.toList_zipIdx, List.toList_toArray, hzf, List.toList_toArray]
      have e : over (pre ++ suf) (k * sz) r = (pre ++ r) ++ suf.drop sz := by
        rw [← h1]
        conv => lhs; rw [← List.take_append_drop sz suf]
        rw [over_mid pre (suf.take sz) r (suf.drop sz) (by rw [List.length_take, hr]; omega), List.append_assoc]
      rw [e]
      have := ih (pre ++ r) (k + 1) (suf.drop sz) (by simp [h1, hr, Nat.add_mul]) (by simp; omega) (fun x hx => h3 x (by simp [hx]))
      rw [this]
      simp
  unfold Instr.buildSlice
  simp only [Sem.run_bind, hu, hs, Result.andThen_ok]
  rw [if_neg (by omega)]
  by_cases h0 : m * sz = 0
  · have hm0 : m = 0 := by rcases Nat.mul_eq_zero.1 h0 with h | h <;> omega
    subst hm0
    have hc : rows = [] := List.eq_nil_of_length_eq_zero hm
    subst hc
    simp at hp
    subst hp
    have hr0 : Array.range 0 = #[] := by apply Array.ext <;> simp
    simp [Instr.fill, newRow, newObj, Sem.run, hr0]
  · have hzl : (((Array.range (m * sz)).map (fun x => z.cells[x % z.cells.size]!)).toList).length = rows.length * sz := by simp [hm]
    have := key rows [] 0 ((Array.range (m * sz)).map (fun x => z.cells[x % z.cells.size]!)).toList (by simp) hzl hr
    rw [← hp] at this
    simp only [List.nil_append, Array.toArray_toList] at this
    rw [if_neg h0]
    simp only [Sem.run_bind, Sem.run_pure, Result.andThen_ok, hz, this, newRow, newObj, Sem.run]
    rfl
theorem OpT_buildRows {t e len sz r : Nat} {ps : List (Nat × Operand)} {vs : List (Nat × Value)} (rows : List (List Value)) {z : Value} (ho : o.op = .buildSlice t len ps.toArray) (hp : evP K ps = some vs) (hu : ∀ w, (underlying t).run P w = .ok (.slice e) w) (hs : ∀ w, (sizeOf e).run P w = .ok sz w)
    (hz : ∀ w, (zeroValue e).run P w = .ok z w) (hz1 : z.cells.size = sz) (hpos : 0 < sz) (hlen : rows.length = len) (hsm : len * sz ≤ 16777216) (hr : ∀ r ∈ rows, r.length = sz) (hv : vs = ((rows.map fun r => Value.agg r.toArray).zipIdx 0).map (fun p => (p.2, p.1)))
    (k : ∀ v, C v ((r, rowP e sz v len rows.flatten) :: L)) : OpT P E n o K L C := by
  have hfl : rows.flatten.length = len * sz := by rw [← hlen]; exact flatten_len hr
  have hle : len ≤ len * sz := Nat.le_mul_of_pos_right _ hpos
  exact OpT_buildSlice ho hp hfl (by unfold maxLen; omega) (fun w => run_buildSlice_rows w hu hs rows z hz hz1 hpos hlen hsm hr hv) k
end
/-- The zeros of a row that is made: so many ids. -/
theorem made_ids (n : Nat) : (madeCells (Value.agg (bs zeroId).toArray).cells (n * 32)).toList = idsC (List.replicate n zeroId) := by
  apply List.ext_getElem?
  intro j
  have hl : (idsC (List.replicate n zeroId)).length = n * 32 := by rw [idsC_length (fun x hx => by rw [List.eq_of_mem_replicate hx]; rfl), List.length_replicate]
  by_cases hj : j < n * 32
  · have hz : ∀ x ∈ idsC (List.replicate n zeroId), x = .int .u8 0 := by
      intro x hx
      simp only [idsC, List.mem_flatten, List.mem_map] at hx
      obtain ⟨ys, ⟨y, hy, rfl⟩, hx⟩ := hx
      rw [List.eq_of_mem_replicate hy] at hx
      simp only [bs, List.mem_map, zeroId] at hx
      obtain ⟨b, hb, rfl⟩ := hx
      rw [List.eq_of_mem_replicate hb]
      rfl
    rw [List.getElem?_eq_getElem (l := idsC (List.replicate n zeroId)) (by rw [hl]; exact hj), hz _ (List.getElem_mem _)]
    have h32 : j % 32 < 32 := Nat.mod_lt _ (by omega)
    simp only [madeCells, Value.cells, Array.toList_map, Array.toList_range, List.getElem?_map, List.getElem?_range hj, Option.map_some]
    have hsz : (bs zeroId).toArray.size = 32 := rfl
    rw [hsz]
    have hget : (bs zeroId).toArray[j % 32]! = .int .u8 0 := by
      have : ∀ k, k < 32 → (bs zeroId).toArray[k]! = .int .u8 0 := by
        intro k hk
        have : (bs zeroId)[k]? = some (.int .u8 0) := by rw [bs_get, show zeroId[k]? = some 0 from by unfold zeroId; rw [List.getElem?_replicate, if_pos hk]]; rfl
        simp [getElem!_def, this]
      exact this _ h32
    rw [hget]
  · rw [List.getElem?_eq_none (by simp [madeCells]; omega), List.getElem?_eq_none (by omega)]
end Go.Proofs.YtjiafaiklmbbeaaDoor
