/- append, make and copy over the words of Mem: at an operation of a plain region, and as one step of a region that draws. -/
import Derived.Test.YtjiafaiklmbbeaaDoorMem
import Derived.Maps.AppendAt
import Derived.OwnWalk
import Derived.RegionTactic
import Derived.Laws.CopyOwn
namespace Go.Proofs.YtjiafaiklmbbeaaDoor
open Go.RowKit
theorem own_form {w : World} {e : TypeId} {size n : Nat} {v : Value} {xs : List Value} (h : w.ownsRow 0 e size v n xs) : ∃ A c, v = .slice A n c ∧ n ≤ c ∧ c ≤ maxLen ∧ (A = none → c = 0) ∧ (∀ ad, A = some ad → ad.off = 0 ∧ ad.spot = none ∧ ad.block < w.heap.size) := by
  obtain ⟨hl, h⟩ := h
  rcases h with ⟨hv, rfl⟩ | ⟨g, cap, cur, hv, hb, hg, hcap, hml, hcs, htk⟩
  · exact ⟨none, 0, hv, Nat.le_refl _, by unfold maxLen; omega, fun _ => rfl, fun ad h => by cases h⟩
  · exact ⟨_, cap, hv, hcap, hml, fun h => (by cases h), fun ad h => by injection h with h; subst h; exact ⟨rfl, rfl, lt_of_heap hg⟩⟩
section
variable {P : Program}

theorem run_append_of_nil (w : World) (base : Nat) (t ty e : TypeId) (i : TypeInfo) (size : Nat) (ht : P.underlying t = some (.slice e)) (hi : P.info? e = some i)
    (v : Value) (n : Nat) (xs : List Value) (hown : w.ownsRow base e size v n xs) (c : Nat) : (Builtin.append_ #[t, t] ty #[v, .slice none 0 c]).run P w = .ok v w := by
  rcases hown.2 with ⟨rfl, rfl⟩ | ⟨g, cap, cur, rfl, _, _, hnc, _⟩
  · simp [Builtin.append_, run_underlying ht, sizeOf, typeInfo, hi, Builtin.lenOf, Builtin.firstCells]
  · simp [Builtin.append_, run_underlying ht, sizeOf, typeInfo, hi, Builtin.lenOf, Builtin.firstCells, hnc, storeCells]

theorem run_append_rd (w : World) (t ty e : TypeId) (i : TypeInfo) (z : Value) (size bytes : Nat) (ht : P.underlying t = some (.slice e)) (hi : P.info? e = some i) (hz : i.zero = some z)
    (hsize : i.size = size) (hby : i.bytes = bytes) (hzs : z.cells.size = size) (hsz : 0 < size)
    (v : Value) (n : Nat) (xs : List Value) (hown : w.ownsRow 0 e size v n xs) (x : Value) (m : Nat) (news : List Value) (hr : Rd w size x m news) (h1 : ∀ u ∈ news, u.oneCell' = true)
    (h63 : n + m ≤ maxLen) (hbytes : (n + m) * bytes ≤ 140737488355328) :
    ∃ v' w', (Builtin.append_ #[t, t] ty #[v, x]).run P w = .ok v' w' ∧ w'.ownsRow 0 e size v' (n + m) (xs ++ news) ∧ Chg v.ownBlock.toList w w' ∧
      (v'.ownBlock = v.ownBlock ∨ v'.ownBlock = some w.heap.size) := by
  obtain ⟨hl, A, c, rfl, hn, h0, hrd⟩ := hr
  cases A with
  | none =>
    have hm : m = 0 := by have := h0 rfl; omega
    subst hm
    have hn' : news = [] := List.eq_nil_of_length_eq_zero (by simpa using hl)
    subst hn'
    exact ⟨v, w, run_append_of_nil w 0 t ty e i size ht hi v n xs hown c, by simpa using hown, Chg.refl _ _, .inl rfl⟩
  | some ad =>
    obtain ⟨_, hc⟩ := hrd ad rfl
    obtain ⟨v', w', hrun, h2, h3, _, h5⟩ := run_append_own_at (P := P) w 0 t ty e i z size bytes ht hi hz hsize hby hzs hsz v n xs hown ad m c news hl hc h1 h63 hbytes (Nat.zero_le _)
    exact ⟨v', w', hrun, h2, (Chg.refl _ w).grown h3 (by intro k hk; left; simp [hk]), h5⟩

theorem wp_append_rd {w : World} {o : Oper} {a : Act} {K : Act → World → Prop} {Q : Exit → Act → World → Prop} (s x : Operand) (t : TypeId)
    (ho : o.op = .call { callee := .builtin .append, args := #[s, x], argTypes := #[t, t] })
    (e : TypeId) (i : TypeInfo) (z : Value) (size bytes : Nat) (ht : P.underlying t = some (.slice e)) (hi : P.info? e = some i) (hz : i.zero = some z)
    (hsize : i.size = size) (hby : i.bytes = bytes) (hzs : z.cells.size = size) (hsz : 0 < size)
    (v : Value) (n : Nat) (xs : List Value) (hs : a.eval s = v) (hown : w.ownsRow 0 e size v n xs)
    (vx : Value) (m : Nat) (news : List Value) (hx : a.eval x = vx) (hr : Rd w size vx m news) (h1 : ∀ u ∈ news, u.oneCell' = true)
    (h63 : n + m ≤ maxLen) (hbytes : (n + m) * bytes ≤ 140737488355328)
    (h : ∀ A' c' w', w'.ownsRow 0 e size (.slice A' (n + m) c') (n + m) (xs ++ news) → Chg v.ownBlock.toList w w' → ((Value.slice A' (n + m) c').ownBlock = v.ownBlock ∨ (Value.slice A' (n + m) c').ownBlock = some w.heap.size) → K (a.put o.dst (.slice A' (n + m) c')) w') : o.wp P a w K Q := by
  obtain ⟨v', w', hrun, h2, h3, h4⟩ := run_append_rd (P := P) w t o.type e i z size bytes ht hi hz hsize hby hzs hsz v n xs hown vx m news hr h1 h63 hbytes
  unfold Oper.wp execOp
  simp only [ho, resolve, invoke, builtin, Sem.run_bind, Sem.run_pure, Result.andThen_ok, List.map_toArray, List.map_cons, List.map_nil, hs, hx, hrun]
  obtain ⟨A', c', rfl, _⟩ := own_form h2
  exact h A' c' w' h2 h3 h4

theorem wpList_append_rd {w : World} {ops : Array Oper} {rest : List Oper} {o : Oper} {a : Act} {Q : Exit → Act → World → Prop} (hgd : o.guard = none) (s x : Operand) (t : TypeId)
    (ho : o.op = .call { callee := .builtin .append, args := #[s, x], argTypes := #[t, t] })
    (e : TypeId) (i : TypeInfo) (z : Value) (size bytes : Nat) (ht : P.underlying t = some (.slice e)) (hi : P.info? e = some i) (hz : i.zero = some z)
    (hsize : i.size = size) (hby : i.bytes = bytes) (hzs : z.cells.size = size) (hsz : 0 < size)
    (v : Value) (n : Nat) (xs : List Value) (hs : a.eval s = v) (hown : w.ownsRow 0 e size v n xs)
    (vx : Value) (m : Nat) (news : List Value) (hx : a.eval x = vx) (hr : Rd w size vx m news) (h1 : ∀ u ∈ news, u.oneCell' = true)
    (h63 : n + m ≤ maxLen) (hbytes : (n + m) * bytes ≤ 140737488355328)
    (h : ∀ A' c' w', w'.ownsRow 0 e size (.slice A' (n + m) c') (n + m) (xs ++ news) → Chg v.ownBlock.toList w w' → ((Value.slice A' (n + m) c').ownBlock = v.ownBlock ∨ (Value.slice A' (n + m) c').ownBlock = some w.heap.size) → wpList P ops Q rest (a.put o.dst (.slice A' (n + m) c')) w') : wpList P ops Q (o :: rest) a w :=
  wpList_plain hgd fun _ hK => wp_append_rd s x t ho e i z size bytes ht hi hz hsize hby hzs hsz v n xs hs hown vx m news hx hr h1 h63 hbytes fun A' c' w' h2 h3 h4 => hK _ _ (h A' c' w' h2 h3 h4)

theorem step_append_rd {w : World} {ops : Array Oper} {o : Oper} {a : Act} {K : Act → World → Prop} {Q : Exit → Act → World → Prop} {E : Prop} (hgd : o.guard = none) (s x : Operand) (t : TypeId)
    (ho : o.op = .call { callee := .builtin .append, args := #[s, x], argTypes := #[t, t] })
    (e : TypeId) (i : TypeInfo) (z : Value) (size bytes : Nat) (ht : P.underlying t = some (.slice e)) (hi : P.info? e = some i) (hz : i.zero = some z)
    (hsize : i.size = size) (hby : i.bytes = bytes) (hzs : z.cells.size = size) (hsz : 0 < size)
    (v : Value) (n : Nat) (xs : List Value) (hs : a.eval s = v) (hown : w.ownsRow 0 e size v n xs)
    (vx : Value) (m : Nat) (news : List Value) (hx : a.eval x = vx) (hr : Rd w size vx m news) (h1 : ∀ u ∈ news, u.oneCell' = true)
    (h63 : n + m ≤ maxLen) (hbytes : (n + m) * bytes ≤ 140737488355328)
    (h : ∀ A' c' w', w'.ownsRow 0 e size (.slice A' (n + m) c') (n + m) (xs ++ news) → Chg v.ownBlock.toList w w' → ((Value.slice A' (n + m) c').ownBlock = v.ownBlock ∨ (Value.slice A' (n + m) c').ownBlock = some w.heap.size) → K (a.put o.dst (.slice A' (n + m) c')) w') :
    if Region.wanted o (yielded ops a.tmps) = true then Oper.wp P o a w K Q else E := by
  have hw : Region.wanted o (yielded ops a.tmps) = true := by simp [Region.wanted, hgd]
  rw [if_pos hw]
  exact wp_append_rd s x t ho e i z size bytes ht hi hz hsize hby hzs hsz v n xs hs hown vx m news hx hr h1 h63 hbytes h

/-- make([]T, n), one cell an element: n zero elements are owned, in a new block. -/
theorem wpList_make_rd {w : World} {ops : Array Oper} {rest : List Oper} {o : Oper} {a : Act} {Q : Exit → Act → World → Prop}
    (hg : o.guard = none) (l c : Operand) (t : TypeId) (hop : o.op = Op.makeSlice t l c)
    (e : TypeId) (i : TypeInfo) (z : Value) (h1 : P.underlying t = some (.slice e)) (h2 : P.info? e = some i) (h3 : i.zero = some z) (h4 : i.size = 1) (hz : z.cells = #[z])
    (kl kc : IntKind) (L C : Int) (n : Nat) (hl : a.eval l = .int kl L) (hc : a.eval c = .int kc C) (hL : L = (n : Int)) (hC : C = (n : Int)) (b2 : i.bytes * n ≤ 281474976710656) (b3 : n ≤ maxLen)
    (hK : ∀ w', w'.ownsRow 0 e 1 (.slice (some ⟨w.heap.size, 0, none⟩) n n) n (List.replicate n z) → Chg [] w w' → wpList P ops Q rest (a.put o.dst (.slice (some ⟨w.heap.size, 0, none⟩) n n)) w') : wpList P ops Q (o :: rest) a w := by
  refine wpList_make_full w hg l c t hop 0 e i z 1 h1 h2 h3 h4 kl kc L C n hl hc hL hC b2 b3 (Nat.zero_le _) fun w' hown hgr => hK w' ?_ ((Chg.refl _ w).grown hgr (by simp))
  rw [hz, toList_madeCells_one] at hown
  simpa using hown

/-- copy(d, s), d a whole row of the call's own, one cell an element, s whatever reads. -/
theorem wpList_copy_rd {w : World} {ops : Array Oper} {rest : List Oper} {o : Oper} {a : Act} {Q : Exit → Act → World → Prop} (hgd : o.guard = none) (d s : Operand) (dT sT : TypeId)
    (ho : o.op = .call { callee := .builtin .copy, args := #[d, s], argTypes := #[dT, sT] }) (e : TypeId) (hu : P.underlying dT = some (.slice e)) (hsz : (P.info? e).map (·.size) = some 1)
    (vd vs : Value) (hd : a.eval d = vd) (hs : a.eval s = vs) (n m : Nat) (cur news : List Value) (hown : w.ownsRow 0 e 1 vd n cur) (hr : Rd w 1 vs m news) (h1 : ∀ u ∈ news, u.oneCell' = true)
    (h : ∀ w', w'.ownsRow 0 e 1 vd n (news.take (min m n) ++ cur.drop (min m n)) → Chg vd.ownBlock.toList w w' → wpList P ops Q rest (a.put o.dst (goInt ((min m n : Nat) : Int))) w') : wpList P ops Q (o :: rest) a w := by
  obtain ⟨hl, A, c, rfl, hmc, h0, hrd⟩ := hr
  obtain ⟨hlc, hown2⟩ := hown
  by_cases h00 : min m n = 0
  · have hd2 : ∃ A' c', vd = .slice A' n c' := by
      rcases hown2 with ⟨rfl, rfl⟩ | ⟨g, cap, cur', rfl, _⟩
      all_goals exact ⟨_, _, rfl⟩
    obtain ⟨A', c', rfl⟩ := hd2
    refine wpList_copy_nothing hgd d s dT sT ho e hu hsz A' A n c' m c hd hs (by simpa [Nat.min_def] using h00) ?_
    have := h w (by rw [h00]; simpa using ⟨hlc, hown2⟩) (Chg.refl _ _)
    rw [h00] at this
    exact this
  · have hm0 : 0 < m := by omega
    have hn0 : 0 < n := by omega
    rcases hown2 with ⟨rfl, rfl⟩ | ⟨g, cap, cur', rfl, hb, hg, hcap, hml, hcs, htk⟩
    · omega
    · cases A with
      | none => have := h0 rfl; omega
      | some ad =>
        obtain ⟨hlt, hc⟩ := hrd ad rfl
        have hln : (news.take (min m n)).length = Nat.min m n := by simp [hl, Nat.min_def]; split <;> omega
        refine wpList_copy_own hgd d s dT sT ho e hu hsz g 0 n cap ad m c hd hs cur' e hg (news.take (min m n)) hln ?_ ?_ (fun v hv => h1 v (List.mem_of_mem_take hv)) ?_
        · intro j v hj
          rw [List.getElem?_take] at hj
          split at hj
          · exact hc j v hj
          · cases hj
        · rw [hln]; show 0 + min m n ≤ cur'.size; omega
        · have hln2 : (news.take (min m n)).length = min m n := hln
          rw [hln2]
          refine h _ ?_ ?_
          · refine ⟨by simp [hlc, hl]; omega, .inr ⟨g, cap, _, rfl, Nat.zero_le _, setRow_heap w g cur' _ e _ hg, hcap, hml, ?_, ?_⟩⟩
            · simp [hl]; omega
            · simp only [Nat.mul_one] at htk ⊢
              rw [← htk]
              simp only [List.take_zero, List.nil_append, Nat.zero_add]
              rw [List.take_append]
              rw [List.take_of_length_le (by omega), List.drop_take, hln2]
          · refine ⟨rfl, rfl, rfl, by simp, fun k _ hk => setRow_other w g k _ (fun e => hk (by simp [Value.ownBlock, e]))⟩
end

/-- A slice that is cut at its end: v[:k]. -/
theorem own_cut {w : World} {e : TypeId} {size n : Nat} {A : Option Addr} {c : Nat} {xs : List Value} (h : w.ownsRow 0 e size (.slice A n c) n xs) {k : Nat} (hk : k ≤ n) : w.ownsRow 0 e size (.slice A k c) k (xs.take (k * size)) := by
  obtain ⟨hl, h⟩ := h
  refine ⟨by rw [List.length_take, hl]; exact Nat.min_eq_left (Nat.mul_le_mul_right _ hk), ?_⟩
  rcases h with ⟨hv, rfl⟩ | ⟨g, cap, cur, hv, hb, hg, hcap, hml, hcs, htk⟩
  · injection hv with h1 h2 h3
    subst h1; subst h3
    have : k = 0 := by omega
    subst this
    exact .inl ⟨rfl, rfl⟩
  · injection hv with h1 h2 h3
    subst h1; subst h3
    refine .inr ⟨g, c, cur, rfl, hb, hg, by omega, hml, hcs, ?_⟩
    rw [← htk, List.take_take]
    congr 1
    exact (Nat.min_eq_left (Nat.mul_le_mul_right _ hk)).symm
end Go.Proofs.YtjiafaiklmbbeaaDoor
