/- Symbolic states, part 10: a row opened as a block: slices within its room, appends in place, clear. -/
import Derived.Test.YtjiafaiklmbbeaaDoorSl9
import Derived.Laws.CopyRow
namespace Go.Proofs.YtjiafaiklmbbeaaDoor
open Go.RowKit
set_option linter.unusedVariables false
set_option linter.unusedSimpArgs false
theorem rowP_open {e : TypeId} {size : Nat} {v : Value} {n : Nat} {xs : List Value} {h : Hlt} (hr : rowP e size v n xs h) (hn : 0 < n) :
    ∃ q : Nat × Nat × List Value, v = .slice (some ⟨q.1, 0, none⟩) n q.2.1 ∧ n ≤ q.2.1 ∧ q.2.1 ≤ maxLen ∧ q.2.2.length = q.2.1 * size ∧ q.2.2.take (n * size) = xs ∧ blk q.1 e q.2.2 h := by
  obtain ⟨h1, h2⟩ := hr
  rcases h2 with ⟨rfl, rfl⟩ | ⟨g, cap, cur, rfl, hg, hnc, hm, hs, ht⟩
  · omega
  · exact ⟨(g, cap, cur.toList), rfl, hnc, hm, by simpa using hs, ht, by simpa [blk] using hg⟩
theorem rowP_close {e g cap : Nat} {size n : Nat} {cs xs : List Value} {h : Hlt} (hb : blk g e cs h) (hnc : n ≤ cap) (hm : cap ≤ maxLen) (hs : cs.length = cap * size) (hx : cs.take (n * size) = xs) : rowP e size (.slice (some ⟨g, 0, none⟩) n cap) n xs h := by
  have hle := Nat.mul_le_mul_right size hnc
  refine ⟨by rw [← hx, List.length_take]; omega, .inr ⟨g, cap, cs.toArray, rfl, hb, hnc, hm, by simpa using hs, by simpa using hx⟩⟩
theorem blk_rdP {e g cap : Nat} {size n : Nat} {cs xs : List Value} {h : Hlt} (hb : blk g e cs h) (hnc : n ≤ cap) (hs : cs.length = cap * size) (hx : cs.take (n * size) = xs) : rdP size (.slice (some ⟨g, 0, none⟩) n cap) n xs h :=
  blk_rd hb (by simpa using hx) (by rw [← hx, List.length_take]; have := Nat.mul_le_mul_right size hnc; omega) hnc
section
variable {P : Program} {E : Env} {n : Nat} {K : Slots} {L : Res} {o : Oper} {C : Value → Res → Prop} {Q : Exit → Act → World → Prop} {c : Code}
theorem W_openRow (r : Nat) {e : TypeId} {size : Nat} {v : Value} {m : Nat} {xs : List Value} (hr : look L r = some (rowP e size v m xs)) (hm : 0 < m)
    (k : ∀ g cap cs, v = .slice (some ⟨g, 0, none⟩) m cap → m ≤ cap → cap ≤ maxLen → cs.length = cap * size → cs.take (m * size) = xs → W P E n c K ((r, blk g e cs) :: L) Q) : W P E n c K L Q := fun a w hA hS => by
  obtain ⟨q, hS2⟩ := hS.ex hr (fun h hp => rowP_open hp hm)
  obtain ⟨h1, h2, h3, h4, h5⟩ : v = .slice (some ⟨q.1, 0, none⟩) m q.2.1 ∧ m ≤ q.2.1 ∧ q.2.1 ≤ maxLen ∧ q.2.2.length = q.2.1 * size ∧ q.2.2.take (m * size) = xs := hS2.get (look_same _ _ _) fun h hp => ⟨hp.1, hp.2.1, hp.2.2.1, hp.2.2.2.1, hp.2.2.2.2.1⟩
  have hS3 := hS2.cons (P' := blk q.1 e q.2.2) (look_same _ _ _) fun h hp => hp.2.2.2.2.2
  refine k q.1 q.2.1 q.2.2 h1 h2 h3 h4 h5 a w hA (hS3.sub fun r' P' h => ?_)
  by_cases hrr : r = r'
  · subst hrr; rw [look_same] at h ⊢; exact h
  · rw [look_other hrr] at h; rw [look_other hrr, look_other hrr]; exact h
/-- v[a:b:c], only the bounds are asked. -/
theorem Pu_slice3 {t r e size m a b d : Nat} {x lo hi mx : Operand} {v : Value} {xs : List Value} {Pr : HP} {kl kh km : IntKind} (ho : o.op = .slice t x (some lo) (some hi) (some mx)) (hu : ∀ w, (underlying t).run P w = .ok (.slice e) w) (hs : ∀ w, (sizeOf e).run P w = .ok size w)
    (hx : evK K x = some v) (hr : look L r = some Pr) (hrd : ∀ h, Pr h → rdP size v m xs h) (hlo : evK K lo = some (.int kl (a : Int))) (hhi : evK K hi = some (.int kh (b : Int))) (hmx : evK K mx = some (.int km (d : Int))) (hab : a ≤ b) (hbd : b ≤ d) (hdm : d ≤ m) :
    Pure P E n o K L (.slice (if d = a then (match v with | .slice A _ _ => A | _ => none) else (match v with | .slice A _ _ => A.map (·.add (a * size)) | _ => none)) (b - a) (d - a)) := fun ac w hA hS => by
  obtain ⟨A, cp, hv, hmc⟩ : ∃ A c, v = .slice A m c ∧ m ≤ c := hS.get hr (fun h hp => by obtain ⟨_, A, c, h2, h3, _⟩ := hrd h hp; exact ⟨A, c, h2, h3⟩)
  subst hv
  have sb : ∀ (k : IntKind) (a y : Nat) (code : BoundsCode), a ≤ y → (Instr.sliceBound (.int k (a : Int)) y code).run P w = .ok a w := by
    intro k a y code h
    simp only [Instr.sliceBound, asIntOf, Sem.run_bind, Sem.run_pure, Result.andThen_ok]
    rw [if_pos (by omega)]
    simp
  have hb : (Instr.sliceBounds true m cp (some (.int kl (a : Int))) (some (.int kh (b : Int))) (some (.int km (d : Int)))).run P w = .ok (a, b, d) w := by
    unfold Instr.sliceBounds
    simp only [Sem.run_bind, Sem.run_pure, Result.andThen_ok, sb _ _ _ _ (show d ≤ cp by omega), sb _ _ _ _ hbd, sb _ _ _ _ hab]
  simp only [execOp, ho, hA.eval hx, Option.map_some, hA.eval hlo, hA.eval hhi, hA.eval hmx, Sem.run_bind]
  unfold Instr.sliceAt
  simp only [Sem.run_bind, hu, Result.andThen_ok]
  unfold Instr.slice
  simp only [Sem.run_bind, hu, Result.andThen_ok, hb, hs, Sem.run_pure]
/-- v[a:b] of a row opened, within its room. -/
theorem Pu_sliceK {t e size m cap g a b : Nat} {x : Operand} {lo hi : Option Operand} (ho : o.op = .slice t x lo hi none) (hu : ∀ w, (underlying t).run P w = .ok (.slice e) w) (hs : ∀ w, (sizeOf e).run P w = .ok size w)
    (hx : evK K x = some (.slice (some ⟨g, 0, none⟩) m cap)) (hlo : (lo = none ∧ a = 0) ∨ ∃ y k i, lo = some y ∧ evK K y = some (.int k i) ∧ i = (a : Int)) (hhi : (hi = none ∧ b = m) ∨ ∃ y k i, hi = some y ∧ evK K y = some (.int k i) ∧ i = (b : Int)) (hab : a ≤ b) (hbc : b ≤ cap) (hac : a < cap) :
    Pure P E n o K L (.slice (some ⟨g, a * size, none⟩) (b - a) (cap - a)) := fun ac w hA hS => by
  have := run_slice_sub (P := P) w (v := .slice (some ⟨g, 0, none⟩) m cap) rfl hu hs (lo := lo.map ac.eval) (hi := hi.map ac.eval) (a := a) (b := b)
    (by rcases hlo with ⟨rfl, rfl⟩ | ⟨y, k, i, rfl, hy, hi⟩
        · exact .inl ⟨rfl, rfl⟩
        · exact .inr ⟨k, i, by simp [hA.eval hy], hi⟩)
    (by rcases hhi with ⟨rfl, rfl⟩ | ⟨y, k, i, rfl, hy, hi⟩
        · exact .inl ⟨rfl, rfl⟩
        · exact .inr ⟨k, i, by simp [hA.eval hy], hi⟩) hab hbc
  have hv : subV size (.slice (some ⟨g, 0, none⟩) m cap) a b = .slice (some ⟨g, a * size, none⟩) (b - a) (cap - a) := by
    unfold subV
    simp [show ¬ cap = a by omega, addr_add0]
  rw [hv] at this
  simp only [execOp, ho, hA.eval hx, Sem.run_bind, Option.map_none, this]
  rfl
theorem over_nil {α : Type} (cs : List α) (k : Nat) : over cs k [] = cs := by simp [over]
theorem run_append_in (w : World) (t ty e : TypeId) (i : TypeInfo) (ht : P.underlying t = some (.slice e)) (hi : P.info? e = some i) {g k cap : Nat} {te : TypeId} {cs news : List Value} {vy : Value} {m : Nat} (hg : w.heap[g]? = some (.cells cs.toArray te (0, 0))) (hr : Rd w i.size vy m news) (h1 : ∀ u ∈ news, u.oneCell' = true)
    (hroom : k + m ≤ cap) (hfit : (k + m) * i.size ≤ cs.length) :
    (Builtin.append_ #[t, t] ty #[.slice (some ⟨g, 0, none⟩) k cap, vy]).run P w = .ok (.slice (some ⟨g, 0, none⟩) (k + m) cap) (w.setRow g (over cs (k * i.size) news).toArray) := by
  obtain ⟨hl, A, c, rfl, hn, h0, hrd⟩ := hr
  have hfc : (Builtin.firstCells i.size m (.slice A m c)).run P w = .ok news.toArray w := by
    cases A with
    | none =>
      have hm : m = 0 := by have := h0 rfl; omega
      subst hm
      have hn' : news = [] := List.eq_nil_of_length_eq_zero (by simpa using hl)
      subst hn'
      rfl
    | some ad => exact run_firstCells_some (P := P) w i.size m ad m c news hl (hrd ad rfl).2
  have hst := run_storeCells_at P g (k * i.size) te news 0 cs.toArray w hg (by rw [Nat.add_mul] at hfit; simpa [hl] using hfit) h1
  simp only [Nat.add_zero] at hst
  have hov : over cs (k * i.size) news = List.take (k * i.size) cs ++ news ++ List.drop (k * i.size + news.length) cs := by simp [over]
  rw [hov]
  simp [Builtin.append_, run_underlying ht, sizeOf, typeInfo, hi, Builtin.lenOf, hroom, hfc, addr_add0, hst]
/-- append in a row's own room. -/
theorem OpT_appendIn {t r r2 e te g k cap m size : Nat} {x y : Operand} {vy : Value} {cs cs' news : List Value} {P2 : HP} {i : TypeInfo} (ho : o.op = .call { callee := .builtin .append, args := #[x, y], argTypes := #[t, t] }) (ht : P.underlying t = some (.slice e)) (hi : P.info? e = some i) (hsize : i.size = size) (hsz : 0 < size)
    (hx : evK K x = some (.slice (some ⟨g, 0, none⟩) k cap)) (hy : evK K y = some vy) (hr : look L r = some (blk g te cs)) (hr2 : look L r2 = some P2) (hrd : ∀ h, P2 h → rdP size vy m news h) (h1 : ∀ u ∈ news, u.oneCell' = true) (hroom : k + m ≤ cap) (hfit : (k + m) * size ≤ cs.length)
    (hcs : over cs (k * size) news = cs') (hc : C (.slice (some ⟨g, 0, none⟩) (k + m) cap) ((r, blk g te cs') :: L)) : OpT P E n o K L C := fun a w Kc Q hA hS hK => by
  subst hsize
  have hg : w.heap[g]? = some (.cells cs.toArray te (0, 0)) := by
    obtain ⟨h, q1, q2⟩ := hS.read hr
    exact q2 _ _ q1
  obtain ⟨h2, q1, q2⟩ := hS.read hr2
  have hRd := rdP_Rd (hrd h2 q1) q2 hsz
  have hrun := run_append_in (P := P) w t o.type e i ht hi hg hRd h1 hroom hfit
  unfold Oper.wp execOp
  simp only [ho, resolve, invoke, builtin, Sem.run_bind, Sem.run_pure, Result.andThen_ok, List.map_toArray, List.map_cons, List.map_nil, hA.eval hx, hA.eval hy, hrun]
  refine hK _ _ _ hc (hS.setRow hr _ (fun h hp => ⟨_, hp⟩) fun h hh => ?_)
  rw [← hcs]
  exact hh
/-- clear of a part of a row. -/
theorem OpT_clearB {t r e te g off m cap size : Nat} {x : Operand} {cs : List Value} {z : Value} (ho : o.op = .call { callee := .builtin .clear, args := #[x], argTypes := #[t] }) (ht : P.underlying t = some (.slice e)) (hz : ∀ w, (zeroValue e).run P w = .ok z w) (hzs : z.cells.size = size) (hz1 : ∀ u ∈ z.cells.toList, u.oneCell' = true)
    (hx : evK K x = some (.slice (some ⟨g, off, none⟩) m cap)) (hr : look L r = some (blk g te cs)) (hfit : off + m * size ≤ cs.length) (k : ∀ zs, zs.length = m * size → C (.tuple #[]) ((r, blk g te (over cs off zs)) :: L)) : OpT P E n o K L C := fun a w Kc Q hA hS hK => by
  have hg : w.heap[g]? = some (.cells cs.toArray te (0, 0)) := by
    obtain ⟨h, q1, q2⟩ := hS.read hr
    exact q2 _ _ q1
  have hlen : (Builtin.zeroCells z.cells m).toList.length = m * size := by rw [Array.length_toList, size_zeroCells, hzs]
  have hone : ∀ u ∈ (Builtin.zeroCells z.cells m).toList, u.oneCell' = true := by
    intro u hu
    unfold Builtin.zeroCells at hu
    simp only [Array.toList_map, Array.toList_range, List.mem_map, List.mem_range] at hu
    obtain ⟨i, hi, rfl⟩ := hu
    have hp : 0 < z.cells.size := by rcases Nat.eq_zero_or_pos z.cells.size with h | h; rw [h] at hi; simp at hi; exact h
    have hlt : i % z.cells.size < z.cells.size := Nat.mod_lt _ hp
    rw [getElem!_pos z.cells _ hlt]
    exact hz1 _ (by simp)
  by_cases hm : m = 0
  · subst hm
    have hrun : (Builtin.clear_ #[t] o.type #[.slice (some ⟨g, off, none⟩) 0 cap]).run P w = .ok (.tuple #[]) w := by simp [Builtin.clear_, run_underlying ht]
    unfold Oper.wp execOp
    simp only [ho, resolve, invoke, builtin, Sem.run_bind, Sem.run_pure, Result.andThen_ok, List.map_toArray, List.map_cons, List.map_nil, hA.eval hx, hrun]
    have hk := k [] (by simp)
    rw [over_nil] at hk
    exact hK _ _ _ hk (hS.cons hr fun h hp => hp)
  · have hst := run_storeCells_at P g off te (Builtin.zeroCells z.cells m).toList 0 cs.toArray w hg (by rw [hlen]; simpa using hfit) hone
    simp only [Nat.add_zero] at hst
    have hrun : (Builtin.clear_ #[t] o.type #[.slice (some ⟨g, off, none⟩) m cap]).run P w = .ok (.tuple #[]) (w.setRow g (over cs off (Builtin.zeroCells z.cells m).toList).toArray) := by
      have hov : over cs off (Builtin.zeroCells z.cells m).toList = List.take off cs ++ (Builtin.zeroCells z.cells m).toList ++ List.drop (off + (Builtin.zeroCells z.cells m).toList.length) cs := by simp [over]
      rw [hov]
      cases m with
      | zero => exact absurd rfl hm
      | succ m => simp [Builtin.clear_, run_underlying ht, hz, hst]
    unfold Oper.wp execOp
    simp only [ho, resolve, invoke, builtin, Sem.run_bind, Sem.run_pure, Result.andThen_ok, List.map_toArray, List.map_cons, List.map_nil, hA.eval hx, hrun]
    exact hK _ _ _ (k _ hlen) (hS.setRow hr _ (fun h hp => ⟨_, hp⟩) fun h hh => hh)
end
end Go.Proofs.YtjiafaiklmbbeaaDoor
