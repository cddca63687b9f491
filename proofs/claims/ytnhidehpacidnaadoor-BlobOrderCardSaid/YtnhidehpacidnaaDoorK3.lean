/- Texts of this proof, one behind the other: Sl15, NamesC, DirB, DirC, DirD, Dir1, DirE, Pack, Names3, Open, Open2. -/
import Derived.Test.YtnhidehpacidnaaDoorK2
import Derived.Deep.AppendSrc
import Derived.Lib.AppendZerosOnto
import Derived.Deep.Upon
import Derived.Test.YtnhidehpacidnaaDoorK1
import Derived.ProofKit
import Derived.Deep.Slices
import Derived.Deep.Fields
import Derived.ChangeOld
import Derived.OpenShut
/- Symbolic states, part 15: a string's bytes, and zeros, appended to a row. -/
namespace Go.Proofs.YtnhidehpacidnaaDoor
open Go.RowKit
set_option linter.unusedVariables false
set_option linter.unusedSimpArgs false
section
variable {P : Program} {w : World}
theorem own_append {R : Result Value} {e : TypeId} {i : TypeInfo} {z : Value} (hzs : z.cells.size = i.size) (hsz : 0 < i.size) {v : Value} {n : Nat} {xs : List Value} (hown : w.ownsRow 0 e i.size v n xs) {m : Nat} {news : List Value} (hl : news.length = m * i.size) (h63 : n + m ≤ maxLen)
    (hroom : ∀ g cap cur, v = .slice (some ⟨g, 0, none⟩) n cap → w.heap[g]? = some (.cells cur e (0, 0)) → n + m ≤ cap → n * i.size + news.length ≤ cur.size → R = .ok (.slice (some ⟨g, 0, none⟩) (n + m) cap) (w.setRow g (cur.toList.take (n * i.size) ++ news ++ cur.toList.drop (n * i.size + news.length)).toArray))
    (hgrow : ∀ ba cap, v = .slice ba n cap → cap < n + m → (Builtin.firstCells i.size n v).run P w.drew = .ok xs.toArray w.drew → R = .ok (.slice (some ⟨w.heap.size, 0, none⟩) (n + m) (grownCap w (n + m) cap e)) (w.drew.alloc (.cells (xs.toArray ++ news.toArray ++ Builtin.zeroCells z.cells (grownCap w (n + m) cap e - (n + m))) e)))
    (hnone : m = 0 → v = .slice none 0 0 → R = .ok (.slice none 0 0) w) :
    ∃ v' w', R = .ok v' w' ∧ w'.ownsRow 0 e i.size v' (n + m) (xs ++ news) ∧ Chg v.ownBlock.toList w w' ∧ (v'.ownBlock = v.ownBlock ∨ v'.ownBlock = some w.heap.size) := by
  have hlen : (xs ++ news).length = (n + m) * i.size := by rw [List.length_append, hown.1, hl, Nat.add_mul]
  have grown : ∀ (old : Nat), old < n + m → 
      (w.drew.alloc (.cells (xs.toArray ++ news.toArray ++ Builtin.zeroCells z.cells (grownCap w (n + m) old e - (n + m))) e)).ownsRow 0 e i.size
        (.slice (some ⟨w.heap.size, 0, none⟩) (n + m) (grownCap w (n + m) old e)) (n + m) (xs ++ news) := by
    intro old ho
    have hge := grownCap_ge w (n + m) old e
    have hcm : grownCap w (n + m) old e ≤ maxLen := grownCap_le_maxLen w (n + m) old e h63
    refine ⟨hlen, .inr ⟨w.heap.size, _, _, rfl, Nat.zero_le _, heap_alloc_new w.drew _, hge, hcm, ?_, ?_⟩⟩
    · simp only [Array.size_append, List.size_toArray, size_zeroCells, hzs, hown.1, hl, ← Nat.add_mul]
      congr 1
      omega
    · simp only [Array.toList_append, List.append_assoc]
      rw [← List.append_assoc, ← hlen]
      exact List.take_left
  have hch : ∀ (cs : Array Value) (bl : List Nat), Chg bl w (w.drew.alloc (.cells cs e)) := fun cs bl => ⟨rfl, rfl, rfl, by simp, fun k hk _ => heap_alloc_old w.drew _ hk⟩
  rcases hown.2 with ⟨rfl, rfl⟩ | ⟨g, cap, cur, rfl, hbg, hg, hnc, hcm, hcs, htake⟩
  · have hx : xs = [] := List.eq_nil_of_length_eq_zero (by simpa using hown.1)
    subst hx
    by_cases hm : m = 0
    · subst hm
      have hn : news = [] := List.eq_nil_of_length_eq_zero (by simpa using hl)
      subst hn
      exact ⟨.slice none 0 0, w, hnone rfl rfl, World.ownsRow_nil w 0 e i.size, Chg.refl _ _, .inl rfl⟩
    · have hr := hgrow none 0 rfl (by omega) (run_firstCells_none w.drew i.size 0 0 0)
      exact ⟨_, _, hr, grown 0 (by omega), hch _ _, .inr rfl⟩
  · by_cases hroom' : n + m ≤ cap
    · have hfit : n * i.size + news.length ≤ cur.size := by rw [hl, hcs, ← Nat.add_mul]; exact Nat.mul_le_mul_right _ hroom'
      have hr := hroom g cap cur rfl hg hroom' hfit
      refine ⟨_, _, hr, ⟨hlen, .inr ⟨g, cap, _, rfl, hbg, setRow_heap w g cur _ e _ hg, hroom', hcm, ?_, ?_⟩⟩, ⟨rfl, rfl, rfl, by simp [World.setRow], fun k _ hk => setRow_other w g k _ (by simpa [Value.ownBlock] using hk)⟩, .inl rfl⟩
      · simp only [List.size_toArray, List.length_append, List.length_take, List.length_drop, Array.length_toList]
        omega
      · rw [htake, ← hlen]
        exact List.take_left
    · have holds : ∀ j u, xs[j]? = some u → w.cell? ((⟨g, 0, none⟩ : Addr).add j) = some u := hown.cells (g := g) rfl
      have hr := hgrow (some ⟨g, 0, none⟩) cap rfl (by omega) (run_firstCells_some w.drew i.size n ⟨g, 0, none⟩ n cap xs hown.1 (by simpa using holds))
      exact ⟨_, _, hr, grown cap (by omega), hch _ _, .inr rfl⟩
theorem run_append_str (t tx ty e : TypeId) (i : TypeInfo) (z : Value) (ht : P.underlying t = some (.slice e)) (hk : P.underlying tx = some .string) (hi : P.info? e = some i) (hz : i.zero = some z) (hsize : i.size = 1) (hby : i.bytes = 1) (hzs : z.cells.size = 1)
    {v : Value} {n : Nat} {xs : List Value} (hown : w.ownsRow 0 e 1 v n xs) (l : List UInt8) (h63 : n + l.length ≤ maxLen) (hbytes : n + l.length ≤ 140737488355328) :
    ∃ v' w', (Builtin.append_ #[t, tx] ty #[v, sV l]).run P w = .ok v' w' ∧ w'.ownsRow 0 e 1 v' (n + l.length) (xs ++ bs l) ∧ Chg v.ownBlock.toList w w' ∧ (v'.ownBlock = v.ownBlock ∨ v'.ownBlock = some w.heap.size) := by
  have hb : byteCells (strB l) = bs l := by simp [byteCells, strB, bs, bv]
  have hsl : (strB l).size = l.length := strB_size l
  have hsrc := Src.ofString (P := P) w hk (strB l)
  rw [hb, hsl] at hsrc
  have hown' : w.ownsRow 0 e i.size v n xs := by rw [hsize]; exact hown
  have := own_append (P := P) (R := (Builtin.append_ #[t, tx] ty #[v, sV l]).run P w) (z := z) (by rw [hzs, hsize]) (by omega) hown' (m := l.length) (news := bs l) (by rw [bs_length, hsize, Nat.mul_one]) h63
    (fun g cap cur hv hg hroom hfit => by
      subst hv
      have hst := run_storeCells_at P g (n * i.size) e (bs l) 0 cur w hg (by simpa using hfit) (bs_one _)
      simp only [Nat.add_zero] at hst
      have hf : (Builtin.firstCells i.size l.length (sV l)).run P w = .ok (bs l).toArray w := by
        have := firstCells_string (P := P) (strB l) w
        rwa [hb, hsl, ← hsize] at this
      simp [Builtin.append_, run_underlying ht, run_underlying hk, sizeOf, typeInfo, hi, Builtin.lenOf, hsl, hroom, hf, Addr.add_lit, hst])
    (fun ba cap hv hc hold => by
      subst hv
      have h := run_append_grow_src (P := P) w t tx ty e i z ht hi hz ba n cap xs hold (sV l) l.length (bs l) (hsize ▸ hsrc) hc (by unfold maxLen at h63; omega) (growslice_fits (by omega) (by rw [hby]; omega))
      rw [h]
      simp)
    (fun hm hv => by
      subst hv
      have hl0 : l = [] := List.eq_nil_of_length_eq_zero hm
      subst hl0
      exact run_append_nothing w t tx ty e i ht hi none 0 0 (Nat.le_refl _) _ (by rw [hsize]; exact hsrc))
  rw [hsize] at this
  exact this
theorem zeros_one (z : Value) (k : Nat) (h : z.cells = #[z]) : Builtin.zeroCells z.cells k = (List.replicate k z).toArray := by
  unfold Builtin.zeroCells
  rw [h]
  apply Array.ext'
  simp only [Array.toList_map, Array.toList_range, List.size_toArray, List.length_cons, List.length_nil, Nat.mul_one]
  apply List.ext_getElem?
  intro j
  simp only [List.getElem?_map]
  by_cases hj : j < k
  · rw [show k * (0 + 1) = k by omega, List.getElem?_range hj, List.getElem?_replicate, if_pos hj]
    simp [Nat.mod_one]
  · rw [List.getElem?_replicate, if_neg hj, List.getElem?_eq_none (by simp; omega)]
    rfl
/-- append of zeros, one cell each. -/
theorem run_append_zeros (t tx ty e : TypeId) (i : TypeInfo) (z : Value) {kq kn : IntKind} (ht : P.underlying t = some (.slice e)) (hk : P.underlying tx = some (.int kn)) (hi : P.info? e = some i) (hz : i.zero = some z) (hsize : i.size = 1) (hby : i.bytes = 1) (hz1 : z.oneCell' = true)
    {v : Value} {n : Nat} {xs : List Value} (hown : w.ownsRow 0 e 1 v n xs) (m : Nat) (h0 : 0 < m) (h63 : n + m ≤ maxLen) (hbytes : n + m ≤ 140737488355328) :
    ∃ v' w', (Builtin.append_ #[t, tx] ty #[v, .int kq (m : Int)]).run P w = .ok v' w' ∧ w'.ownsRow 0 e 1 v' (n + m) (xs ++ List.replicate m z) ∧ Chg v.ownBlock.toList w w' ∧ (v'.ownBlock = v.ownBlock ∨ v'.ownBlock = some w.heap.size) := by
  have hown' : w.ownsRow 0 e i.size v n xs := by rw [hsize]; exact hown
  have hzc : z.cells = #[z] := cells_one hz1
  have hw : IntKind.i64.wrap (m : Int) = m := by rw [IntKind.wrap_i64]; unfold maxLen at h63; omega
  have hneg : ¬ ((m : Int) < 0) := by omega
  have h48i : ¬ (281474976710656 < (m : Int) * (i.bytes : Int)) := by rw [hby]; omega
  have hzr := zeros_one z m hzc
  have h1 : ∀ u ∈ List.replicate m z, u.oneCell' = true := fun u hu => by rw [List.eq_of_mem_replicate hu]; exact hz1
  have := own_append (P := P) (R := (Builtin.append_ #[t, tx] ty #[v, .int kq (m : Int)]).run P w) (z := z) (by rw [hzc, hsize]; rfl) (by omega) hown' (m := m) (news := List.replicate m z) (by rw [List.length_replicate, hsize, Nat.mul_one]) h63
    (fun g cap cur hv hg hroom hfit => by
      subst hv
      have hst := run_storeCells_at P g (n * i.size) e (List.replicate m z) 0 cur w hg (by simpa using hfit) h1
      simp only [Nat.add_zero] at hst
      have hns : ¬ (m * i.size = 0) := Nat.mul_ne_zero (by omega) (by omega)
      simp [Builtin.append_, run_underlying ht, run_underlying hk, sizeOf, typeInfo, zeroValue, hi, hz, asInt, asIntOf, hw, hneg, h48i, hns, hroom, hzr, Addr.add_lit, hst])
    (fun ba cap hv hc hold => by
      subst hv
      have h := Lib.run_append_grow_zeros (P := P) w t tx ty e i z kq kn ht hk hi hz ba n cap xs hold m h0 (by omega) hc (by unfold maxLen at h63; omega) (by rw [hby]; omega) (growslice_fits (by omega) (by rw [hby]; omega))
      rw [h, hzr])
    (fun hm hv => absurd hm (by omega))
  rw [hsize] at this
  exact this
end
section
variable {P : Program} {E : Env} {n : Nat} {K : Slots} {L : Res} {o : Oper} {C : Value → Res → Prop}
theorem OpT_appendStr {t tx r k1 e : Nat} {x y : Operand} {v : Value} {xs : List Value} {l : List UInt8} {i : TypeInfo} {z : Value}
    (ho : o.op = .call { callee := .builtin .append, args := #[x, y], argTypes := #[t, tx] }) (ht : P.underlying t = some (.slice e)) (hk : P.underlying tx = some .string) (hi : P.info? e = some i) (hz : i.zero = some z)
    (hsize : i.size = 1) (hby : i.bytes = 1) (hzs : z.cells.size = 1) (hx : evK K x = some v) (hy : evK K y = some (sV l)) (hr : look L r = some (rowP e 1 v k1 xs))
    (h63 : k1 + l.length ≤ maxLen) (hbytes : k1 + l.length ≤ 140737488355328)
    (k : ∀ v', C v' ((r, rowP e 1 v' (k1 + l.length) (xs ++ bs l)) :: L)) : OpT P E n o K L C := fun a w Kc Q hA hS hK => by
  obtain ⟨h3, q3, q4⟩ := hS.read hr
  have hOwn := rowP_own q3 q4
  obtain ⟨v', w', hrun, g1, g2, g3⟩ := run_append_str (P := P) t tx o.type e i z ht hk hi hz hsize hby hzs hOwn l h63 hbytes
  unfold Oper.wp execOp
  simp only [ho, resolve, invoke, builtin, Sem.run_bind, Sem.run_pure, Result.andThen_ok, List.map_toArray, List.map_cons, List.map_nil, hA.eval hx, hA.eval hy, hrun]
  refine hK _ _ _ (k v') (hS.step hr fun h hp hin => ?_)
  obtain ⟨h', c1, c2, c3⟩ := rowP_of_own g1
  refine ⟨v.ownBlock.toList, h', ?_, g2, c1, c2, fun g hg => ?_⟩
  · intro k hk
    simp at hk
    exact rowP_block hp hk
  · have hb := c3 g hg
    rcases g3 with h4 | h4
    · left; exact rowP_block hp (h4 ▸ hb)
    · right; rw [h4] at hb; injection hb with hb; omega
theorem OpT_appendZ {t tx r k1 m e : Nat} {kq kn : IntKind} {x y : Operand} {v : Value} {xs : List Value} {q : Int} {i : TypeInfo} {z : Value}
    (ho : o.op = .call { callee := .builtin .append, args := #[x, y], argTypes := #[t, tx] }) (ht : P.underlying t = some (.slice e)) (hk : P.underlying tx = some (.int kn)) (hi : P.info? e = some i) (hz : i.zero = some z)
    (hsize : i.size = 1) (hby : i.bytes = 1) (hz1 : z.oneCell' = true) (hx : evK K x = some v) (hy : evK K y = some (.int kq q)) (hq : q = (m : Int)) (hr : look L r = some (rowP e 1 v k1 xs)) (h0 : 0 < m)
    (h63 : k1 + m ≤ maxLen) (hbytes : k1 + m ≤ 140737488355328)
    (k : ∀ v', C v' ((r, rowP e 1 v' (k1 + m) (xs ++ List.replicate m z)) :: L)) : OpT P E n o K L C := fun a w Kc Q hA hS hK => by
  subst hq
  obtain ⟨h3, q3, q4⟩ := hS.read hr
  have hOwn := rowP_own q3 q4
  obtain ⟨v', w', hrun, g1, g2, g3⟩ := run_append_zeros (P := P) (kq := kq) (kn := kn) t tx o.type e i z ht hk hi hz hsize hby hz1 hOwn m h0 h63 hbytes
  unfold Oper.wp execOp
  simp only [ho, resolve, invoke, builtin, Sem.run_bind, Sem.run_pure, Result.andThen_ok, List.map_toArray, List.map_cons, List.map_nil, hA.eval hx, hA.eval hy, hrun]
  refine hK _ _ _ (k v') (hS.step hr fun h hp hin => ?_)
  obtain ⟨h', c1, c2, c3⟩ := rowP_of_own g1
  refine ⟨v.ownBlock.toList, h', ?_, g2, c1, c2, fun g hg => ?_⟩
  · intro k hk
    simp at hk
    exact rowP_block hp hk
  · have hb := c3 g hg
    rcases g3 with h4 | h4
    · left; exact rowP_block hp (h4 ▸ hb)
    · right; rw [h4] at hb; injection hb with hb; omega
end
end Go.Proofs.YtnhidehpacidnaaDoor
/- latticeref3: a name is checked. -/
namespace Go.Proofs.YtnhidehpacidnaaDoor
open Go.RowKit Go.Lib
set_option linter.unusedVariables false
set_option linter.unusedSimpArgs false

theorem wrongR_ref (b : Bool) (r : Nat) : (((b || decide ((r : Int) = 47)) || decide ((r : Int) < 32)) || decide ((r : Int) = 127)) = (b || wrongR r) := by
  rw [← wrongR_eq]
  cases b <;> simp
  cases decide ((r : Int) = 47) <;> simp
theorem oneR_zero {l : List UInt8} (h : decide (((oneR l).2 : Int) = 0) = true) : noRune l = true := by
  cases hn : noRune l with
  | true => rfl
  | false =>
    have h2 := of_decide_eq_true h
    unfold oneR at h2
    rw [hn] at h2
    have := decodeL_width l
    simp at h2
    omega
theorem oneR_pos {l : List UInt8} (h : decide (((oneR l).2 : Int) = 0) = false) : noRune l = false := by
  cases hn : noRune l with
  | false => rfl
  | true =>
    have h2 := of_decide_eq_false h
    unfold oneR at h2
    rw [hn] at h2
    simp at h2
theorem one_rspec (l : List UInt8) (i : Nat) (hi : i < l.length) (hl : l.length ≤ 140737488355328) (F : HP) : CallsS Tryd.prog 27 #[sV l, .int .i64 (i : Int)] F [] (fun v Ps => v = .tuple #[.int .i32 ((oneR (l.drop i)).1 : Int), .int .i64 ((oneR (l.drop i)).2 : Int)] ∧ Ps = []) := by
  have hne : l.drop i ≠ [] := by intro hc; have := congrArg List.length hc; simp at this; omega
  have hg0 : (l.drop i).getD 0 0 = at0 l i := by rw [at0_drop]; rfl
  have hb256 := (at0 l i).toNat_lt
  refine callsS_enter Tryd.func27 rfl Tryd.ntmps27 (by simp) (fun E => ?_)
  refine W_seq ?_
  refine W.pre (K' := [(0, _), (1, _)]) (L' := [(0, _)]) ?_ ⟨rfl, ⟨rfl, trivial⟩⟩ ⟨rfl, trivial⟩
  refine W_regL (WL_pure rfl rfl (by decide) (Pu_assign rfl rfl) (WL_pure rfl rfl (by decide) (Pu_assign rfl rfl) (WL_nil (X_then ?_))))
  refine W_seq ?_
  refine W.pre (K' := [(0, _), (1, _), (4, _), (5, _)]) (L' := [(0, _)]) ?_ ⟨rfl, ⟨rfl, ⟨rfl, ⟨rfl, trivial⟩⟩⟩⟩ ⟨rfl, trivial⟩
  refine W_regL (WL_pure rfl rfl (by decide) (Pu_move rfl rfl) (WL_pure rfl rfl (by decide) (Pu_move rfl rfl) (WL_pure rfl rfl (by decide) (Pu_idxStrN (i) rfl Tryd.underlying9 rfl rfl rfl hi) (WL_pure rfl rfl (by decide) (Pu_assign rfl rfl) (WL_nil (X_then ?_))))))
  refine W_seq ?_
  refine W.pre (K' := [(0, _), (1, _), (4, _), (5, _), (6, _)]) (L' := [(0, _)]) ?_ ⟨rfl, ⟨rfl, ⟨rfl, ⟨rfl, ⟨rfl, trivial⟩⟩⟩⟩⟩ ⟨rfl, trivial⟩
  refine W_regL (WL_pure rfl rfl (by decide) (Pu_assign rfl rfl) (WL_pure rfl rfl (by decide) (Pu_assign rfl rfl) (WL_nil (X_then ?_))))
  refine W_seq ?_
  refine W_block ?_
  refine W_seq ?_
  refine W.pre (K' := [(0, _), (1, _), (4, _), (5, _), (6, _), (7, _), (8, _)]) (L' := [(0, _)]) ?_ ⟨rfl, ⟨rfl, ⟨rfl, ⟨rfl, ⟨rfl, ⟨rfl, ⟨rfl, trivial⟩⟩⟩⟩⟩⟩⟩ ⟨rfl, trivial⟩
  refine W_regL (WL_pure rfl rfl (by decide) (Pu_move rfl rfl) (WL_pure rfl rfl (by decide) (Pu_bin rfl rfl rfl (run_lss _ _ _ _ _ _)) (WL_pure rfl rfl (by decide) (Pu_assign rfl rfl) (WL_nil (X_then ?_)))))
  refine W_cond rfl (fun hc13 => ?_) (fun hc13 => ?_)
  ·
    have h128 : (at0 l i).toNat < 128 := by have := of_decide_eq_true hc13; omega
    refine W_seq ?_
    refine W.pre (K' := [(0, _), (1, _), (4, _), (5, _), (6, _), (7, _), (8, _), (13, _)]) (L' := [(0, _)]) ?_ ⟨rfl, ⟨rfl, ⟨rfl, ⟨rfl, ⟨rfl, ⟨rfl, ⟨rfl, ⟨rfl, trivial⟩⟩⟩⟩⟩⟩⟩⟩ ⟨rfl, trivial⟩
    refine W_regL (WL_pure rfl rfl (by decide) (Pu_move rfl rfl) (WL_pure rfl rfl (by decide) (Pu_conv rfl rfl (conv_u8 _ Tryd.runUnderlying5 Tryd.runUnderlying21)) (WL_pure rfl rfl (by decide) (Pu_assign rfl rfl) (WL_pure rfl rfl (by decide) (Pu_assign rfl rfl) (WL_nil (X_then ?_))))))
    refine W_ret (X_block_ret (X_then_ret ?_))
    have hs : oneR (l.drop i) = ((at0 l i).toNat, 1) := (oneM_eq _ hne).symm.trans ((oneM_ascii (by rw [hg0]; exact h128)).trans (by rw [hg0]))
    exact X_ret [] (Ps := []) (res2 Tryd.results27 rfl rfl) rfl (by decide) ⟨by rw [hs] <;> rfl, rfl⟩
  ·
    have h128 : ¬ (at0 l i).toNat < 128 := by have := of_decide_eq_false hc13; omega
    refine W_seq ?_
    refine W.pre (K' := [(0, _), (1, _), (4, _), (5, _), (6, _), (7, _), (8, _), (13, _)]) (L' := [(0, _)]) ?_ ⟨rfl, ⟨rfl, ⟨rfl, ⟨rfl, ⟨rfl, ⟨rfl, ⟨rfl, ⟨rfl, trivial⟩⟩⟩⟩⟩⟩⟩⟩ ⟨rfl, trivial⟩
    refine W_regL (WL_pure rfl rfl (by decide) (Pu_move rfl rfl) (WL_pure rfl rfl (by decide) (Pu_bin rfl rfl rfl (run_geq _ _ _ _ _ _)) (WL_pure rfl rfl (by decide) (Pu_move rfl rfl) (WL_guardP rfl rfl rfl rfl (by decide) (fun hb => (Pu_move rfl rfl)) (WL_guardP rfl rfl rfl rfl (by decide) (fun hb => (Pu_bin rfl (ev_gv rfl hb) rfl (run_lss _ _ _ _ _ _))) (WL_pure rfl rfl (by decide) (Pu_and rfl rfl rfl) (WL_pure rfl rfl (by decide) (Pu_assign rfl rfl) (WL_nil (X_then ?_)))))))))
    refine W_cond rfl (fun hc18 => ?_) (fun hc18 => ?_)
    ·
      simp only [Bool.and_eq_true, decide_eq_true_eq] at hc18
      refine W.pre (K' := [(0, _), (1, _), (4, _), (5, _), (6, _), (7, _), (8, _), (13, _), (18, _)]) (L' := [(0, _)]) ?_ ⟨rfl, ⟨rfl, ⟨rfl, ⟨rfl, ⟨rfl, ⟨rfl, ⟨rfl, ⟨rfl, ⟨rfl, trivial⟩⟩⟩⟩⟩⟩⟩⟩⟩ ⟨rfl, trivial⟩
      refine W_regL (WL_pure rfl rfl (by decide) (Pu_move rfl rfl) (WL_pure rfl rfl (by decide) (Pu_bin rfl rfl rfl (run_and31 _ _ _ _)) (WL_pure rfl rfl (by decide) (Pu_conv rfl rfl (conv_small _ (by omega) Tryd.runUnderlying5 Tryd.runUnderlying21)) (WL_pure rfl rfl (by decide) (Pu_assign rfl rfl) (WL_pure rfl rfl (by decide) (Pu_assign rfl rfl) (WL_nil (X_block (X_then ?_))))))))
      refine W_seq ?_
      refine W_seq ?_
      refine W.pre (K' := [(0, _), (1, _), (4, _), (5, _), (6, _), (7, _), (8, _), (13, _), (18, _)]) (L' := [(0, _)]) ?_ ⟨rfl, ⟨rfl, ⟨rfl, ⟨rfl, ⟨rfl, ⟨rfl, ⟨rfl, ⟨rfl, ⟨rfl, trivial⟩⟩⟩⟩⟩⟩⟩⟩⟩ ⟨rfl, trivial⟩
      have hld : lead ((l.drop i).getD 0 0).toNat = (2, (at0 l i).toNat % 32) := by rw [hg0]; unfold lead; rw [if_pos (by omega)]
      refine W_regL (WL_pure rfl rfl (by decide) (Pu_move rfl rfl) (WL_pure rfl rfl (by decide) (Pu_bin rfl rfl rfl (run_eql _ _ _ _ _ _)) (WL_pure rfl rfl (by decide) (Pu_move rfl rfl) (WL_guardP rfl rfl rfl rfl (by decide) (fun hb => (Pu_move rfl rfl)) (WL_guardP rfl rfl rfl rfl (by decide) (fun hb => (Pu_move rfl rfl)) (WL_guardP rfl rfl rfl rfl (by decide) (fun hb => (Pu_bin rfl (ev_gv rfl hb) (ev_gv rfl hb) (run_add _ _ _ _ _ (by omega)))) (WL_guardP rfl rfl rfl rfl (by decide) (fun hb => (Pu_move rfl rfl)) (WL_guardP rfl rfl rfl rfl (by decide) (fun hb => (Pu_lenStr rfl Tryd.underlying9 (ev_gv rfl hb))) (WL_guardP rfl rfl rfl rfl (by decide) (fun hb => (Pu_bin rfl (ev_gv rfl hb) (ev_gv rfl hb) (run_gtr _ _ _ _ _ _))) (WL_pure rfl rfl (by decide) (Pu_or rfl rfl rfl) (WL_nil (X_then ?_))))))))))))
      refine W_cond rfl (fun hc57 => ?_) (fun hc57 => ?_)
      ·
        have hsh : l.length < i + 2 := by simp only [Bool.or_eq_true, decide_eq_true_eq] at hc57; omega
        refine W_seq ?_
        refine W.pre (K' := [(0, _), (1, _), (4, _), (5, _), (6, _), (7, _), (8, _), (13, _), (18, _), (57, _)]) (L' := [(0, _)]) ?_ ⟨rfl, ⟨rfl, ⟨rfl, ⟨rfl, ⟨rfl, ⟨rfl, ⟨rfl, ⟨rfl, ⟨rfl, ⟨rfl, trivial⟩⟩⟩⟩⟩⟩⟩⟩⟩⟩ ⟨rfl, trivial⟩
        refine W_regL (WL_pure rfl rfl (by decide) (Pu_assign rfl rfl) (WL_pure rfl rfl (by decide) (Pu_assign rfl rfl) (WL_nil (X_then ?_))))
        refine W_ret (X_then_ret ?_)
        have hs : oneR (l.drop i) = (0, 0) := (oneM_eq _ hne).symm.trans (oneM_short (by rw [hg0]; exact h128) hld (.inr (by rw [List.length_drop]; omega)))
        exact X_ret [] (Ps := []) (res2 Tryd.results27 rfl rfl) rfl (by decide) ⟨by rw [hs] <;> rfl, rfl⟩
      ·
        have hsh : i + 2 ≤ l.length := by simp only [Bool.or_eq_false_iff, decide_eq_false_iff_not] at hc57; omega
        refine W_skip (X_then ?_)
        refine W_seq ?_
        refine W_seq ?_
        refine W.pre (K' := [(0, _), (1, _), (4, _), (5, _), (6, _), (7, _), (8, _), (13, _), (18, _), (57, _)]) (L' := [(0, _)]) ?_ ⟨rfl, ⟨rfl, ⟨rfl, ⟨rfl, ⟨rfl, ⟨rfl, ⟨rfl, ⟨rfl, ⟨rfl, ⟨rfl, trivial⟩⟩⟩⟩⟩⟩⟩⟩⟩⟩ ⟨rfl, trivial⟩
        refine W_regL (WL_pure rfl rfl (by decide) (Pu_assign rfl rfl) (WL_nil (X_then ?_)))
        refine W_block ?_
        refine W_loop (α := Nat × Nat) (fun x => [(0, sV l), (1, .int .i64 (i : Int)), (7, .int .i64 2), (8, .int .i32 (x.2 : Int)), (9, .int .i64 (x.1 : Int))]) (fun x => [(0, F)]) (fun x => restF (l.drop i) 2 (5 - x.1) x.1 x.2 = restF (l.drop i) 2 4 1 ((at0 l i).toNat % 32) ∧ ((x.1 = 1 ∧ x.2 < 32) ∨ (x.1 = 2 ∧ x.2 < 2048) ∨ (x.1 = 3 ∧ x.2 < 131072) ∨ (x.1 = 4 ∧ x.2 < 8388608)) ∧ x.1 ≤ 2) (fun x => 2 - x.1) ((1, (at0 l i).toNat % 32)) ⟨rfl, .inl ⟨rfl, by dsimp only; omega⟩, by dsimp only; omega⟩ ⟨rfl, ⟨rfl, ⟨rfl, ⟨rfl, ⟨rfl, trivial⟩⟩⟩⟩⟩ ⟨rfl, trivial⟩ (fun x hx => ?_)
        obtain ⟨hrs, hbd, hxn⟩ := hx
        refine W_seq ?_
        refine W_seq ?_
        refine W.pre (K' := [(0, _), (1, _), (7, _), (8, _), (9, _)]) (L' := [(0, _)]) ?_ ⟨rfl, ⟨rfl, ⟨rfl, ⟨rfl, ⟨rfl, trivial⟩⟩⟩⟩⟩ ⟨rfl, trivial⟩
        refine W_regL (WL_pure rfl rfl (by decide) (Pu_move rfl rfl) (WL_pure rfl rfl (by decide) (Pu_move rfl rfl) (WL_pure rfl rfl (by decide) (Pu_bin rfl rfl rfl (run_lss _ _ _ _ _ _)) (WL_nil (X_then ?_)))))
        refine W_cond rfl (fun hc60 => ?_) (fun hc60 => ?_)
        ·
          have hlt : x.1 < 2 := by have := of_decide_eq_true hc60; omega
          refine W_skip (X_then ?_)
          refine W_seq ?_
          refine W_block ?_
          refine W_seq ?_
          refine W_seq ?_
          refine W.pre (K' := [(0, _), (1, _), (7, _), (8, _), (9, _), (60, _)]) (L' := [(0, _)]) ?_ ⟨rfl, ⟨rfl, ⟨rfl, ⟨rfl, ⟨rfl, ⟨rfl, trivial⟩⟩⟩⟩⟩⟩ ⟨rfl, trivial⟩
          refine W_regL (WL_pure rfl rfl (by decide) (Pu_move rfl rfl) (WL_pure rfl rfl (by decide) (Pu_move rfl rfl) (WL_pure rfl rfl (by decide) (Pu_move rfl rfl) (WL_pure rfl rfl (by decide) (Pu_bin rfl rfl rfl (run_add _ _ _ _ _ (by omega))) (WL_pure rfl rfl (by decide) (Pu_idxStrN (i + x.1) rfl Tryd.underlying9 rfl rfl (by omega) (by omega)) (WL_pure rfl rfl (by decide) (Pu_bin rfl rfl rfl (run_and192 _ _ _ _)) (WL_pure rfl rfl (by decide) (Pu_bin rfl rfl rfl (run_neq _ _ _ _ _ _)) (WL_nil (X_then ?_)))))))))
          refine W_cond rfl (fun hc69 => ?_) (fun hc69 => ?_)
          ·
            have h2 : ¬ (at0 l (i + x.1)).toNat / 64 = 2 := by simp at hc69; omega
            refine W_seq ?_
            refine W.pre (K' := [(0, _), (1, _), (7, _), (8, _), (9, _), (60, _), (69, _)]) (L' := [(0, _)]) ?_ ⟨rfl, ⟨rfl, ⟨rfl, ⟨rfl, ⟨rfl, ⟨rfl, ⟨rfl, trivial⟩⟩⟩⟩⟩⟩⟩ ⟨rfl, trivial⟩
            refine W_regL (WL_pure rfl rfl (by decide) (Pu_assign rfl rfl) (WL_pure rfl rfl (by decide) (Pu_assign rfl rfl) (WL_nil (X_then ?_))))
            refine W_ret (X_then_ret (X_block_ret (X_then_ret (X_then_ret (X_block_ret (X_then_ret ?_))))))
            have hs : oneR (l.drop i) = (0, 0) := (oneM_eq _ hne).symm.trans (oneM_none (by rw [hg0]; exact h128) hld (by rw [List.length_drop]; omega) (by rw [← hrs, show 5 - x.1 = (4 - x.1) + 1 by omega]; exact restF_bad hlt (by rw [at0_drop]; exact h2)))
            exact X_ret [] (Ps := []) (res2 Tryd.results27 rfl rfl) rfl (by decide) ⟨by rw [hs] <;> rfl, rfl⟩
          ·
            have h2 : (at0 l (i + x.1)).toNat / 64 = 2 := by simp at hc69; omega
            refine W_skip (X_then ?_)
            refine W.pre (K' := [(0, _), (1, _), (7, _), (8, _), (9, _), (60, _), (69, _)]) (L' := [(0, _)]) ?_ ⟨rfl, ⟨rfl, ⟨rfl, ⟨rfl, ⟨rfl, ⟨rfl, ⟨rfl, trivial⟩⟩⟩⟩⟩⟩⟩ ⟨rfl, trivial⟩
            refine W_regL (WL_pure rfl rfl (by decide) (Pu_move rfl rfl) (WL_pure rfl rfl (by decide) (Pu_bin rfl rfl rfl (run_shl6 _ _ _ _ (by omega))) (WL_pure rfl rfl (by decide) (Pu_move rfl rfl) (WL_pure rfl rfl (by decide) (Pu_move rfl rfl) (WL_pure rfl rfl (by decide) (Pu_move rfl rfl) (WL_pure rfl rfl (by decide) (Pu_bin rfl rfl rfl (run_add _ _ _ _ _ (by omega))) (WL_pure rfl rfl (by decide) (Pu_idxStrN (i + x.1) rfl Tryd.underlying9 rfl rfl (by omega) (by omega)) (WL_pure rfl rfl (by decide) (Pu_bin rfl rfl rfl (run_and63 _ _ _ _)) (WL_pure rfl rfl (by decide) (Pu_conv rfl rfl (conv_small _ (by omega) Tryd.runUnderlying5 Tryd.runUnderlying21)) (WL_pure rfl rfl (by decide) (Pu_bin rfl rfl rfl (run_or6 _ _ (by omega) (by omega) _ _ _)) (WL_pure rfl rfl (by decide) (Pu_assign rfl rfl) (WL_nil (X_block (X_then ?_))))))))))))))
            refine W.pre (K' := [(0, _), (1, _), (7, _), (8, _), (9, _), (60, _), (69, _)]) (L' := [(0, _)]) ?_ ⟨rfl, ⟨rfl, ⟨rfl, ⟨rfl, ⟨rfl, ⟨rfl, ⟨rfl, trivial⟩⟩⟩⟩⟩⟩⟩ ⟨rfl, trivial⟩
            refine W_regL (WL_pure rfl rfl (by decide) (Pu_move rfl rfl) (WL_pure rfl rfl (by decide) (Pu_bin rfl rfl rfl (run_add _ _ _ _ _ (by omega))) (WL_pure rfl rfl (by decide) (Pu_assign rfl rfl) (WL_nil ?_))))
            exact X_round (x.1 + 1, x.2 * 64 + (at0 l (i + x.1)).toNat % 64) ⟨by rw [← hrs, show 5 - x.1 = (4 - x.1) + 1 by omega, restF_ok hlt (by rw [at0_drop]; exact h2), at0_drop]; dsimp only; rw [show 5 - (x.1 + 1) = 4 - x.1 by omega], by dsimp only; omega, by dsimp only; omega⟩ (by dsimp only; omega) ⟨rfl, rfl, rfl, rfl, rfl, trivial⟩ ⟨rfl, trivial⟩
        ·
          have hge : 2 ≤ x.1 := by have := of_decide_eq_false hc60; omega
          refine W_exit (X_then_exit (X_then_exit (X_block_exit (X_then ?_))))
          refine W_seq ?_
          refine W_seq ?_
          refine W.pre (K' := [(0, _), (1, _), (7, _), (8, _), (9, _), (60, _)]) (L' := [(0, _)]) ?_ ⟨rfl, ⟨rfl, ⟨rfl, ⟨rfl, ⟨rfl, ⟨rfl, trivial⟩⟩⟩⟩⟩⟩ ⟨rfl, trivial⟩
          refine W_regL (WL_pure rfl rfl (by decide) (Pu_move rfl rfl) (WL_pure rfl rfl (by decide) (Pu_bin rfl rfl rfl (run_gtr _ _ _ _ _ _)) (WL_pure rfl rfl (by decide) (Pu_move rfl rfl) (WL_guardP rfl rfl rfl rfl (by decide) (fun hb => (Pu_move rfl rfl)) (WL_guardP rfl rfl rfl rfl (by decide) (fun hb => (Pu_bin rfl (ev_gv rfl hb) rfl (run_geq _ _ _ _ _ _))) (WL_guardP rfl rfl rfl rfl (by decide) (fun hb => (Pu_move rfl (ev_gv rfl hb))) (WL_guardP2 rfl rfl rfl rfl (by decide) (fun hb => (Pu_move rfl rfl)) (WL_guardP2 rfl rfl rfl rfl (by decide) (fun hb => (Pu_bin rfl (ev_gv rfl hb) rfl (run_leq _ _ _ _ _ _))) (WL_guardP rfl rfl rfl rfl (by decide) (fun hb => (Pu_and2 hb rfl (ev_gv rfl hb) rfl)) (WL_pure rfl rfl (by decide) (Pu_or rfl rfl rfl) (WL_pure rfl rfl (by decide) (Pu_move rfl rfl) (WL_guardP rfl rfl rfl rfl (by decide) (fun hb => (Pu_move rfl rfl)) (WL_guardP rfl rfl rfl rfl (by decide) (fun hb => (Pu_bin rfl (ev_gv rfl hb) rfl (run_eql _ _ _ _ _ _))) (WL_guardP rfl rfl rfl rfl (by decide) (fun hb => (Pu_move rfl (ev_gv rfl hb))) (WL_guardP2 rfl rfl rfl rfl (by decide) (fun hb => (Pu_move rfl rfl)) (WL_guardP2 rfl rfl rfl rfl (by decide) (fun hb => (Pu_bin rfl (ev_gv rfl hb) rfl (run_lss _ _ _ _ _ _))) (WL_guardP rfl rfl rfl rfl (by decide) (fun hb => (Pu_and2 hb rfl (ev_gv rfl hb) rfl)) (WL_pure rfl rfl (by decide) (Pu_or rfl rfl rfl) (WL_pure rfl rfl (by decide) (Pu_move rfl rfl) (WL_guardP rfl rfl rfl rfl (by decide) (fun hb => (Pu_move rfl rfl)) (WL_guardP rfl rfl rfl rfl (by decide) (fun hb => (Pu_bin rfl (ev_gv rfl hb) rfl (run_eql _ _ _ _ _ _))) (WL_guardP rfl rfl rfl rfl (by decide) (fun hb => (Pu_move rfl (ev_gv rfl hb))) (WL_guardP2 rfl rfl rfl rfl (by decide) (fun hb => (Pu_move rfl rfl)) (WL_guardP2 rfl rfl rfl rfl (by decide) (fun hb => (Pu_bin rfl (ev_gv rfl hb) rfl (run_lss _ _ _ _ _ _))) (WL_guardP rfl rfl rfl rfl (by decide) (fun hb => (Pu_and2 hb rfl (ev_gv rfl hb) rfl)) (WL_pure rfl rfl (by decide) (Pu_or rfl rfl rfl) (WL_pure rfl rfl (by decide) (Pu_move rfl rfl) (WL_guardP rfl rfl rfl rfl (by decide) (fun hb => (Pu_move rfl rfl)) (WL_guardP rfl rfl rfl rfl (by decide) (fun hb => (Pu_bin rfl (ev_gv rfl hb) rfl (run_eql _ _ _ _ _ _))) (WL_guardP rfl rfl rfl rfl (by decide) (fun hb => (Pu_move rfl (ev_gv rfl hb))) (WL_guardP2 rfl rfl rfl rfl (by decide) (fun hb => (Pu_move rfl rfl)) (WL_guardP2 rfl rfl rfl rfl (by decide) (fun hb => (Pu_bin rfl (ev_gv rfl hb) rfl (run_lss _ _ _ _ _ _))) (WL_guardP rfl rfl rfl rfl (by decide) (fun hb => (Pu_and2 hb rfl (ev_gv rfl hb) rfl)) (WL_pure rfl rfl (by decide) (Pu_or rfl rfl rfl) (WL_nil (X_then ?_))))))))))))))))))))))))))))))))))))
          refine W_cond rfl (fun hc113 => ?_) (fun hc113 => ?_)
          ·
            simp only [Bool.or_eq_true, Bool.and_eq_true, decide_eq_true_eq, true_and] at hc113
            refine W_seq ?_
            refine W.pre (K' := [(0, _), (1, _), (7, _), (8, _), (9, _), (60, _), (113, _)]) (L' := [(0, _)]) ?_ ⟨rfl, ⟨rfl, ⟨rfl, ⟨rfl, ⟨rfl, ⟨rfl, ⟨rfl, trivial⟩⟩⟩⟩⟩⟩⟩ ⟨rfl, trivial⟩
            refine W_regL (WL_pure rfl rfl (by decide) (Pu_assign rfl rfl) (WL_pure rfl rfl (by decide) (Pu_assign rfl rfl) (WL_nil (X_then ?_))))
            refine W_ret (X_then_ret ?_)
            have hs : oneR (l.drop i) = (0, 0) := (oneM_eq _ hne).symm.trans ((oneM_some (by rw [hg0]; exact h128) hld (by rw [List.length_drop]; omega) (by rw [← hrs]; exact restF_end hge _)).trans (by unfold finO; rw [if_pos (by omega)]))
            exact X_ret [] (Ps := []) (res2 Tryd.results27 rfl rfl) rfl (by decide) ⟨by rw [hs] <;> rfl, rfl⟩
          ·
            simp only [Bool.or_eq_false_iff, Bool.and_eq_false_iff, decide_eq_false_iff_not, not_true_eq_false, false_or] at hc113
            refine W_skip (X_then ?_)
            refine W_seq ?_
            refine W.pre (K' := [(0, _), (1, _), (7, _), (8, _), (9, _), (60, _), (113, _)]) (L' := [(0, _)]) ?_ ⟨rfl, ⟨rfl, ⟨rfl, ⟨rfl, ⟨rfl, ⟨rfl, ⟨rfl, trivial⟩⟩⟩⟩⟩⟩⟩ ⟨rfl, trivial⟩
            refine W_regL (WL_pure rfl rfl (by decide) (Pu_move rfl rfl) (WL_pure rfl rfl (by decide) (Pu_move rfl rfl) (WL_pure rfl rfl (by decide) (Pu_assign rfl rfl) (WL_pure rfl rfl (by decide) (Pu_assign rfl rfl) (WL_nil (X_then ?_))))))
            refine W_ret ?_
            have hs : oneR (l.drop i) = (x.2, 2) := (oneM_eq _ hne).symm.trans ((oneM_some (by rw [hg0]; exact h128) hld (by rw [List.length_drop]; omega) (by rw [← hrs]; exact restF_end hge _)).trans (by unfold finO; rw [if_neg (by omega)]))
            exact X_ret [] (Ps := []) (res2 Tryd.results27 rfl rfl) rfl (by decide) ⟨by rw [hs] <;> rfl, rfl⟩
    ·
      simp only [Bool.and_eq_false_iff, decide_eq_false_iff_not] at hc18
      refine W_seq ?_
      refine W.pre (K' := [(0, _), (1, _), (4, _), (5, _), (6, _), (7, _), (8, _), (13, _), (18, _)]) (L' := [(0, _)]) ?_ ⟨rfl, ⟨rfl, ⟨rfl, ⟨rfl, ⟨rfl, ⟨rfl, ⟨rfl, ⟨rfl, ⟨rfl, trivial⟩⟩⟩⟩⟩⟩⟩⟩⟩ ⟨rfl, trivial⟩
      refine W_regL (WL_pure rfl rfl (by decide) (Pu_move rfl rfl) (WL_pure rfl rfl (by decide) (Pu_bin rfl rfl rfl (run_geq _ _ _ _ _ _)) (WL_pure rfl rfl (by decide) (Pu_move rfl rfl) (WL_guardP rfl rfl rfl rfl (by decide) (fun hb => (Pu_move rfl rfl)) (WL_guardP rfl rfl rfl rfl (by decide) (fun hb => (Pu_bin rfl (ev_gv rfl hb) rfl (run_lss _ _ _ _ _ _))) (WL_pure rfl rfl (by decide) (Pu_and rfl rfl rfl) (WL_pure rfl rfl (by decide) (Pu_assign rfl rfl) (WL_nil (X_then ?_)))))))))
      refine W_cond rfl (fun hc28 => ?_) (fun hc28 => ?_)
      ·
        simp only [Bool.and_eq_true, decide_eq_true_eq] at hc28
        refine W.pre (K' := [(0, _), (1, _), (4, _), (5, _), (6, _), (7, _), (8, _), (13, _), (18, _), (28, _)]) (L' := [(0, _)]) ?_ ⟨rfl, ⟨rfl, ⟨rfl, ⟨rfl, ⟨rfl, ⟨rfl, ⟨rfl, ⟨rfl, ⟨rfl, ⟨rfl, trivial⟩⟩⟩⟩⟩⟩⟩⟩⟩⟩ ⟨rfl, trivial⟩
        refine W_regL (WL_pure rfl rfl (by decide) (Pu_move rfl rfl) (WL_pure rfl rfl (by decide) (Pu_bin rfl rfl rfl (run_and15 _ _ _ _)) (WL_pure rfl rfl (by decide) (Pu_conv rfl rfl (conv_small _ (by omega) Tryd.runUnderlying5 Tryd.runUnderlying21)) (WL_pure rfl rfl (by decide) (Pu_assign rfl rfl) (WL_pure rfl rfl (by decide) (Pu_assign rfl rfl) (WL_nil (X_block (X_then ?_))))))))
        refine W_seq ?_
        refine W_seq ?_
        refine W.pre (K' := [(0, _), (1, _), (4, _), (5, _), (6, _), (7, _), (8, _), (13, _), (18, _), (28, _)]) (L' := [(0, _)]) ?_ ⟨rfl, ⟨rfl, ⟨rfl, ⟨rfl, ⟨rfl, ⟨rfl, ⟨rfl, ⟨rfl, ⟨rfl, ⟨rfl, trivial⟩⟩⟩⟩⟩⟩⟩⟩⟩⟩ ⟨rfl, trivial⟩
        have hld : lead ((l.drop i).getD 0 0).toNat = (3, (at0 l i).toNat % 16) := by rw [hg0]; unfold lead; rw [if_neg (by omega), if_pos (by omega)]
        refine W_regL (WL_pure rfl rfl (by decide) (Pu_move rfl rfl) (WL_pure rfl rfl (by decide) (Pu_bin rfl rfl rfl (run_eql _ _ _ _ _ _)) (WL_pure rfl rfl (by decide) (Pu_move rfl rfl) (WL_guardP rfl rfl rfl rfl (by decide) (fun hb => (Pu_move rfl rfl)) (WL_guardP rfl rfl rfl rfl (by decide) (fun hb => (Pu_move rfl rfl)) (WL_guardP rfl rfl rfl rfl (by decide) (fun hb => (Pu_bin rfl (ev_gv rfl hb) (ev_gv rfl hb) (run_add _ _ _ _ _ (by omega)))) (WL_guardP rfl rfl rfl rfl (by decide) (fun hb => (Pu_move rfl rfl)) (WL_guardP rfl rfl rfl rfl (by decide) (fun hb => (Pu_lenStr rfl Tryd.underlying9 (ev_gv rfl hb))) (WL_guardP rfl rfl rfl rfl (by decide) (fun hb => (Pu_bin rfl (ev_gv rfl hb) (ev_gv rfl hb) (run_gtr _ _ _ _ _ _))) (WL_pure rfl rfl (by decide) (Pu_or rfl rfl rfl) (WL_nil (X_then ?_))))))))))))
        refine W_cond rfl (fun hc57 => ?_) (fun hc57 => ?_)
        ·
          have hsh : l.length < i + 3 := by simp only [Bool.or_eq_true, decide_eq_true_eq] at hc57; omega
          refine W_seq ?_
          refine W.pre (K' := [(0, _), (1, _), (4, _), (5, _), (6, _), (7, _), (8, _), (13, _), (18, _), (28, _), (57, _)]) (L' := [(0, _)]) ?_ ⟨rfl, ⟨rfl, ⟨rfl, ⟨rfl, ⟨rfl, ⟨rfl, ⟨rfl, ⟨rfl, ⟨rfl, ⟨rfl, ⟨rfl, trivial⟩⟩⟩⟩⟩⟩⟩⟩⟩⟩⟩ ⟨rfl, trivial⟩
          refine W_regL (WL_pure rfl rfl (by decide) (Pu_assign rfl rfl) (WL_pure rfl rfl (by decide) (Pu_assign rfl rfl) (WL_nil (X_then ?_))))
          refine W_ret (X_then_ret ?_)
          have hs : oneR (l.drop i) = (0, 0) := (oneM_eq _ hne).symm.trans (oneM_short (by rw [hg0]; exact h128) hld (.inr (by rw [List.length_drop]; omega)))
          exact X_ret [] (Ps := []) (res2 Tryd.results27 rfl rfl) rfl (by decide) ⟨by rw [hs] <;> rfl, rfl⟩
        ·
          have hsh : i + 3 ≤ l.length := by simp only [Bool.or_eq_false_iff, decide_eq_false_iff_not] at hc57; omega
          refine W_skip (X_then ?_)
          refine W_seq ?_
          refine W_seq ?_
          refine W.pre (K' := [(0, _), (1, _), (4, _), (5, _), (6, _), (7, _), (8, _), (13, _), (18, _), (28, _), (57, _)]) (L' := [(0, _)]) ?_ ⟨rfl, ⟨rfl, ⟨rfl, ⟨rfl, ⟨rfl, ⟨rfl, ⟨rfl, ⟨rfl, ⟨rfl, ⟨rfl, ⟨rfl, trivial⟩⟩⟩⟩⟩⟩⟩⟩⟩⟩⟩ ⟨rfl, trivial⟩
          refine W_regL (WL_pure rfl rfl (by decide) (Pu_assign rfl rfl) (WL_nil (X_then ?_)))
          refine W_block ?_
          refine W_loop (α := Nat × Nat) (fun x => [(0, sV l), (1, .int .i64 (i : Int)), (7, .int .i64 3), (8, .int .i32 (x.2 : Int)), (9, .int .i64 (x.1 : Int))]) (fun x => [(0, F)]) (fun x => restF (l.drop i) 3 (5 - x.1) x.1 x.2 = restF (l.drop i) 3 4 1 ((at0 l i).toNat % 16) ∧ ((x.1 = 1 ∧ x.2 < 32) ∨ (x.1 = 2 ∧ x.2 < 2048) ∨ (x.1 = 3 ∧ x.2 < 131072) ∨ (x.1 = 4 ∧ x.2 < 8388608)) ∧ x.1 ≤ 3) (fun x => 3 - x.1) ((1, (at0 l i).toNat % 16)) ⟨rfl, .inl ⟨rfl, by dsimp only; omega⟩, by dsimp only; omega⟩ ⟨rfl, ⟨rfl, ⟨rfl, ⟨rfl, ⟨rfl, trivial⟩⟩⟩⟩⟩ ⟨rfl, trivial⟩ (fun x hx => ?_)
          obtain ⟨hrs, hbd, hxn⟩ := hx
          refine W_seq ?_
          refine W_seq ?_
          refine W.pre (K' := [(0, _), (1, _), (7, _), (8, _), (9, _)]) (L' := [(0, _)]) ?_ ⟨rfl, ⟨rfl, ⟨rfl, ⟨rfl, ⟨rfl, trivial⟩⟩⟩⟩⟩ ⟨rfl, trivial⟩
          refine W_regL (WL_pure rfl rfl (by decide) (Pu_move rfl rfl) (WL_pure rfl rfl (by decide) (Pu_move rfl rfl) (WL_pure rfl rfl (by decide) (Pu_bin rfl rfl rfl (run_lss _ _ _ _ _ _)) (WL_nil (X_then ?_)))))
          refine W_cond rfl (fun hc60 => ?_) (fun hc60 => ?_)
          ·
            have hlt : x.1 < 3 := by have := of_decide_eq_true hc60; omega
            refine W_skip (X_then ?_)
            refine W_seq ?_
            refine W_block ?_
            refine W_seq ?_
            refine W_seq ?_
            refine W.pre (K' := [(0, _), (1, _), (7, _), (8, _), (9, _), (60, _)]) (L' := [(0, _)]) ?_ ⟨rfl, ⟨rfl, ⟨rfl, ⟨rfl, ⟨rfl, ⟨rfl, trivial⟩⟩⟩⟩⟩⟩ ⟨rfl, trivial⟩
            refine W_regL (WL_pure rfl rfl (by decide) (Pu_move rfl rfl) (WL_pure rfl rfl (by decide) (Pu_move rfl rfl) (WL_pure rfl rfl (by decide) (Pu_move rfl rfl) (WL_pure rfl rfl (by decide) (Pu_bin rfl rfl rfl (run_add _ _ _ _ _ (by omega))) (WL_pure rfl rfl (by decide) (Pu_idxStrN (i + x.1) rfl Tryd.underlying9 rfl rfl (by omega) (by omega)) (WL_pure rfl rfl (by decide) (Pu_bin rfl rfl rfl (run_and192 _ _ _ _)) (WL_pure rfl rfl (by decide) (Pu_bin rfl rfl rfl (run_neq _ _ _ _ _ _)) (WL_nil (X_then ?_)))))))))
            refine W_cond rfl (fun hc69 => ?_) (fun hc69 => ?_)
            ·
              have h2 : ¬ (at0 l (i + x.1)).toNat / 64 = 2 := by simp at hc69; omega
              refine W_seq ?_
              refine W.pre (K' := [(0, _), (1, _), (7, _), (8, _), (9, _), (60, _), (69, _)]) (L' := [(0, _)]) ?_ ⟨rfl, ⟨rfl, ⟨rfl, ⟨rfl, ⟨rfl, ⟨rfl, ⟨rfl, trivial⟩⟩⟩⟩⟩⟩⟩ ⟨rfl, trivial⟩
              refine W_regL (WL_pure rfl rfl (by decide) (Pu_assign rfl rfl) (WL_pure rfl rfl (by decide) (Pu_assign rfl rfl) (WL_nil (X_then ?_))))
              refine W_ret (X_then_ret (X_block_ret (X_then_ret (X_then_ret (X_block_ret (X_then_ret ?_))))))
              have hs : oneR (l.drop i) = (0, 0) := (oneM_eq _ hne).symm.trans (oneM_none (by rw [hg0]; exact h128) hld (by rw [List.length_drop]; omega) (by rw [← hrs, show 5 - x.1 = (4 - x.1) + 1 by omega]; exact restF_bad hlt (by rw [at0_drop]; exact h2)))
              exact X_ret [] (Ps := []) (res2 Tryd.results27 rfl rfl) rfl (by decide) ⟨by rw [hs] <;> rfl, rfl⟩
            ·
              have h2 : (at0 l (i + x.1)).toNat / 64 = 2 := by simp at hc69; omega
              refine W_skip (X_then ?_)
              refine W.pre (K' := [(0, _), (1, _), (7, _), (8, _), (9, _), (60, _), (69, _)]) (L' := [(0, _)]) ?_ ⟨rfl, ⟨rfl, ⟨rfl, ⟨rfl, ⟨rfl, ⟨rfl, ⟨rfl, trivial⟩⟩⟩⟩⟩⟩⟩ ⟨rfl, trivial⟩
              refine W_regL (WL_pure rfl rfl (by decide) (Pu_move rfl rfl) (WL_pure rfl rfl (by decide) (Pu_bin rfl rfl rfl (run_shl6 _ _ _ _ (by omega))) (WL_pure rfl rfl (by decide) (Pu_move rfl rfl) (WL_pure rfl rfl (by decide) (Pu_move rfl rfl) (WL_pure rfl rfl (by decide) (Pu_move rfl rfl) (WL_pure rfl rfl (by decide) (Pu_bin rfl rfl rfl (run_add _ _ _ _ _ (by omega))) (WL_pure rfl rfl (by decide) (Pu_idxStrN (i + x.1) rfl Tryd.underlying9 rfl rfl (by omega) (by omega)) (WL_pure rfl rfl (by decide) (Pu_bin rfl rfl rfl (run_and63 _ _ _ _)) (WL_pure rfl rfl (by decide) (Pu_conv rfl rfl (conv_small _ (by omega) Tryd.runUnderlying5 Tryd.runUnderlying21)) (WL_pure rfl rfl (by decide) (Pu_bin rfl rfl rfl (run_or6 _ _ (by omega) (by omega) _ _ _)) (WL_pure rfl rfl (by decide) (Pu_assign rfl rfl) (WL_nil (X_block (X_then ?_))))))))))))))
              refine W.pre (K' := [(0, _), (1, _), (7, _), (8, _), (9, _), (60, _), (69, _)]) (L' := [(0, _)]) ?_ ⟨rfl, ⟨rfl, ⟨rfl, ⟨rfl, ⟨rfl, ⟨rfl, ⟨rfl, trivial⟩⟩⟩⟩⟩⟩⟩ ⟨rfl, trivial⟩
              refine W_regL (WL_pure rfl rfl (by decide) (Pu_move rfl rfl) (WL_pure rfl rfl (by decide) (Pu_bin rfl rfl rfl (run_add _ _ _ _ _ (by omega))) (WL_pure rfl rfl (by decide) (Pu_assign rfl rfl) (WL_nil ?_))))
              exact X_round (x.1 + 1, x.2 * 64 + (at0 l (i + x.1)).toNat % 64) ⟨by rw [← hrs, show 5 - x.1 = (4 - x.1) + 1 by omega, restF_ok hlt (by rw [at0_drop]; exact h2), at0_drop]; dsimp only; rw [show 5 - (x.1 + 1) = 4 - x.1 by omega], by dsimp only; omega, by dsimp only; omega⟩ (by dsimp only; omega) ⟨rfl, rfl, rfl, rfl, rfl, trivial⟩ ⟨rfl, trivial⟩
          ·
            have hge : 3 ≤ x.1 := by have := of_decide_eq_false hc60; omega
            refine W_exit (X_then_exit (X_then_exit (X_block_exit (X_then ?_))))
            refine W_seq ?_
            refine W_seq ?_
            refine W.pre (K' := [(0, _), (1, _), (7, _), (8, _), (9, _), (60, _)]) (L' := [(0, _)]) ?_ ⟨rfl, ⟨rfl, ⟨rfl, ⟨rfl, ⟨rfl, ⟨rfl, trivial⟩⟩⟩⟩⟩⟩ ⟨rfl, trivial⟩
            refine W_regL (WL_pure rfl rfl (by decide) (Pu_move rfl rfl) (WL_pure rfl rfl (by decide) (Pu_bin rfl rfl rfl (run_gtr _ _ _ _ _ _)) (WL_pure rfl rfl (by decide) (Pu_move rfl rfl) (WL_guardP rfl rfl rfl rfl (by decide) (fun hb => (Pu_move rfl rfl)) (WL_guardP rfl rfl rfl rfl (by decide) (fun hb => (Pu_bin rfl (ev_gv rfl hb) rfl (run_geq _ _ _ _ _ _))) (WL_guardP rfl rfl rfl rfl (by decide) (fun hb => (Pu_move rfl (ev_gv rfl hb))) (WL_guardP2 rfl rfl rfl rfl (by decide) (fun hb => (Pu_move rfl rfl)) (WL_guardP2 rfl rfl rfl rfl (by decide) (fun hb => (Pu_bin rfl (ev_gv rfl hb) rfl (run_leq _ _ _ _ _ _))) (WL_guardP rfl rfl rfl rfl (by decide) (fun hb => (Pu_and2 hb rfl (ev_gv rfl hb) rfl)) (WL_pure rfl rfl (by decide) (Pu_or rfl rfl rfl) (WL_pure rfl rfl (by decide) (Pu_move rfl rfl) (WL_guardP rfl rfl rfl rfl (by decide) (fun hb => (Pu_move rfl rfl)) (WL_guardP rfl rfl rfl rfl (by decide) (fun hb => (Pu_bin rfl (ev_gv rfl hb) rfl (run_eql _ _ _ _ _ _))) (WL_guardP rfl rfl rfl rfl (by decide) (fun hb => (Pu_move rfl (ev_gv rfl hb))) (WL_guardP2 rfl rfl rfl rfl (by decide) (fun hb => (Pu_move rfl rfl)) (WL_guardP2 rfl rfl rfl rfl (by decide) (fun hb => (Pu_bin rfl (ev_gv rfl hb) rfl (run_lss _ _ _ _ _ _))) (WL_guardP rfl rfl rfl rfl (by decide) (fun hb => (Pu_and2 hb rfl (ev_gv rfl hb) rfl)) (WL_pure rfl rfl (by decide) (Pu_or rfl rfl rfl) (WL_pure rfl rfl (by decide) (Pu_move rfl rfl) (WL_guardP rfl rfl rfl rfl (by decide) (fun hb => (Pu_move rfl rfl)) (WL_guardP rfl rfl rfl rfl (by decide) (fun hb => (Pu_bin rfl (ev_gv rfl hb) rfl (run_eql _ _ _ _ _ _))) (WL_guardP rfl rfl rfl rfl (by decide) (fun hb => (Pu_move rfl (ev_gv rfl hb))) (WL_guardP2 rfl rfl rfl rfl (by decide) (fun hb => (Pu_move rfl rfl)) (WL_guardP2 rfl rfl rfl rfl (by decide) (fun hb => (Pu_bin rfl (ev_gv rfl hb) rfl (run_lss _ _ _ _ _ _))) (WL_guardP rfl rfl rfl rfl (by decide) (fun hb => (Pu_and2 hb rfl (ev_gv rfl hb) rfl)) (WL_pure rfl rfl (by decide) (Pu_or rfl rfl rfl) (WL_pure rfl rfl (by decide) (Pu_move rfl rfl) (WL_guardP rfl rfl rfl rfl (by decide) (fun hb => (Pu_move rfl rfl)) (WL_guardP rfl rfl rfl rfl (by decide) (fun hb => (Pu_bin rfl (ev_gv rfl hb) rfl (run_eql _ _ _ _ _ _))) (WL_guardP rfl rfl rfl rfl (by decide) (fun hb => (Pu_move rfl (ev_gv rfl hb))) (WL_guardP2 rfl rfl rfl rfl (by decide) (fun hb => (Pu_move rfl rfl)) (WL_guardP2 rfl rfl rfl rfl (by decide) (fun hb => (Pu_bin rfl (ev_gv rfl hb) rfl (run_lss _ _ _ _ _ _))) (WL_guardP rfl rfl rfl rfl (by decide) (fun hb => (Pu_and2 hb rfl (ev_gv rfl hb) rfl)) (WL_pure rfl rfl (by decide) (Pu_or rfl rfl rfl) (WL_nil (X_then ?_))))))))))))))))))))))))))))))))))))
            refine W_cond rfl (fun hc113 => ?_) (fun hc113 => ?_)
            ·
              simp only [Bool.or_eq_true, Bool.and_eq_true, decide_eq_true_eq, true_and] at hc113
              refine W_seq ?_
              refine W.pre (K' := [(0, _), (1, _), (7, _), (8, _), (9, _), (60, _), (113, _)]) (L' := [(0, _)]) ?_ ⟨rfl, ⟨rfl, ⟨rfl, ⟨rfl, ⟨rfl, ⟨rfl, ⟨rfl, trivial⟩⟩⟩⟩⟩⟩⟩ ⟨rfl, trivial⟩
              refine W_regL (WL_pure rfl rfl (by decide) (Pu_assign rfl rfl) (WL_pure rfl rfl (by decide) (Pu_assign rfl rfl) (WL_nil (X_then ?_))))
              refine W_ret (X_then_ret ?_)
              have hs : oneR (l.drop i) = (0, 0) := (oneM_eq _ hne).symm.trans ((oneM_some (by rw [hg0]; exact h128) hld (by rw [List.length_drop]; omega) (by rw [← hrs]; exact restF_end hge _)).trans (by unfold finO; rw [if_pos (by omega)]))
              exact X_ret [] (Ps := []) (res2 Tryd.results27 rfl rfl) rfl (by decide) ⟨by rw [hs] <;> rfl, rfl⟩
            ·
              simp only [Bool.or_eq_false_iff, Bool.and_eq_false_iff, decide_eq_false_iff_not, not_true_eq_false, false_or] at hc113
              refine W_skip (X_then ?_)
              refine W_seq ?_
              refine W.pre (K' := [(0, _), (1, _), (7, _), (8, _), (9, _), (60, _), (113, _)]) (L' := [(0, _)]) ?_ ⟨rfl, ⟨rfl, ⟨rfl, ⟨rfl, ⟨rfl, ⟨rfl, ⟨rfl, trivial⟩⟩⟩⟩⟩⟩⟩ ⟨rfl, trivial⟩
              refine W_regL (WL_pure rfl rfl (by decide) (Pu_move rfl rfl) (WL_pure rfl rfl (by decide) (Pu_move rfl rfl) (WL_pure rfl rfl (by decide) (Pu_assign rfl rfl) (WL_pure rfl rfl (by decide) (Pu_assign rfl rfl) (WL_nil (X_then ?_))))))
              refine W_ret ?_
              have hs : oneR (l.drop i) = (x.2, 3) := (oneM_eq _ hne).symm.trans ((oneM_some (by rw [hg0]; exact h128) hld (by rw [List.length_drop]; omega) (by rw [← hrs]; exact restF_end hge _)).trans (by unfold finO; rw [if_neg (by omega)]))
              exact X_ret [] (Ps := []) (res2 Tryd.results27 rfl rfl) rfl (by decide) ⟨by rw [hs] <;> rfl, rfl⟩
      ·
        simp only [Bool.and_eq_false_iff, decide_eq_false_iff_not] at hc28
        refine W_seq ?_
        refine W.pre (K' := [(0, _), (1, _), (4, _), (5, _), (6, _), (7, _), (8, _), (13, _), (18, _), (28, _)]) (L' := [(0, _)]) ?_ ⟨rfl, ⟨rfl, ⟨rfl, ⟨rfl, ⟨rfl, ⟨rfl, ⟨rfl, ⟨rfl, ⟨rfl, ⟨rfl, trivial⟩⟩⟩⟩⟩⟩⟩⟩⟩⟩ ⟨rfl, trivial⟩
        refine W_regL (WL_pure rfl rfl (by decide) (Pu_move rfl rfl) (WL_pure rfl rfl (by decide) (Pu_bin rfl rfl rfl (run_geq _ _ _ _ _ _)) (WL_pure rfl rfl (by decide) (Pu_move rfl rfl) (WL_guardP rfl rfl rfl rfl (by decide) (fun hb => (Pu_move rfl rfl)) (WL_guardP rfl rfl rfl rfl (by decide) (fun hb => (Pu_bin rfl (ev_gv rfl hb) rfl (run_lss _ _ _ _ _ _))) (WL_pure rfl rfl (by decide) (Pu_and rfl rfl rfl) (WL_pure rfl rfl (by decide) (Pu_assign rfl rfl) (WL_nil (X_then ?_)))))))))
        refine W_cond rfl (fun hc38 => ?_) (fun hc38 => ?_)
        ·
          simp only [Bool.and_eq_true, decide_eq_true_eq] at hc38
          refine W.pre (K' := [(0, _), (1, _), (4, _), (5, _), (6, _), (7, _), (8, _), (13, _), (18, _), (28, _), (38, _)]) (L' := [(0, _)]) ?_ ⟨rfl, ⟨rfl, ⟨rfl, ⟨rfl, ⟨rfl, ⟨rfl, ⟨rfl, ⟨rfl, ⟨rfl, ⟨rfl, ⟨rfl, trivial⟩⟩⟩⟩⟩⟩⟩⟩⟩⟩⟩ ⟨rfl, trivial⟩
          refine W_regL (WL_pure rfl rfl (by decide) (Pu_move rfl rfl) (WL_pure rfl rfl (by decide) (Pu_bin rfl rfl rfl (run_and7 _ _ _ _)) (WL_pure rfl rfl (by decide) (Pu_conv rfl rfl (conv_small _ (by omega) Tryd.runUnderlying5 Tryd.runUnderlying21)) (WL_pure rfl rfl (by decide) (Pu_assign rfl rfl) (WL_pure rfl rfl (by decide) (Pu_assign rfl rfl) (WL_nil (X_block (X_then ?_))))))))
          refine W_seq ?_
          refine W_seq ?_
          refine W.pre (K' := [(0, _), (1, _), (4, _), (5, _), (6, _), (7, _), (8, _), (13, _), (18, _), (28, _), (38, _)]) (L' := [(0, _)]) ?_ ⟨rfl, ⟨rfl, ⟨rfl, ⟨rfl, ⟨rfl, ⟨rfl, ⟨rfl, ⟨rfl, ⟨rfl, ⟨rfl, ⟨rfl, trivial⟩⟩⟩⟩⟩⟩⟩⟩⟩⟩⟩ ⟨rfl, trivial⟩
          have hld : lead ((l.drop i).getD 0 0).toNat = (4, (at0 l i).toNat % 8) := by rw [hg0]; unfold lead; rw [if_neg (by omega), if_neg (by omega), if_pos (by omega)]
          refine W_regL (WL_pure rfl rfl (by decide) (Pu_move rfl rfl) (WL_pure rfl rfl (by decide) (Pu_bin rfl rfl rfl (run_eql _ _ _ _ _ _)) (WL_pure rfl rfl (by decide) (Pu_move rfl rfl) (WL_guardP rfl rfl rfl rfl (by decide) (fun hb => (Pu_move rfl rfl)) (WL_guardP rfl rfl rfl rfl (by decide) (fun hb => (Pu_move rfl rfl)) (WL_guardP rfl rfl rfl rfl (by decide) (fun hb => (Pu_bin rfl (ev_gv rfl hb) (ev_gv rfl hb) (run_add _ _ _ _ _ (by omega)))) (WL_guardP rfl rfl rfl rfl (by decide) (fun hb => (Pu_move rfl rfl)) (WL_guardP rfl rfl rfl rfl (by decide) (fun hb => (Pu_lenStr rfl Tryd.underlying9 (ev_gv rfl hb))) (WL_guardP rfl rfl rfl rfl (by decide) (fun hb => (Pu_bin rfl (ev_gv rfl hb) (ev_gv rfl hb) (run_gtr _ _ _ _ _ _))) (WL_pure rfl rfl (by decide) (Pu_or rfl rfl rfl) (WL_nil (X_then ?_))))))))))))
          refine W_cond rfl (fun hc57 => ?_) (fun hc57 => ?_)
          ·
            have hsh : l.length < i + 4 := by simp only [Bool.or_eq_true, decide_eq_true_eq] at hc57; omega
            refine W_seq ?_
            refine W.pre (K' := [(0, _), (1, _), (4, _), (5, _), (6, _), (7, _), (8, _), (13, _), (18, _), (28, _), (38, _), (57, _)]) (L' := [(0, _)]) ?_ ⟨rfl, ⟨rfl, ⟨rfl, ⟨rfl, ⟨rfl, ⟨rfl, ⟨rfl, ⟨rfl, ⟨rfl, ⟨rfl, ⟨rfl, ⟨rfl, trivial⟩⟩⟩⟩⟩⟩⟩⟩⟩⟩⟩⟩ ⟨rfl, trivial⟩
            refine W_regL (WL_pure rfl rfl (by decide) (Pu_assign rfl rfl) (WL_pure rfl rfl (by decide) (Pu_assign rfl rfl) (WL_nil (X_then ?_))))
            refine W_ret (X_then_ret ?_)
            have hs : oneR (l.drop i) = (0, 0) := (oneM_eq _ hne).symm.trans (oneM_short (by rw [hg0]; exact h128) hld (.inr (by rw [List.length_drop]; omega)))
            exact X_ret [] (Ps := []) (res2 Tryd.results27 rfl rfl) rfl (by decide) ⟨by rw [hs] <;> rfl, rfl⟩
          ·
            have hsh : i + 4 ≤ l.length := by simp only [Bool.or_eq_false_iff, decide_eq_false_iff_not] at hc57; omega
            refine W_skip (X_then ?_)
            refine W_seq ?_
            refine W_seq ?_
            refine W.pre (K' := [(0, _), (1, _), (4, _), (5, _), (6, _), (7, _), (8, _), (13, _), (18, _), (28, _), (38, _), (57, _)]) (L' := [(0, _)]) ?_ ⟨rfl, ⟨rfl, ⟨rfl, ⟨rfl, ⟨rfl, ⟨rfl, ⟨rfl, ⟨rfl, ⟨rfl, ⟨rfl, ⟨rfl, ⟨rfl, trivial⟩⟩⟩⟩⟩⟩⟩⟩⟩⟩⟩⟩ ⟨rfl, trivial⟩
            refine W_regL (WL_pure rfl rfl (by decide) (Pu_assign rfl rfl) (WL_nil (X_then ?_)))
            refine W_block ?_
            refine W_loop (α := Nat × Nat) (fun x => [(0, sV l), (1, .int .i64 (i : Int)), (7, .int .i64 4), (8, .int .i32 (x.2 : Int)), (9, .int .i64 (x.1 : Int))]) (fun x => [(0, F)]) (fun x => restF (l.drop i) 4 (5 - x.1) x.1 x.2 = restF (l.drop i) 4 4 1 ((at0 l i).toNat % 8) ∧ ((x.1 = 1 ∧ x.2 < 32) ∨ (x.1 = 2 ∧ x.2 < 2048) ∨ (x.1 = 3 ∧ x.2 < 131072) ∨ (x.1 = 4 ∧ x.2 < 8388608)) ∧ x.1 ≤ 4) (fun x => 4 - x.1) ((1, (at0 l i).toNat % 8)) ⟨rfl, .inl ⟨rfl, by dsimp only; omega⟩, by dsimp only; omega⟩ ⟨rfl, ⟨rfl, ⟨rfl, ⟨rfl, ⟨rfl, trivial⟩⟩⟩⟩⟩ ⟨rfl, trivial⟩ (fun x hx => ?_)
            obtain ⟨hrs, hbd, hxn⟩ := hx
            refine W_seq ?_
            refine W_seq ?_
            refine W.pre (K' := [(0, _), (1, _), (7, _), (8, _), (9, _)]) (L' := [(0, _)]) ?_ ⟨rfl, ⟨rfl, ⟨rfl, ⟨rfl, ⟨rfl, trivial⟩⟩⟩⟩⟩ ⟨rfl, trivial⟩
            refine W_regL (WL_pure rfl rfl (by decide) (Pu_move rfl rfl) (WL_pure rfl rfl (by decide) (Pu_move rfl rfl) (WL_pure rfl rfl (by decide) (Pu_bin rfl rfl rfl (run_lss _ _ _ _ _ _)) (WL_nil (X_then ?_)))))
            refine W_cond rfl (fun hc60 => ?_) (fun hc60 => ?_)
            ·
              have hlt : x.1 < 4 := by have := of_decide_eq_true hc60; omega
              refine W_skip (X_then ?_)
              refine W_seq ?_
              refine W_block ?_
              refine W_seq ?_
              refine W_seq ?_
              refine W.pre (K' := [(0, _), (1, _), (7, _), (8, _), (9, _), (60, _)]) (L' := [(0, _)]) ?_ ⟨rfl, ⟨rfl, ⟨rfl, ⟨rfl, ⟨rfl, ⟨rfl, trivial⟩⟩⟩⟩⟩⟩ ⟨rfl, trivial⟩
              refine W_regL (WL_pure rfl rfl (by decide) (Pu_move rfl rfl) (WL_pure rfl rfl (by decide) (Pu_move rfl rfl) (WL_pure rfl rfl (by decide) (Pu_move rfl rfl) (WL_pure rfl rfl (by decide) (Pu_bin rfl rfl rfl (run_add _ _ _ _ _ (by omega))) (WL_pure rfl rfl (by decide) (Pu_idxStrN (i + x.1) rfl Tryd.underlying9 rfl rfl (by omega) (by omega)) (WL_pure rfl rfl (by decide) (Pu_bin rfl rfl rfl (run_and192 _ _ _ _)) (WL_pure rfl rfl (by decide) (Pu_bin rfl rfl rfl (run_neq _ _ _ _ _ _)) (WL_nil (X_then ?_)))))))))
              refine W_cond rfl (fun hc69 => ?_) (fun hc69 => ?_)
              ·
                have h2 : ¬ (at0 l (i + x.1)).toNat / 64 = 2 := by simp at hc69; omega
                refine W_seq ?_
                refine W.pre (K' := [(0, _), (1, _), (7, _), (8, _), (9, _), (60, _), (69, _)]) (L' := [(0, _)]) ?_ ⟨rfl, ⟨rfl, ⟨rfl, ⟨rfl, ⟨rfl, ⟨rfl, ⟨rfl, trivial⟩⟩⟩⟩⟩⟩⟩ ⟨rfl, trivial⟩
                refine W_regL (WL_pure rfl rfl (by decide) (Pu_assign rfl rfl) (WL_pure rfl rfl (by decide) (Pu_assign rfl rfl) (WL_nil (X_then ?_))))
                refine W_ret (X_then_ret (X_block_ret (X_then_ret (X_then_ret (X_block_ret (X_then_ret ?_))))))
                have hs : oneR (l.drop i) = (0, 0) := (oneM_eq _ hne).symm.trans (oneM_none (by rw [hg0]; exact h128) hld (by rw [List.length_drop]; omega) (by rw [← hrs, show 5 - x.1 = (4 - x.1) + 1 by omega]; exact restF_bad hlt (by rw [at0_drop]; exact h2)))
                exact X_ret [] (Ps := []) (res2 Tryd.results27 rfl rfl) rfl (by decide) ⟨by rw [hs] <;> rfl, rfl⟩
              ·
                have h2 : (at0 l (i + x.1)).toNat / 64 = 2 := by simp at hc69; omega
                refine W_skip (X_then ?_)
                refine W.pre (K' := [(0, _), (1, _), (7, _), (8, _), (9, _), (60, _), (69, _)]) (L' := [(0, _)]) ?_ ⟨rfl, ⟨rfl, ⟨rfl, ⟨rfl, ⟨rfl, ⟨rfl, ⟨rfl, trivial⟩⟩⟩⟩⟩⟩⟩ ⟨rfl, trivial⟩
                refine W_regL (WL_pure rfl rfl (by decide) (Pu_move rfl rfl) (WL_pure rfl rfl (by decide) (Pu_bin rfl rfl rfl (run_shl6 _ _ _ _ (by omega))) (WL_pure rfl rfl (by decide) (Pu_move rfl rfl) (WL_pure rfl rfl (by decide) (Pu_move rfl rfl) (WL_pure rfl rfl (by decide) (Pu_move rfl rfl) (WL_pure rfl rfl (by decide) (Pu_bin rfl rfl rfl (run_add _ _ _ _ _ (by omega))) (WL_pure rfl rfl (by decide) (Pu_idxStrN (i + x.1) rfl Tryd.underlying9 rfl rfl (by omega) (by omega)) (WL_pure rfl rfl (by decide) (Pu_bin rfl rfl rfl (run_and63 _ _ _ _)) (WL_pure rfl rfl (by decide) (Pu_conv rfl rfl (conv_small _ (by omega) Tryd.runUnderlying5 Tryd.runUnderlying21)) (WL_pure rfl rfl (by decide) (Pu_bin rfl rfl rfl (run_or6 _ _ (by omega) (by omega) _ _ _)) (WL_pure rfl rfl (by decide) (Pu_assign rfl rfl) (WL_nil (X_block (X_then ?_))))))))))))))
                refine W.pre (K' := [(0, _), (1, _), (7, _), (8, _), (9, _), (60, _), (69, _)]) (L' := [(0, _)]) ?_ ⟨rfl, ⟨rfl, ⟨rfl, ⟨rfl, ⟨rfl, ⟨rfl, ⟨rfl, trivial⟩⟩⟩⟩⟩⟩⟩ ⟨rfl, trivial⟩
                refine W_regL (WL_pure rfl rfl (by decide) (Pu_move rfl rfl) (WL_pure rfl rfl (by decide) (Pu_bin rfl rfl rfl (run_add _ _ _ _ _ (by omega))) (WL_pure rfl rfl (by decide) (Pu_assign rfl rfl) (WL_nil ?_))))
                exact X_round (x.1 + 1, x.2 * 64 + (at0 l (i + x.1)).toNat % 64) ⟨by rw [← hrs, show 5 - x.1 = (4 - x.1) + 1 by omega, restF_ok hlt (by rw [at0_drop]; exact h2), at0_drop]; dsimp only; rw [show 5 - (x.1 + 1) = 4 - x.1 by omega], by dsimp only; omega, by dsimp only; omega⟩ (by dsimp only; omega) ⟨rfl, rfl, rfl, rfl, rfl, trivial⟩ ⟨rfl, trivial⟩
            ·
              have hge : 4 ≤ x.1 := by have := of_decide_eq_false hc60; omega
              refine W_exit (X_then_exit (X_then_exit (X_block_exit (X_then ?_))))
              refine W_seq ?_
              refine W_seq ?_
              refine W.pre (K' := [(0, _), (1, _), (7, _), (8, _), (9, _), (60, _)]) (L' := [(0, _)]) ?_ ⟨rfl, ⟨rfl, ⟨rfl, ⟨rfl, ⟨rfl, ⟨rfl, trivial⟩⟩⟩⟩⟩⟩ ⟨rfl, trivial⟩
              refine W_regL (WL_pure rfl rfl (by decide) (Pu_move rfl rfl) (WL_pure rfl rfl (by decide) (Pu_bin rfl rfl rfl (run_gtr _ _ _ _ _ _)) (WL_pure rfl rfl (by decide) (Pu_move rfl rfl) (WL_guardP rfl rfl rfl rfl (by decide) (fun hb => (Pu_move rfl rfl)) (WL_guardP rfl rfl rfl rfl (by decide) (fun hb => (Pu_bin rfl (ev_gv rfl hb) rfl (run_geq _ _ _ _ _ _))) (WL_guardP rfl rfl rfl rfl (by decide) (fun hb => (Pu_move rfl (ev_gv rfl hb))) (WL_guardP2 rfl rfl rfl rfl (by decide) (fun hb => (Pu_move rfl rfl)) (WL_guardP2 rfl rfl rfl rfl (by decide) (fun hb => (Pu_bin rfl (ev_gv rfl hb) rfl (run_leq _ _ _ _ _ _))) (WL_guardP rfl rfl rfl rfl (by decide) (fun hb => (Pu_and2 hb rfl (ev_gv rfl hb) rfl)) (WL_pure rfl rfl (by decide) (Pu_or rfl rfl rfl) (WL_pure rfl rfl (by decide) (Pu_move rfl rfl) (WL_guardP rfl rfl rfl rfl (by decide) (fun hb => (Pu_move rfl rfl)) (WL_guardP rfl rfl rfl rfl (by decide) (fun hb => (Pu_bin rfl (ev_gv rfl hb) rfl (run_eql _ _ _ _ _ _))) (WL_guardP rfl rfl rfl rfl (by decide) (fun hb => (Pu_move rfl (ev_gv rfl hb))) (WL_guardP2 rfl rfl rfl rfl (by decide) (fun hb => (Pu_move rfl rfl)) (WL_guardP2 rfl rfl rfl rfl (by decide) (fun hb => (Pu_bin rfl (ev_gv rfl hb) rfl (run_lss _ _ _ _ _ _))) (WL_guardP rfl rfl rfl rfl (by decide) (fun hb => (Pu_and2 hb rfl (ev_gv rfl hb) rfl)) (WL_pure rfl rfl (by decide) (Pu_or rfl rfl rfl) (WL_pure rfl rfl (by decide) (Pu_move rfl rfl) (WL_guardP rfl rfl rfl rfl (by decide) (fun hb => (Pu_move rfl rfl)) (WL_guardP rfl rfl rfl rfl (by decide) (fun hb => (Pu_bin rfl (ev_gv rfl hb) rfl (run_eql _ _ _ _ _ _))) (WL_guardP rfl rfl rfl rfl (by decide) (fun hb => (Pu_move rfl (ev_gv rfl hb))) (WL_guardP2 rfl rfl rfl rfl (by decide) (fun hb => (Pu_move rfl rfl)) (WL_guardP2 rfl rfl rfl rfl (by decide) (fun hb => (Pu_bin rfl (ev_gv rfl hb) rfl (run_lss _ _ _ _ _ _))) (WL_guardP rfl rfl rfl rfl (by decide) (fun hb => (Pu_and2 hb rfl (ev_gv rfl hb) rfl)) (WL_pure rfl rfl (by decide) (Pu_or rfl rfl rfl) (WL_pure rfl rfl (by decide) (Pu_move rfl rfl) (WL_guardP rfl rfl rfl rfl (by decide) (fun hb => (Pu_move rfl rfl)) (WL_guardP rfl rfl rfl rfl (by decide) (fun hb => (Pu_bin rfl (ev_gv rfl hb) rfl (run_eql _ _ _ _ _ _))) (WL_guardP rfl rfl rfl rfl (by decide) (fun hb => (Pu_move rfl (ev_gv rfl hb))) (WL_guardP2 rfl rfl rfl rfl (by decide) (fun hb => (Pu_move rfl rfl)) (WL_guardP2 rfl rfl rfl rfl (by decide) (fun hb => (Pu_bin rfl (ev_gv rfl hb) rfl (run_lss _ _ _ _ _ _))) (WL_guardP rfl rfl rfl rfl (by decide) (fun hb => (Pu_and2 hb rfl (ev_gv rfl hb) rfl)) (WL_pure rfl rfl (by decide) (Pu_or rfl rfl rfl) (WL_nil (X_then ?_))))))))))))))))))))))))))))))))))))
              refine W_cond rfl (fun hc113 => ?_) (fun hc113 => ?_)
              ·
                simp only [Bool.or_eq_true, Bool.and_eq_true, decide_eq_true_eq, true_and] at hc113
                refine W_seq ?_
                refine W.pre (K' := [(0, _), (1, _), (7, _), (8, _), (9, _), (60, _), (113, _)]) (L' := [(0, _)]) ?_ ⟨rfl, ⟨rfl, ⟨rfl, ⟨rfl, ⟨rfl, ⟨rfl, ⟨rfl, trivial⟩⟩⟩⟩⟩⟩⟩ ⟨rfl, trivial⟩
                refine W_regL (WL_pure rfl rfl (by decide) (Pu_assign rfl rfl) (WL_pure rfl rfl (by decide) (Pu_assign rfl rfl) (WL_nil (X_then ?_))))
                refine W_ret (X_then_ret ?_)
                have hs : oneR (l.drop i) = (0, 0) := (oneM_eq _ hne).symm.trans ((oneM_some (by rw [hg0]; exact h128) hld (by rw [List.length_drop]; omega) (by rw [← hrs]; exact restF_end hge _)).trans (by unfold finO; rw [if_pos (by omega)]))
                exact X_ret [] (Ps := []) (res2 Tryd.results27 rfl rfl) rfl (by decide) ⟨by rw [hs] <;> rfl, rfl⟩
              ·
                simp only [Bool.or_eq_false_iff, Bool.and_eq_false_iff, decide_eq_false_iff_not, not_true_eq_false, false_or] at hc113
                refine W_skip (X_then ?_)
                refine W_seq ?_
                refine W.pre (K' := [(0, _), (1, _), (7, _), (8, _), (9, _), (60, _), (113, _)]) (L' := [(0, _)]) ?_ ⟨rfl, ⟨rfl, ⟨rfl, ⟨rfl, ⟨rfl, ⟨rfl, ⟨rfl, trivial⟩⟩⟩⟩⟩⟩⟩ ⟨rfl, trivial⟩
                refine W_regL (WL_pure rfl rfl (by decide) (Pu_move rfl rfl) (WL_pure rfl rfl (by decide) (Pu_move rfl rfl) (WL_pure rfl rfl (by decide) (Pu_assign rfl rfl) (WL_pure rfl rfl (by decide) (Pu_assign rfl rfl) (WL_nil (X_then ?_))))))
                refine W_ret ?_
                have hs : oneR (l.drop i) = (x.2, 4) := (oneM_eq _ hne).symm.trans ((oneM_some (by rw [hg0]; exact h128) hld (by rw [List.length_drop]; omega) (by rw [← hrs]; exact restF_end hge _)).trans (by unfold finO; rw [if_neg (by omega)]))
                exact X_ret [] (Ps := []) (res2 Tryd.results27 rfl rfl) rfl (by decide) ⟨by rw [hs] <;> rfl, rfl⟩
        ·
          simp only [Bool.and_eq_false_iff, decide_eq_false_iff_not] at hc38
          refine W_skip (X_block (X_then ?_))
          refine W_seq ?_
          refine W_seq ?_
          refine W.pre (K' := [(0, _), (1, _), (4, _), (5, _), (6, _), (7, _), (8, _), (13, _), (18, _), (28, _), (38, _)]) (L' := [(0, _)]) ?_ ⟨rfl, ⟨rfl, ⟨rfl, ⟨rfl, ⟨rfl, ⟨rfl, ⟨rfl, ⟨rfl, ⟨rfl, ⟨rfl, ⟨rfl, trivial⟩⟩⟩⟩⟩⟩⟩⟩⟩⟩⟩ ⟨rfl, trivial⟩
          have hld : lead ((l.drop i).getD 0 0).toNat = (0, 0) := by rw [hg0]; unfold lead; rw [if_neg (by omega), if_neg (by omega), if_neg (by omega)]
          refine W_regL (WL_pure rfl rfl (by decide) (Pu_move rfl rfl) (WL_pure rfl rfl (by decide) (Pu_bin rfl rfl rfl (run_eql _ _ _ _ _ _)) (WL_pure rfl rfl (by decide) (Pu_move rfl rfl) (WL_guardP rfl rfl rfl rfl (by decide) (fun hb => (Pu_move rfl rfl)) (WL_guardP rfl rfl rfl rfl (by decide) (fun hb => (Pu_move rfl rfl)) (WL_guardP rfl rfl rfl rfl (by decide) (fun hb => (Pu_bin rfl (ev_gv rfl hb) (ev_gv rfl hb) (run_add _ _ _ _ _ (by omega)))) (WL_guardP rfl rfl rfl rfl (by decide) (fun hb => (Pu_move rfl rfl)) (WL_guardP rfl rfl rfl rfl (by decide) (fun hb => (Pu_lenStr rfl Tryd.underlying9 (ev_gv rfl hb))) (WL_guardP rfl rfl rfl rfl (by decide) (fun hb => (Pu_bin rfl (ev_gv rfl hb) (ev_gv rfl hb) (run_gtr _ _ _ _ _ _))) (WL_pure rfl rfl (by decide) (Pu_or rfl rfl rfl) (WL_nil (X_then ?_))))))))))))
          refine W_true rfl (rfl) ?_
          refine W_seq ?_
          refine W.pre (K' := [(0, _), (1, _), (4, _), (5, _), (6, _), (7, _), (8, _), (13, _), (18, _), (28, _), (38, _), (57, _)]) (L' := [(0, _)]) ?_ ⟨rfl, ⟨rfl, ⟨rfl, ⟨rfl, ⟨rfl, ⟨rfl, ⟨rfl, ⟨rfl, ⟨rfl, ⟨rfl, ⟨rfl, ⟨rfl, trivial⟩⟩⟩⟩⟩⟩⟩⟩⟩⟩⟩⟩ ⟨rfl, trivial⟩
          refine W_regL (WL_pure rfl rfl (by decide) (Pu_assign rfl rfl) (WL_pure rfl rfl (by decide) (Pu_assign rfl rfl) (WL_nil (X_then ?_))))
          refine W_ret (X_then_ret ?_)
          have hs : oneR (l.drop i) = (0, 0) := (oneM_eq _ hne).symm.trans (oneM_short (by rw [hg0]; exact h128) hld (.inl rfl))
          exact X_ret [] (Ps := []) (res2 Tryd.results27 rfl rfl) rfl (by decide) ⟨by rw [hs] <;> rfl, rfl⟩
theorem check_rspec (l : List UInt8) (hl : l.length ≤ 140737488355328) (F : HP) : CallsS Tryd.prog 23 #[sV l] F [] (fun v Ps => v = .int .i64 (checkN l : Int) ∧ Ps = []) := by
  refine callsS_enter Tryd.func23 rfl Tryd.ntmps23 (by simp) (fun E => ?_)
  refine W_seq ?_
  refine W.pre (K' := [(0, _)]) (L' := [(0, _)]) ?_ ⟨rfl, trivial⟩ ⟨rfl, trivial⟩
  refine W_regL (WL_pure rfl rfl (by decide) (Pu_assign rfl rfl) (WL_nil (X_then ?_)))
  refine W_seq ?_
  refine W.pre (K' := [(0, _), (2, _)]) (L' := [(0, _)]) ?_ ⟨rfl, ⟨rfl, trivial⟩⟩ ⟨rfl, trivial⟩
  refine W_regL (WL_pure rfl rfl (by decide) (Pu_assign rfl rfl) (WL_nil (X_then ?_)))
  refine W_seq ?_
  refine W.pre (K' := [(0, _), (2, _), (3, _)]) (L' := [(0, _)]) ?_ ⟨rfl, ⟨rfl, ⟨rfl, trivial⟩⟩⟩ ⟨rfl, trivial⟩
  refine W_regL (WL_pure rfl rfl (by decide) (Pu_move rfl rfl) (WL_pure rfl rfl (by decide) (Pu_bin rfl rfl rfl (run_strEq _ _ _ _ _)) (WL_pure rfl rfl (by decide) (Pu_move rfl rfl) (WL_guardP rfl rfl rfl rfl (by decide) (fun hb => (Pu_move rfl rfl)) (WL_guardP rfl rfl rfl rfl (by decide) (fun hb => (Pu_bin rfl (ev_gv rfl hb) rfl (run_strEq _ _ _ _ _))) (WL_pure rfl rfl (by decide) (Pu_or rfl rfl rfl) (WL_pure rfl rfl (by decide) (Pu_move rfl rfl) (WL_guardP rfl rfl rfl rfl (by decide) (fun hb => (Pu_move rfl rfl)) (WL_guardP rfl rfl rfl rfl (by decide) (fun hb => (Pu_bin rfl (ev_gv rfl hb) rfl (run_strEq _ _ _ _ _))) (WL_pure rfl rfl (by decide) (Pu_or rfl rfl rfl) (WL_pure rfl rfl (by decide) (Pu_assign rfl rfl) (WL_nil (X_then ?_)))))))))))))
  refine W_seq ?_
  refine W.pre (K' := [(0, _), (2, _), (3, _), (4, _)]) (L' := [(0, _)]) ?_ ⟨rfl, ⟨rfl, ⟨rfl, ⟨rfl, trivial⟩⟩⟩⟩ ⟨rfl, trivial⟩
  refine W_regL (WL_pure rfl rfl (by decide) (Pu_assign rfl rfl) (WL_nil (X_then ?_)))
  refine W_seq ?_
  refine W_block ?_
  refine W_loop (α := Nat × Nat × Bool) (fun x => [(0, sV l), (3, .int .i64 (x.2.1 : Int)), (4, .bool x.2.2), (5, .int .i64 (x.1 : Int))]) (fun x => [(0, F)]) (fun x => chk (l.drop x.1) x.2.1 x.2.2 = checkN l ∧ x.2.1 ≤ x.1 ∧ x.1 ≤ l.length) (fun x => l.length - x.1) ((0, 0, bad0 l)) ⟨rfl, Nat.le_refl _, Nat.zero_le _⟩ ⟨rfl, ⟨rfl, ⟨rfl, ⟨rfl, trivial⟩⟩⟩⟩ ⟨rfl, trivial⟩ (fun x hx => ?_)
  obtain ⟨hchk, hnp, hpl⟩ := hx
  refine W_seq ?_
  refine W_seq ?_
  refine W.pre (K' := [(0, _), (3, _), (4, _), (5, _)]) (L' := [(0, _)]) ?_ ⟨rfl, ⟨rfl, ⟨rfl, ⟨rfl, trivial⟩⟩⟩⟩ ⟨rfl, trivial⟩
  refine W_regL (WL_pure rfl rfl (by decide) (Pu_move rfl rfl) (WL_pure rfl rfl (by decide) (Pu_move rfl rfl) (WL_pure rfl rfl (by decide) (Pu_lenStr rfl Tryd.underlying9 rfl) (WL_pure rfl rfl (by decide) (Pu_bin rfl rfl rfl (run_lss _ _ _ _ _ _)) (WL_nil (X_then ?_))))))
  refine W_cond rfl (fun hc21 => ?_) (fun hc21 => ?_)
  ·
    have hlt : x.1 < l.length := by have := of_decide_eq_true hc21; omega
    have hne : l.drop x.1 ≠ [] := by intro hc; have := congrArg List.length hc; simp at this; omega
    have hw := decodeL_width (l.drop x.1)
    have hle := decodeL_le (l.drop x.1) hne
    rw [List.length_drop] at hle
    refine W_skip (X_then ?_)
    refine W_block ?_
    refine W_seq ?_
    refine W.pre (K' := [(0, _), (3, _), (4, _), (5, _), (21, _)]) (L' := [(0, _)]) ?_ ⟨rfl, ⟨rfl, ⟨rfl, ⟨rfl, ⟨rfl, trivial⟩⟩⟩⟩⟩ ⟨rfl, trivial⟩
    refine W_regL (WL_pure rfl rfl (by decide) (Pu_move rfl rfl) (WL_pure rfl rfl (by decide) (Pu_move rfl rfl) (WL_cons rfl rfl (by decide) (OpT_call 200 [0] [] rfl Tryd.call27 rfl rfl rfl (by decide) (by decide) (one_rspec l x.1 hlt hl _) (fun v25 Ps25 hR25 => ?_)))))
    obtain ⟨rfl, rfl⟩ := hR25
    refine (WL_pure rfl rfl (by decide) (Pu_move rfl rfl) (WL_pure rfl rfl (by decide) (Pu_extract rfl rfl rfl) (WL_pure rfl rfl (by decide) (Pu_extract rfl rfl rfl) (WL_pure rfl rfl (by decide) (Pu_assign rfl rfl) (WL_pure rfl rfl (by decide) (Pu_assign rfl rfl) (WL_nil (X_then ?_)))))))
    refine W_seq ?_
    refine W_seq ?_
    refine W.pre (K' := [(0, _), (3, _), (4, _), (5, _), (6, _), (7, _), (21, _)]) (L' := [(0, _)]) ?_ ⟨rfl, ⟨rfl, ⟨rfl, ⟨rfl, ⟨rfl, ⟨rfl, ⟨rfl, trivial⟩⟩⟩⟩⟩⟩⟩ ⟨rfl, trivial⟩
    refine W_regL (WL_pure rfl rfl (by decide) (Pu_move rfl rfl) (WL_pure rfl rfl (by decide) (Pu_bin rfl rfl rfl (run_eql _ _ _ _ _ _)) (WL_nil (X_then ?_))))
    refine W_cond rfl (fun hc29 => ?_) (fun hc29 => ?_)
    ·
      have hno : noRune (l.drop x.1) = true := oneR_zero hc29
      refine W_seq ?_
      refine W.pre (K' := [(0, _), (3, _), (4, _), (5, _), (6, _), (7, _), (21, _), (29, _)]) (L' := [(0, _)]) ?_ ⟨rfl, ⟨rfl, ⟨rfl, ⟨rfl, ⟨rfl, ⟨rfl, ⟨rfl, ⟨rfl, trivial⟩⟩⟩⟩⟩⟩⟩⟩ ⟨rfl, trivial⟩
      refine W_regL (WL_pure rfl rfl (by decide) (Pu_assign rfl rfl) (WL_nil (X_then ?_)))
      refine W_ret (X_then_ret (X_block_ret (X_then_ret (X_block_ret (X_then_ret ?_)))))
      exact X_ret [] (Ps := []) (res1 Tryd.results23 rfl) rfl (by decide) ⟨by rw [← hchk, chk_none hne hno] <;> rfl, rfl⟩
    ·
      have hno : noRune (l.drop x.1) = false := oneR_pos hc29
      rw [show oneR (l.drop x.1) = decodeL (l.drop x.1) from by unfold oneR; rw [hno]; rfl]
      refine W_skip (X_then ?_)
      refine W_seq ?_
      refine W.pre (K' := [(0, _), (3, _), (4, _), (5, _), (6, _), (7, _), (21, _), (29, _)]) (L' := [(0, _)]) ?_ ⟨rfl, ⟨rfl, ⟨rfl, ⟨rfl, ⟨rfl, ⟨rfl, ⟨rfl, ⟨rfl, trivial⟩⟩⟩⟩⟩⟩⟩⟩ ⟨rfl, trivial⟩
      refine W_regL (WL_pure rfl rfl (by decide) (Pu_move rfl rfl) (WL_pure rfl rfl (by decide) (Pu_move rfl rfl) (WL_guardP rfl rfl rfl rfl (by decide) (fun hb => (Pu_move rfl rfl)) (WL_guardP rfl rfl rfl rfl (by decide) (fun hb => (Pu_bin rfl (ev_gv rfl hb) rfl (run_eql _ _ _ _ _ _))) (WL_pure rfl rfl (by decide) (Pu_or rfl rfl rfl) (WL_pure rfl rfl (by decide) (Pu_move rfl rfl) (WL_guardP rfl rfl rfl rfl (by decide) (fun hb => (Pu_move rfl rfl)) (WL_guardP rfl rfl rfl rfl (by decide) (fun hb => (Pu_bin rfl (ev_gv rfl hb) rfl (run_lss _ _ _ _ _ _))) (WL_pure rfl rfl (by decide) (Pu_or rfl rfl rfl) (WL_pure rfl rfl (by decide) (Pu_move rfl rfl) (WL_guardP rfl rfl rfl rfl (by decide) (fun hb => (Pu_move rfl rfl)) (WL_guardP rfl rfl rfl rfl (by decide) (fun hb => (Pu_bin rfl (ev_gv rfl hb) rfl (run_eql _ _ _ _ _ _))) (WL_pure rfl rfl (by decide) (Pu_or rfl rfl rfl) (WL_pure rfl rfl (by decide) (Pu_assign rfl rfl) (WL_nil (X_then ?_))))))))))))))))
      refine W_seq ?_
      refine W.pre (K' := [(0, _), (3, _), (4, _), (5, _), (6, _), (7, _), (21, _), (29, _)]) (L' := [(0, _)]) ?_ ⟨rfl, ⟨rfl, ⟨rfl, ⟨rfl, ⟨rfl, ⟨rfl, ⟨rfl, ⟨rfl, trivial⟩⟩⟩⟩⟩⟩⟩⟩ ⟨rfl, trivial⟩
      refine W_regL (WL_pure rfl rfl (by decide) (Pu_move rfl rfl) (WL_pure rfl rfl (by decide) (Pu_bin rfl rfl rfl (run_add _ _ _ _ _ (by omega))) (WL_pure rfl rfl (by decide) (Pu_assign rfl rfl) (WL_nil (X_then ?_)))))
      refine W.pre (K' := [(0, _), (3, _), (4, _), (5, _), (6, _), (7, _), (21, _), (29, _)]) (L' := [(0, _)]) ?_ ⟨rfl, ⟨rfl, ⟨rfl, ⟨rfl, ⟨rfl, ⟨rfl, ⟨rfl, ⟨rfl, trivial⟩⟩⟩⟩⟩⟩⟩⟩ ⟨rfl, trivial⟩
      refine W_regL (WL_pure rfl rfl (by decide) (Pu_move rfl rfl) (WL_pure rfl rfl (by decide) (Pu_move rfl rfl) (WL_pure rfl rfl (by decide) (Pu_bin rfl rfl rfl (run_add _ _ _ _ _ (by omega))) (WL_pure rfl rfl (by decide) (Pu_assign rfl rfl) (WL_nil (X_block ?_))))))
      exact X_round (x.1 + (decodeL (l.drop x.1)).2, x.2.1 + 1, (x.2.2 || wrongR (decodeL (l.drop x.1)).1)) ⟨by rw [← hchk, chk_some hne hno, List.drop_drop], by show x.2.1 + 1 ≤ x.1 + _; omega, by show x.1 + _ ≤ l.length; omega⟩ (by show l.length - (x.1 + _) < l.length - x.1; omega) ⟨rfl, rfl, congrArg some (bool_val (wrongR_ref _ _)), rfl, trivial⟩ ⟨rfl, trivial⟩
  ·
    have hge : l.length ≤ x.1 := by have := of_decide_eq_false hc21; omega
    have hend : l.drop x.1 = [] := List.drop_of_length_le hge
    rw [hend, chk_nil] at hchk
    refine W_exit (X_then_exit (X_then_exit (X_block_exit (X_then ?_))))
    refine W_seq ?_
    refine W_seq ?_
    refine W.pre (K' := [(0, _), (3, _), (4, _), (5, _), (21, _)]) (L' := [(0, _)]) ?_ ⟨rfl, ⟨rfl, ⟨rfl, ⟨rfl, ⟨rfl, trivial⟩⟩⟩⟩⟩ ⟨rfl, trivial⟩
    refine W_regL (WL_pure rfl rfl (by decide) (Pu_move rfl rfl) (WL_nil (X_then ?_)))
    refine W_cond rfl (fun hc48 => ?_) (fun hc48 => ?_)
    ·
      have hb := hc48
      refine W_seq ?_
      refine W.pre (K' := [(0, _), (3, _), (4, _), (5, _), (21, _), (48, _)]) (L' := [(0, _)]) ?_ ⟨rfl, ⟨rfl, ⟨rfl, ⟨rfl, ⟨rfl, ⟨rfl, trivial⟩⟩⟩⟩⟩⟩ ⟨rfl, trivial⟩
      refine W_regL (WL_pure rfl rfl (by decide) (Pu_assign rfl rfl) (WL_nil (X_then ?_)))
      refine W_ret (X_then_ret ?_)
      exact X_ret [] (Ps := []) (res1 Tryd.results23 rfl) rfl (by decide) ⟨by rw [← hchk, finC, hb] <;> rfl, rfl⟩
    ·
      have hb := hc48
      refine W_skip (X_then ?_)
      refine W_seq ?_
      refine W_seq ?_
      refine W.pre (K' := [(0, _), (3, _), (4, _), (5, _), (21, _), (48, _)]) (L' := [(0, _)]) ?_ ⟨rfl, ⟨rfl, ⟨rfl, ⟨rfl, ⟨rfl, ⟨rfl, trivial⟩⟩⟩⟩⟩⟩ ⟨rfl, trivial⟩
      refine W_regL (WL_pure rfl rfl (by decide) (Pu_move rfl rfl) (WL_pure rfl rfl (by decide) (Pu_bin rfl rfl rfl (run_gtr _ _ _ _ _ _)) (WL_nil (X_then ?_))))
      refine W_cond rfl (fun hc50 => ?_) (fun hc50 => ?_)
      ·
        have hb2 := of_decide_eq_true hc50
        refine W_seq ?_
        refine W.pre (K' := [(0, _), (3, _), (4, _), (5, _), (21, _), (48, _), (50, _)]) (L' := [(0, _)]) ?_ ⟨rfl, ⟨rfl, ⟨rfl, ⟨rfl, ⟨rfl, ⟨rfl, ⟨rfl, trivial⟩⟩⟩⟩⟩⟩⟩ ⟨rfl, trivial⟩
        refine W_regL (WL_pure rfl rfl (by decide) (Pu_assign rfl rfl) (WL_nil (X_then ?_)))
        refine W_ret (X_then_ret ?_)
        exact X_ret [] (Ps := []) (res1 Tryd.results23 rfl) rfl (by decide) ⟨by rw [← hchk, finC, hb, if_neg (by decide), if_pos (by omega)] <;> rfl, rfl⟩
      ·
        have hb2 := of_decide_eq_false hc50
        refine W_skip (X_then ?_)
        refine W_seq ?_
        refine W.pre (K' := [(0, _), (3, _), (4, _), (5, _), (21, _), (48, _), (50, _)]) (L' := [(0, _)]) ?_ ⟨rfl, ⟨rfl, ⟨rfl, ⟨rfl, ⟨rfl, ⟨rfl, ⟨rfl, trivial⟩⟩⟩⟩⟩⟩⟩ ⟨rfl, trivial⟩
        refine W_regL (WL_pure rfl rfl (by decide) (Pu_assign rfl rfl) (WL_nil (X_then ?_)))
        refine W_ret ?_
        exact X_ret [] (Ps := []) (res1 Tryd.results23 rfl) rfl (by decide) ⟨by rw [← hchk, finC, hb, if_neg (by decide), if_neg (by omega)] <;> rfl, rfl⟩
end Go.Proofs.YtnhidehpacidnaaDoor
/- Directories: what is wrong with one. -/
namespace Go.Proofs.YtnhidehpacidnaaDoor
open Go.RowKit Go.Lib
set_option linter.unusedVariables false
set_option linter.unusedSimpArgs false

theorem beq_false_of {b : Bool} (h : (b == false) = true) : b = false := by simpa using h
theorem beq_true_of {b : Bool} (h : (b == true) = true) : b = true := by simpa using h
theorem run_geqStr {P : Program} (a b : List UInt8) (t : TypeId) (x y : Operand) (w : World) : ((do eqGuard .geq t x y (sV a) (sV b); binOp .geq t (sV a) (sV b) : Sem Value)).run P w = .ok (.bool (!Op.bytesLess a b)) w := by
  simp [eqGuard, binOp, Op.stringOp, strB_toList]
theorem run_leqStr {P : Program} (a b : List UInt8) (t : TypeId) (x y : Operand) (w : World) : ((do eqGuard .leq t x y (sV a) (sV b); binOp .leq t (sV a) (sV b) : Sem Value)).run P w = .ok (.bool (Op.bytesLess a b || a == b)) w := by
  simp [eqGuard, binOp, Op.stringOp, strB_toList]
theorem ent_nameZ {es : List Ent} (h : Ents es) {k : Nat} (hk : k < es.length) {i : Int} (hi : i = (k : Int)) : (recC entF es)[i.toNat * 33 + 0]? = some (sV (es.getD k ent0).1) := by
  subst hi
  exact ent_name h hk
theorem bad_spec (v : Value) (es : List Ent) (hE : Ents es) (hl : es.length ≤ 140737488355328) (hn : ∀ e ∈ es, e.1.length ≤ 140737488355328) (F : HP) (hF : ∀ h, F h → rdE v es h) (hT : ∀ h, F h → tabsP h) : CallsS Tryd.prog 17 #[v] F [] (fun r Ps => r = .int .i64 (dirE es : Int) ∧ Ps = []) := by
  refine callsS_enter Tryd.func17 rfl Tryd.ntmps17 (by simp) (fun E => ?_)
  refine W_seq ?_
  refine W.pre (K' := [(0, _)]) (L' := [(0, _)]) ?_ ⟨rfl, trivial⟩ ⟨rfl, trivial⟩
  refine W_regL (WL_pure rfl rfl (by decide) (Pu_assign rfl rfl) (WL_nil (X_then ?_)))
  refine W_seq ?_
  refine W_seq ?_
  refine W.pre (K' := [(0, _), (2, _)]) (L' := [(0, _)]) ?_ ⟨rfl, ⟨rfl, trivial⟩⟩ ⟨rfl, trivial⟩
  refine W_regL (WL_pure rfl rfl (by decide) (Pu_move rfl rfl) (WL_pure rfl rfl (by decide) (Pu_len (r := 0) rfl Tryd.runUnderlying22 rfl rfl hF) (WL_pure rfl rfl (by decide) (Pu_move rfl rfl) (WL_nil (X_then ?_)))))
  refine W_block ?_
  refine W_loop (α := Nat) (fun i => [(0, v), (7, v), (8, .int .i64 (es.length : Int)), (9, .int .i64 (i : Int))]) (fun i => [(0, F)]) (fun i => i ≤ es.length ∧ firstBad ((nms es).drop i) = firstBad (nms es)) (fun i => es.length - i) (0) ⟨Nat.zero_le _, rfl⟩ ⟨rfl, ⟨rfl, ⟨rfl, ⟨rfl, trivial⟩⟩⟩⟩ ⟨rfl, trivial⟩ (fun x hx => ?_)
  obtain ⟨hxl, hfb⟩ := hx
  refine W_seq ?_
  refine W.pre (K' := [(0, _), (7, _), (8, _), (9, _)]) (L' := [(0, _)]) ?_ ⟨rfl, ⟨rfl, ⟨rfl, ⟨rfl, trivial⟩⟩⟩⟩ ⟨rfl, trivial⟩
  refine W_regL (WL_pure rfl rfl (by decide) (Pu_bin rfl rfl rfl (run_lss _ _ _ _ _ _)) (WL_nil (X_then ?_)))
  refine W_seq ?_
  refine W_cond rfl (fun hc10 => ?_) (fun hc10 => ?_)
  ·
    have hlt : x < es.length := by have := of_decide_eq_true hc10; omega
    refine W_skip (X_then ?_)
    refine W_seq ?_
    refine W_block ?_
    refine W_seq ?_
    refine W.pre (K' := [(0, _), (7, _), (8, _), (9, _), (10, _)]) (L' := [(0, _)]) ?_ ⟨rfl, ⟨rfl, ⟨rfl, ⟨rfl, ⟨rfl, trivial⟩⟩⟩⟩⟩ ⟨rfl, trivial⟩
    refine W_regL (WL_pure rfl rfl (by decide) (Pu_idxS (r := 0) rfl Tryd.runUnderlying22 Tryd.sizeOf30 rfl rfl rfl hF (by omega)) (WL_pure rfl rfl (by decide) (Pu_loadSN (r := 0) rfl Tryd.isAgg30 Tryd.sizeOf30 rfl rfl hF (entC_length (hE.get hlt)) (by decide) (ent_all hE hlt)) (WL_cons rfl rfl (by decide) (OpT_alloc (r := 101) rfl (zero_run (by kernel_rfl : (Tryd.prog.info? 30).bind (·.zero) = some (.agg (entC [] zeroId).toArray))) rfl (fun g101 => (WL_cons0 rfl rfl (OpT_storeAll (r := 101) rfl Tryd.sizeOf30 rfl rfl rfl rfl (entC_length (hE.get hlt)) (entC_one _ _) ?_)))))))
    refine (WL_nil (X_then ?_))
    refine W_seq ?_
    refine W.pre (K' := [(0, _), (4, _), (7, _), (8, _), (9, _), (10, _)]) (L' := [(0, _), (101, _)]) ?_ ⟨rfl, ⟨rfl, ⟨rfl, ⟨rfl, ⟨rfl, ⟨rfl, trivial⟩⟩⟩⟩⟩⟩ ⟨rfl, ⟨rfl, trivial⟩⟩
    refine W_regL (WL_pure rfl rfl (by decide) (Pu_fieldAddrB (off := 0) rfl rfl (by kernel_rfl)) (WL_pure rfl rfl (by decide) (Pu_loadB (r := 101) rfl Tryd.isAgg9 rfl rfl rfl) (WL_cons rfl rfl (by decide) (OpT_call 200 [0, 101] [] rfl Tryd.call22 rfl rfl rfl (by decide) (by decide) (check_spec (es.getD x ent0).1 (hn _ (getD_mem' hlt)) _ (tabs_star 0 rfl hT)) (fun v15 Ps15 hR15 => ?_)))))
    obtain ⟨rfl, rfl⟩ := hR15
    refine (WL_pure rfl rfl (by decide) (Pu_assign rfl rfl) (WL_nil (X_then ?_)))
    refine W_seq ?_
    refine W.pre (K' := [(0, _), (4, _), (5, _), (7, _), (8, _), (9, _), (10, _)]) (L' := [(0, _), (101, _)]) ?_ ⟨rfl, ⟨rfl, ⟨rfl, ⟨rfl, ⟨rfl, ⟨rfl, ⟨rfl, trivial⟩⟩⟩⟩⟩⟩⟩ ⟨rfl, ⟨rfl, trivial⟩⟩
    refine W_regL (WL_pure rfl rfl (by decide) (Pu_move rfl rfl) (WL_pure rfl rfl (by decide) (Pu_bin rfl rfl rfl (run_neq _ _ _ _ _ _)) (WL_nil (X_then ?_))))
    refine W_cond rfl (fun hc17 => ?_) (fun hc17 => ?_)
    ·
      have hne : ¬ (checkN (es.getD x ent0).1 : Int) = 0 := by simpa using hc17
      have hbad : firstBad (nms es) = checkN (es.getD x ent0).1 := by rw [← hfb, firstBad_bad (by rw [nms_length]; exact hlt) (by rw [nms_at hlt]; exact hne), nms_at hlt]
      refine W_seq ?_
      refine W.pre (K' := [(0, _), (4, _), (5, _), (7, _), (8, _), (9, _), (10, _), (17, _)]) (L' := [(0, _), (101, _)]) ?_ ⟨rfl, ⟨rfl, ⟨rfl, ⟨rfl, ⟨rfl, ⟨rfl, ⟨rfl, ⟨rfl, trivial⟩⟩⟩⟩⟩⟩⟩⟩ ⟨rfl, ⟨rfl, trivial⟩⟩
      refine W_regL (WL_pure rfl rfl (by decide) (Pu_move rfl rfl) (WL_pure rfl rfl (by decide) (Pu_assign rfl rfl) (WL_nil (X_then ?_))))
      refine W_ret (X_block_ret (X_then_ret (X_then_ret (X_block_ret (X_then_ret ?_)))))
      exact X_ret [] (Ps := []) (res1 Tryd.results17 rfl) rfl (by decide) ⟨by rw [dirE_bad (by rw [hbad]; omega), hbad], rfl⟩
    ·
      have hgood : firstBad ((nms es).drop x) = firstBad ((nms es).drop (x + 1)) := firstBad_good (by rw [nms_length]; exact hlt) (by rw [nms_at hlt]; simpa using hc17)
      refine W_skip (X_block (X_then ?_))
      refine W.pre (K' := [(0, _), (4, _), (5, _), (7, _), (8, _), (9, _), (10, _), (17, _)]) (L' := [(0, _), (101, _)]) ?_ ⟨rfl, ⟨rfl, ⟨rfl, ⟨rfl, ⟨rfl, ⟨rfl, ⟨rfl, ⟨rfl, trivial⟩⟩⟩⟩⟩⟩⟩⟩ ⟨rfl, ⟨rfl, trivial⟩⟩
      refine W_regL (WL_pure rfl rfl (by decide) (Pu_bin rfl rfl rfl (run_add _ _ _ _ _ (by omega))) (WL_pure rfl rfl (by decide) (Pu_move rfl rfl) (WL_nil ?_)))
      exact X_round (x + 1) ⟨hlt, by rw [← hfb, hgood]⟩ (by omega) ⟨rfl, ⟨rfl, ⟨rfl, ⟨rfl, trivial⟩⟩⟩⟩ ⟨rfl, trivial⟩
  ·
    have hge : es.length ≤ x := by have := of_decide_eq_false hc10; omega
    have hfb0 : firstBad (nms es) = 0 := by rw [← hfb]; exact firstBad_end (by rw [nms_length]; exact hge)
    refine W_exit (X_then_exit (X_then_exit (X_block_exit (X_then ?_))))
    refine W_seq ?_
    refine W_seq ?_
    refine W.pre (K' := [(0, _), (7, _), (8, _), (9, _), (10, _)]) (L' := [(0, _)]) ?_ ⟨rfl, ⟨rfl, ⟨rfl, ⟨rfl, ⟨rfl, trivial⟩⟩⟩⟩⟩ ⟨rfl, trivial⟩
    refine W_regL (WL_pure rfl rfl (by decide) (Pu_move rfl rfl) (WL_pure rfl rfl (by decide) (Pu_len (r := 0) rfl Tryd.runUnderlying22 rfl rfl hF) (WL_pure rfl rfl (by decide) (Pu_move rfl rfl) (WL_nil (X_then ?_)))))
    refine W_block ?_
    refine W_loop (α := Nat) (fun i => [(0, v), (21, .int .i64 (es.length : Int)), (22, .int .i64 (i : Int))]) (fun i => [(0, F)]) (fun i => i ≤ es.length + 1 ∧ riseP (nms es) i) (fun i => es.length + 1 - i) (0) ⟨by omega, fun j hj h1 => by omega⟩ ⟨rfl, ⟨rfl, ⟨rfl, trivial⟩⟩⟩ ⟨rfl, trivial⟩ (fun k hk => ?_)
    obtain ⟨hkl, hri⟩ := hk
    refine W_seq ?_
    refine W.pre (K' := [(0, _), (21, _), (22, _)]) (L' := [(0, _)]) ?_ ⟨rfl, ⟨rfl, ⟨rfl, trivial⟩⟩⟩ ⟨rfl, trivial⟩
    refine W_regL (WL_pure rfl rfl (by decide) (Pu_bin rfl rfl rfl (run_lss _ _ _ _ _ _)) (WL_nil (X_then ?_)))
    refine W_seq ?_
    refine W_cond rfl (fun hc23 => ?_) (fun hc23 => ?_)
    ·
      have hlt2 : k < es.length := by have := of_decide_eq_true hc23; omega
      refine W_skip (X_then ?_)
      refine W_seq ?_
      refine W_block ?_
      refine W_seq ?_
      refine W.pre (K' := [(0, _), (21, _), (22, _), (23, _)]) (L' := [(0, _)]) ?_ ⟨rfl, ⟨rfl, ⟨rfl, ⟨rfl, trivial⟩⟩⟩⟩ ⟨rfl, trivial⟩
      refine W_regL (WL_pure rfl rfl (by decide) (Pu_move rfl rfl) (WL_pure rfl rfl (by decide) (Pu_assign rfl rfl) (WL_nil (X_then ?_))))
      refine W_seq ?_
      refine W.pre (K' := [(0, _), (6, _), (21, _), (22, _), (23, _)]) (L' := [(0, _)]) ?_ ⟨rfl, ⟨rfl, ⟨rfl, ⟨rfl, ⟨rfl, trivial⟩⟩⟩⟩⟩ ⟨rfl, trivial⟩
      refine W_draw (N := 16) (by kernel_rfl) rfl [(0, _)] ⟨rfl, trivial⟩ ?_
      refine (AH_take 0 rfl (by kernel_rfl) (by kernel_rfl) (by kernel_rfl) rfl rfl (by decide) (Pu_move rfl rfl) (AH_take 1 rfl (by kernel_rfl) (by kernel_rfl) (by kernel_rfl) rfl rfl (by decide) (Pu_bin rfl rfl rfl (run_gtr _ _ _ _ _ _)) (AH_take 2 rfl (by kernel_rfl) (by kernel_rfl) (by kernel_rfl) rfl rfl (by decide) (Pu_move rfl rfl) (AH_takeG 3 rfl (by kernel_rfl) (by kernel_rfl) (by kernel_rfl) rfl rfl rfl rfl (by decide) (fun hb => (Pu_move rfl rfl)) (AH_takeG 4 rfl (by kernel_rfl) (by kernel_rfl) (by kernel_rfl) rfl rfl rfl rfl (by decide) (fun hb => (Pu_move rfl rfl)) (AH_takeG 5 rfl (by kernel_rfl) (by kernel_rfl) (by kernel_rfl) rfl rfl rfl rfl (by decide) (fun hb => (Pu_bin rfl (ev_gv rfl hb) rfl (run_sub _ _ _ _ _ (by have := of_decide_eq_true (beq_true_of hb); omega)))) (AH_takeG 6 rfl (by kernel_rfl) (by kernel_rfl) (by kernel_rfl) rfl rfl rfl rfl (by decide) (fun hb => (Pu_idxS (r := 0) rfl Tryd.runUnderlying22 Tryd.sizeOf30 (ev_gv rfl hb) (ev_gv rfl hb) rfl hF (by have := of_decide_eq_true (beq_true_of hb); omega))) (AH_takeG 7 rfl (by kernel_rfl) (by kernel_rfl) (by kernel_rfl) rfl rfl rfl rfl (by decide) (fun hb => (Pu_fieldAddrE (off := 0) rfl (ev_gv rfl hb) (by kernel_rfl))) (AH_takeG 8 rfl (by kernel_rfl) (by kernel_rfl) (by kernel_rfl) rfl rfl rfl rfl (by decide) (fun hb => (Pu_loadS (r := 0) rfl Tryd.isAgg9 (ev_gv rfl hb) rfl hF (by have h0 := of_decide_eq_true (beq_true_of hb); exact ent_nameZ hE (k := k - 1) (by omega) (by omega)))) (AH_takeG 9 rfl (by kernel_rfl) (by kernel_rfl) (by kernel_rfl) rfl rfl rfl rfl (by decide) (fun hb => (Pu_move rfl rfl)) (AH_takeG 10 rfl (by kernel_rfl) (by kernel_rfl) (by kernel_rfl) rfl rfl rfl rfl (by decide) (fun hb => (Pu_move rfl rfl)) (AH_takeG 11 rfl (by kernel_rfl) (by kernel_rfl) (by kernel_rfl) rfl rfl rfl rfl (by decide) (fun hb => (Pu_idxS (r := 0) rfl Tryd.runUnderlying22 Tryd.sizeOf30 (ev_gv rfl hb) (ev_gv rfl hb) rfl hF (by omega))) (AH_takeG 12 rfl (by kernel_rfl) (by kernel_rfl) (by kernel_rfl) rfl rfl rfl rfl (by decide) (fun hb => (Pu_fieldAddrE (off := 0) rfl (ev_gv rfl hb) (by kernel_rfl))) (AH_takeG 13 rfl (by kernel_rfl) (by kernel_rfl) (by kernel_rfl) rfl rfl rfl rfl (by decide) (fun hb => (Pu_loadS (r := 0) rfl Tryd.isAgg9 (ev_gv rfl hb) rfl hF (ent_nameZ hE (k := k) hlt2 rfl))) (AH_takeG 14 rfl (by kernel_rfl) (by kernel_rfl) (by kernel_rfl) rfl rfl rfl rfl (by decide) (fun hb => (Pu_bin rfl (ev_gv rfl hb) (ev_gv rfl hb) (run_geqStr (es.getD (k - 1) ent0).1 (es.getD k ent0).1 _ _ _))) (AH_take 15 rfl (by kernel_rfl) (by kernel_rfl) (by kernel_rfl) rfl rfl (by decide) (Pu_and rfl rfl rfl) (AH_done (by kernel_rfl) (X_then ?_))))))))))))))))))
      refine W_cond rfl (fun hc40 => ?_) (fun hc40 => ?_)
      ·
        simp only [Bool.and_eq_true, decide_eq_true_eq] at hc40
        have hk1 : 1 ≤ k := by omega
        have hfall : ¬ riseP (nms es) es.length := riseP_not hk1 hlt2 (by rw [nms_at (by omega), nms_at hlt2]; simpa using hc40.2)
        refine W_seq ?_
        refine W.pre (K' := [(0, _), (6, _), (21, _), (22, _), (23, _), (40, _)]) (L' := [(0, _)]) ?_ ⟨rfl, ⟨rfl, ⟨rfl, ⟨rfl, ⟨rfl, ⟨rfl, trivial⟩⟩⟩⟩⟩⟩ ⟨rfl, trivial⟩
        refine W_regL (WL_pure rfl rfl (by decide) (Pu_assign rfl rfl) (WL_nil (X_then ?_)))
        refine W_ret (X_block_ret (X_then_ret (X_then_ret (X_block_ret (X_then_ret ?_)))))
        exact X_ret [] (Ps := []) (res1 Tryd.results17 rfl) rfl (by decide) ⟨by rw [dirE_fall hfb0 hfall] <;> rfl, rfl⟩
      ·
        simp only [Bool.and_eq_false_iff, decide_eq_false_iff_not] at hc40
        have hup : 1 ≤ k → Op.bytesLess ((nms es).getD (k - 1) []) ((nms es).getD k []) = true := fun hk1 => by rw [nms_at (by omega), nms_at hlt2]; simpa using hc40.resolve_left (by omega)
        refine W_skip (X_block (X_then ?_))
        refine W.pre (K' := [(0, _), (6, _), (21, _), (22, _), (23, _), (40, _)]) (L' := [(0, _)]) ?_ ⟨rfl, ⟨rfl, ⟨rfl, ⟨rfl, ⟨rfl, ⟨rfl, trivial⟩⟩⟩⟩⟩⟩ ⟨rfl, trivial⟩
        refine W_regL (WL_pure rfl rfl (by decide) (Pu_bin rfl rfl rfl (run_add _ _ _ _ _ (by omega))) (WL_pure rfl rfl (by decide) (Pu_move rfl rfl) (WL_nil ?_)))
        exact X_round (k + 1) ⟨by omega, riseP_succ hri hup⟩ (by omega) ⟨rfl, ⟨rfl, ⟨rfl, trivial⟩⟩⟩ ⟨rfl, trivial⟩
    ·
      have hge2 : es.length ≤ k := by have := of_decide_eq_false hc23; omega
      have hris : riseP (nms es) es.length := fun j hj h1 => hri j (by omega) h1
      refine W_exit (X_then_exit (X_then_exit (X_block_exit (X_then ?_))))
      refine W_seq ?_
      refine W_seq ?_
      refine W.pre (K' := [(0, _), (21, _), (22, _), (23, _)]) (L' := [(0, _)]) ?_ ⟨rfl, ⟨rfl, ⟨rfl, ⟨rfl, trivial⟩⟩⟩⟩ ⟨rfl, trivial⟩
      refine W_regL (WL_pure rfl rfl (by decide) (Pu_move rfl rfl) (WL_pure rfl rfl (by decide) (Pu_len (r := 0) rfl Tryd.runUnderlying22 rfl rfl hF) (WL_pure rfl rfl (by decide) (Pu_bin rfl rfl rfl (run_gtr _ _ _ _ _ _)) (WL_nil (X_then ?_)))))
      refine W_cond rfl (fun hc44 => ?_) (fun hc44 => ?_)
      ·
        have h20 : 20 < es.length := by have := of_decide_eq_true hc44; omega
        refine W_seq ?_
        refine W.pre (K' := [(0, _), (21, _), (22, _), (23, _), (44, _)]) (L' := [(0, _)]) ?_ ⟨rfl, ⟨rfl, ⟨rfl, ⟨rfl, ⟨rfl, trivial⟩⟩⟩⟩⟩ ⟨rfl, trivial⟩
        refine W_regL (WL_pure rfl rfl (by decide) (Pu_assign rfl rfl) (WL_nil (X_then ?_)))
        refine W_ret (X_then_ret ?_)
        exact X_ret [] (Ps := []) (res1 Tryd.results17 rfl) rfl (by decide) ⟨by rw [dirE_many hfb0 hris h20] <;> rfl, rfl⟩
      ·
        have h20 : ¬ 20 < es.length := by have := of_decide_eq_false hc44; omega
        refine W_skip (X_then ?_)
        refine W_seq ?_
        refine W.pre (K' := [(0, _), (21, _), (22, _), (23, _), (44, _)]) (L' := [(0, _)]) ?_ ⟨rfl, ⟨rfl, ⟨rfl, ⟨rfl, ⟨rfl, trivial⟩⟩⟩⟩⟩ ⟨rfl, trivial⟩
        refine W_regL (WL_pure rfl rfl (by decide) (Pu_assign rfl rfl) (WL_nil (X_then ?_)))
        refine W_ret ?_
        exact X_ret [] (Ps := []) (res1 Tryd.results17 rfl) rfl (by decide) ⟨by rw [dirE_ok hfb0 hris h20] <;> rfl, rfl⟩
theorem wrongDir_spec (v : Value) (es : List Ent) (hE : Ents es) (hl : es.length ≤ 140737488355328) (hn : ∀ e ∈ es, e.1.length ≤ 140737488355328) (F : HP) (hF : ∀ h, F h → rdE v es h) : CallsS Tryd.prog 18 #[v] F [] (fun r Ps => r = .int .i64 (dirE es : Int) ∧ Ps = []) := by
  refine callsS_enter Tryd.func18 rfl Tryd.ntmps18 (by simp) (fun E => ?_)
  refine W_seq ?_
  refine W.pre (K' := [(0, _)]) (L' := [(0, _)]) ?_ ⟨rfl, trivial⟩ ⟨rfl, trivial⟩
  refine W_regL (WL_pure rfl rfl (by decide) (Pu_assign rfl rfl) (WL_nil (X_then ?_)))
  refine W_seq ?_
  refine W_seq ?_
  refine W.pre (K' := [(0, _), (2, _)]) (L' := [(0, _)]) ?_ ⟨rfl, ⟨rfl, trivial⟩⟩ ⟨rfl, trivial⟩
  refine W_regL (WL_pure rfl rfl (by decide) (Pu_assign rfl rfl) (WL_nil (X_then ?_)))
  refine W_block ?_
  refine W_loop (α := Nat) (fun i => [(0, v), (3, .int .i64 (i : Int))]) (fun i => [(0, F)]) (fun i => i ≤ es.length ∧ firstBad ((nms es).drop i) = firstBad (nms es)) (fun i => es.length - i) (0) ⟨Nat.zero_le _, rfl⟩ ⟨rfl, ⟨rfl, trivial⟩⟩ ⟨rfl, trivial⟩ (fun x hx => ?_)
  obtain ⟨hxl, hfb⟩ := hx
  refine W_seq ?_
  refine W_seq ?_
  refine W.pre (K' := [(0, _), (3, _)]) (L' := [(0, _)]) ?_ ⟨rfl, ⟨rfl, trivial⟩⟩ ⟨rfl, trivial⟩
  refine W_regL (WL_pure rfl rfl (by decide) (Pu_move rfl rfl) (WL_pure rfl rfl (by decide) (Pu_move rfl rfl) (WL_pure rfl rfl (by decide) (Pu_len (r := 0) rfl Tryd.runUnderlying22 rfl rfl hF) (WL_pure rfl rfl (by decide) (Pu_bin rfl rfl rfl (run_lss _ _ _ _ _ _)) (WL_nil (X_then ?_))))))
  refine W_cond rfl (fun hc8 => ?_) (fun hc8 => ?_)
  ·
    have hlt : x < es.length := by have := of_decide_eq_true hc8; omega
    refine W_skip (X_then ?_)
    refine W_seq ?_
    refine W_block ?_
    refine W_seq ?_
    refine W.pre (K' := [(0, _), (3, _), (8, _)]) (L' := [(0, _)]) ?_ ⟨rfl, ⟨rfl, ⟨rfl, trivial⟩⟩⟩ ⟨rfl, trivial⟩
    refine W_regL (WL_pure rfl rfl (by decide) (Pu_move rfl rfl) (WL_pure rfl rfl (by decide) (Pu_move rfl rfl) (WL_pure rfl rfl (by decide) (Pu_idxS (r := 0) rfl Tryd.runUnderlying22 Tryd.sizeOf30 rfl rfl rfl hF (by omega)) (WL_pure rfl rfl (by decide) (Pu_fieldAddrE (off := 0) rfl rfl (by kernel_rfl)) (WL_pure rfl rfl (by decide) (Pu_loadS (r := 0) rfl Tryd.isAgg9 rfl rfl hF (ent_name hE hlt)) (WL_cons rfl rfl (by decide) (OpT_call 200 [0] [] rfl Tryd.call23 rfl rfl rfl (by decide) (by decide) (check_rspec (es.getD x ent0).1 (hn _ (getD_mem' hlt)) _) (fun v16 Ps16 hR16 => ?_))))))))
    obtain ⟨rfl, rfl⟩ := hR16
    refine (WL_pure rfl rfl (by decide) (Pu_bin rfl rfl rfl (run_neq _ _ _ _ _ _)) (WL_nil (X_then ?_)))
    refine W_cond rfl (fun hc17 => ?_) (fun hc17 => ?_)
    ·
      have hne : ¬ (checkN (es.getD x ent0).1 : Int) = 0 := by simpa using hc17
      have hbad : firstBad (nms es) = checkN (es.getD x ent0).1 := by rw [← hfb, firstBad_bad (by rw [nms_length]; exact hlt) (by rw [nms_at hlt]; exact hne), nms_at hlt]
      refine W_seq ?_
      refine W.pre (K' := [(0, _), (3, _), (8, _), (17, _)]) (L' := [(0, _)]) ?_ ⟨rfl, ⟨rfl, ⟨rfl, ⟨rfl, trivial⟩⟩⟩⟩ ⟨rfl, trivial⟩
      refine W_regL (WL_pure rfl rfl (by decide) (Pu_move rfl rfl) (WL_pure rfl rfl (by decide) (Pu_move rfl rfl) (WL_pure rfl rfl (by decide) (Pu_idxS (r := 0) rfl Tryd.runUnderlying22 Tryd.sizeOf30 rfl rfl rfl hF (by omega)) (WL_pure rfl rfl (by decide) (Pu_fieldAddrE (off := 0) rfl rfl (by kernel_rfl)) (WL_pure rfl rfl (by decide) (Pu_loadS (r := 0) rfl Tryd.isAgg9 rfl rfl hF (ent_name hE hlt)) (WL_cons rfl rfl (by decide) (OpT_call 300 [0] [] rfl Tryd.call23 rfl rfl rfl (by decide) (by decide) (check_rspec (es.getD x ent0).1 (hn _ (getD_mem' hlt)) _) (fun v23 Ps23 hR23 => ?_))))))))
      obtain ⟨rfl, rfl⟩ := hR23
      refine (WL_pure rfl rfl (by decide) (Pu_assign rfl rfl) (WL_nil (X_then ?_)))
      refine W_ret (X_block_ret (X_then_ret (X_then_ret (X_block_ret (X_then_ret ?_)))))
      exact X_ret [] (Ps := []) (res1 Tryd.results18 rfl) rfl (by decide) ⟨by rw [dirE_bad (by rw [hbad]; omega), hbad], rfl⟩
    ·
      have hgood : firstBad ((nms es).drop x) = firstBad ((nms es).drop (x + 1)) := firstBad_good (by rw [nms_length]; exact hlt) (by rw [nms_at hlt]; simpa using hc17)
      refine W_skip (X_block (X_then ?_))
      refine W.pre (K' := [(0, _), (3, _), (8, _), (17, _)]) (L' := [(0, _)]) ?_ ⟨rfl, ⟨rfl, ⟨rfl, ⟨rfl, trivial⟩⟩⟩⟩ ⟨rfl, trivial⟩
      refine W_regL (WL_pure rfl rfl (by decide) (Pu_move rfl rfl) (WL_pure rfl rfl (by decide) (Pu_bin rfl rfl rfl (run_add _ _ _ _ _ (by omega))) (WL_pure rfl rfl (by decide) (Pu_assign rfl rfl) (WL_nil ?_))))
      exact X_round (x + 1) ⟨hlt, by rw [← hfb, hgood]⟩ (by omega) ⟨rfl, ⟨rfl, trivial⟩⟩ ⟨rfl, trivial⟩
  ·
    have hge : es.length ≤ x := by have := of_decide_eq_false hc8; omega
    have hfb0 : firstBad (nms es) = 0 := by rw [← hfb]; exact firstBad_end (by rw [nms_length]; exact hge)
    refine W_exit (X_then_exit (X_then_exit (X_block_exit (X_then ?_))))
    refine W_seq ?_
    refine W_seq ?_
    refine W.pre (K' := [(0, _), (3, _), (8, _)]) (L' := [(0, _)]) ?_ ⟨rfl, ⟨rfl, ⟨rfl, trivial⟩⟩⟩ ⟨rfl, trivial⟩
    refine W_regL (WL_pure rfl rfl (by decide) (Pu_assign rfl rfl) (WL_nil (X_then ?_)))
    refine W_block ?_
    refine W_loop (α := Nat) (fun i => [(0, v), (4, .int .i64 (i : Int))]) (fun i => [(0, F)]) (fun i => i ≤ es.length + 1 ∧ 1 ≤ i ∧ riseP (nms es) i) (fun i => es.length + 1 - i) (1) ⟨by omega, Nat.le_refl _, fun j hj h1 => by omega⟩ ⟨rfl, ⟨rfl, trivial⟩⟩ ⟨rfl, trivial⟩ (fun k hk => ?_)
    obtain ⟨hkl, hk1, hri⟩ := hk
    refine W_seq ?_
    refine W_seq ?_
    refine W.pre (K' := [(0, _), (4, _)]) (L' := [(0, _)]) ?_ ⟨rfl, ⟨rfl, trivial⟩⟩ ⟨rfl, trivial⟩
    refine W_regL (WL_pure rfl rfl (by decide) (Pu_move rfl rfl) (WL_pure rfl rfl (by decide) (Pu_move rfl rfl) (WL_pure rfl rfl (by decide) (Pu_len (r := 0) rfl Tryd.runUnderlying22 rfl rfl hF) (WL_pure rfl rfl (by decide) (Pu_bin rfl rfl rfl (run_lss _ _ _ _ _ _)) (WL_nil (X_then ?_))))))
    refine W_cond rfl (fun hc27 => ?_) (fun hc27 => ?_)
    ·
      have hlt2 : k < es.length := by have := of_decide_eq_true hc27; omega
      refine W_skip (X_then ?_)
      refine W_seq ?_
      refine W_block ?_
      refine W_seq ?_
      refine W.pre (K' := [(0, _), (4, _), (27, _)]) (L' := [(0, _)]) ?_ ⟨rfl, ⟨rfl, ⟨rfl, trivial⟩⟩⟩ ⟨rfl, trivial⟩
      refine W_draw (N := 12) (by kernel_rfl) rfl [(0, _)] ⟨rfl, trivial⟩ ?_
      refine (AH_take 0 rfl (by kernel_rfl) (by kernel_rfl) (by kernel_rfl) rfl rfl (by decide) (Pu_move rfl rfl) (AH_take 1 rfl (by kernel_rfl) (by kernel_rfl) (by kernel_rfl) rfl rfl (by decide) (Pu_move rfl rfl) (AH_take 2 rfl (by kernel_rfl) (by kernel_rfl) (by kernel_rfl) rfl rfl (by decide) (Pu_idxS (r := 0) rfl Tryd.runUnderlying22 Tryd.sizeOf30 rfl rfl rfl hF (by omega)) (AH_take 3 rfl (by kernel_rfl) (by kernel_rfl) (by kernel_rfl) rfl rfl (by decide) (Pu_fieldAddrE (off := 0) rfl rfl (by kernel_rfl)) (AH_take 4 rfl (by kernel_rfl) (by kernel_rfl) (by kernel_rfl) rfl rfl (by decide) (Pu_loadS (r := 0) rfl Tryd.isAgg9 rfl rfl hF (ent_nameZ hE (k := k) hlt2 rfl)) (AH_take 5 rfl (by kernel_rfl) (by kernel_rfl) (by kernel_rfl) rfl rfl (by decide) (Pu_move rfl rfl) (AH_take 6 rfl (by kernel_rfl) (by kernel_rfl) (by kernel_rfl) rfl rfl (by decide) (Pu_move rfl rfl) (AH_take 7 rfl (by kernel_rfl) (by kernel_rfl) (by kernel_rfl) rfl rfl (by decide) (Pu_bin rfl rfl rfl (run_sub _ _ _ _ _ (by omega))) (AH_take 8 rfl (by kernel_rfl) (by kernel_rfl) (by kernel_rfl) rfl rfl (by decide) (Pu_idxS (r := 0) rfl Tryd.runUnderlying22 Tryd.sizeOf30 rfl rfl rfl hF (by omega)) (AH_take 9 rfl (by kernel_rfl) (by kernel_rfl) (by kernel_rfl) rfl rfl (by decide) (Pu_fieldAddrE (off := 0) rfl rfl (by kernel_rfl)) (AH_take 10 rfl (by kernel_rfl) (by kernel_rfl) (by kernel_rfl) rfl rfl (by decide) (Pu_loadS (r := 0) rfl Tryd.isAgg9 rfl rfl hF (ent_nameZ hE (k := k - 1) (by omega) (by omega))) (AH_take 11 rfl (by kernel_rfl) (by kernel_rfl) (by kernel_rfl) rfl rfl (by decide) (Pu_bin rfl rfl rfl (run_leqStr (es.getD k ent0).1 (es.getD (k - 1) ent0).1 _ _ _)) (AH_done (by kernel_rfl) (X_then ?_))))))))))))))
      refine W_cond rfl (fun hc41 => ?_) (fun hc41 => ?_)
      ·
        have htri := less_tri (es.getD (k - 1) ent0).1 (es.getD k ent0).1
        have hfall : ¬ riseP (nms es) es.length := riseP_not hk1 hlt2 (by rw [nms_at (by omega), nms_at hlt2]; rw [hc41] at htri; simpa using htri)
        refine W_seq ?_
        refine W.pre (K' := [(0, _), (4, _), (27, _), (41, _)]) (L' := [(0, _)]) ?_ ⟨rfl, ⟨rfl, ⟨rfl, ⟨rfl, trivial⟩⟩⟩⟩ ⟨rfl, trivial⟩
        refine W_regL (WL_pure rfl rfl (by decide) (Pu_assign rfl rfl) (WL_nil (X_then ?_)))
        refine W_ret (X_block_ret (X_then_ret (X_then_ret (X_block_ret (X_then_ret ?_)))))
        exact X_ret [] (Ps := []) (res1 Tryd.results18 rfl) rfl (by decide) ⟨by rw [dirE_fall hfb0 hfall] <;> rfl, rfl⟩
      ·
        have htri := less_tri (es.getD (k - 1) ent0).1 (es.getD k ent0).1
        have hup : 1 ≤ k → Op.bytesLess ((nms es).getD (k - 1) []) ((nms es).getD k []) = true := fun hk1 => by rw [nms_at (by omega), nms_at hlt2]; rw [hc41] at htri; simpa using htri
        refine W_skip (X_block (X_then ?_))
        refine W.pre (K' := [(0, _), (4, _), (27, _), (41, _)]) (L' := [(0, _)]) ?_ ⟨rfl, ⟨rfl, ⟨rfl, ⟨rfl, trivial⟩⟩⟩⟩ ⟨rfl, trivial⟩
        refine W_regL (WL_pure rfl rfl (by decide) (Pu_move rfl rfl) (WL_pure rfl rfl (by decide) (Pu_bin rfl rfl rfl (run_add _ _ _ _ _ (by omega))) (WL_pure rfl rfl (by decide) (Pu_assign rfl rfl) (WL_nil ?_))))
        exact X_round (k + 1) ⟨by omega, by omega, riseP_succ hri hup⟩ (by omega) ⟨rfl, ⟨rfl, trivial⟩⟩ ⟨rfl, trivial⟩
    ·
      have hge2 : es.length ≤ k := by have := of_decide_eq_false hc27; omega
      have hris : riseP (nms es) es.length := fun j hj h1 => hri j (by omega) h1
      refine W_exit (X_then_exit (X_then_exit (X_block_exit (X_then ?_))))
      refine W_seq ?_
      refine W_seq ?_
      refine W.pre (K' := [(0, _), (4, _), (27, _)]) (L' := [(0, _)]) ?_ ⟨rfl, ⟨rfl, ⟨rfl, trivial⟩⟩⟩ ⟨rfl, trivial⟩
      refine W_regL (WL_pure rfl rfl (by decide) (Pu_move rfl rfl) (WL_pure rfl rfl (by decide) (Pu_len (r := 0) rfl Tryd.runUnderlying22 rfl rfl hF) (WL_pure rfl rfl (by decide) (Pu_bin rfl rfl rfl (run_gtr _ _ _ _ _ _)) (WL_nil (X_then ?_)))))
      refine W_cond rfl (fun hc44 => ?_) (fun hc44 => ?_)
      ·
        have h20 : 20 < es.length := by have := of_decide_eq_true hc44; omega
        refine W_seq ?_
        refine W.pre (K' := [(0, _), (4, _), (27, _), (44, _)]) (L' := [(0, _)]) ?_ ⟨rfl, ⟨rfl, ⟨rfl, ⟨rfl, trivial⟩⟩⟩⟩ ⟨rfl, trivial⟩
        refine W_regL (WL_pure rfl rfl (by decide) (Pu_assign rfl rfl) (WL_nil (X_then ?_)))
        refine W_ret (X_then_ret ?_)
        exact X_ret [] (Ps := []) (res1 Tryd.results18 rfl) rfl (by decide) ⟨by rw [dirE_many hfb0 hris h20] <;> rfl, rfl⟩
      ·
        have h20 : ¬ 20 < es.length := by have := of_decide_eq_false hc44; omega
        refine W_skip (X_then ?_)
        refine W_seq ?_
        refine W.pre (K' := [(0, _), (4, _), (27, _), (44, _)]) (L' := [(0, _)]) ?_ ⟨rfl, ⟨rfl, ⟨rfl, ⟨rfl, trivial⟩⟩⟩⟩ ⟨rfl, trivial⟩
        refine W_regL (WL_pure rfl rfl (by decide) (Pu_assign rfl rfl) (WL_nil (X_then ?_)))
        refine W_ret ?_
        exact X_ret [] (Ps := []) (res1 Tryd.results18 rfl) rfl (by decide) ⟨by rw [dirE_ok hfb0 hris h20] <;> rfl, rfl⟩
end Go.Proofs.YtnhidehpacidnaaDoor
/- Directories: written. -/
namespace Go.Proofs.YtnhidehpacidnaaDoor
open Go.RowKit Go.Lib
set_option linter.unusedVariables false
set_option linter.unusedSimpArgs false

theorem entc_id {g : Nat} {t : TypeId} {nm id : List UInt8} (hid : id.length = 32) {h : Hlt} (hb : blk g t (entC nm id) h) : rdP 1 (.slice (some ⟨g, 0 + 1, none⟩) 32 32) 32 (bs id) h :=
  blk_rd hb (by
    unfold entC
    rw [show 0 + 1 = 1 from rfl, List.drop_succ_cons, List.drop_zero]
    exact List.take_of_length_le (by rw [bs_length, hid]; omega)) (by rw [bs_length, hid]) (Nat.le_refl _)
theorem dir_spec (v : Value) (es : List Ent) (hE : Ents es) (hl : es.length ≤ 140737488355328) (hn : ∀ e ∈ es, e.1.length ≤ 140737488355328) (F : HP) (hF : ∀ h, F h → rdE v es h) (hT : ∀ h, F h → tabsP h) : CallsS Tryd.prog 7 #[v] F [] (fun r Ps => ∃ v', r = .tuple #[v', .int .i64 (dirE es : Int)] ∧ Ps = [rowB 5 v' (dirR es)]) := by
  refine callsS_enter Tryd.func7 rfl Tryd.ntmps7 (by simp) (fun E => ?_)
  refine W_seq ?_
  refine W.pre (K' := [(0, _)]) (L' := [(0, _)]) ?_ ⟨rfl, trivial⟩ ⟨rfl, trivial⟩
  refine W_regL (WL_pure rfl rfl (by decide) (Pu_assign rfl rfl) (WL_pure rfl rfl (by decide) (Pu_assign rfl rfl) (WL_nil (X_then ?_))))
  refine W_seq ?_
  refine W_seq ?_
  refine W.pre (K' := [(0, _), (2, _), (3, _)]) (L' := [(0, _)]) ?_ ⟨rfl, ⟨rfl, ⟨rfl, trivial⟩⟩⟩ ⟨rfl, trivial⟩
  refine W_regL (WL_pure rfl rfl (by decide) (Pu_move rfl rfl) (WL_cons rfl rfl (by decide) (OpT_call 200 [0] [] rfl Tryd.call17 rfl rfl rfl (by decide) (by decide) (bad_spec v es hE hl hn _ (rd_star 0 rfl hF) (tabs_star 0 rfl hT)) (fun v9 Ps9 hR9 => ?_))))
  obtain ⟨rfl, rfl⟩ := hR9
  refine (WL_pure rfl rfl (by decide) (Pu_assign rfl rfl) (WL_nil (X_then ?_)))
  refine W_seq ?_
  refine W.pre (K' := [(0, _), (2, _), (3, _), (4, _)]) (L' := [(0, _)]) ?_ ⟨rfl, ⟨rfl, ⟨rfl, ⟨rfl, trivial⟩⟩⟩⟩ ⟨rfl, trivial⟩
  refine W_regL (WL_pure rfl rfl (by decide) (Pu_move rfl rfl) (WL_pure rfl rfl (by decide) (Pu_bin rfl rfl rfl (run_neq _ _ _ _ _ _)) (WL_nil (X_then ?_))))
  refine W_cond rfl (fun hc11 => ?_) (fun hc11 => ?_)
  ·
    have h0 : ¬ dirE es = 0 := by simpa using hc11
    refine W_seq ?_
    refine W.pre (K' := [(0, _), (2, _), (3, _), (4, _), (11, _)]) (L' := [(0, _)]) ?_ ⟨rfl, ⟨rfl, ⟨rfl, ⟨rfl, ⟨rfl, trivial⟩⟩⟩⟩⟩ ⟨rfl, trivial⟩
    refine W_regL (WL_pure rfl rfl (by decide) (Pu_move rfl rfl) (WL_pure rfl rfl (by decide) (Pu_assign rfl rfl) (WL_pure rfl rfl (by decide) (Pu_assign rfl rfl) (WL_nil (X_then ?_)))))
    refine W_ret (X_then_ret ?_)
    refine X_nilRow 9900 5 1 ?_
    exact X_ret [9900] (Ps := [_]) (res2 Tryd.results7 rfl rfl) rfl (by decide) ⟨_, rfl, by unfold dirR; rw [if_neg h0]; rfl⟩
  ·
    have h0 : dirE es = 0 := by simpa using hc11
    obtain ⟨h48, h20⟩ := dirE_zero h0
    refine W_skip (X_then ?_)
    refine W_seq ?_
    refine W.pre (K' := [(0, _), (2, _), (3, _), (4, _), (11, _)]) (L' := [(0, _)]) ?_ ⟨rfl, ⟨rfl, ⟨rfl, ⟨rfl, ⟨rfl, trivial⟩⟩⟩⟩⟩ ⟨rfl, trivial⟩
    refine W_regL (WL_pure rfl rfl (by decide) (Pu_assign rfl rfl) (WL_nil (X_then ?_)))
    refine W_seq ?_
    refine W_seq ?_
    refine W.pre (K' := [(0, _), (2, _), (3, _), (4, _), (5, _), (11, _)]) (L' := [(0, _)]) ?_ ⟨rfl, ⟨rfl, ⟨rfl, ⟨rfl, ⟨rfl, ⟨rfl, trivial⟩⟩⟩⟩⟩⟩ ⟨rfl, trivial⟩
    refine W_regL (WL_pure rfl rfl (by decide) (Pu_move rfl rfl) (WL_pure rfl rfl (by decide) (Pu_len (r := 0) rfl Tryd.runUnderlying22 rfl rfl hF) (WL_pure rfl rfl (by decide) (Pu_move rfl rfl) (WL_nil (X_then ?_)))))
    refine W_block ?_
    refine W_nilRow 201 5 1 ?_
    refine W_loop (α := Nat × Value) (fun x => [(5, x.2), (13, v), (14, .int .i64 (es.length : Int)), (15, .int .i64 (x.1 : Int))]) (fun x => [(0, F), (201, rowB 5 x.2 (dirTo es x.1))]) (fun x => x.1 ≤ es.length) (fun x => es.length - x.1) ((0, .slice none 0 0)) (Nat.zero_le _) ⟨rfl, ⟨rfl, ⟨rfl, ⟨rfl, trivial⟩⟩⟩⟩ ⟨rfl, ⟨rfl, trivial⟩⟩ (fun x hx => ?_)
    unfold rowB
    have hxl : x.1 ≤ es.length := hx
    have hdl := dirTo_len hE h48 x.1
    refine W_seq ?_
    refine W.pre (K' := [(5, _), (13, _), (14, _), (15, _)]) (L' := [(0, _), (201, _)]) ?_ ⟨rfl, ⟨rfl, ⟨rfl, ⟨rfl, trivial⟩⟩⟩⟩ ⟨rfl, ⟨rfl, trivial⟩⟩
    refine W_regL (WL_pure rfl rfl (by decide) (Pu_bin rfl rfl rfl (run_lss _ _ _ _ _ _)) (WL_nil (X_then ?_)))
    refine W_seq ?_
    refine W_cond rfl (fun hc16 => ?_) (fun hc16 => ?_)
    ·
      have hlt : x.1 < es.length := by have := of_decide_eq_true hc16; omega
      have hid := hE.get hlt
      have hnl := h48 _ (getD_mem' (d := ent0) hlt)
      refine W_skip (X_then ?_)
      refine W_seq ?_
      refine W_block ?_
      refine W_seq ?_
      refine W.pre (K' := [(5, _), (13, _), (14, _), (15, _), (16, _)]) (L' := [(0, _), (201, _)]) ?_ ⟨rfl, ⟨rfl, ⟨rfl, ⟨rfl, ⟨rfl, trivial⟩⟩⟩⟩⟩ ⟨rfl, ⟨rfl, trivial⟩⟩
      refine W_regL (WL_pure rfl rfl (by decide) (Pu_idxS (r := 0) rfl Tryd.runUnderlying22 Tryd.sizeOf30 rfl rfl rfl hF (by omega)) (WL_pure rfl rfl (by decide) (Pu_loadSN (r := 0) rfl Tryd.isAgg30 Tryd.sizeOf30 rfl rfl hF (entC_length hid) (by decide) (ent_all (k := x.1) hE hlt)) (WL_cons rfl rfl (by decide) (OpT_alloc (r := 202) rfl (zero_run (by kernel_rfl : (Tryd.prog.info? 30).bind (·.zero) = some (.agg (entC [] zeroId).toArray))) rfl (fun g202 => (WL_cons0 rfl rfl (OpT_storeAll (r := 202) rfl Tryd.sizeOf30 rfl rfl rfl rfl (entC_length hid) (entC_one _ _) ?_)))))))
      refine (WL_nil (X_then ?_))
      refine W_seq ?_
      refine W.pre (K' := [(5, _), (7, _), (13, _), (14, _), (15, _), (16, _)]) (L' := [(0, _), (201, _), (202, _)]) ?_ ⟨rfl, ⟨rfl, ⟨rfl, ⟨rfl, ⟨rfl, ⟨rfl, trivial⟩⟩⟩⟩⟩⟩ ⟨rfl, ⟨rfl, ⟨rfl, trivial⟩⟩⟩
      refine W_regL (WL_pure rfl rfl (by decide) (Pu_move rfl rfl) (WL_pure rfl rfl (by decide) (Pu_fieldAddrB (off := 0) rfl rfl (by kernel_rfl)) (WL_pure rfl rfl (by decide) (Pu_loadB (r := 202) rfl Tryd.isAgg9 rfl rfl rfl) (WL_pure rfl rfl (by decide) (Pu_lenStr rfl Tryd.underlying9 rfl) (WL_pure rfl rfl (by decide) (Pu_conv rfl rfl (conv_byte _ _ Tryd.runUnderlying3 Tryd.runUnderlying5)) (WL_cons rfl rfl (by decide) (OpT_buildOnes (r := 203) (bs [byte ((es.getD x.1 ent0).1.length : Int)]) rfl rfl Tryd.runUnderlying27 Tryd.sizeOf5 Tryd.zeroValue5 rfl rfl (by decide) rfl (bs_cells _) (fun v24 => (WL_cons rfl rfl (by decide) (OpT_append (r := 201) (r2 := 203) rfl Tryd.underlying27 TI.hi5 TI.hz5 TI.hs5 TI.hby5 TI.hzs5 (by decide) rfl rfl rfl rfl (fun _ h => rowP_rd h) (bs_one _) (by unfold maxLen; omega) (by omega) (fun v25 => ?_)))))))))))
      refine (WL_pure rfl rfl (by decide) (Pu_assign rfl rfl) (WL_nil (X_then ?_)))
      refine W_seq ?_
      refine W.pre (K' := [(5, _), (7, _), (13, _), (14, _), (15, _), (16, _)]) (L' := [(0, _), (201, _), (202, _), (203, _)]) ?_ ⟨rfl, ⟨rfl, ⟨rfl, ⟨rfl, ⟨rfl, ⟨rfl, trivial⟩⟩⟩⟩⟩⟩ ⟨rfl, ⟨rfl, ⟨rfl, ⟨rfl, trivial⟩⟩⟩⟩
      refine W_regL (WL_pure rfl rfl (by decide) (Pu_move rfl rfl) (WL_pure rfl rfl (by decide) (Pu_fieldAddrB (off := 0) rfl rfl (by kernel_rfl)) (WL_pure rfl rfl (by decide) (Pu_loadB (r := 202) rfl Tryd.isAgg9 rfl rfl rfl) (WL_cons rfl rfl (by decide) (OpT_appendStr (r := 201) rfl Tryd.underlying27 Tryd.underlying9 TI.hi5 TI.hz5 TI.hs5 TI.hby5 TI.hzs5 rfl rfl rfl (by unfold maxLen; omega) (by omega) (fun v29 => ?_))))))
      refine (WL_pure rfl rfl (by decide) (Pu_assign rfl rfl) (WL_nil (X_then ?_)))
      refine W.pre (K' := [(5, _), (7, _), (13, _), (14, _), (15, _), (16, _)]) (L' := [(0, _), (201, _), (202, _), (203, _)]) ?_ ⟨rfl, ⟨rfl, ⟨rfl, ⟨rfl, ⟨rfl, ⟨rfl, trivial⟩⟩⟩⟩⟩⟩ ⟨rfl, ⟨rfl, ⟨rfl, ⟨rfl, trivial⟩⟩⟩⟩
      refine W_regL (WL_pure rfl rfl (by decide) (Pu_move rfl rfl) (WL_pure rfl rfl (by decide) (Pu_fieldAddrB (off := 1) rfl rfl (by kernel_rfl)) (WL_pure rfl rfl (by decide) (Pu_sliceArr rfl Tryd.runUnderlying25 Tryd.sizeOf5 rfl) (WL_cons rfl rfl (by decide) (OpT_append (r := 201) (r2 := 202) rfl Tryd.underlying27 TI.hi5 TI.hz5 TI.hs5 TI.hby5 TI.hzs5 (by decide) rfl rfl rfl rfl (fun h hp => entc_id hid hp) (bs_one _) (by unfold maxLen; omega) (by omega) (fun v33 => ?_))))))
      refine (WL_pure rfl rfl (by decide) (Pu_assign rfl rfl) (WL_nil (X_block (X_then ?_))))
      refine W.pre (K' := [(5, _), (7, _), (13, _), (14, _), (15, _), (16, _)]) (L' := [(0, _), (201, _), (202, _), (203, _)]) ?_ ⟨rfl, ⟨rfl, ⟨rfl, ⟨rfl, ⟨rfl, ⟨rfl, trivial⟩⟩⟩⟩⟩⟩ ⟨rfl, ⟨rfl, ⟨rfl, ⟨rfl, trivial⟩⟩⟩⟩
      refine W_regL (WL_pure rfl rfl (by decide) (Pu_bin rfl rfl rfl (run_add _ _ _ _ _ (by omega))) (WL_pure rfl rfl (by decide) (Pu_move rfl rfl) (WL_nil ?_)))
      exact X_round (x.1 + 1, v33) hlt (by dsimp only; omega) ⟨rfl, ⟨rfl, ⟨rfl, ⟨rfl, trivial⟩⟩⟩⟩ ⟨rfl, look_eq rfl (rowB_of (dirTo es (x.1 + 1)) (by rw [dirTo_succ hlt]; simp only [List.length_append, List.length_cons, List.length_nil, hid]) (by rw [dirTo_succ hlt, bs_append, bs_append, bs_append])), trivial⟩
    ·
      obtain hfin : x.1 = es.length := by have := of_decide_eq_false hc16; omega
      refine W_exit (X_then_exit (X_then_exit (X_block_exit (X_then ?_))))
      refine W_seq ?_
      refine W.pre (K' := [(5, _), (13, _), (14, _), (15, _), (16, _)]) (L' := [(0, _), (201, _)]) ?_ ⟨rfl, ⟨rfl, ⟨rfl, ⟨rfl, ⟨rfl, trivial⟩⟩⟩⟩⟩ ⟨rfl, ⟨rfl, trivial⟩⟩
      refine W_regL (WL_pure rfl rfl (by decide) (Pu_move rfl rfl) (WL_pure rfl rfl (by decide) (Pu_assign rfl rfl) (WL_pure rfl rfl (by decide) (Pu_assign rfl rfl) (WL_nil (X_then ?_)))))
      refine W_ret ?_
      exact X_ret [201] (Ps := [_]) (res2 Tryd.results7 rfl rfl) rfl (by decide) ⟨_, by rw [h0] <;> rfl, by unfold dirR; rw [if_pos h0, hfin, dirTo_all]⟩
theorem refDir_spec (v : Value) (es : List Ent) (hE : Ents es) (hl : es.length ≤ 140737488355328) (hn : ∀ e ∈ es, e.1.length ≤ 140737488355328) (F : HP) (hF : ∀ h, F h → rdE v es h) : CallsS Tryd.prog 8 #[v] F [] (fun r Ps => ∃ v', r = .tuple #[v', .int .i64 (dirE es : Int)] ∧ Ps = [rowB 5 v' (dirR es)]) := by
  refine callsS_enter Tryd.func8 rfl Tryd.ntmps8 (by simp) (fun E => ?_)
  refine W_seq ?_
  refine W.pre (K' := [(0, _)]) (L' := [(0, _)]) ?_ ⟨rfl, trivial⟩ ⟨rfl, trivial⟩
  refine W_regL (WL_pure rfl rfl (by decide) (Pu_assign rfl rfl) (WL_pure rfl rfl (by decide) (Pu_assign rfl rfl) (WL_nil (X_then ?_))))
  refine W_seq ?_
  refine W_seq ?_
  refine W.pre (K' := [(0, _), (2, _), (3, _)]) (L' := [(0, _)]) ?_ ⟨rfl, ⟨rfl, ⟨rfl, trivial⟩⟩⟩ ⟨rfl, trivial⟩
  refine W_regL (WL_pure rfl rfl (by decide) (Pu_move rfl rfl) (WL_cons rfl rfl (by decide) (OpT_call 200 [0] [] rfl Tryd.call18 rfl rfl rfl (by decide) (by decide) (wrongDir_spec v es hE hl hn _ (rd_star 0 rfl hF)) (fun v7 Ps7 hR7 => ?_))))
  obtain ⟨rfl, rfl⟩ := hR7
  refine (WL_pure rfl rfl (by decide) (Pu_bin rfl rfl rfl (run_neq _ _ _ _ _ _)) (WL_nil (X_then ?_)))
  refine W_cond rfl (fun hc8 => ?_) (fun hc8 => ?_)
  ·
    have h0 : ¬ dirE es = 0 := by simpa using hc8
    refine W_seq ?_
    refine W.pre (K' := [(0, _), (2, _), (3, _), (8, _)]) (L' := [(0, _)]) ?_ ⟨rfl, ⟨rfl, ⟨rfl, ⟨rfl, trivial⟩⟩⟩⟩ ⟨rfl, trivial⟩
    refine W_regL (WL_pure rfl rfl (by decide) (Pu_move rfl rfl) (WL_cons rfl rfl (by decide) (OpT_call 300 [0] [] rfl Tryd.call18 rfl rfl rfl (by decide) (by decide) (wrongDir_spec v es hE hl hn _ (rd_star 0 rfl hF)) (fun v10 Ps10 hR10 => ?_))))
    obtain ⟨rfl, rfl⟩ := hR10
    refine (WL_pure rfl rfl (by decide) (Pu_assign rfl rfl) (WL_pure rfl rfl (by decide) (Pu_assign rfl rfl) (WL_nil (X_then ?_))))
    refine W_ret (X_then_ret ?_)
    refine X_nilRow 9900 5 1 ?_
    exact X_ret [9900] (Ps := [_]) (res2 Tryd.results8 rfl rfl) rfl (by decide) ⟨_, rfl, by unfold dirR; rw [if_neg h0]; rfl⟩
  ·
    have h0 : dirE es = 0 := by simpa using hc8
    obtain ⟨h48, h20⟩ := dirE_zero h0
    refine W_skip (X_then ?_)
    refine W_seq ?_
    refine W.pre (K' := [(0, _), (2, _), (3, _), (8, _)]) (L' := [(0, _)]) ?_ ⟨rfl, ⟨rfl, ⟨rfl, ⟨rfl, trivial⟩⟩⟩⟩ ⟨rfl, trivial⟩
    refine W_regL (WL_pure rfl rfl (by decide) (Pu_assign rfl rfl) (WL_nil (X_then ?_)))
    refine W_seq ?_
    refine W_seq ?_
    refine W.pre (K' := [(0, _), (2, _), (3, _), (4, _), (8, _)]) (L' := [(0, _)]) ?_ ⟨rfl, ⟨rfl, ⟨rfl, ⟨rfl, ⟨rfl, trivial⟩⟩⟩⟩⟩ ⟨rfl, trivial⟩
    refine W_regL (WL_pure rfl rfl (by decide) (Pu_assign rfl rfl) (WL_nil (X_then ?_)))
    refine W_block ?_
    refine W_nilRow 201 5 1 ?_
    refine W_loop (α := Nat × Value) (fun x => [(0, v), (4, x.2), (5, .int .i64 (x.1 : Int))]) (fun x => [(0, F), (201, rowB 5 x.2 (dirTo es x.1))]) (fun x => x.1 ≤ es.length) (fun x => es.length - x.1) ((0, .slice none 0 0)) (Nat.zero_le _) ⟨rfl, ⟨rfl, ⟨rfl, trivial⟩⟩⟩ ⟨rfl, ⟨rfl, trivial⟩⟩ (fun x hx => ?_)
    unfold rowB
    have hxl : x.1 ≤ es.length := hx
    have hdl := dirTo_len hE h48 x.1
    refine W_seq ?_
    refine W_seq ?_
    refine W.pre (K' := [(0, _), (4, _), (5, _)]) (L' := [(0, _), (201, _)]) ?_ ⟨rfl, ⟨rfl, ⟨rfl, trivial⟩⟩⟩ ⟨rfl, ⟨rfl, trivial⟩⟩
    refine W_regL (WL_pure rfl rfl (by decide) (Pu_move rfl rfl) (WL_pure rfl rfl (by decide) (Pu_move rfl rfl) (WL_pure rfl rfl (by decide) (Pu_len (r := 0) rfl Tryd.runUnderlying22 rfl rfl hF) (WL_pure rfl rfl (by decide) (Pu_bin rfl rfl rfl (run_lss _ _ _ _ _ _)) (WL_nil (X_then ?_))))))
    refine W_cond rfl (fun hc14 => ?_) (fun hc14 => ?_)
    ·
      have hlt : x.1 < es.length := by have := of_decide_eq_true hc14; omega
      have hid := hE.get hlt
      have hnl := h48 _ (getD_mem' (d := ent0) hlt)
      refine W_skip (X_then ?_)
      refine W_seq ?_
      refine W_block ?_
      refine W.pre (K' := [(0, _), (4, _), (5, _), (14, _)]) (L' := [(0, _), (201, _)]) ?_ ⟨rfl, ⟨rfl, ⟨rfl, ⟨rfl, trivial⟩⟩⟩⟩ ⟨rfl, ⟨rfl, trivial⟩⟩
      refine W_draw (N := 23) (by kernel_rfl) rfl [(0, _)] ⟨rfl, trivial⟩ ?_
      refine (AH_take 0 rfl (by kernel_rfl) (by kernel_rfl) (by kernel_rfl) rfl rfl (by decide) (Pu_move rfl rfl) (AH_take 1 rfl (by kernel_rfl) (by kernel_rfl) (by kernel_rfl) rfl rfl (by decide) (Pu_move rfl rfl) (AH_take 2 rfl (by kernel_rfl) (by kernel_rfl) (by kernel_rfl) rfl rfl (by decide) (Pu_move rfl rfl) (AH_take 3 rfl (by kernel_rfl) (by kernel_rfl) (by kernel_rfl) rfl rfl (by decide) (Pu_idxS (r := 0) rfl Tryd.runUnderlying22 Tryd.sizeOf30 rfl rfl rfl hF (by omega)) (AH_take 4 rfl (by kernel_rfl) (by kernel_rfl) (by kernel_rfl) rfl rfl (by decide) (Pu_fieldAddrE (off := 0) rfl rfl (by kernel_rfl)) (AH_take 5 rfl (by kernel_rfl) (by kernel_rfl) (by kernel_rfl) rfl rfl (by decide) (Pu_loadS (r := 0) rfl Tryd.isAgg9 rfl rfl hF (ent_name (k := x.1) hE hlt)) (AH_take 6 rfl (by kernel_rfl) (by kernel_rfl) (by kernel_rfl) rfl rfl (by decide) (Pu_lenStr rfl Tryd.underlying9 rfl) (AH_take 7 rfl (by kernel_rfl) (by kernel_rfl) (by kernel_rfl) rfl rfl (by decide) (Pu_conv rfl rfl (conv_byte _ _ Tryd.runUnderlying3 Tryd.runUnderlying5)) (AH_take 10 rfl (by kernel_rfl) (by kernel_rfl) (by kernel_rfl) rfl rfl (by decide) (Pu_move rfl rfl) (AH_take 11 rfl (by kernel_rfl) (by kernel_rfl) (by kernel_rfl) rfl rfl (by decide) (Pu_move rfl rfl) (AH_take 12 rfl (by kernel_rfl) (by kernel_rfl) (by kernel_rfl) rfl rfl (by decide) (Pu_idxS (r := 0) rfl Tryd.runUnderlying22 Tryd.sizeOf30 rfl rfl rfl hF (by omega)) (AH_take 13 rfl (by kernel_rfl) (by kernel_rfl) (by kernel_rfl) rfl rfl (by decide) (Pu_fieldAddrE (off := 0) rfl rfl (by kernel_rfl)) (AH_take 14 rfl (by kernel_rfl) (by kernel_rfl) (by kernel_rfl) rfl rfl (by decide) (Pu_loadS (r := 0) rfl Tryd.isAgg9 rfl rfl hF (ent_name (k := x.1) hE hlt)) (AH_take 16 rfl (by kernel_rfl) (by kernel_rfl) (by kernel_rfl) rfl rfl (by decide) (Pu_move rfl rfl) (AH_take 17 rfl (by kernel_rfl) (by kernel_rfl) (by kernel_rfl) rfl rfl (by decide) (Pu_move rfl rfl) (AH_take 18 rfl (by kernel_rfl) (by kernel_rfl) (by kernel_rfl) rfl rfl (by decide) (Pu_idxS (r := 0) rfl Tryd.runUnderlying22 Tryd.sizeOf30 rfl rfl rfl hF (by omega)) (AH_take 19 rfl (by kernel_rfl) (by kernel_rfl) (by kernel_rfl) rfl rfl (by decide) (Pu_fieldAddrE (off := 1) rfl rfl (by kernel_rfl)) (AH_take 20 rfl (by kernel_rfl) (by kernel_rfl) (by kernel_rfl) rfl rfl (by decide) (Pu_sliceArrE rfl Tryd.runUnderlying25 Tryd.sizeOf5 rfl) (AH_ready [8] (by kernel_rfl) (by decide) ?_)))))))))))))))))))
      refine AHs_cons rfl rfl rfl (by decide) (OpT_buildOnes (r := 202) (bs [byte ((es.getD x.1 ent0).1.length : Int)]) rfl rfl Tryd.runUnderlying27 Tryd.sizeOf5 Tryd.zeroValue5 rfl rfl (by decide) rfl (bs_cells _) (fun v25 => ⟨⟨rfl, trivial⟩, ?_⟩)) ?_
      ·
        refine (AH_ready [9] (by kernel_rfl) (by decide) ?_)
        refine AHs_cons rfl rfl rfl (by decide) (OpT_append (r := 201) (r2 := 202) rfl Tryd.underlying27 TI.hi5 TI.hz5 TI.hs5 TI.hby5 TI.hzs5 (by decide) rfl rfl rfl rfl (fun _ h => rowP_rd h) (bs_one _) (by unfold maxLen; omega) (by omega) (fun v26 => ?_)) ?_
        ·
          refine ⟨⟨rfl, trivial⟩, ?_⟩
          refine (AH_ready [15] (by kernel_rfl) (by decide) ?_)
          refine AHs_cons rfl rfl rfl (by decide) (OpT_appendStr (r := 201) rfl Tryd.underlying27 Tryd.underlying9 TI.hi5 TI.hz5 TI.hs5 TI.hby5 TI.hzs5 rfl rfl rfl (by unfold maxLen; omega) (by omega) (fun v32 => ?_)) ?_
          ·
            refine ⟨⟨rfl, trivial⟩, ?_⟩
            refine (AH_ready [21] (by kernel_rfl) (by decide) ?_)
            refine AHs_cons rfl rfl rfl (by decide) (OpT_append (r := 201) (r2 := 0) rfl Tryd.underlying27 TI.hi5 TI.hz5 TI.hs5 TI.hby5 TI.hzs5 (by decide) rfl rfl rfl rfl (fun h hp => ent_id (k := x.1) hE (hF h hp) rfl hlt) (bs_one _) (by unfold maxLen; omega) (by omega) (fun v38 => ?_)) ?_
            ·
              refine ⟨⟨rfl, trivial⟩, ?_⟩
              refine (AH_take 22 rfl (by kernel_rfl) (by kernel_rfl) (by kernel_rfl) rfl rfl (by decide) (Pu_assign rfl rfl) (AH_done (by kernel_rfl) (X_block (X_then ?_))))
              refine W.pre (K' := [(0, _), (4, _), (5, _), (14, _)]) (L' := [(0, _), (201, _), (202, _)]) ?_ ⟨rfl, ⟨rfl, ⟨rfl, ⟨rfl, trivial⟩⟩⟩⟩ ⟨rfl, ⟨rfl, ⟨rfl, trivial⟩⟩⟩
              refine W_regL (WL_pure rfl rfl (by decide) (Pu_move rfl rfl) (WL_pure rfl rfl (by decide) (Pu_bin rfl rfl rfl (run_add _ _ _ _ _ (by omega))) (WL_pure rfl rfl (by decide) (Pu_assign rfl rfl) (WL_nil ?_))))
              exact X_round (x.1 + 1, v38) hlt (by dsimp only; omega) ⟨rfl, ⟨rfl, ⟨rfl, trivial⟩⟩⟩ ⟨rfl, look_eq rfl (rowB_of (dirTo es (x.1 + 1)) (by rw [dirTo_succ hlt]; simp only [List.length_append, List.length_cons, List.length_nil, hid]) (by rw [dirTo_succ hlt, bs_append, bs_append, bs_append])), trivial⟩
            exact AHs_nil
          exact AHs_nil
        exact AHs_nil
      exact AHs_nil
    ·
      obtain hfin : x.1 = es.length := by have := of_decide_eq_false hc14; omega
      refine W_exit (X_then_exit (X_then_exit (X_block_exit (X_then ?_))))
      refine W_seq ?_
      refine W.pre (K' := [(0, _), (4, _), (5, _), (14, _)]) (L' := [(0, _), (201, _)]) ?_ ⟨rfl, ⟨rfl, ⟨rfl, ⟨rfl, trivial⟩⟩⟩⟩ ⟨rfl, ⟨rfl, trivial⟩⟩
      refine W_regL (WL_pure rfl rfl (by decide) (Pu_move rfl rfl) (WL_pure rfl rfl (by decide) (Pu_assign rfl rfl) (WL_pure rfl rfl (by decide) (Pu_assign rfl rfl) (WL_nil (X_then ?_)))))
      refine W_ret ?_
      exact X_ret [201] (Ps := [_]) (res2 Tryd.results8 rfl rfl) rfl (by decide) ⟨_, by rw [h0] <;> rfl, by unfold dirR; rw [if_pos h0, hfin, dirTo_all]⟩
end Go.Proofs.YtnhidehpacidnaaDoor
/- Directories: read. -/
namespace Go.Proofs.YtnhidehpacidnaaDoor
open Go.RowKit Go.Lib
set_option linter.unusedVariables false
set_option linter.unusedSimpArgs false

theorem rdB_subE {v : Value} {l l' : List UInt8} {h : Hlt} (hr : rdB v l h) {a b : Nat} (hab : a ≤ b) (hb : b ≤ l.length) (hl : (l.drop a).take (b - a) = l') : rdB (subV 1 v a b) l' h := by subst hl; exact rdB_sub hr hab hb
theorem copy_id {nm r : List UInt8} (h : 32 ≤ r.length) : over (entC nm zeroId) (0 + 1) ((bs r).take (min r.length 32)) = entC nm (r.take 32) := by
  have hz : (bs zeroId).length = 32 := by rw [bs_length, zeroId_length]
  have ht : ((bs r).take (min r.length 32)) = bs (r.take 32) := by rw [Nat.min_eq_right h, bs_take]
  have hl : (bs (r.take 32)).length = 32 := by rw [bs_length, List.length_take]; omega
  rw [ht]
  have := over_mid [sV nm] (bs zeroId) (bs (r.take 32)) [] (by rw [hz, hl])
  simpa [entC] using this
theorem ent_load (e : Ent) (h : e.2.length = 32) : ((entC e.1 e.2).drop 0).take 33 = entF e := load_all (entC_length h)
def nb (b : List UInt8) : Nat := (at0 b 0).toNat
theorem nb_lt (b : List UInt8) : nb b < 256 := (at0 b 0).toNat_lt
theorem need_nb (b : List UInt8) : need b = 1 + nb b + 32 := rfl
theorem entOf_name (b : List UInt8) : (entOf b).1.length ≤ 256 := by have := nb_lt b; unfold nb at this; simp [entOf]; omega
def Short (es : List Ent) : Prop := ∀ e ∈ es, e.1.length ≤ 256
theorem Short.snoc {es : List Ent} (h : Short es) (b : List UInt8) : Short (es ++ [entOf b]) := fun x hx => by
  rcases List.mem_append.1 hx with hx | hx
  · exact h x hx
  · simp at hx; subst hx; exact entOf_name b
theorem Short.nil : Short [] := fun x hx => by cases hx
theorem ent_build {nm id : List UInt8} (h : id.length = 32) : over ((entC [] zeroId).set 0 (sV nm)) 1 (bs id) = entC nm id := by
  have hz : (bs zeroId).length = 32 := by rw [bs_length, zeroId_length]
  have := over_mid [sV nm] (bs zeroId) (bs id) [] (by rw [hz, bs_length, h])
  simpa [entC] using this
def ParS (l : List UInt8) (c : Nat) (acc : List Ent) : Prop := c ≤ l.length ∧ par (l.drop c) acc = par l [] ∧ Ents acc ∧ Short acc ∧ acc.length ≤ c
theorem ParS.init (l : List UInt8) : ParS l 0 [] := ⟨Nat.zero_le _, rfl, Ents.nil, Short.nil, Nat.zero_le _⟩
theorem ParS.next {l : List UInt8} {c : Nat} {acc : List Ent} (h : ParS l c acc) {b : List UInt8} (hb : l.drop c = b) (hne : b ≠ []) (hn : ¬ b.length < need b) : ParS l (c + need b) (acc ++ [entOf b]) := by
  obtain ⟨h1, h2, h3, h4, h5⟩ := h
  have hl : b.length = l.length - c := by rw [← hb, List.length_drop]
  have hnn : 1 ≤ need b := by unfold need; omega
  refine ⟨by omega, ?_, h3.snoc (entOf_id hn), h4.snoc b, by simp; omega⟩
  rw [← h2, hb, par_next hne hn, ← hb, List.drop_drop]
theorem ParS.cut {l : List UInt8} {c : Nat} {acc : List Ent} (h : ParS l c acc) {b : List UInt8} (hb : l.drop c = b) (hne : b ≠ []) (hn : b.length < need b) : par l [] = ([], 8) := by
  rw [← h.2.1, hb, par_cut hne hn]
theorem ParS.done {l : List UInt8} {c : Nat} {acc : List Ent} (h : ParS l c acc) (hb : l.length ≤ c) : par l [] = finP acc := by
  rw [← h.2.1, List.drop_of_length_le hb, par_nil]
theorem finP_bad {acc : List Ent} (h : ¬ dirE acc = 0) : finP acc = ([], dirE acc) := by unfold finP; rw [if_pos h]
theorem finP_ok {acc : List Ent} (h : dirE acc = 0) : finP acc = (acc, 0) := by unfold finP; rw [if_neg (fun hc => hc h)]
theorem at0_of_drop {l b : List UInt8} {k : Nat} (h : l.drop k = b) : at0 l k = at0 b 0 := by rw [← h]; simp [at0]
theorem parseDir_spec (v : Value) (l : List UInt8) (hl : l.length ≤ 1000000) (F : HP) (hF : ∀ h, F h → rdB v l h) (hT : ∀ h, F h → tabsP h) : CallsS Tryd.prog 10 #[v] F [] (fun r Ps => ∃ v', r = .tuple #[v', .int .i64 ((par l []).2 : Int)] ∧ Ps = [rowE 30 v' (par l []).1]) := by
  refine callsS_enter Tryd.func10 rfl Tryd.ntmps10 (by simp) (fun E => ?_)
  refine W_seq ?_
  refine W.pre (K' := [(0, _)]) (L' := [(0, _)]) ?_ ⟨rfl, trivial⟩ ⟨rfl, trivial⟩
  refine W_regL (WL_pure rfl rfl (by decide) (Pu_assign rfl rfl) (WL_pure rfl rfl (by decide) (Pu_assign rfl rfl) (WL_nil (X_then ?_))))
  refine W_seq ?_
  refine W.pre (K' := [(0, _), (2, _), (3, _)]) (L' := [(0, _)]) ?_ ⟨rfl, ⟨rfl, ⟨rfl, trivial⟩⟩⟩ ⟨rfl, trivial⟩
  refine W_regL (WL_pure rfl rfl (by decide) (Pu_assign rfl rfl) (WL_nil (X_then ?_)))
  refine W_seq ?_
  refine W_block ?_
  refine W_nilRow 101 30 33 ?_
  refine W_loop (α := Nat × Value × Value × List Ent) (fun x => [(0, x.2.1), (4, x.2.2.1)]) (fun x => [(0, F), (101, rowE 30 x.2.2.1 x.2.2.2)]) (fun x => ParS l x.1 x.2.2.2 ∧ ∀ h, F h → rdB x.2.1 (l.drop x.1) h) (fun x => l.length - x.1) ((0, v, .slice none 0 0, [])) ⟨ParS.init l, fun h hp => by rw [List.drop_zero]; exact hF h hp⟩ ⟨rfl, ⟨rfl, trivial⟩⟩ ⟨rfl, ⟨rfl, trivial⟩⟩ (fun x hx => ?_)
  obtain ⟨hps, hvb⟩ := hx
  have hxl := hps.1
  have hacc := hps.2.2.2.2
  unfold rowE rowR
  refine W_seq ?_
  refine W_seq ?_
  refine W.pre (K' := [(0, _), (4, _)]) (L' := [(0, _), (101, _)]) ?_ ⟨rfl, ⟨rfl, trivial⟩⟩ ⟨rfl, ⟨rfl, trivial⟩⟩
  refine W_regL (WL_pure rfl rfl (by decide) (Pu_move rfl rfl) (WL_pure rfl rfl (by decide) (Pu_len (r := 0) rfl Tryd.runUnderlying27 rfl rfl hvb) (WL_pure rfl rfl (by decide) (Pu_bin rfl rfl rfl (run_gtr _ _ _ _ _ _)) (WL_nil (X_then ?_)))))
  refine W_cond rfl (fun hc10 => ?_) (fun hc10 => ?_)
  ·
    have hlt : x.1 < l.length := by have h := of_decide_eq_true hc10; rw [List.length_drop] at h; omega
    obtain ⟨b, hb⟩ : ∃ b, l.drop x.1 = b := ⟨_, rfl⟩
    have hbl : b.length = l.length - x.1 := by rw [← hb, List.length_drop]
    have hbne : b ≠ [] := fun hc => by rw [hc] at hbl; simp at hbl; omega
    have hnb := nb_lt b
    have hneed := need_nb b
    rw [hb] at hvb
    rw [hb]
    refine W_skip (X_then ?_)
    refine W_block ?_
    refine W_seq ?_
    refine W.pre (K' := [(0, _), (4, _), (10, _)]) (L' := [(0, _), (101, _)]) ?_ ⟨rfl, ⟨rfl, ⟨rfl, trivial⟩⟩⟩ ⟨rfl, ⟨rfl, trivial⟩⟩
    refine W_regL (WL_pure rfl rfl (by decide) (Pu_move rfl rfl) (WL_pure rfl rfl (by decide) (Pu_idxS1 (r := 0) rfl Tryd.runUnderlying27 Tryd.sizeOf5 rfl rfl rfl hvb (by omega)) (WL_pure rfl rfl (by decide) (Pu_loadS (r := 0) rfl Tryd.isAgg5 rfl rfl hvb (bs_at1 (k := 0) (by omega))) (WL_pure rfl rfl (by decide) (Pu_conv rfl rfl (conv_u8 _ Tryd.runUnderlying5 Tryd.runUnderlying3)) (WL_pure rfl rfl (by decide) (Pu_assign rfl rfl) (WL_nil (X_then ?_)))))))
    refine W_seq ?_
    refine W_seq ?_
    refine W.pre (K' := [(0, _), (4, _), (5, _), (10, _)]) (L' := [(0, _), (101, _)]) ?_ ⟨rfl, ⟨rfl, ⟨rfl, ⟨rfl, trivial⟩⟩⟩⟩ ⟨rfl, ⟨rfl, trivial⟩⟩
    refine W_regL (WL_pure rfl rfl (by decide) (Pu_move rfl rfl) (WL_pure rfl rfl (by decide) (Pu_len (r := 0) rfl Tryd.runUnderlying27 rfl rfl hvb) (WL_pure rfl rfl (by decide) (Pu_move rfl rfl) (WL_pure rfl rfl (by decide) (Pu_bin rfl rfl rfl (run_add _ _ _ _ _ (by show -9223372036854775808 ≤ 1 + (nb b : Int) ∧ 1 + (nb b : Int) < 9223372036854775808; omega))) (WL_pure rfl rfl (by decide) (Pu_bin rfl rfl rfl (run_add _ _ _ _ _ (by show -9223372036854775808 ≤ 1 + (nb b : Int) + 32 ∧ 1 + (nb b : Int) + 32 < 9223372036854775808; omega))) (WL_pure rfl rfl (by decide) (Pu_bin rfl rfl rfl (run_lss _ _ _ _ _ _)) (WL_nil (X_then ?_))))))))
    refine W_cond rfl (fun hc20 => ?_) (fun hc20 => ?_)
    ·
      have hcut : b.length < need b := by have h : (b.length : Int) < 1 + (nb b : Int) + 32 := of_decide_eq_true hc20; omega
      have hpc := hps.cut hb hbne hcut
      refine W_seq ?_
      refine W.pre (K' := [(0, _), (4, _), (5, _), (10, _), (20, _)]) (L' := [(0, _), (101, _)]) ?_ ⟨rfl, ⟨rfl, ⟨rfl, ⟨rfl, ⟨rfl, trivial⟩⟩⟩⟩⟩ ⟨rfl, ⟨rfl, trivial⟩⟩
      refine W_regL (WL_pure rfl rfl (by decide) (Pu_assign rfl rfl) (WL_pure rfl rfl (by decide) (Pu_assign rfl rfl) (WL_nil (X_then ?_))))
      refine W_ret (X_then_ret (X_block_ret (X_then_ret (X_block_ret (X_then_ret ?_)))))
      refine X_nilRow 9900 30 33 ?_
      exact X_ret [9900] (Ps := [_]) (res2 Tryd.results10 rfl rfl) rfl (by decide) ⟨_, by rw [hpc] <;> rfl, by rw [hpc] <;> rfl⟩
    ·
      have hno : ¬ b.length < need b := by have h : ¬ (b.length : Int) < 1 + (nb b : Int) + 32 := of_decide_eq_false hc20; omega
      have hid := entOf_id hno
      refine W_skip (X_then ?_)
      refine W_seq ?_
      refine W.pre (K' := [(0, _), (4, _), (5, _), (10, _), (20, _)]) (L' := [(0, _), (101, _)]) ?_ ⟨rfl, ⟨rfl, ⟨rfl, ⟨rfl, ⟨rfl, trivial⟩⟩⟩⟩⟩ ⟨rfl, ⟨rfl, trivial⟩⟩
      refine W_regL (WL_pure rfl rfl (by decide) (Pu_move rfl rfl) (WL_pure rfl rfl (by decide) (Pu_move rfl rfl) (WL_pure rfl rfl (by decide) (Pu_bin rfl rfl rfl (run_add _ _ _ _ _ (by show -9223372036854775808 ≤ 1 + (nb b : Int) ∧ 1 + (nb b : Int) < 9223372036854775808; omega))) (WL_pure rfl rfl (by decide) (Pu_slice (r := 0) (a := 1) (b := 1 + nb b) rfl Tryd.runUnderlying27 Tryd.sizeOf5 rfl rfl hvb (.inr ⟨_, _, _, rfl, rfl, rfl⟩) (.inr ⟨_, _, _, rfl, rfl, (by show 1 + (nb b : Int) = _; omega)⟩) (by omega) (by omega)) (WL_pure rfl rfl (by decide) (Pu_convBS (r := 0) rfl Tryd.underlying27 Tryd.underlying5 Tryd.underlying9 rfl rfl (fun h hp => rdB_subE (hvb h hp) (by omega) (by omega) (by rw [Nat.add_sub_cancel_left]; rfl))) (WL_pure rfl rfl (by decide) (Pu_build (V := .agg (entC (entOf b).1 zeroId).toArray) [(0, 1), (1, 32)] (entC [] zeroId) rfl rfl (by kernel_rfl) (by kernel_rfl) (.one rfl rfl (by simp [entC, bs_length, zeroId_length]) rfl (.nil _)) rfl) (WL_cons rfl rfl (by decide) (OpT_alloc (r := 102) rfl (zero_run (by kernel_rfl : (Tryd.prog.info? 30).bind (·.zero) = some (.agg (entC [] zeroId).toArray))) rfl (fun g102 => (WL_cons0 rfl rfl (OpT_storeAll (r := 102) rfl Tryd.sizeOf30 rfl rfl rfl rfl (entC_length zeroId_length) (entC_one _ _) ?_)))))))))))
      refine (WL_nil (X_then ?_))
      refine W_seq ?_
      refine W.pre (K' := [(0, _), (4, _), (5, _), (6, _), (10, _), (20, _)]) (L' := [(0, _), (101, _), (102, _)]) ?_ ⟨rfl, ⟨rfl, ⟨rfl, ⟨rfl, ⟨rfl, ⟨rfl, trivial⟩⟩⟩⟩⟩⟩ ⟨rfl, ⟨rfl, ⟨rfl, trivial⟩⟩⟩
      refine W_draw (N := 7) (by kernel_rfl) rfl [(0, _)] ⟨rfl, trivial⟩ ?_
      refine (AH_take 0 rfl (by kernel_rfl) (by kernel_rfl) (by kernel_rfl) rfl rfl (by decide) (Pu_fieldAddrB (off := 1) rfl rfl (by kernel_rfl)) (AH_take 1 rfl (by kernel_rfl) (by kernel_rfl) (by kernel_rfl) rfl rfl (by decide) (Pu_sliceArr rfl Tryd.runUnderlying25 Tryd.sizeOf5 rfl) (AH_take 2 rfl (by kernel_rfl) (by kernel_rfl) (by kernel_rfl) rfl rfl (by decide) (Pu_move rfl rfl) (AH_take 3 rfl (by kernel_rfl) (by kernel_rfl) (by kernel_rfl) rfl rfl (by decide) (Pu_move rfl rfl) (AH_take 4 rfl (by kernel_rfl) (by kernel_rfl) (by kernel_rfl) rfl rfl (by decide) (Pu_bin rfl rfl rfl (run_add _ _ _ _ _ (by show -9223372036854775808 ≤ 1 + (nb b : Int) ∧ 1 + (nb b : Int) < 9223372036854775808; omega))) (AH_take 5 rfl (by kernel_rfl) (by kernel_rfl) (by kernel_rfl) rfl rfl (by decide) (Pu_slice (r := 0) (a := 1 + nb b) (b := b.length) rfl Tryd.runUnderlying27 Tryd.sizeOf5 rfl rfl hvb (.inr ⟨_, _, _, rfl, rfl, (by show 1 + (nb b : Int) = _; omega)⟩) (.inl ⟨rfl, rfl⟩) (by omega) (Nat.le_refl _)) (AH_ready [6] (by kernel_rfl) (by decide) ?_)))))))
      refine AHs_cons rfl rfl rfl (by decide) (OpT_copyB (r := 102) (r2 := 0) rfl Tryd.underlying27 TI.hsm5 rfl rfl rfl rfl (fun h hp => rdB_tail (hvb h hp) (by omega)) (bs_one _) (by rw [entC_length zeroId_length]; omega) (copy_id (by rw [List.length_drop]; omega)) ?_) ?_
      ·
        refine ⟨⟨rfl, trivial⟩, ?_⟩
        refine (AH_done (by kernel_rfl) (X_then ?_))
        refine W_seq ?_
        refine W.pre (K' := [(0, _), (4, _), (5, _), (6, _), (10, _), (20, _)]) (L' := [(0, _), (101, _), (102, _)]) ?_ ⟨rfl, ⟨rfl, ⟨rfl, ⟨rfl, ⟨rfl, ⟨rfl, trivial⟩⟩⟩⟩⟩⟩ ⟨rfl, ⟨rfl, ⟨rfl, trivial⟩⟩⟩
        refine W_regL (WL_pure rfl rfl (by decide) (Pu_move rfl rfl) (WL_pure rfl rfl (by decide) (Pu_loadBN (r := 102) rfl Tryd.isAgg30 Tryd.sizeOf30 rfl rfl (entC_length hid) (ent_load (entOf b) hid)) (WL_cons rfl rfl (by decide) (OpT_buildRows (r := 103) [entF (entOf b)] rfl rfl Tryd.runUnderlying22 Tryd.sizeOf30 Tryd.zeroValue30 rfl (by decide) rfl (by decide) (by intro r hr; simp at hr; rw [hr]; exact entC_length hid) rfl (fun v36 => (WL_cons rfl rfl (by decide) (OpT_append (r := 101) (r2 := 103) rfl Tryd.underlying22 TI.hi30 TI.hz30 TI.hs30 TI.hby30 TI.hzs30 (by decide) rfl rfl rfl rfl (fun _ h => rowP_rd h) (by rw [List.flatten_cons, List.flatten_nil, List.append_nil]; exact entC_one _ _) (by unfold maxLen; omega) (by omega) (fun v37 => ?_))))))))
        refine (WL_pure rfl rfl (by decide) (Pu_assign rfl rfl) (WL_nil (X_then ?_)))
        refine W.pre (K' := [(0, _), (4, _), (5, _), (6, _), (10, _), (20, _)]) (L' := [(0, _), (101, _), (102, _), (103, _)]) ?_ ⟨rfl, ⟨rfl, ⟨rfl, ⟨rfl, ⟨rfl, ⟨rfl, trivial⟩⟩⟩⟩⟩⟩ ⟨rfl, ⟨rfl, ⟨rfl, ⟨rfl, trivial⟩⟩⟩⟩
        refine W_regL (WL_pure rfl rfl (by decide) (Pu_move rfl rfl) (WL_pure rfl rfl (by decide) (Pu_move rfl rfl) (WL_pure rfl rfl (by decide) (Pu_bin rfl rfl rfl (run_add _ _ _ _ _ (by show -9223372036854775808 ≤ 1 + (nb b : Int) ∧ 1 + (nb b : Int) < 9223372036854775808; omega))) (WL_pure rfl rfl (by decide) (Pu_bin rfl rfl rfl (run_add _ _ _ _ _ (by show -9223372036854775808 ≤ 1 + (nb b : Int) + 32 ∧ 1 + (nb b : Int) + 32 < 9223372036854775808; omega))) (WL_pure rfl rfl (by decide) (Pu_slice (r := 0) (a := 1 + nb b + 32) (b := b.length) rfl Tryd.runUnderlying27 Tryd.sizeOf5 rfl rfl hvb (.inr ⟨_, _, _, rfl, rfl, (by show 1 + (nb b : Int) + 32 = _; omega)⟩) (.inl ⟨rfl, rfl⟩) (by omega) (Nat.le_refl _)) (WL_pure rfl rfl (by decide) (Pu_assign rfl rfl) (WL_nil (X_block ?_))))))))
        exact X_round (x.1 + need b, subV 1 x.2.1 (1 + nb b + 32) b.length, v37, x.2.2.2 ++ [entOf b]) ⟨hps.next hb hbne hno, fun h hp => by rw [← List.drop_drop, hb]; exact rdB_tail (hvb h hp) (by omega)⟩ (by dsimp only; omega) ⟨rfl, rfl, trivial⟩ ⟨rfl, look_eq rfl (rowR_of (x.2.2.2 ++ [entOf b]) (by simp) (by rw [recC_append, recC_one, List.flatten_cons, List.flatten_nil, List.append_nil])), trivial⟩
      exact AHs_nil
  ·
    have hge : l.length ≤ x.1 := by have h := of_decide_eq_false hc10; rw [List.length_drop] at h; omega
    have hdone := hps.done hge
    refine W_exit (X_then_exit (X_then_exit (X_block_exit (X_then ?_))))
    refine W_seq ?_
    refine W_seq ?_
    refine W.pre (K' := [(0, _), (4, _), (10, _)]) (L' := [(0, _), (101, _)]) ?_ ⟨rfl, ⟨rfl, ⟨rfl, trivial⟩⟩⟩ ⟨rfl, ⟨rfl, trivial⟩⟩
    refine W_regL (WL_pure rfl rfl (by decide) (Pu_move rfl rfl) (WL_cons rfl rfl (by decide) (OpT_call 200 [0, 101] [] rfl Tryd.call17 rfl rfl rfl (by decide) (by decide) (bad_spec x.2.2.1 x.2.2.2 hps.2.2.1 (by omega) (fun e he => by have := hps.2.2.2.1 e he; omega) _ (rd_star 1 rfl rowR_rd) (tabs_star 0 rfl hT)) (fun v44 Ps44 hR44 => ?_))))
    obtain ⟨rfl, rfl⟩ := hR44
    refine (WL_pure rfl rfl (by decide) (Pu_assign rfl rfl) (WL_nil (X_then ?_)))
    refine W_seq ?_
    refine W.pre (K' := [(0, _), (4, _), (7, _), (10, _)]) (L' := [(0, _), (101, _)]) ?_ ⟨rfl, ⟨rfl, ⟨rfl, ⟨rfl, trivial⟩⟩⟩⟩ ⟨rfl, ⟨rfl, trivial⟩⟩
    refine W_regL (WL_pure rfl rfl (by decide) (Pu_move rfl rfl) (WL_pure rfl rfl (by decide) (Pu_bin rfl rfl rfl (run_neq _ _ _ _ _ _)) (WL_nil (X_then ?_))))
    refine W_cond rfl (fun hc46 => ?_) (fun hc46 => ?_)
    ·
      have h0 : ¬ dirE x.2.2.2 = 0 := by simpa using hc46
      rw [finP_bad h0] at hdone
      refine W_seq ?_
      refine W.pre (K' := [(0, _), (4, _), (7, _), (10, _), (46, _)]) (L' := [(0, _), (101, _)]) ?_ ⟨rfl, ⟨rfl, ⟨rfl, ⟨rfl, ⟨rfl, trivial⟩⟩⟩⟩⟩ ⟨rfl, ⟨rfl, trivial⟩⟩
      refine W_regL (WL_pure rfl rfl (by decide) (Pu_move rfl rfl) (WL_pure rfl rfl (by decide) (Pu_assign rfl rfl) (WL_pure rfl rfl (by decide) (Pu_assign rfl rfl) (WL_nil (X_then ?_)))))
      refine W_ret (X_then_ret ?_)
      refine X_nilRow 9900 30 33 ?_
      exact X_ret [9900] (Ps := [_]) (res2 Tryd.results10 rfl rfl) rfl (by decide) ⟨_, by rw [hdone] <;> rfl, by rw [hdone] <;> rfl⟩
    ·
      have h0 : dirE x.2.2.2 = 0 := by simpa using hc46
      rw [finP_ok h0] at hdone
      refine W_skip (X_then ?_)
      refine W_seq ?_
      refine W.pre (K' := [(0, _), (4, _), (7, _), (10, _), (46, _)]) (L' := [(0, _), (101, _)]) ?_ ⟨rfl, ⟨rfl, ⟨rfl, ⟨rfl, ⟨rfl, trivial⟩⟩⟩⟩⟩ ⟨rfl, ⟨rfl, trivial⟩⟩
      refine W_regL (WL_pure rfl rfl (by decide) (Pu_move rfl rfl) (WL_pure rfl rfl (by decide) (Pu_assign rfl rfl) (WL_pure rfl rfl (by decide) (Pu_assign rfl rfl) (WL_nil (X_then ?_)))))
      refine W_ret ?_
      exact X_ret [101] (Ps := [_]) (res2 Tryd.results10 rfl rfl) rfl (by decide) ⟨_, by rw [hdone] <;> rfl, by rw [hdone]⟩
theorem refParseDir_spec (v : Value) (l : List UInt8) (hl : l.length ≤ 1000000) (F : HP) (hF : ∀ h, F h → rdB v l h) : CallsS Tryd.prog 11 #[v] F [] (fun r Ps => ∃ v', r = .tuple #[v', .int .i64 ((par l []).2 : Int)] ∧ Ps = [rowE 30 v' (par l []).1]) := by
  refine callsS_enter Tryd.func11 rfl Tryd.ntmps11 (by simp) (fun E => ?_)
  refine W_seq ?_
  refine W.pre (K' := [(0, _)]) (L' := [(0, _)]) ?_ ⟨rfl, trivial⟩ ⟨rfl, trivial⟩
  refine W_regL (WL_pure rfl rfl (by decide) (Pu_assign rfl rfl) (WL_pure rfl rfl (by decide) (Pu_assign rfl rfl) (WL_nil (X_then ?_))))
  refine W_seq ?_
  refine W.pre (K' := [(0, _), (2, _), (3, _)]) (L' := [(0, _)]) ?_ ⟨rfl, ⟨rfl, ⟨rfl, trivial⟩⟩⟩ ⟨rfl, trivial⟩
  refine W_regL (WL_pure rfl rfl (by decide) (Pu_assign rfl rfl) (WL_nil (X_then ?_)))
  refine W_seq ?_
  refine W_seq ?_
  refine W.pre (K' := [(0, _), (2, _), (3, _), (4, _)]) (L' := [(0, _)]) ?_ ⟨rfl, ⟨rfl, ⟨rfl, ⟨rfl, trivial⟩⟩⟩⟩ ⟨rfl, trivial⟩
  refine W_regL (WL_pure rfl rfl (by decide) (Pu_assign rfl rfl) (WL_nil (X_then ?_)))
  refine W_block ?_
  refine W_nilRow 101 30 33 ?_
  refine W_loop (α := Nat × Value × Value × List Ent) (fun x => [(0, v), (4, x.2.2.1), (5, .int .i64 (x.1 : Int))]) (fun x => [(0, F), (101, rowE 30 x.2.2.1 x.2.2.2)]) (fun x => ParS l x.1 x.2.2.2) (fun x => l.length - x.1) ((0, v, .slice none 0 0, [])) (ParS.init l) ⟨rfl, ⟨rfl, ⟨rfl, trivial⟩⟩⟩ ⟨rfl, ⟨rfl, trivial⟩⟩ (fun x hx => ?_)
  have hps := hx
  have hxl := hps.1
  have hacc := hps.2.2.2.2
  unfold rowE rowR
  refine W_seq ?_
  refine W_seq ?_
  refine W.pre (K' := [(0, _), (4, _), (5, _)]) (L' := [(0, _), (101, _)]) ?_ ⟨rfl, ⟨rfl, ⟨rfl, trivial⟩⟩⟩ ⟨rfl, ⟨rfl, trivial⟩⟩
  refine W_regL (WL_pure rfl rfl (by decide) (Pu_move rfl rfl) (WL_pure rfl rfl (by decide) (Pu_move rfl rfl) (WL_pure rfl rfl (by decide) (Pu_len (r := 0) rfl Tryd.runUnderlying27 rfl rfl hF) (WL_pure rfl rfl (by decide) (Pu_bin rfl rfl rfl (run_lss _ _ _ _ _ _)) (WL_nil (X_then ?_))))))
  refine W_cond rfl (fun hc10 => ?_) (fun hc10 => ?_)
  ·
    have hlt : x.1 < l.length := by have h := of_decide_eq_true hc10; omega
    obtain ⟨b, hb⟩ : ∃ b, l.drop x.1 = b := ⟨_, rfl⟩
    have hbl : b.length = l.length - x.1 := by rw [← hb, List.length_drop]
    have hbne : b ≠ [] := fun hc => by rw [hc] at hbl; simp at hbl; omega
    have hnb := nb_lt b
    have hneed := need_nb b
    refine W_skip (X_then ?_)
    refine W_block ?_
    refine W_seq ?_
    refine W.pre (K' := [(0, _), (4, _), (5, _), (10, _)]) (L' := [(0, _), (101, _)]) ?_ ⟨rfl, ⟨rfl, ⟨rfl, ⟨rfl, trivial⟩⟩⟩⟩ ⟨rfl, ⟨rfl, trivial⟩⟩
    refine W_regL (WL_pure rfl rfl (by decide) (Pu_move rfl rfl) (WL_pure rfl rfl (by decide) (Pu_move rfl rfl) (WL_pure rfl rfl (by decide) (Pu_idxS1 (r := 0) rfl Tryd.runUnderlying27 Tryd.sizeOf5 rfl rfl rfl hF (by omega)) (WL_pure rfl rfl (by decide) (Pu_loadS (r := 0) rfl Tryd.isAgg5 rfl rfl hF ((bs_at1 (k := x.1) hlt).trans (congrArg (fun q => some (bv q)) (at0_of_drop hb)))) (WL_pure rfl rfl (by decide) (Pu_conv rfl rfl (conv_u8 _ Tryd.runUnderlying5 Tryd.runUnderlying3)) (WL_pure rfl rfl (by decide) (Pu_assign rfl rfl) (WL_nil (X_then ?_))))))))
    refine W_seq ?_
    refine W_seq ?_
    refine W.pre (K' := [(0, _), (4, _), (5, _), (6, _), (10, _)]) (L' := [(0, _), (101, _)]) ?_ ⟨rfl, ⟨rfl, ⟨rfl, ⟨rfl, ⟨rfl, trivial⟩⟩⟩⟩⟩ ⟨rfl, ⟨rfl, trivial⟩⟩
    refine W_regL (WL_pure rfl rfl (by decide) (Pu_move rfl rfl) (WL_pure rfl rfl (by decide) (Pu_bin rfl rfl rfl (run_add _ _ _ _ _ (by show -9223372036854775808 ≤ (x.1 : Int) + 1 ∧ (x.1 : Int) + 1 < 9223372036854775808; omega))) (WL_pure rfl rfl (by decide) (Pu_move rfl rfl) (WL_pure rfl rfl (by decide) (Pu_bin rfl rfl rfl (run_add _ _ _ _ _ (by show -9223372036854775808 ≤ (x.1 : Int) + 1 + (nb b : Int) ∧ (x.1 : Int) + 1 + (nb b : Int) < 9223372036854775808; omega))) (WL_pure rfl rfl (by decide) (Pu_bin rfl rfl rfl (run_add _ _ _ _ _ (by show -9223372036854775808 ≤ (x.1 : Int) + 1 + (nb b : Int) + 32 ∧ (x.1 : Int) + 1 + (nb b : Int) + 32 < 9223372036854775808; omega))) (WL_pure rfl rfl (by decide) (Pu_move rfl rfl) (WL_pure rfl rfl (by decide) (Pu_len (r := 0) rfl Tryd.runUnderlying27 rfl rfl hF) (WL_pure rfl rfl (by decide) (Pu_bin rfl rfl rfl (run_gtr _ _ _ _ _ _)) (WL_nil (X_then ?_))))))))))
    refine W_cond rfl (fun hc23 => ?_) (fun hc23 => ?_)
    ·
      have hcut : b.length < need b := by have h : (l.length : Int) < (x.1 : Int) + 1 + (nb b : Int) + 32 := of_decide_eq_true hc23; omega
      have hpc := hps.cut hb hbne hcut
      refine W_seq ?_
      refine W.pre (K' := [(0, _), (4, _), (5, _), (6, _), (10, _), (23, _)]) (L' := [(0, _), (101, _)]) ?_ ⟨rfl, ⟨rfl, ⟨rfl, ⟨rfl, ⟨rfl, ⟨rfl, trivial⟩⟩⟩⟩⟩⟩ ⟨rfl, ⟨rfl, trivial⟩⟩
      refine W_regL (WL_pure rfl rfl (by decide) (Pu_assign rfl rfl) (WL_pure rfl rfl (by decide) (Pu_assign rfl rfl) (WL_nil (X_then ?_))))
      refine W_ret (X_then_ret (X_block_ret (X_then_ret (X_block_ret (X_then_ret ?_)))))
      refine X_nilRow 9900 30 33 ?_
      exact X_ret [9900] (Ps := [_]) (res2 Tryd.results11 rfl rfl) rfl (by decide) ⟨_, by rw [hpc] <;> rfl, by rw [hpc] <;> rfl⟩
    ·
      have hno : ¬ b.length < need b := by have h : ¬ (l.length : Int) < (x.1 : Int) + 1 + (nb b : Int) + 32 := of_decide_eq_false hc23; omega
      have hid := entOf_id hno
      refine W_skip (X_then ?_)
      refine W_seq ?_
      refine W.pre (K' := [(0, _), (4, _), (5, _), (6, _), (10, _), (23, _)]) (L' := [(0, _), (101, _)]) ?_ ⟨rfl, ⟨rfl, ⟨rfl, ⟨rfl, ⟨rfl, ⟨rfl, trivial⟩⟩⟩⟩⟩⟩ ⟨rfl, ⟨rfl, trivial⟩⟩
      refine W_draw (N := 21) (by kernel_rfl) rfl [(0, _)] ⟨rfl, trivial⟩ ?_
      refine (AH_take 0 rfl (by kernel_rfl) (by kernel_rfl) (by kernel_rfl) rfl rfl (by decide) (Pu_move rfl rfl) (AH_take 1 rfl (by kernel_rfl) (by kernel_rfl) (by kernel_rfl) rfl rfl (by decide) (Pu_move rfl rfl) (AH_take 2 rfl (by kernel_rfl) (by kernel_rfl) (by kernel_rfl) rfl rfl (by decide) (Pu_move rfl rfl) (AH_take 3 rfl (by kernel_rfl) (by kernel_rfl) (by kernel_rfl) rfl rfl (by decide) (Pu_bin rfl rfl rfl (run_add _ _ _ _ _ (by show -9223372036854775808 ≤ (x.1 : Int) + 1 ∧ (x.1 : Int) + 1 < 9223372036854775808; omega))) (AH_take 4 rfl (by kernel_rfl) (by kernel_rfl) (by kernel_rfl) rfl rfl (by decide) (Pu_move rfl rfl) (AH_take 5 rfl (by kernel_rfl) (by kernel_rfl) (by kernel_rfl) rfl rfl (by decide) (Pu_bin rfl rfl rfl (run_add _ _ _ _ _ (by show -9223372036854775808 ≤ (x.1 : Int) + 1 ∧ (x.1 : Int) + 1 < 9223372036854775808; omega))) (AH_take 6 rfl (by kernel_rfl) (by kernel_rfl) (by kernel_rfl) rfl rfl (by decide) (Pu_move rfl rfl) (AH_take 7 rfl (by kernel_rfl) (by kernel_rfl) (by kernel_rfl) rfl rfl (by decide) (Pu_bin rfl rfl rfl (run_add _ _ _ _ _ (by show -9223372036854775808 ≤ (x.1 : Int) + 1 + (nb b : Int) ∧ (x.1 : Int) + 1 + (nb b : Int) < 9223372036854775808; omega))) (AH_take 8 rfl (by kernel_rfl) (by kernel_rfl) (by kernel_rfl) rfl rfl (by decide) (Pu_slice (r := 0) (a := x.1 + 1) (b := x.1 + 1 + nb b) rfl Tryd.runUnderlying27 Tryd.sizeOf5 rfl rfl hF (.inr ⟨_, _, _, rfl, rfl, (by show (x.1 : Int) + 1 = _; omega)⟩) (.inr ⟨_, _, _, rfl, rfl, (by show (x.1 : Int) + 1 + (nb b : Int) = _; omega)⟩) (by omega) (by omega)) (AH_take 9 rfl (by kernel_rfl) (by kernel_rfl) (by kernel_rfl) rfl rfl (by decide) (Pu_convBS (r := 0) rfl Tryd.underlying27 Tryd.underlying5 Tryd.underlying9 rfl rfl (fun h hp => rdB_subE (l' := (entOf b).1) (hF h hp) (by omega) (by omega) (by rw [Nat.add_sub_cancel_left, ← List.drop_drop, hb]; rfl))) (AH_take 10 rfl (by kernel_rfl) (by kernel_rfl) (by kernel_rfl) rfl rfl (by decide) (Pu_move rfl rfl) (AH_take 11 rfl (by kernel_rfl) (by kernel_rfl) (by kernel_rfl) rfl rfl (by decide) (Pu_move rfl rfl) (AH_take 12 rfl (by kernel_rfl) (by kernel_rfl) (by kernel_rfl) rfl rfl (by decide) (Pu_bin rfl rfl rfl (run_add _ _ _ _ _ (by show -9223372036854775808 ≤ (x.1 : Int) + 1 ∧ (x.1 : Int) + 1 < 9223372036854775808; omega))) (AH_take 13 rfl (by kernel_rfl) (by kernel_rfl) (by kernel_rfl) rfl rfl (by decide) (Pu_move rfl rfl) (AH_take 14 rfl (by kernel_rfl) (by kernel_rfl) (by kernel_rfl) rfl rfl (by decide) (Pu_bin rfl rfl rfl (run_add _ _ _ _ _ (by show -9223372036854775808 ≤ (x.1 : Int) + 1 + (nb b : Int) ∧ (x.1 : Int) + 1 + (nb b : Int) < 9223372036854775808; omega))) (AH_take 15 rfl (by kernel_rfl) (by kernel_rfl) (by kernel_rfl) rfl rfl (by decide) (Pu_slice (r := 0) (a := x.1 + 1 + nb b) (b := l.length) rfl Tryd.runUnderlying27 Tryd.sizeOf5 rfl rfl hF (.inr ⟨_, _, _, rfl, rfl, (by show (x.1 : Int) + 1 + (nb b : Int) = _; omega)⟩) (.inl ⟨rfl, rfl⟩) (by omega) (Nat.le_refl _)) (AH_ready [16] (by kernel_rfl) (by decide) ?_)))))))))))))))))
      refine AHs_cons rfl rfl rfl (by decide) (OpT_call 200 [0, 101] [] rfl Tryd.call19 rfl rfl rfl (by decide) (by decide) (refId_spec _ (l.drop (x.1 + 1 + nb b)) _ (rd_star 0 rfl (fun h hp => rdB_tail (hF h hp) (by omega))) (by show 32 ≤ (l.drop (x.1 + 1 + nb b)).length; rw [List.length_drop]; omega)) (fun v40 Ps40 hR40 => ?_)) ?_
      ·
        obtain ⟨rfl, rfl⟩ := hR40
        refine ⟨⟨rfl, trivial⟩, ?_⟩
        rw [show (l.drop (x.1 + 1 + nb b)).take 32 = (entOf b).2 from by rw [Nat.add_assoc, ← List.drop_drop, hb]; rfl]
        refine (AH_take 17 rfl (by kernel_rfl) (by kernel_rfl) (by kernel_rfl) rfl rfl (by decide) (Pu_build (V := .agg (entF (entOf b)).toArray) [(0, 1), (1, 32)] (entC [] zeroId) rfl rfl (by kernel_rfl) (by kernel_rfl) (.one rfl rfl (by simp [entC, bs_length, zeroId_length]) rfl (.many rfl ((bs_length _).trans hid) (by simp [entC, bs_length, zeroId_length]) rfl (.nil _))) (congrArg (fun q : List Value => Value.agg q.toArray) (ent_build hid))) (AH_ready [18] (by kernel_rfl) (by decide) ?_))
        refine AHs_cons rfl rfl rfl (by decide) (OpT_buildRows (r := 201) [entF (entOf b)] rfl rfl Tryd.runUnderlying22 Tryd.sizeOf30 Tryd.zeroValue30 rfl (by decide) rfl (by decide) (by intro r hr; simp at hr; rw [hr]; exact entC_length hid) rfl (fun v42 => ⟨⟨rfl, trivial⟩, ?_⟩)) ?_
        ·
          refine (AH_ready [19] (by kernel_rfl) (by decide) ?_)
          refine AHs_cons rfl rfl rfl (by decide) (OpT_append (r := 101) (r2 := 201) rfl Tryd.underlying22 TI.hi30 TI.hz30 TI.hs30 TI.hby30 TI.hzs30 (by decide) rfl rfl rfl rfl (fun _ h => rowP_rd h) (by rw [List.flatten_cons, List.flatten_nil, List.append_nil]; exact entC_one _ _) (by unfold maxLen; omega) (by omega) (fun v43 => ?_)) ?_
          ·
            refine ⟨⟨rfl, trivial⟩, ?_⟩
            refine (AH_take 20 rfl (by kernel_rfl) (by kernel_rfl) (by kernel_rfl) rfl rfl (by decide) (Pu_assign rfl rfl) (AH_done (by kernel_rfl) (X_then ?_)))
            refine W.pre (K' := [(0, _), (4, _), (5, _), (6, _), (10, _), (23, _)]) (L' := [(0, _), (101, _), (201, _)]) ?_ ⟨rfl, ⟨rfl, ⟨rfl, ⟨rfl, ⟨rfl, ⟨rfl, trivial⟩⟩⟩⟩⟩⟩ ⟨rfl, ⟨rfl, ⟨rfl, trivial⟩⟩⟩
            refine W_regL (WL_pure rfl rfl (by decide) (Pu_move rfl rfl) (WL_pure rfl rfl (by decide) (Pu_bin rfl rfl rfl (run_add _ _ _ _ _ (by show -9223372036854775808 ≤ (x.1 : Int) + 1 ∧ (x.1 : Int) + 1 < 9223372036854775808; omega))) (WL_pure rfl rfl (by decide) (Pu_move rfl rfl) (WL_pure rfl rfl (by decide) (Pu_bin rfl rfl rfl (run_add _ _ _ _ _ (by show -9223372036854775808 ≤ (x.1 : Int) + 1 + (nb b : Int) ∧ (x.1 : Int) + 1 + (nb b : Int) < 9223372036854775808; omega))) (WL_pure rfl rfl (by decide) (Pu_bin rfl rfl rfl (run_add _ _ _ _ _ (by show -9223372036854775808 ≤ (x.1 : Int) + 1 + (nb b : Int) + 32 ∧ (x.1 : Int) + 1 + (nb b : Int) + 32 < 9223372036854775808; omega))) (WL_pure rfl rfl (by decide) (Pu_assign rfl rfl) (WL_nil (X_block ?_))))))))
            exact X_round (x.1 + need b, x.2.1, v43, x.2.2.2 ++ [entOf b]) (hps.next hb hbne hno) (by dsimp only; omega) ⟨rfl, rfl, congrArg some (int_val (by show (x.1 : Int) + 1 + (nb b : Int) + 32 = ((x.1 + need b : Nat) : Int); omega)), trivial⟩ ⟨rfl, look_eq rfl (rowR_of (x.2.2.2 ++ [entOf b]) (by simp) (by rw [recC_append, recC_one, List.flatten_cons, List.flatten_nil, List.append_nil])), trivial⟩
          exact AHs_nil
        exact AHs_nil
      exact AHs_nil
  ·
    have hge : l.length ≤ x.1 := by have h := of_decide_eq_false hc10; omega
    have hdone := hps.done hge
    refine W_exit (X_then_exit (X_then_exit (X_block_exit (X_then ?_))))
    refine W_seq ?_
    refine W_seq ?_
    refine W.pre (K' := [(0, _), (4, _), (5, _), (10, _)]) (L' := [(0, _), (101, _)]) ?_ ⟨rfl, ⟨rfl, ⟨rfl, ⟨rfl, trivial⟩⟩⟩⟩ ⟨rfl, ⟨rfl, trivial⟩⟩
    refine W_regL (WL_pure rfl rfl (by decide) (Pu_move rfl rfl) (WL_cons rfl rfl (by decide) (OpT_call 200 [0, 101] [] rfl Tryd.call18 rfl rfl rfl (by decide) (by decide) (wrongDir_spec x.2.2.1 x.2.2.2 hps.2.2.1 (by omega) (fun e he => by have := hps.2.2.2.1 e he; omega) _ (rd_star 1 rfl rowR_rd)) (fun v50 Ps50 hR50 => ?_))))
    obtain ⟨rfl, rfl⟩ := hR50
    refine (WL_pure rfl rfl (by decide) (Pu_bin rfl rfl rfl (run_neq _ _ _ _ _ _)) (WL_nil (X_then ?_)))
    refine W_cond rfl (fun hc51 => ?_) (fun hc51 => ?_)
    ·
      have h0 : ¬ dirE x.2.2.2 = 0 := by simpa using hc51
      rw [finP_bad h0] at hdone
      refine W_seq ?_
      refine W.pre (K' := [(0, _), (4, _), (5, _), (10, _), (51, _)]) (L' := [(0, _), (101, _)]) ?_ ⟨rfl, ⟨rfl, ⟨rfl, ⟨rfl, ⟨rfl, trivial⟩⟩⟩⟩⟩ ⟨rfl, ⟨rfl, trivial⟩⟩
      refine W_regL (WL_pure rfl rfl (by decide) (Pu_move rfl rfl) (WL_cons rfl rfl (by decide) (OpT_call 300 [0, 101] [] rfl Tryd.call18 rfl rfl rfl (by decide) (by decide) (wrongDir_spec x.2.2.1 x.2.2.2 hps.2.2.1 (by omega) (fun e he => by have := hps.2.2.2.1 e he; omega) _ (rd_star 1 rfl rowR_rd)) (fun v53 Ps53 hR53 => ?_))))
      obtain ⟨rfl, rfl⟩ := hR53
      refine (WL_pure rfl rfl (by decide) (Pu_assign rfl rfl) (WL_pure rfl rfl (by decide) (Pu_assign rfl rfl) (WL_nil (X_then ?_))))
      refine W_ret (X_then_ret ?_)
      refine X_nilRow 9900 30 33 ?_
      exact X_ret [9900] (Ps := [_]) (res2 Tryd.results11 rfl rfl) rfl (by decide) ⟨_, by rw [hdone] <;> rfl, by rw [hdone] <;> rfl⟩
    ·
      have h0 : dirE x.2.2.2 = 0 := by simpa using hc51
      rw [finP_ok h0] at hdone
      refine W_skip (X_then ?_)
      refine W_seq ?_
      refine W.pre (K' := [(0, _), (4, _), (5, _), (10, _), (51, _)]) (L' := [(0, _), (101, _)]) ?_ ⟨rfl, ⟨rfl, ⟨rfl, ⟨rfl, ⟨rfl, trivial⟩⟩⟩⟩⟩ ⟨rfl, ⟨rfl, trivial⟩⟩
      refine W_regL (WL_pure rfl rfl (by decide) (Pu_move rfl rfl) (WL_pure rfl rfl (by decide) (Pu_assign rfl rfl) (WL_pure rfl rfl (by decide) (Pu_assign rfl rfl) (WL_nil (X_then ?_)))))
      refine W_ret ?_
      exact X_ret [101] (Ps := [_]) (res2 Tryd.results11 rfl rfl) rfl (by decide) ⟨_, by rw [hdone] <;> rfl, by rw [hdone]⟩
end Go.Proofs.YtnhidehpacidnaaDoor
/- Directories: more plain words; entries compared. -/
namespace Go.Proofs.YtnhidehpacidnaaDoor
open Go.RowKit Go.Lib
set_option linter.unusedVariables false
set_option linter.unusedSimpArgs false
theorem strB_beq (a b : List UInt8) : (strB a == strB b) = (a == b) := by
  show ((strB a).data == (strB b).data) = _
  simp [strB]
theorem run_entNe (e f : Ent) (he : e.2.length = 32) (hf : f.2.length = 32) (x y : Operand) (w : World) : ((do eqGuard .neq 30 x y (.agg (entF e).toArray) (.agg (entF f).toArray); binOp .neq 30 (.agg (entF e).toArray) (.agg (entF f).toArray) : Sem Value)).run Tryd.prog w = .ok (.bool (!(e == f))) w := by
  have hid := run_equalIn_bytes w 9997 25 5 32 Tryd.underlying25 Tryd.underlying5 (fun w => by kernel_rfl) e.2 f.2 he hf
  rw [show List.map Extern.Stop.cell e.2 = bs e.2 from rfl, show List.map Extern.Stop.cell f.2 = bs f.2 from rfl] at hid
  simp only [Nat.reduceAdd] at hid
  have p0 : ∀ e : Ent, (part 9 (entF e).toArray 0).run Tryd.prog w = .ok (sV e.1) w := fun e => by simp [part, Tryd.isAgg9, entF, entC]
  have p1 : ∀ e : Ent, e.2.length = 32 → (part 25 (entF e).toArray 1).run Tryd.prog w = .ok (.agg (bs e.2).toArray) w := fun e h => by
    have ht : ((entF e).drop 1).take 32 = bs e.2 := by
      show ((entC e.1 e.2).drop 1).take 32 = _
      unfold entC
      rw [List.drop_succ_cons, List.drop_zero]
      exact List.take_of_length_le (by rw [bs_length, h]; omega)
    have ee : (entF e).toArray.extract 1 33 = (bs e.2).toArray := by
      apply Array.toList_inj.1
      rw [Array.toList_extract]
      simpa [List.extract_eq_take_drop] using ht
    simp [part, Tryd.isAgg25, Tryd.sizeOf25]
    simpa using ht
  have hs : (Op.equalIn 9999 9 (sV e.1) (sV f.1)).run Tryd.prog w = .ok (e.1 == f.1) w := by
    rw [show (9999 : Nat) = 9998 + 1 from rfl]
    unfold Op.equalIn
    simp only [Sem.run_bind, run_underlying Tryd.underlying9, Result.andThen_ok, Sem.run_pure]
    rw [strB_beq]
  have hb : (e == f) = (e.1 == f.1 && (e.2 == f.2 && true)) := by rw [Bool.and_true]; rfl
  rw [hb]
  exact (run_structEq w (by kernel_rfl) Tryd.stoodInHeld30 (gs := [("Name", 9, 0), ("Node", 25, 1)]) (by kernel_rfl) Tryd.eqGuardType30
    (.cons (by decide) (p0 _) (p0 _) hs (.cons (by decide) (p1 _ he) (p1 _ hf) hid .nil)) x y).2
theorem take_sameE {a b : List Ent} {x : Nat} (h : a.take x = b.take x) (h1 : x < a.length) (h2 : x < b.length) (he : a.getD x ent0 = b.getD x ent0) : a.take (x + 1) = b.take (x + 1) := by
  rw [List.take_add_one, List.take_add_one, h, getD_at h1 (d := ent0), getD_at h2 (d := ent0), he]
theorem take_allE {a b : List Ent} {x : Nat} (h : a.take x = b.take x) (h1 : a.length ≤ x) (he : a.length = b.length) : a = b := by
  rwa [List.take_of_length_le h1, List.take_of_length_le (by omega)] at h
theorem dirR_len {es : List Ent} (hE : Ents es) : (dirR es).length ≤ 2000 := by
  unfold dirR
  split
  · rename_i h
    obtain ⟨h1, h2⟩ := dirE_zero h
    have := dirTo_len hE h1 es.length
    rw [dirTo_all] at this
    omega
  · simp
theorem dirs_end {es : List Ent} (hE : Ents es) {rows : List (List UInt8)} {i : Nat} (h3 : rows.getD 3 [] = dirR es) (b : List UInt8) (hb : b = rows.getD i []) :
    ((!((par b []).1 == (par b []).1) || !decide (((par b []).2 : Int) = ((par b []).2 : Int))) || (decide ((i : Int) = 3) && decide ((dirE es : Int) = 0) && !((par b []).1 == es))) = false := by
  simp
  intro hi hE0
  have : i = 3 := by omega
  subst this
  rw [hb, h3, par_dirR hE (by omega)]
theorem bent_len (x : List UInt8) (a : List Int) (y : List UInt8) (cut : Int) : (bentX x a y cut).length ≤ x.length := by
  have : (turned x a y).length = x.length := by unfold turned; rw [turnTo_length]
  unfold bentX
  split
  · rw [List.length_take]; omega
  · omega
end Go.Proofs.YtnhidehpacidnaaDoor
/- Directories: entries compared. -/
namespace Go.Proofs.YtnhidehpacidnaaDoor
open Go.RowKit Go.Lib
set_option linter.unusedVariables false
set_option linter.unusedSimpArgs false

theorem entries_spec (va vb : Value) (a b : List Ent) (hEa : Ents a) (hEb : Ents b) (hal : a.length ≤ 140737488355328) (F : HP) (hA : ∀ h, F h → rdE va a h) (hB : ∀ h, F h → rdE vb b h) : CallsS Tryd.prog 12 #[va, vb] F [] (fun r Ps => r = .bool (a == b) ∧ Ps = []) := by
  refine callsS_enter Tryd.func12 rfl Tryd.ntmps12 (by simp) (fun E => ?_)
  refine W_seq ?_
  refine W.pre (K' := [(0, _), (1, _)]) (L' := [(0, _)]) ?_ ⟨rfl, ⟨rfl, trivial⟩⟩ ⟨rfl, trivial⟩
  refine W_regL (WL_pure rfl rfl (by decide) (Pu_assign rfl rfl) (WL_nil (X_then ?_)))
  refine W_seq ?_
  refine W_seq ?_
  refine W.pre (K' := [(0, _), (1, _), (4, _)]) (L' := [(0, _)]) ?_ ⟨rfl, ⟨rfl, ⟨rfl, trivial⟩⟩⟩ ⟨rfl, trivial⟩
  refine W_regL (WL_pure rfl rfl (by decide) (Pu_move rfl rfl) (WL_pure rfl rfl (by decide) (Pu_len (r := 0) rfl Tryd.runUnderlying22 rfl rfl hA) (WL_pure rfl rfl (by decide) (Pu_move rfl rfl) (WL_pure rfl rfl (by decide) (Pu_len (r := 0) rfl Tryd.runUnderlying22 rfl rfl hB) (WL_pure rfl rfl (by decide) (Pu_bin rfl rfl rfl (run_neq _ _ _ _ _ _)) (WL_nil (X_then ?_)))))))
  refine W_cond rfl (fun hc10 => ?_) (fun hc10 => ?_)
  ·
    have hne : ¬ a.length = b.length := by simp at hc10; omega
    refine W_seq ?_
    refine W.pre (K' := [(0, _), (1, _), (4, _), (10, _)]) (L' := [(0, _)]) ?_ ⟨rfl, ⟨rfl, ⟨rfl, ⟨rfl, trivial⟩⟩⟩⟩ ⟨rfl, trivial⟩
    refine W_regL (WL_pure rfl rfl (by decide) (Pu_assign rfl rfl) (WL_nil (X_then ?_)))
    refine W_ret (X_then_ret ?_)
    exact X_ret [] (Ps := []) (res1 Tryd.results12 rfl) rfl (by decide) ⟨bool_val (beq_eq_false_iff_ne.2 (fun h => hne (by rw [h]))).symm, rfl⟩
  ·
    have heq : a.length = b.length := by simp at hc10; omega
    refine W_skip (X_then ?_)
    refine W_seq ?_
    refine W_seq ?_
    refine W.pre (K' := [(0, _), (1, _), (4, _), (10, _)]) (L' := [(0, _)]) ?_ ⟨rfl, ⟨rfl, ⟨rfl, ⟨rfl, trivial⟩⟩⟩⟩ ⟨rfl, trivial⟩
    refine W_regL (WL_pure rfl rfl (by decide) (Pu_assign rfl rfl) (WL_nil (X_then ?_)))
    refine W_block ?_
    refine W_loop (α := Nat) (fun i => [(0, va), (1, vb), (5, .int .i64 (i : Int))]) (fun i => [(0, F)]) (fun i => i ≤ a.length ∧ a.take i = b.take i) (fun i => a.length - i) (0) ⟨Nat.zero_le _, rfl⟩ ⟨rfl, ⟨rfl, ⟨rfl, trivial⟩⟩⟩ ⟨rfl, trivial⟩ (fun x hx => ?_)
    obtain ⟨hxl, htk⟩ := hx
    refine W_seq ?_
    refine W_seq ?_
    refine W.pre (K' := [(0, _), (1, _), (5, _)]) (L' := [(0, _)]) ?_ ⟨rfl, ⟨rfl, ⟨rfl, trivial⟩⟩⟩ ⟨rfl, trivial⟩
    refine W_regL (WL_pure rfl rfl (by decide) (Pu_move rfl rfl) (WL_pure rfl rfl (by decide) (Pu_move rfl rfl) (WL_pure rfl rfl (by decide) (Pu_len (r := 0) rfl Tryd.runUnderlying22 rfl rfl hA) (WL_pure rfl rfl (by decide) (Pu_bin rfl rfl rfl (run_lss _ _ _ _ _ _)) (WL_nil (X_then ?_))))))
    refine W_cond rfl (fun hc14 => ?_) (fun hc14 => ?_)
    ·
      have hlt : x < a.length := by have := of_decide_eq_true hc14; omega
      have hltb : x < b.length := by omega
      refine W_skip (X_then ?_)
      refine W_seq ?_
      refine W_block ?_
      refine W_seq ?_
      refine W.pre (K' := [(0, _), (1, _), (5, _), (14, _)]) (L' := [(0, _)]) ?_ ⟨rfl, ⟨rfl, ⟨rfl, ⟨rfl, trivial⟩⟩⟩⟩ ⟨rfl, trivial⟩
      refine W_draw (N := 9) (by kernel_rfl) rfl [(0, _)] ⟨rfl, trivial⟩ ?_
      refine (AH_take 0 rfl (by kernel_rfl) (by kernel_rfl) (by kernel_rfl) rfl rfl (by decide) (Pu_move rfl rfl) (AH_take 1 rfl (by kernel_rfl) (by kernel_rfl) (by kernel_rfl) rfl rfl (by decide) (Pu_move rfl rfl) (AH_take 2 rfl (by kernel_rfl) (by kernel_rfl) (by kernel_rfl) rfl rfl (by decide) (Pu_idxS (r := 0) rfl Tryd.runUnderlying22 Tryd.sizeOf30 rfl rfl rfl hA (by omega)) (AH_take 3 rfl (by kernel_rfl) (by kernel_rfl) (by kernel_rfl) rfl rfl (by decide) (Pu_loadSN (r := 0) rfl Tryd.isAgg30 Tryd.sizeOf30 rfl rfl hA (entC_length (hEa.get hlt)) (by decide) (ent_all (k := x) hEa hlt)) (AH_take 4 rfl (by kernel_rfl) (by kernel_rfl) (by kernel_rfl) rfl rfl (by decide) (Pu_move rfl rfl) (AH_take 5 rfl (by kernel_rfl) (by kernel_rfl) (by kernel_rfl) rfl rfl (by decide) (Pu_move rfl rfl) (AH_take 6 rfl (by kernel_rfl) (by kernel_rfl) (by kernel_rfl) rfl rfl (by decide) (Pu_idxS (r := 0) rfl Tryd.runUnderlying22 Tryd.sizeOf30 rfl rfl rfl hB (by omega)) (AH_take 7 rfl (by kernel_rfl) (by kernel_rfl) (by kernel_rfl) rfl rfl (by decide) (Pu_loadSN (r := 0) rfl Tryd.isAgg30 Tryd.sizeOf30 rfl rfl hB (entC_length (hEb.get hltb)) (by decide) (ent_all (k := x) hEb hltb)) (AH_take 8 rfl (by kernel_rfl) (by kernel_rfl) (by kernel_rfl) rfl rfl (by decide) (Pu_bin rfl rfl rfl (run_entNe (a.getD x ent0) (b.getD x ent0) (hEa.get hlt) (hEb.get hltb) _ _)) (AH_done (by kernel_rfl) (X_then ?_)))))))))))
      refine W_cond rfl (fun hc25 => ?_) (fun hc25 => ?_)
      ·
        have hee : ¬ a.getD x ent0 = b.getD x ent0 := by simpa using hc25
        refine W_seq ?_
        refine W.pre (K' := [(0, _), (1, _), (5, _), (14, _), (25, _)]) (L' := [(0, _)]) ?_ ⟨rfl, ⟨rfl, ⟨rfl, ⟨rfl, ⟨rfl, trivial⟩⟩⟩⟩⟩ ⟨rfl, trivial⟩
        refine W_regL (WL_pure rfl rfl (by decide) (Pu_assign rfl rfl) (WL_nil (X_then ?_)))
        refine W_ret (X_block_ret (X_then_ret (X_then_ret (X_block_ret (X_then_ret ?_)))))
        exact X_ret [] (Ps := []) (res1 Tryd.results12 rfl) rfl (by decide) ⟨bool_val (beq_eq_false_iff_ne.2 (fun h => hee (by rw [h]))).symm, rfl⟩
      ·
        have hee : a.getD x ent0 = b.getD x ent0 := by simpa using hc25
        refine W_skip (X_block (X_then ?_))
        refine W.pre (K' := [(0, _), (1, _), (5, _), (14, _), (25, _)]) (L' := [(0, _)]) ?_ ⟨rfl, ⟨rfl, ⟨rfl, ⟨rfl, ⟨rfl, trivial⟩⟩⟩⟩⟩ ⟨rfl, trivial⟩
        refine W_regL (WL_pure rfl rfl (by decide) (Pu_move rfl rfl) (WL_pure rfl rfl (by decide) (Pu_bin rfl rfl rfl (run_add _ _ _ _ _ (by omega))) (WL_pure rfl rfl (by decide) (Pu_assign rfl rfl) (WL_nil ?_))))
        exact X_round (x + 1) ⟨hlt, take_sameE htk hlt hltb hee⟩ (by omega) ⟨rfl, rfl, rfl, trivial⟩ ⟨rfl, trivial⟩
    ·
      have hge : a.length ≤ x := by have := of_decide_eq_false hc14; omega
      refine W_exit (X_then_exit (X_then_exit (X_block_exit (X_then ?_))))
      refine W_seq ?_
      refine W.pre (K' := [(0, _), (1, _), (5, _), (14, _)]) (L' := [(0, _)]) ?_ ⟨rfl, ⟨rfl, ⟨rfl, ⟨rfl, trivial⟩⟩⟩⟩ ⟨rfl, trivial⟩
      refine W_regL (WL_pure rfl rfl (by decide) (Pu_assign rfl rfl) (WL_nil (X_then ?_)))
      refine W_ret ?_
      exact X_ret [] (Ps := []) (res1 Tryd.results12 rfl) rfl (by decide) ⟨bool_val (beq_iff_eq.2 (take_allE htk hge heq)).symm, rfl⟩
end Go.Proofs.YtnhidehpacidnaaDoor
/- Symbolic states: what is held packed into one thing that may be read, and unpacked to what it was. -/
namespace Go.Proofs.YtnhidehpacidnaaDoor
open Go.RowKit
set_option linter.unusedVariables false
/-- What holds of some blocks holds of more. -/
def Up (F : HP) : Prop := ∀ h h' : Hlt, (∀ g o, h g = some o → h' g = some o) → F h → F h'
theorem up_orig (W : World) : Up (orig W) := fun h h' hl ho g o hg => hl g o (ho g o hg)
theorem up_star (Js : List HP) : Up (starL Js) := fun h h' hl ⟨hs, h1, h2, h3⟩ => ⟨hs, h1, h2, fun k g o hk => hl g o (h3 k g o hk)⟩
theorem W_packU {P : Program} {E : Env} {n : Nat} {K : Slots} {L : Res} {Q : Exit → Act → World → Prop} {c : Code} (J : List Nat) {Js : List HP} (hJ : lookL L J = some Js) (hn : J.Nodup) (k : ∀ G, Within G Js → Up G → W P E n c K [(0, G)] Q) : W P E n c K L Q := fun a w hA hS =>
  k (starL Js) (fun h hh => hh) (up_star Js) a w hA (hS.pack (.of hJ) (C := []) (Cs := []) trivial (by simpa using hn))
theorem Within.up {G : HP} {Js : List HP} {P : HP} (hw : Within G Js) (k : Nat) (hk : Js[k]? = some P) (hP : Up P) : ∀ h, G h → P h := fun h hg => by
  obtain ⟨hs, h1, _, h3⟩ := hw h hg
  exact hP _ _ (h3 k) (h1 k P hk)
end Go.Proofs.YtnhidehpacidnaaDoor
/- Names: rows of names made of numbers, in plain words. -/
namespace Go.Proofs.YtnhidehpacidnaaDoor
open Go.RowKit Go.Lib
set_option linter.unusedVariables false
set_option linter.unusedSimpArgs false
abbrev Q := Value × List Int
def nmL (qs : List Q) (k : Nat) : List (List UInt8) := (qs.take k).map fun q => nameN q.2
theorem nmL_len (qs : List Q) (k : Nat) (h : k ≤ qs.length) : (nmL qs k).length = k := by simp [nmL]; omega
theorem nmL_succ {qs : List Q} {k : Nat} (h : k < qs.length) : nmL qs (k + 1) = nmL qs k ++ [nameN (qs.getD k (undef, [])).2] := by
  unfold nmL
  rw [List.take_add_one, List.map_append]
  simp [List.getElem?_eq_getElem h]
theorem vals_at {qs : List Q} {k : Nat} (h : k < qs.length) : (qs.map (·.1))[k]? = some (qs.getD k (undef, [])).1 := by
  simp [List.getElem?_eq_getElem h]
theorem getD_memQ {qs : List Q} {k : Nat} (h : k < qs.length) : qs.getD k (undef, []) ∈ qs := by simp [List.getElem?_eq_getElem h]
theorem jn_app (a b : List (List UInt8)) : jn (a ++ b) = jn a ++ jn b := by simp [jn]
theorem jn_nm_len (qs : List Q) (q : Nat) : (jn (nmL qs q)).length ≤ 50 * q := by
  have key : ∀ ls : List Q, (jn (ls.map fun q => nameN q.2)).length ≤ 50 * ls.length := by
    intro ls
    induction ls with
    | nil => simp [jn]
    | cons x r ih =>
      have := nameN_len x.2
      simp only [List.map_cons, jn, List.flatten_cons, List.length_append, List.length_cons] at ih ⊢
      omega
  have := key (qs.take q)
  have h2 : (qs.take q).length ≤ q := by simp; omega
  unfold nmL
  omega
theorem nm_mem {qs : List Q} {q : Nat} {x : List UInt8} (h : x ∈ nmL qs q) : checkN x = 0 ∧ (47 : UInt8) ∉ x ∧ x ≠ [] ∧ x.length ≤ 49 := by
  obtain ⟨y, _, rfl⟩ := List.mem_map.1 h
  exact ⟨check_name _, name_stroke _, name_ne _, nameN_len _⟩
theorem nm_all (qs : List Q) (q : Nat) (h : (nmL qs q).length ≤ 5) : allN (nmL qs q) = 0 := allN_good h fun x hx => (nm_mem hx).1
theorem nm_path {ls : List (List UInt8)} (hsk : ∀ x ∈ ls, (47 : UInt8) ∉ x ∧ x ≠ []) : (47 :: joinL ls = [47]) ↔ ls = [] := by
  constructor
  · intro h
    by_cases hl : ls = []
    · exact hl
    · have := (noPath_join hl hsk).2
      simp at h
      exact absurd h this
  · intro h; subst h; rfl
theorem joinL_snoc {ls : List (List UInt8)} (h : ls ≠ []) (n : List UInt8) : joinL (ls ++ [n]) = joinL ls ++ 47 :: n := by
  induction ls with
  | nil => exact absurd rfl h
  | cons x r ih =>
    cases r with
    | nil => simp [joinL]
    | cons y r =>
      have := ih (by simp)
      simp only [List.cons_append, joinL] at this ⊢
      rw [this]
      simp
theorem parts_split (zs : List Int) {ls : List (List UInt8)} (hls : ∀ x ∈ ls, checkN x = 0 ∧ (47 : UInt8) ∉ x ∧ x ≠ [] ∧ x.length ≤ 49) :
    splitN (47 :: joinL (ls ++ [nameN zs])) = if 5 < ls.length + 1 then ([], 4) else (ls ++ [nameN zs], 0) := by
  have hm : ∀ x ∈ ls ++ [nameN zs], checkN x = 0 ∧ (47 : UInt8) ∉ x ∧ x ≠ [] := by
    intro x hx
    rcases List.mem_append.1 hx with hx | hx
    · exact ⟨(hls x hx).1, (hls x hx).2.1, (hls x hx).2.2.1⟩
    · simp at hx; subst hx; exact ⟨check_name _, name_stroke _, name_ne _⟩
  rw [split_join (by simp) fun x hx => (hm x hx).2]
  by_cases h5 : 5 < ls.length + 1
  · rw [if_pos h5, allN_many (by simpa using h5), if_pos (by decide)]
  · rw [if_neg h5, allN_good (by simp; omega) fun x hx => (hm x hx).1, if_neg (by decide)]
theorem parts_one (zs : List Int) {ls : List (List UInt8)} (h : ls = []) : splitN ([47] ++ nameN zs) = (ls ++ [nameN zs], 0) := by
  subst h
  exact parts_split zs (ls := []) (by simp)
theorem parts_more (zs : List Int) {ls : List (List UInt8)} (hls : ∀ x ∈ ls, checkN x = 0 ∧ (47 : UInt8) ∉ x ∧ x ≠ [] ∧ x.length ≤ 49) (h : ls ≠ []) :
    splitN (47 :: joinL ls ++ [47] ++ nameN zs) = if 5 < ls.length + 1 then ([], 4) else (ls ++ [nameN zs], 0) := by
  have := parts_split zs hls
  rw [joinL_snoc h] at this
  rw [← this]
  simp
theorem same_snoc {ls : List (List UInt8)} {n : List UInt8} : [] ++ ss ls ++ [sV n] = ss (ls ++ [n]) := by rw [List.nil_append, ss_append]; rfl
end Go.Proofs.YtnhidehpacidnaaDoor
/- From a reading of an argument to plain facts: ints, bools, strings, slices of bytes, of ints, of rows of bytes, of structs. -/
namespace Go.Proofs.YtnhidehpacidnaaDoor
open Go.RowKit Go.ChangeShapes Go.WideShapes Go.Deep

theorem wf_i64 {n : Int} (h : (Lit.int .i64 n).wf = true) : -9223372036854775808 ≤ n ∧ n ≤ 9223372036854775807 := by
  simp only [Lit.wf, Bool.and_eq_true, decide_eq_true_eq] at h
  have h1 : IntKind.min .i64 = -9223372036854775808 := by decide
  have h2 : IntKind.max .i64 = 9223372036854775807 := by decide
  rw [h1, h2] at h
  exact h
theorem wf_u8 {n : Int} (h : (Lit.int .u8 n).wf = true) : 0 ≤ n ∧ n ≤ 255 := by
  simp only [Lit.wf, Bool.and_eq_true, decide_eq_true_eq] at h
  have h1 : IntKind.min .u8 = 0 := by decide
  have h2 : IntKind.max .u8 = 255 := by decide
  rw [h1, h2] at h
  exact h

/-- A slice of ints that reads as zs. -/
def RdI (w : World) (v : Value) (zs : List Int) : Prop := Rd w 1 v zs.length (zs.map (Value.int .i64))
def I64 (zs : List Int) : Prop := ∀ z ∈ zs, -9223372036854775808 ≤ z ∧ z ≤ 9223372036854775807
/-- A slice of bools that reads as l. -/
def RdT (w : World) (v : Value) (l : List Bool) : Prop := Rd w 1 v l.length (l.map Value.bool)
/-- A slice of rows of bytes: each with its value and its bytes. -/
def RdR (w : World) (v : Value) (ps : List (Value × List UInt8)) : Prop := Rd w 1 v ps.length (ps.map (·.1)) ∧ ∀ p ∈ ps, RdB w p.1 p.2

theorem bytes_of (vs : List Value) (h : ∀ u ∈ vs, ∃ n, u = .int .u8 n ∧ (Lit.int .u8 n).wf = true) : ∃ l : List UInt8, vs = bs l := by
  induction vs with
  | nil => exact ⟨[], rfl⟩
  | cons u vs ih =>
    obtain ⟨l, rfl⟩ := ih fun x hx => h x (List.mem_cons_of_mem _ hx)
    obtain ⟨n, rfl, hw⟩ := h u (List.mem_cons_self ..)
    have := wf_u8 hw
    refine ⟨UInt8.ofNat n.toNat :: l, ?_⟩
    simp only [bs, List.map_cons, bv]
    congr 2
    rw [UInt8.toNat_ofNat']
    omega
theorem ints_of (vs : List Value) (h : ∀ u ∈ vs, ∃ n, u = .int .i64 n ∧ (Lit.int .i64 n).wf = true) : ∃ zs : List Int, vs = zs.map (Value.int .i64) ∧ I64 zs := by
  induction vs with
  | nil => exact ⟨[], rfl, by simp [I64]⟩
  | cons u vs ih =>
    obtain ⟨zs, rfl, hz⟩ := ih fun x hx => h x (List.mem_cons_of_mem _ hx)
    obtain ⟨n, rfl, hw⟩ := h u (List.mem_cons_self ..)
    refine ⟨n :: zs, rfl, fun z hm => ?_⟩
    rcases List.mem_cons.1 hm with rfl | hm
    · exact wf_i64 hw
    · exact hz z hm
theorem bools_of (vs : List Value) (h : ∀ u ∈ vs, ∃ b, u = Value.bool b) : ∃ l : List Bool, vs = l.map Value.bool := by
  induction vs with
  | nil => exact ⟨[], rfl⟩
  | cons u vs ih =>
    obtain ⟨l, rfl⟩ := ih fun x hx => h x (List.mem_cons_of_mem _ hx)
    obtain ⟨b, rfl⟩ := h u (List.mem_cons_self ..)
    exact ⟨b :: l, rfl⟩
/-- Each of a list stands to something: the list with these. -/
theorem pairs_of {α β : Type} {R : α → β → Prop} (vs : List α) (h : ∀ u ∈ vs, ∃ y, R u y) : ∃ ps : List (α × β), vs = ps.map (·.1) ∧ ∀ p ∈ ps, R p.1 p.2 := by
  induction vs with
  | nil => exact ⟨[], rfl, by simp⟩
  | cons u vs ih =>
    obtain ⟨ps, rfl, hp⟩ := ih fun x hx => h x (List.mem_cons_of_mem _ hx)
    obtain ⟨y, hy⟩ := h u (List.mem_cons_self ..)
    refine ⟨(u, y) :: ps, rfl, fun p hm => ?_⟩
    rcases List.mem_cons.1 hm with rfl | hm
    · exact hy
    · exact hp p hm

section
variable {H : Type} {enc : TypeId × Value → H} {P : Program} {w : World} {base : Nat} {spare : Nat → Bool} {held : Bool}

/-- A slice, an element one cell. -/
theorem slice1_of {t e : TypeId} {fuel : Nat} {v : Value} {x : DataW H × List MemPlace} (ht : P.underlying t = some (.slice e)) (hc : P.cellsOf e = 1) (h : DataW.trod enc P w base spare held fuel t [v] = some x) :
    ∃ vs : List Value, Rd w 1 v vs.length vs ∧ vs.length ≤ maxLen ∧ ∀ u ∈ vs, ∃ n y, DataW.trod enc P w base spare held n e [u] = some y := by
  rcases open_slice1 ht hc h with ⟨h1, _⟩ | ⟨a, len, cap, m, n, V, D, Pl, h1, hb, hl, hm, hmm, hx, hV⟩
  · injection h1 with h1; subst h1
    exact ⟨[], ⟨rfl, none, 0, rfl, Nat.le_refl _, fun _ => rfl, fun ad h => by cases h⟩, by unfold maxLen; simp, by simp⟩
  · injection h1 with h1; subst h1
    have hle : len ≤ m := by rw [hmm]; split <;> omega
    refine ⟨(List.range len).map V, ⟨by simp, some a, cap, by simp, by simpa using hl, (fun h => by cases h), fun ad had => ?_⟩, by simp; omega, fun u hu => ?_⟩
    · injection had with had; subst had
      refine ⟨fun hp => ?_, fun j u hu => ?_⟩
      · have := (hV 0 (by simp at hp; omega)).1
        have := World.block_lt_of_cell? _ _ this
        rwa [block_of_add] at this
      · simp only [List.getElem?_map] at hu
        have hj : j < len := by
          rcases Nat.lt_or_ge j len with h | h
          · exact h
          · simp [List.getElem?_eq_none (show (List.range len).length ≤ j by simpa using h)] at hu
        simp [List.getElem?_range hj] at hu
        subst hu
        exact (hV j (by omega)).1
    · simp only [List.mem_map, List.mem_range] at hu
      obtain ⟨i, hi, rfl⟩ := hu
      exact ⟨n, _, (hV i (by omega)).2⟩

theorem rdB_of {t e : TypeId} {fuel : Nat} {v : Value} {x : DataW H × List MemPlace} (ht : P.underlying t = some (.slice e)) (he : P.underlying e = some (.int .u8)) (hc : P.cellsOf e = 1) (h : DataW.trod enc P w base spare held fuel t [v] = some x) :
    ∃ l, RdB w v l ∧ l.length ≤ maxLen := by
  obtain ⟨vs, hr, hm, hu⟩ := slice1_of ht hc h
  obtain ⟨l, rfl⟩ := bytes_of vs fun u hmem => by
    obtain ⟨n, y, hy⟩ := hu u hmem
    obtain ⟨k, h1, _, h3⟩ := DataW.trod_int he hy
    injection h1 with h1
    exact ⟨k, h1, h3⟩
  rw [bs_length] at hr hm
  exact ⟨l, hr, hm⟩
theorem rdI_of {t e : TypeId} {fuel : Nat} {v : Value} {x : DataW H × List MemPlace} (ht : P.underlying t = some (.slice e)) (he : P.underlying e = some (.int .i64)) (hc : P.cellsOf e = 1) (h : DataW.trod enc P w base spare held fuel t [v] = some x) :
    ∃ l, RdI w v l ∧ I64 l ∧ l.length ≤ maxLen := by
  obtain ⟨vs, hr, hm, hu⟩ := slice1_of ht hc h
  obtain ⟨l, rfl, hl⟩ := ints_of vs fun u hmem => by
    obtain ⟨n, y, hy⟩ := hu u hmem
    obtain ⟨k, h1, _, h3⟩ := DataW.trod_int he hy
    injection h1 with h1
    exact ⟨k, h1, h3⟩
  rw [List.length_map] at hr hm
  exact ⟨l, hr, hl, hm⟩
theorem rdT_of {t e : TypeId} {fuel : Nat} {v : Value} {x : DataW H × List MemPlace} (ht : P.underlying t = some (.slice e)) (he : P.underlying e = some .bool) (hc : P.cellsOf e = 1) (h : DataW.trod enc P w base spare held fuel t [v] = some x) :
    ∃ l, RdT w v l ∧ l.length ≤ maxLen := by
  obtain ⟨vs, hr, hm, hu⟩ := slice1_of ht hc h
  obtain ⟨l, rfl⟩ := bools_of vs fun u hmem => by
    obtain ⟨n, y, hy⟩ := hu u hmem
    obtain ⟨k, h1, _⟩ := DataW.trod_bool he hy
    injection h1 with h1
    exact ⟨k, h1⟩
  rw [List.length_map] at hr hm
  exact ⟨l, hr, hm⟩
theorem rdR_of {t e b : TypeId} {fuel : Nat} {v : Value} {x : DataW H × List MemPlace} (ht : P.underlying t = some (.slice e)) (he : P.underlying e = some (.slice b)) (hb : P.underlying b = some (.int .u8)) (hc : P.cellsOf e = 1) (hcb : P.cellsOf b = 1) (h : DataW.trod enc P w base spare held fuel t [v] = some x) :
    ∃ ps, RdR w v ps ∧ ps.length ≤ maxLen := by
  obtain ⟨vs, hr, hm, hu⟩ := slice1_of ht hc h
  obtain ⟨ps, rfl, hp⟩ := pairs_of (R := RdB w) vs fun u hmem => by
    obtain ⟨n, y, hy⟩ := hu u hmem
    obtain ⟨l, hl, _⟩ := rdB_of he hb hcb hy
    exact ⟨l, hl⟩
  rw [List.length_map] at hr hm
  exact ⟨ps, ⟨hr, hp⟩, hm⟩

/-- A slice of structs, each field one cell: for each element its cells, and each field's reading. -/
theorem rows_of {t e : TypeId} {fs : Array Field} {fuel : Nat} {v : Value} {x : DataW H × List MemPlace} (ht : P.underlying t = some (.slice e)) (he : P.underlying e = some (.struct fs))
    (hone : oneCellFields P fs = true) (hS : 0 < fs.size) (hC : P.cellsOf e = fs.size) (h : DataW.trod enc P w base spare held fuel t [v] = some x) :
    ∃ rs : List (List Value), Rd w fs.size v rs.length rs.flatten ∧ rs.length ≤ maxLen ∧ ∀ r ∈ rs, r.length = fs.size ∧
      ∀ (j : Nat) (f : Field), fs[j]? = some f → ∃ u n y, r[j]? = some u ∧ DataW.trod enc P w base spare held n f.type [u] = some y := by
  rcases open_slice ht h with ⟨h1, _⟩ | ⟨a, len, cap, m, n, D, Pl, h1, hb, hl, hm, hmm, hx, hi⟩
  · injection h1 with h1; subst h1
    exact ⟨[], ⟨by simp, none, 0, rfl, Nat.le_refl _, fun _ => rfl, fun ad h => by cases h⟩, by unfold maxLen; simp, by simp⟩
  · injection h1 with h1; subst h1
    have hle : len ≤ m := by rw [hmm]; split <;> omega
    rw [hC] at hi
    obtain ⟨V, hV⟩ := choose_lt (α := List Value) (p := fun i cs' => w.cells? base (a.add (i * fs.size)) fs.size = some cs' ∧ DataW.trod enc P w base spare held n e cs' = some (D i, Pl i)) (n := m) (fun i him => hi i him)
    have hfl : ∀ i, i < len → (V i).length = fs.size := fun i h => (World.cells?_some (hV i (by omega)).1).2.1
    have hlen : ∀ k, k ≤ len → ((List.range k).map V).flatten.length = k * fs.size := by
      intro k hk
      induction k with
      | zero => simp
      | succ k ih =>
        rw [List.range_succ, List.map_append, List.flatten_append, List.length_append, ih (by omega)]
        simp [hfl k (by omega), Nat.add_mul]
    have hget : ∀ k, k ≤ len → ∀ (j : Nat) (u : Value), ((List.range k).map V).flatten[j]? = some u → w.cell? (a.add j) = some u := by
      intro k hk
      induction k with
      | zero => intro j u hu; simp at hu
      | succ k ih =>
        intro j u hu
        rw [List.range_succ, List.map_append, List.flatten_append, List.getElem?_append, hlen k (by omega)] at hu
        split at hu
        · exact ih (by omega) j u hu
        · simp only [List.map_cons, List.map_nil, List.flatten_cons, List.flatten_nil, List.append_nil] at hu
          have hj : j - k * fs.size < fs.size := by
            have := (List.getElem?_eq_some_iff.1 hu).1
            rw [hfl k (by omega)] at this
            exact this
          have h2 := (World.cells?_some (hV k (by omega)).1).2.2 (j - k * fs.size) hj
          rw [add_of_add, show k * fs.size + (j - k * fs.size) = j by omega] at h2
          rw [h2, hu]
    refine ⟨(List.range len).map V, ⟨by rw [hlen len (Nat.le_refl _)]; simp, some a, cap, by simp, by simpa using hl, (fun h => by cases h), fun ad had => ?_⟩, by simp; omega, fun r hr => ?_⟩
    · injection had with had; subst had
      refine ⟨fun hp => ?_, hget len (Nat.le_refl _)⟩
      have hp' : 0 < len := by simpa using hp
      have h0 := (hV 0 (by omega)).1
      have h1 := (World.cells?_some h0).2.2 0 hS
      rw [List.getElem?_eq_getElem (by rw [hfl 0 hp']; exact hS)] at h1
      have := World.block_lt_of_cell? _ _ h1
      rwa [block_of_add, block_of_add] at this
    · simp only [List.mem_map, List.mem_range] at hr
      obtain ⟨i, hil, rfl⟩ := hr
      obtain ⟨hc, htd⟩ := hV i (by omega)
      obtain ⟨ys, n', hn', hy, hlen', hyl, hf⟩ := DataW.trod_struct he htd
      refine ⟨hfl i hil, fun j f hj => ?_⟩
      obtain ⟨ho, hk⟩ := hone_of hone j f hj
      have hjl : j < fs.size := (Array.getElem?_eq_some_iff.1 hj).1
      have h1 := hf j f hj
      rw [ho, hk] at h1
      have hvl := hfl i hil
      have hone' : ((V i).drop j).take 1 = [(V i)[j]'(by omega)] := by
        rw [List.drop_eq_getElem_cons (by omega)]
        rfl
      rw [hone', List.getElem?_eq_getElem (by omega)] at h1
      exact ⟨_, n', _, List.getElem?_eq_getElem (by omega), h1⟩
end

section
variable {H : Type} {enc : TypeId × Value → H} {P : Program} {w : World} {base b0 : Nat} {spare : Nat → Bool} {held : Bool} {r : Reach} {t : TypeId} {v : Value} {d : DataW H} {ps : List MemPlace}
theorem op_int (ht : P.underlying t = some (.int .i64)) (hv : Value.okWide P w r b0 t v) (h : DataW.Trod enc P w base spare held t v d ps) : ∃ n, v = .int .i64 n ∧ -9223372036854775808 ≤ n ∧ n ≤ 9223372036854775807 := by
  obtain ⟨n, rfl, _, _, hw⟩ := open_int ht hv h
  exact ⟨n, rfl, (wf_i64 hw).1, (wf_i64 hw).2⟩
theorem op_slice {e : TypeId} (ht : P.underlying t = some (.slice e)) (hv : Value.okWide P w r b0 t v) (h : DataW.Trod enc P w base spare held t v d ps) : ∃ fuel, DataW.trod enc P w base spare held fuel t [v] = some (d, ps) := by
  obtain ⟨a, len, cap, rfl⟩ := okWide_slice ht hv
  obtain ⟨fuel, hf⟩ := h
  exact ⟨fuel, by simpa [Value.cells] using hf⟩
end
end Go.Proofs.YtnhidehpacidnaaDoor
/- From a reading of an argument to plain facts: structs and arrays by value, slices of them. -/
namespace Go.Proofs.YtnhidehpacidnaaDoor
open Go.RowKit Go.ChangeShapes Go.WideShapes Go.Deep
set_option linter.unusedVariables false
section
variable {H : Type} {enc : TypeId × Value → H} {P : Program} {w : World} {base : Nat} {spare : Nat → Bool} {held : Bool}
/-- These cells read as a value of the type. -/
def Tr (enc : TypeId × Value → H) (P : Program) (w : World) (base : Nat) (spare : Nat → Bool) (held : Bool) (t : TypeId) (cs : List Value) : Prop := ∃ fuel x, DataW.trod enc P w base spare held fuel t cs = some x
theorem Tr.int {t : TypeId} {cs : List Value} (ht : P.underlying t = some (.int .i64)) (h : Tr enc P w base spare held t cs) : ∃ n, cs = [.int .i64 n] ∧ -9223372036854775808 ≤ n ∧ n ≤ 9223372036854775807 := by
  obtain ⟨f, x, h⟩ := h
  obtain ⟨n, rfl, _, hw⟩ := DataW.trod_int ht h
  exact ⟨n, rfl, wf_i64 hw⟩
theorem Tr.bool {t : TypeId} {cs : List Value} (ht : P.underlying t = some .bool) (h : Tr enc P w base spare held t cs) : ∃ b, cs = [Value.bool b] := by
  obtain ⟨f, x, h⟩ := h
  obtain ⟨b, rfl, _⟩ := DataW.trod_bool ht h
  exact ⟨b, rfl⟩
theorem Tr.u8 {t : TypeId} {cs : List Value} (ht : P.underlying t = some (.int .u8)) (h : Tr enc P w base spare held t cs) : ∃ x, cs = [bv x] := by
  obtain ⟨f, x, h⟩ := h
  obtain ⟨n, rfl, _, hw⟩ := DataW.trod_int ht h
  have := wf_u8 hw
  refine ⟨UInt8.ofNat n.toNat, ?_⟩
  simp only [bv]
  congr 2
  rw [UInt8.toNat_ofNat']
  omega
theorem Tr.struct {t : TypeId} {cs : List Value} {fs : Array Field} (ht : P.underlying t = some (.struct fs)) (h : Tr enc P w base spare held t cs) : cs.length = P.cellsOf t ∧ ∀ (i : Nat) (f : Field), fs[i]? = some f → Tr enc P w base spare held f.type ((cs.drop f.offset).take (P.cellsOf f.type)) := by
  obtain ⟨f, x, h⟩ := h
  obtain ⟨xs, n, _, _, hl, hx, hf⟩ := DataW.trod_struct ht h
  refine ⟨hl, fun i f hi => ?_⟩
  have h1 := hf i f hi
  have hlt : i < xs.length := by rw [hx]; exact (Array.getElem?_eq_some_iff.1 hi).1
  rw [List.getElem?_eq_getElem hlt] at h1
  exact ⟨n, _, h1⟩
theorem Tr.array {t e : TypeId} {n : Nat} {cs : List Value} (ht : P.underlying t = some (.array n e)) (h : Tr enc P w base spare held t cs) : cs.length = P.cellsOf t ∧ ∀ i, i < n → Tr enc P w base spare held e ((cs.drop (i * P.cellsOf e)).take (P.cellsOf e)) := by
  obtain ⟨f, x, h⟩ := h
  obtain ⟨xs, m, _, _, hl, hx, hf⟩ := DataW.trod_array ht h
  refine ⟨hl, fun i hi => ?_⟩
  have h1 := hf i hi
  rw [List.getElem?_eq_getElem (by omega)] at h1
  exact ⟨m, _, h1⟩
/-- An array of bytes. -/
theorem Tr.bytes {t e : TypeId} {n : Nat} {cs : List Value} (ht : P.underlying t = some (.array n e)) (he : P.underlying e = some (.int .u8)) (hc : P.cellsOf e = 1) (hn : P.cellsOf t = n) (h : Tr enc P w base spare held t cs) : ∃ l, cs = bs l ∧ l.length = n := by
  obtain ⟨hl, hf⟩ := h.array ht
  rw [hn] at hl
  rw [hc] at hf
  have key : ∀ (cs : List Value), (∀ i, i < cs.length → Tr enc P w base spare held e ((cs.drop (i * 1)).take 1)) → ∃ l, cs = bs l := by
    intro cs
    induction cs with
    | nil => intro _; exact ⟨[], rfl⟩
    | cons u cs ih =>
      intro h
      obtain ⟨l, rfl⟩ := ih (fun i hi => by
        have := h (i + 1) (by simpa using hi)
        simpa using this)
      obtain ⟨x, hx⟩ := (h 0 (by simp)).u8 he
      simp at hx
      exact ⟨x :: l, by simp [bs, hx]⟩
  obtain ⟨l, rfl⟩ := key cs (fun i hi => hf i (by omega))
  exact ⟨l, rfl, by rw [← hl, bs_length]⟩
/-- A slice, an element of any kind. -/
theorem rowsT_of {t e : TypeId} {fuel S : Nat} {v : Value} {x : DataW H × List MemPlace} (ht : P.underlying t = some (.slice e)) (hC : P.cellsOf e = S) (hS : 0 < S) (h : DataW.trod enc P w base spare held fuel t [v] = some x) :
    ∃ rs : List (List Value), Rd w S v rs.length rs.flatten ∧ rs.length ≤ maxLen ∧ ∀ r ∈ rs, r.length = S ∧ Tr enc P w base spare held e r := by
  rcases open_slice ht h with ⟨h1, _⟩ | ⟨a, len, cap, m, n, D, Pl, h1, hb, hl, hm, hmm, hx, hi⟩
  · injection h1 with h1; subst h1
    exact ⟨[], ⟨by simp, none, 0, rfl, Nat.le_refl _, fun _ => rfl, fun ad h => by cases h⟩, by unfold maxLen; simp, by simp⟩
  · injection h1 with h1; subst h1
    have hle : len ≤ m := by rw [hmm]; split <;> omega
    rw [hC] at hi
    obtain ⟨V, hV⟩ := choose_lt (α := List Value) (p := fun i cs' => w.cells? base (a.add (i * S)) S = some cs' ∧ DataW.trod enc P w base spare held n e cs' = some (D i, Pl i)) (n := m) (fun i him => hi i him)
    have hfl : ∀ i, i < len → (V i).length = S := fun i h => (World.cells?_some (hV i (by omega)).1).2.1
    have hlen : ∀ k, k ≤ len → ((List.range k).map V).flatten.length = k * S := by
      intro k hk
      induction k with
      | zero => simp
      | succ k ih =>
        rw [List.range_succ, List.map_append, List.flatten_append, List.length_append, ih (by omega)]
        simp [hfl k (by omega), Nat.add_mul]
    have hget : ∀ k, k ≤ len → ∀ (j : Nat) (u : Value), ((List.range k).map V).flatten[j]? = some u → w.cell? (a.add j) = some u := by
      intro k hk
      induction k with
      | zero => intro j u hu; simp at hu
      | succ k ih =>
        intro j u hu
        rw [List.range_succ, List.map_append, List.flatten_append, List.getElem?_append, hlen k (by omega)] at hu
        split at hu
        · exact ih (by omega) j u hu
        · simp only [List.map_cons, List.map_nil, List.flatten_cons, List.flatten_nil, List.append_nil] at hu
          have hj : j - k * S < S := by
            have := (List.getElem?_eq_some_iff.1 hu).1
            rw [hfl k (by omega)] at this
            exact this
          have h2 := (World.cells?_some (hV k (by omega)).1).2.2 (j - k * S) hj
          rw [add_of_add, show k * S + (j - k * S) = j by omega] at h2
          rw [h2, hu]
    refine ⟨(List.range len).map V, ⟨by rw [hlen len (Nat.le_refl _)]; simp, some a, cap, by simp, by simpa using hl, (fun h => by cases h), fun ad had => ?_⟩, by simp; omega, fun r hr => ?_⟩
    · injection had with had; subst had
      refine ⟨fun hp => ?_, hget len (Nat.le_refl _)⟩
      have hp' : 0 < len := by simpa using hp
      have h0 := (hV 0 (by omega)).1
      have h1 := (World.cells?_some h0).2.2 0 hS
      rw [List.getElem?_eq_getElem (by rw [hfl 0 hp']; exact hS)] at h1
      have := World.block_lt_of_cell? _ _ h1
      rwa [block_of_add, block_of_add] at this
    · simp only [List.mem_map, List.mem_range] at hr
      obtain ⟨i, hil, rfl⟩ := hr
      exact ⟨hfl i hil, _, _, (hV i (by omega)).2⟩
/-- A slice of ids. -/
theorem rdIds_of {t e b : TypeId} {fuel : Nat} {v : Value} {x : DataW H × List MemPlace} (ht : P.underlying t = some (.slice e)) (he : P.underlying e = some (.array 32 b)) (hb : P.underlying b = some (.int .u8)) (hc : P.cellsOf b = 1) (hC : P.cellsOf e = 32) (h : DataW.trod enc P w base spare held fuel t [v] = some x) :
    ∃ l : List (List UInt8), Rd w 32 v l.length (idsC l) ∧ Ids l ∧ l.length ≤ maxLen := by
  obtain ⟨rs, h1, h2, h3⟩ := rowsT_of ht hC (by decide) h
  obtain ⟨l, hl⟩ : ∃ l : List (List UInt8), rs = l.map bs ∧ Ids l := by
    clear h1 h2 h
    induction rs with
    | nil => exact ⟨[], rfl, fun x hx => by simp at hx⟩
    | cons r rs ih =>
      obtain ⟨l, rfl, hi⟩ := ih fun r hr => h3 r (by simp [hr])
      obtain ⟨y, hy, hy2⟩ := (h3 r (by simp)).2.bytes he hb hc hC
      exact ⟨y :: l, by rw [hy]; rfl, fun z hz => by rcases List.mem_cons.1 hz with rfl | hz; exact hy2; exact hi z hz⟩
  obtain ⟨rfl, hi⟩ := hl
  rw [List.length_map] at h1 h2
  exact ⟨l, h1, hi, h2⟩
end
section
variable {H : Type} {enc : TypeId × Value → H} {P : Program} {w : World} {base b0 : Nat} {spare : Nat → Bool} {held : Bool} {r : Reach} {t : TypeId} {v : Value} {d : DataW H} {ps : List MemPlace}
theorem op_struct {fs : Array Field} (ht : P.underlying t = some (.struct fs)) (hv : Value.okWide P w r b0 t v) (h : DataW.Trod enc P w base spare held t v d ps) : ∃ cs : List Value, v = .agg cs.toArray ∧ Tr enc P w base spare held t cs := by
  obtain ⟨cs, rfl, _⟩ := okWide_struct ht hv
  obtain ⟨f, h⟩ := h
  exact ⟨cs.toList, by simp, f, _, h⟩
theorem op_bool (ht : P.underlying t = some .bool) (hv : Value.okWide P w r b0 t v) (h : DataW.Trod enc P w base spare held t v d ps) : ∃ b, v = .bool b := by
  obtain ⟨b, h, _⟩ := open_bool ht hv h
  exact ⟨b, h⟩
theorem op_array {n : Nat} {e : TypeId} (ht : P.underlying t = some (.array n e)) (hv : Value.okWide P w r b0 t v) (h : DataW.Trod enc P w base spare held t v d ps) : ∃ cs : List Value, v = .agg cs.toArray ∧ Tr enc P w base spare held t cs := by
  simp only [Value.okWide, ht] at hv
  obtain ⟨cs, rfl, _⟩ := hv
  obtain ⟨f, h⟩ := h
  exact ⟨cs.toList, by simp, f, _, h⟩
end
end Go.Proofs.YtnhidehpacidnaaDoor
