/- Caches by the document: plain words of Get and Put. -/
import Derived.Test.YtamhhkjddmjanaaCache6
namespace Go.Proofs.Ytamhhkjddmjanaa
open Go.RowKit
set_option linter.unusedVariables false
set_option linter.unusedSimpArgs false
/-- The same key, the same place. -/
theorem drop_same {k : List UInt8} : ∀ {es : MapEs} {L : Ents} {v : Value} {d : List UInt8}, es.map (·.1) = keys L → es.lookup k = some v → L.lookup k = some d → ∃ x, es[x]? = some (k, v) ∧ L[x]? = some (k, d) ∧ dropK k es = es.eraseIdx x ∧ dropK k L = L.eraseIdx x
  | [], L, v, d, _, h, _ => by cases h
  | e :: es, [], v, d, _, _, h => by cases h
  | e :: es, q :: L, v, d, hk, h1, h2 => by
    simp only [keys, List.map_cons, List.cons.injEq] at hk
    rw [List.lookup] at h1 h2
    cases hb : k == e.1 with
    | true =>
      have hb2 : (k == q.1) = true := by rw [← hk.1]; exact hb
      rw [hb] at h1
      rw [hb2] at h2
      simp only [Option.some.injEq] at h1 h2
      have he : k = e.1 := by simpa using hb
      subst h1 h2
      refine ⟨0, by simp [he], by simp [he, hk.1], ?_, ?_⟩
      · rw [he, dropK_head]; rfl
      · rw [he, hk.1, dropK_head]; rfl
    | false =>
      have hb2 : (k == q.1) = false := by rw [← hk.1]; exact hb
      rw [hb] at h1
      rw [hb2] at h2
      obtain ⟨x, a1, a2, a3, a4⟩ := drop_same (es := es) (L := L) hk.2 h1 h2
      refine ⟨x + 1, by simpa using a1, by simpa using a2, ?_, ?_⟩
      · unfold dropK at a3 ⊢
        rw [List.eraseP_cons_of_neg (by simp [hb]), a3, List.eraseIdx_cons_succ]
      · unfold dropK at a4 ⊢
        rw [List.eraseP_cons_of_neg (by simp [hb2]), a4, List.eraseIdx_cons_succ]
theorem same_some {k : List UInt8} {es : MapEs} {L : Ents} (hk : es.map (·.1) = keys L) : (es.lookup k).isSome = (L.lookup k).isSome := by
  by_cases h : k ∈ keys L
  · obtain ⟨d, hd⟩ := lookup_mem h
    obtain ⟨v, hv⟩ := lookup_mem (hk ▸ h)
    rw [hd, hv]; rfl
  · rw [lookup_none h, lookup_none (fun hm => h (hk ▸ hm))]
    rfl
theorem dataR_erase {es : MapEs} {L : Ents} {h : Hlt} (hd : dataR es L h) (x : Nat) : dataR (es.eraseIdx x) (L.eraseIdx x) h := by
  intro j p q hp hq
  rw [List.getElem?_eraseIdx] at hp hq
  by_cases hj : j < x
  · rw [if_pos hj] at hp hq; exact hd j p q hp hq
  · rw [if_neg hj] at hp hq; exact hd (j + 1) p q hp hq
theorem dataR_cons {es : MapEs} {L : Ents} {p : List UInt8 × Value} {q : List UInt8 × List UInt8} {h : Hlt} (h1 : rdB p.2 q.2 h) (hd : dataR es L h) : dataR (p :: es) (q :: L) h := by
  intro j p' q' hp hq
  cases j with
  | zero => simp at hp hq; rw [← hp, ← hq]; exact h1
  | succ j => exact hd j p' q' (by simpa using hp) (by simpa using hq)
theorem dataR_drop {es : MapEs} {L : Ents} {h : Hlt} (hk : es.map (·.1) = keys L) (hd : dataR es L h) (k : List UInt8) : dataR (dropK k es) (dropK k L) h := by
  by_cases hm : k ∈ keys L
  · obtain ⟨d, hl⟩ := lookup_mem hm
    obtain ⟨v, hv⟩ := lookup_mem (hk ▸ hm)
    obtain ⟨x, _, _, a3, a4⟩ := drop_same hk hv hl
    rw [a3, a4]
    exact dataR_erase hd x
  · rw [dropK_none hm, dropK_none (fun h => hm (hk ▸ h))]
    exact hd
theorem keys_same {es : MapEs} {L : Ents} (hk : es.map (·.1) = keys L) (k : List UInt8) : (dropK k es).map (·.1) = keys (dropK k L) := by rw [dropK_map, keys_drop, hk]
/-- In the other order. -/
theorem dropK_reverse {l : Ents} (hn : (keys l).Nodup) (k : List UInt8) : dropK k l.reverse = (dropK k l).reverse := by
  induction l with
  | nil => rfl
  | cons p l ih =>
    have hn' := hn
    simp only [keys, List.map_cons, List.nodup_cons] at hn'
    rw [List.reverse_cons]
    by_cases hp : k = p.1
    · subst hp
      rw [dropK_head]
      have hno : p.1 ∉ keys l.reverse := by rw [keys_reverse]; exact fun h => hn'.1 (List.mem_reverse.1 h)
      unfold dropK
      rw [List.eraseP_append_right]
      · simp
      · intro q hq h
        exact hno (List.mem_map.2 ⟨q, hq, (by simpa using h : p.1 = q.1).symm⟩)
    · have hb : (k == p.1) = false := by simpa using hp
      have e1 : dropK k (p :: l) = p :: dropK k l := by unfold dropK; rw [List.eraseP_cons_of_neg (by simp [hb])]
      rw [e1, List.reverse_cons, ← ih hn'.2]
      unfold dropK
      by_cases hm : ∃ q ∈ l.reverse, (k == q.1) = true
      · obtain ⟨q, hq, h⟩ := hm
        rw [List.eraseP_append_left (p := fun p => k == p.1) h _ hq]
      · rw [List.eraseP_append_right, List.eraseP_of_forall_not (l := l.reverse) (fun q hq h => hm ⟨q, hq, h⟩)]
        · rw [List.eraseP_cons_of_neg (by simp [hb])]
          rfl
        · intro q hq h
          exact hm ⟨q, hq, h⟩
theorem lookup_reverse {l : Ents} (hn : (keys l).Nodup) (k : List UInt8) : l.reverse.lookup k = l.lookup k := by
  by_cases hm : k ∈ keys l
  · obtain ⟨d, hd⟩ := lookup_mem hm
    rw [hd]
    exact lookup_of (by show (keys l.reverse).Nodup; rw [keys_reverse]; exact (List.reverse_perm _).nodup_iff.2 hn) (List.mem_reverse.2 (lookup_some hd))
  · rw [lookup_none hm, lookup_none (by show k ∉ keys l.reverse; rw [keys_reverse]; exact fun h => hm (List.mem_reverse.1 h))]
theorem tk_len {room : Nat} {es : MapEs} {L : Ents} {k : List UInt8} (hg : Gd room L.reverse) (hk : es.map (·.1) = keys L) (hl : k.length = 32) : (tk es k).1.length = 32 := by
  unfold tk
  split
  · exact hl
  · rfl
theorem tk_one {es : MapEs} {k : List UInt8} (h : ∀ p ∈ es, p.2.oneCell' = true) : (tk es k).2.oneCell' = true := by
  unfold tk
  split
  · rename_i v hv
    exact h _ (lookup_some hv)
  · rfl
theorem oneC_at {k : List UInt8} {v : Value} (h : k.length = 32) : (oneC (k, v))[32]? = some v := by
  unfold oneC
  rw [List.getElem?_append_right (by rw [bs_length]; show k.length ≤ 32; omega)]
  simp [bs_length, h]
theorem rowO_to {e : TypeId} {v : Value} {n m : Nat} {xs : List Value} (es : MapEs) (hn : n = m) (hx : xs = onesC es) : rowP e 33 v n xs = rowP e 33 v m (onesC es) := by subst hn; subst hx; rfl
theorem drop_of_none {es : MapEs} {k : List UInt8} (h : es.lookup k = none) : dropK k es = es := by
  by_cases hm : k ∈ es.map (·.1)
  · obtain ⟨v, hv⟩ := lookup_mem hm
    rw [h] at hv
    cases hv
  · exact dropK_none hm
theorem keys_nodup {room : Nat} {L : Ents} (hg : Gd room L.reverse) : (keys L).Nodup := by
  have := hg.nodup
  rw [keys_reverse] at this
  exact (List.reverse_perm _).nodup_iff.1 this
def getR (L : Ents) (k : List UInt8) : Ents := match L.lookup k with
  | none => L
  | some d => (k, d) :: dropK k L
theorem Gd_front {room : Nat} {L : Ents} {k d : List UInt8} (hg : Gd room L.reverse) (hd : L.lookup k = some d) : Gd room ((k, d) :: dropK k L).reverse := by
  have hn := keys_nodup hg
  have h2 : L.reverse.lookup k = some d := by rw [lookup_reverse hn, hd]
  have h3 := hg.move h2
  rw [dropK_reverse hn] at h3
  rw [List.reverse_cons]
  exact h3
theorem starL_imp3 {A B C A' B' C' : HP} (hA : ∀ h, A h → A' h) (hB : ∀ h, B h → B' h) (hC : ∀ h, C h → C' h) {h : Hlt} (hs : starL [A, B, C] h) : starL [A', B', C'] h := by
  obtain ⟨f, h1, h2, h3⟩ := hs
  refine ⟨f, fun k P hk => ?_, h2, h3⟩
  match k, hk with
  | 0, hk => simp at hk; subst hk; exact hA _ (h1 0 A rfl)
  | 1, hk => simp at hk; subst hk; exact hB _ (h1 1 B rfl)
  | 2, hk => simp at hk; subst hk; exact hC _ (h1 2 C rfl)
  | k + 3, hk => simp at hk
theorem closeTake {g room : Nat} {L : Ents} {v : Value} {es : MapEs} {k : List UInt8} (hg : Gd room L.reverse) (hk : es.map (·.1) = keys L) (h1 : ∀ p ∈ es, p.2.oneCell' = true) (ho : v.oneCell' = true) {h : Hlt}
    (hs : starL [blk g 49 [.int .i64 (room : Int), v], rowP 51 33 v (dropK k es).length (onesC (dropK k es)), dataR es L] h) : refP g room (dropK k L) h := by
  have hl : (dropK k es).length = (dropK k L).length := by
    have := congrArg List.length (keys_same hk k)
    simpa [keys] using this
  refine closeRef (es := dropK k es) (by rw [← dropK_reverse (keys_nodup hg)]; exact hg.drop k) (keys_same hk k) (fun p hp => h1 p ((dropK_sub k es).subset hp)) ho (starL_imp3 (fun _ h => h) (fun h hh => by rw [hl] at hh; exact hh) (fun h hh => dataR_drop hk hh k) hs)
theorem refP_room {g room : Nat} {L : Ents} {h : Hlt} (hp : refP g room L h) : cellH h ⟨g, 0, none⟩ = some (.int .i64 (room : Int)) := by
  obtain ⟨_, q, _, _, _, hs⟩ := hp
  obtain ⟨f, h1, _, h3⟩ := hs
  have hb : blk g 49 [.int .i64 (room : Int), q.1] (f 0) := h1 0 _ rfl
  have hb2 : blk g 49 [.int .i64 (room : Int), q.1] h := h3 0 _ _ hb
  exact blk_cell hb2 0
theorem dataR_last {es : MapEs} {L : Ents} {h : Hlt} (hd : dataR es L h) (n : Nat) : dataR (es.take n) (L.take n) h := by
  intro j p q hp hq
  rw [List.getElem?_take] at hp hq
  by_cases hj : j < n
  · rw [if_pos hj] at hp hq; exact hd j p q hp hq
  · rw [if_neg hj] at hp; cases hp
theorem Gd_less {room : Nat} {L : Ents} (hg : Gd room L.reverse) (n : Nat) : Gd room (L.take n).reverse := by
  have hsub : (L.take n).reverse.Sublist L.reverse := List.reverse_sublist.2 (List.take_sublist n L)
  refine ⟨hg.nodup.sublist (hsub.map _), fun x hx => hg.ids x ((hsub.map _).subset hx), ?_, hg.most, fun p hp => hg.pos p (hsub.subset hp)⟩
  have := hg.fits
  rw [total_reverse] at this ⊢
  have := total_take_le L n
  omega
theorem sub_one {size a b : Nat} {v : Value} (h : v.oneCell' = true) : (subV size v a b).oneCell' = true := by
  cases v <;> first | rfl | exact h
theorem keys_take {x : Ents} {n : Nat} {k : List UInt8} (h : k ∈ keys (x.take n)) : k ∈ keys x := by
  simp only [keys, List.mem_map] at h ⊢
  obtain ⟨p, hp, he⟩ := h
  exact ⟨p, List.mem_of_mem_take hp, he⟩
theorem evict_last {room n : Nat} {x : Ents} (hpos : 0 < x.length) (h : room < total x + n) : evict room n x.reverse = evict room n (x.take (x.length - 1)).reverse := by
  obtain ⟨p, hp⟩ : ∃ p, x.reverse = p :: (x.take (x.length - 1)).reverse := by
    have hne : x ≠ [] := fun h0 => by rw [h0] at hpos; simp at hpos
    refine ⟨x.getLast hne, ?_⟩
    conv => lhs; rw [← List.dropLast_concat_getLast hne]
    rw [List.reverse_append, ← List.dropLast_eq_take]
    rfl
  have ht : total x = total (p :: (x.take (x.length - 1)).reverse) := by rw [← hp, total_reverse]
  rw [hp, evict_cons (by omega)]
theorem one_build {k : List UInt8} {v : Value} (hk : k.length = 32) : (over (oneC (zeroId, .slice none 0 0)) 0 (bs k)).set 32 v = oneC (k, v) := by
  have h1 : (bs k).length = 32 := by rw [bs_length, hk]
  have h2 : (bs zeroId).length = 32 := by rw [bs_length]; rfl
  simp [over, oneC, h1, h2]
theorem dataR_new {es : MapEs} {L : Ents} {k d : List UInt8} {v : Value} {e : TypeId} {h : Hlt} {n : Nat} {xs : List Value} (hs : starL [rowP e 1 v n xs, dataR es L] h) (hn : n = d.length := by simp) (hx : xs = bs d := by simp) : dataR ((k, v) :: es) ((k, d) :: L) h := by
  subst hn hx
  obtain ⟨f, h1, _, h3⟩ := hs
  have r1 : rowP e 1 v d.length (bs d) (f 0) := h1 0 _ rfl
  have r2 : dataR es L (f 1) := h1 1 _ rfl
  exact dataR_cons (rdP_le (h3 0) (rowP_rd r1)) (fun j p q hp hq => rdP_le (h3 1) (r2 j p q hp hq))
end Go.Proofs.Ytamhhkjddmjanaa
