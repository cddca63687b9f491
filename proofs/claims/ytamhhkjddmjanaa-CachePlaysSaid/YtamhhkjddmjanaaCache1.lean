/- Caches: the object as a resource. -/
import Derived.Test.YtamhhkjddmjanaaCache0
import Derived.Test.YtamhhkjddmjanaaIdT
import Derived.Test.YtamhhkjddmjanaaSl11
namespace Go.Proofs.Ytamhhkjddmjanaa
open Go.RowKit
set_option linter.unusedVariables false
set_option linter.unusedSimpArgs false
abbrev MapEs := List (List UInt8 × Value)
def dataP (es : MapEs) (l : Ents) : HP := fun h => ∀ p ∈ es, ∀ d, l.lookup p.1 = some d → rdB p.2 d h
abbrev cacheParts (g room : Nat) (l : Ents) (m : Nat) (v : Value) (es : MapEs) : List HP := [blk g 56 [.int .i64 (room : Int), .map (some m), v, .int .i64 (total l : Int)], mapP m es, rowI 33 v (keys l), dataP es l]
def cacheP (g room : Nat) (l : Ents) : HP := fun h => Gd room l ∧ ∃ q : Nat × Value × MapEs, (q.2.2.map (·.1)).Perm (keys l) ∧ q.2.1.oneCell' = true ∧ starL (cacheParts g room l q.1 q.2.1 q.2.2) h
theorem closeCache {g room : Nat} {l : Ents} {m : Nat} {v : Value} {es : MapEs} (hg : Gd room l) (hp : (es.map (·.1)).Perm (keys l)) (ho : v.oneCell' = true) {h : Hlt} (hs : starL (cacheParts g room l m v es) h) : cacheP g room l h := ⟨hg, (m, v, es), hp, ho, hs⟩
theorem W_openCache {P : Program} {E : Env} {n : Nat} {K : Slots} {L : Res} {Q : Exit → Act → World → Prop} {c : Code} (r b : Nat) {g room : Nat} {l : Ents} (hr : look L r = some (cacheP g room l)) (hb : r < b)
    (k : ∀ m v es, Gd room l → (es.map (·.1)).Perm (keys l) → v.oneCell' = true → W P E n c K (En b (cacheParts g room l m v es) ++ (r, emp) :: L) Q) : W P E n c K L Q := fun a w hA hS => by
  have hg := hS.get hr fun h hp => hp.1
  obtain ⟨q, hS2⟩ := hS.ex hr fun h hp => hp.2
  obtain ⟨h1, h2⟩ := hS2.get (look_same _ _ _) fun h hp => (⟨hp.1, hp.2.1⟩ : (q.2.2.map (·.1)).Perm (keys l) ∧ q.2.1.oneCell' = true)
  have hS3 := hS2.split (b := b) (Ps := cacheParts g room l q.1 q.2.1 q.2.2) (look_same _ _ _) (fun h hp => hp.2.2)
  refine k q.1 q.2.1 q.2.2 hg h1 h2 a w hA (hS3.sub fun r' P' h => ?_)
  rw [look_append] at h ⊢
  cases hl : look (En b (cacheParts g room l q.1 q.2.1 q.2.2)) r' with
  | some X => rw [hl] at h; exact h
  | none =>
    rw [hl] at h
    simp only [Option.orElse_eq_orElse, Option.orElse, Option.none_or] at h ⊢
    by_cases hrr : r = r'
    · subst hrr; rw [look_same] at h ⊢; exact h
    · rw [look_other hrr] at h; rw [look_other hrr, look_other hrr]; exact h
theorem dataP_mem {es : MapEs} {l : Ents} {h : Hlt} (hd : dataP es l h) (hn : (keys l).Nodup) (hp : (es.map (·.1)).Perm (keys l)) {k d : List UInt8} (hk : l.lookup k = some d) : rdB ((es.lookup k).getD (.slice none 0 0)) d h := by
  have hm : k ∈ es.map (·.1) := hp.mem_iff.2 (List.mem_map.2 ⟨_, lookup_some hk, rfl⟩)
  obtain ⟨v, hv⟩ := lookup_mem hm
  rw [hv]
  exact hd (k, v) (lookup_some hv) d hk
theorem es_lookup_none {es : MapEs} {l : Ents} (hp : (es.map (·.1)).Perm (keys l)) {k : List UInt8} (hk : k ∉ keys l) : es.lookup k = none := lookup_none fun h => hk (hp.mem_iff.1 h)
theorem es_lookup_some {es : MapEs} {l : Ents} (hp : (es.map (·.1)).Perm (keys l)) {k : List UInt8} : (es.lookup k).isSome = (l.lookup k).isSome := by
  by_cases hk : k ∈ keys l
  · obtain ⟨d, hd⟩ := lookup_mem hk
    obtain ⟨v, hv⟩ := lookup_mem (hp.mem_iff.2 hk)
    rw [hd, hv]; rfl
  · rw [es_lookup_none hp hk, lookup_none hk]; rfl
theorem dataP_drop {es : MapEs} {l : Ents} {h : Hlt} (hd : dataP es l h) (hn : (keys l).Nodup) (k : List UInt8) : dataP (dropK k es) (dropK k l) h := fun p hp d hl => hd p ((dropK_sub k es).subset hp) d (lookup_drop hn hl)
theorem perm_drop {es : MapEs} {l : Ents} (hp : (es.map (·.1)).Perm (keys l)) (k : List UInt8) : ((dropK k es).map (·.1)).Perm (keys (dropK k l)) := by rw [dropK_map, keys_drop]; exact hp.erase k
theorem starL_le {Ps : List HP} {h : Hlt} (hs : starL Ps h) {φ : HP} (k : Nat) {P : HP} (hk : Ps[k]? = some P) (hφ : ∀ h', P h' → (∀ g o, h' g = some o → h g = some o) → φ h) : φ h := by
  obtain ⟨f, h1, _, h3⟩ := hs
  exact hφ _ (h1 k P hk) (fun g o ho => h3 k g o ho)
theorem lookup_app {α : Type} {l : List (List UInt8 × α)} {k j : List UInt8} {d : α} (hj : j ≠ k) : (l ++ [(k, d)]).lookup j = l.lookup j := by
  induction l with
  | nil => simp [List.lookup, show (j == k) = false by simpa using hj]
  | cons p l ih =>
    rw [List.cons_append, List.lookup, List.lookup]
    cases j == p.1 <;> simp [ih]
theorem lookup_app_same {α : Type} {l : List (List UInt8 × α)} {k : List UInt8} {d : α} (h : l.lookup k = none) : (l ++ [(k, d)]).lookup k = some d := by
  induction l with
  | nil => simp [List.lookup]
  | cons p l ih =>
    rw [List.lookup] at h
    rw [List.cons_append, List.lookup]
    cases hb : k == p.1 with
    | true => rw [hb] at h; cases h
    | false => rw [hb] at h; exact ih h
theorem dataP_add {es : MapEs} {l : Ents} {k d : List UInt8} {v : Value} {e : TypeId} (hk : k ∉ keys l) (hp : (es.map (·.1)).Perm (keys l)) {h : Hlt} (hs : starL [dataP es l, rowB e v d] h) : dataP (es ++ [(k, v)]) (l ++ [(k, d)]) h := by
  intro p hpm d' hl
  rcases List.mem_append.1 hpm with hpm | hpm
  · have hpk : p.1 ≠ k := fun hh => hk (hp.mem_iff.1 (List.mem_map.2 ⟨p, hpm, hh⟩))
    rw [lookup_app hpk] at hl
    exact starL_le hs (φ := rdB p.2 d') 0 rfl fun h' h1 h2 => rdP_le h2 (h1 p hpm d' hl)
  · simp only [List.mem_singleton] at hpm
    subst hpm
    rw [lookup_app_same (lookup_none hk)] at hl
    injection hl with hl
    subst hl
    exact starL_le hs (φ := rdB v d) 1 rfl fun h' h1 h2 => rdP_le h2 (rowP_rd h1)
theorem perm_add {es : MapEs} {l : Ents} (hp : (es.map (·.1)).Perm (keys l)) (k d : List UInt8) (v : Value) : ((es ++ [(k, v)]).map (·.1)).Perm (keys (l ++ [(k, d)])) := by
  rw [List.map_append, keys_append]
  exact hp.append_right _
theorem lookup_move {l : Ents} {k d j d' : List UInt8} (hn : (keys l).Nodup) (hk : l.lookup k = some d) (h : (dropK k l ++ [(k, d)]).lookup j = some d') : l.lookup j = some d' := by
  by_cases hj : j = k
  · subst hj
    rw [lookup_app_same (lookup_none (by rw [dropK_map]; exact List.Nodup.not_mem_erase hn))] at h
    rw [hk, h]
  · rw [lookup_app hj] at h
    exact lookup_drop hn h
theorem dataP_move {es : MapEs} {l : Ents} {h : Hlt} (hd : dataP es l h) (hn : (keys l).Nodup) {k d : List UInt8} (hk : l.lookup k = some d) : dataP es (dropK k l ++ [(k, d)]) h := fun p hp d' hl => hd p hp d' (lookup_move hn hk hl)
theorem perm_move {es : MapEs} {l : Ents} (hp : (es.map (·.1)).Perm (keys l)) {k d : List UInt8} (hk : l.lookup k = some d) : (es.map (·.1)).Perm (keys (dropK k l ++ [(k, d)])) := by
  rw [keys_append, keys_drop]
  have hm : k ∈ keys l := List.mem_map.2 ⟨_, lookup_some hk, rfl⟩
  refine hp.trans ?_
  refine (List.perm_cons_erase hm).trans ?_
  exact (List.perm_append_singleton k _).symm
theorem Gd.move {room : Nat} {l : Ents} (h : Gd room l) {k d : List UInt8} (hk : l.lookup k = some d) : Gd room (dropK k l ++ [(k, d)]) where
  nodup := by
    rw [keys_append]
    refine List.nodup_append.2 ⟨(h.drop k).nodup, by simp [keys], fun a ha b hb => ?_⟩
    simp [keys] at hb
    subst hb
    intro hab
    exact nodup_drop h b (hab ▸ ha)
  ids := fun x hx => by
    rw [keys_append] at hx
    rcases List.mem_append.1 hx with hx | hx
    · exact (h.drop k).ids x hx
    · simp [keys] at hx
      subst hx
      exact h.ids _ (List.mem_map.2 ⟨_, lookup_some hk, rfl⟩)
  fits := by
    rw [total_append]
    have := total_drop hk
    have := h.fits
    simp [total] at *
    omega
  most := h.most
  pos := fun p hp => by
    rcases List.mem_append.1 hp with hp | hp
    · exact (h.drop k).pos p hp
    · simp at hp
      subst hp
      exact h.pos _ (lookup_some hk)
theorem Gd.add {room : Nat} {l : Ents} (h : Gd room l) {k d : List UInt8} (hk : k ∉ keys l) (hl : k.length = 32) (hd : 1 ≤ d.length) (hf : d.length + total l ≤ room) : Gd room (l ++ [(k, d)]) where
  nodup := by
    rw [keys_append]
    refine List.nodup_append.2 ⟨h.nodup, by simp [keys], fun a ha b hb => ?_⟩
    simp [keys] at hb
    subst hb
    intro hab
    exact hk (hab ▸ ha)
  ids := fun x hx => by
    rw [keys_append] at hx
    rcases List.mem_append.1 hx with hx | hx
    · exact h.ids x hx
    · simp [keys] at hx
      subst hx
      exact hl
  fits := by rw [total_append]; simp [total] at *; omega
  most := h.most
  pos := fun p hp => by
    rcases List.mem_append.1 hp with hp | hp
    · exact h.pos p hp
    · simp at hp
      subst hp
      exact hd
theorem total_move {l : Ents} {k d : List UInt8} (hk : l.lookup k = some d) : total (dropK k l ++ [(k, d)]) = total l := by
  rw [total_append]
  have := total_drop hk
  simp [total] at *
  omega
theorem evict_cons {room n : Nat} {p : List UInt8 × List UInt8} {l : Ents} (h : ¬ n + total (p :: l) ≤ room) : evict room n (p :: l) = evict room n l := by rw [evict, if_neg h]
theorem evict_done {room n : Nat} {l : Ents} (h : n + total l ≤ room) : evict room n l = l := by
  cases l with
  | nil => rfl
  | cons p l => rw [evict, if_pos h]
theorem dropK_head {α : Type} (p : List UInt8 × α) (l : List (List UInt8 × α)) : dropK p.1 (p :: l) = l := by simp [dropK]
theorem putC_bad {room : Nat} {l : Ents} {k d : List UInt8} (h : (decide ((d.length : Int) = 0) || decide ((room : Int) < (d.length : Int))) = true) : putC room l k d = l ∧ putB room d = false := by
  refine ⟨?_, by unfold putB; rw [h]; rfl⟩
  unfold putC
  rw [if_pos]
  simp only [Bool.or_eq_true, decide_eq_true_eq] at h
  omega
theorem putC_good {room : Nat} {l : Ents} {k d : List UInt8} (h : (decide ((d.length : Int) = 0) || decide ((room : Int) < (d.length : Int))) = false) : putC room l k d = evict room d.length (dropK k l) ++ [(k, d)] ∧ putB room d = true ∧ 1 ≤ d.length ∧ d.length ≤ room := by
  have h' := h
  simp only [Bool.or_eq_false_iff, decide_eq_false_iff_not] at h
  refine ⟨?_, by unfold putB; rw [h']; rfl, by omega, by omega⟩
  unfold putC
  rw [if_neg (by omega)]
end Go.Proofs.Ytamhhkjddmjanaa
