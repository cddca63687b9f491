/- Memory words of this session: a block known whole, what may have changed between two worlds, slices of bytes that are owned or read. -/
import Derived.Below
import Derived.Laws.OwnMore
import Derived.Deep.Draws
import Derived.Deep.AppendLies
import Derived.Laws.Rows
namespace Go.Proofs.YtjiafaiklmbbeaaDoor
open Go.RowKit

/-- Block g is just the cells cs of element type t, none frozen. -/
def Blk (w : World) (g : Nat) (t : TypeId) (cs : Array Value) : Prop := w.heap[g]? = some (.cells cs t (0, 0))

theorem lt_of_heap {w : World} {g : Nat} {o : Obj} (h : w.heap[g]? = some o) : g < w.heap.size := by
  rcases Nat.lt_or_ge g w.heap.size with hlt | hge
  · exact hlt
  · rw [Array.getElem?_eq_none hge] at h; cases h

section
variable {w w' : World} {g : Nat} {t : TypeId} {cs : Array Value}
theorem Blk.lt (h : Blk w g t cs) : g < w.heap.size := lt_of_heap h
theorem Blk.cell (h : Blk w g t cs) (i : Nat) : w.cell? ⟨g, i, none⟩ = cs[i]? := cell_of_row w g i cs t (0, 0) h
theorem Blk.frozen (h : Blk w g t cs) (i : Nat) : w.frozen? ⟨g, i, none⟩ = false := by
  unfold Blk at h
  simp [World.frozen?, h]
theorem Blk.new (w : World) (t : TypeId) (cs : Array Value) : Blk (w.alloc (.cells cs t)) w.heap.size t cs := heap_alloc_new w _
theorem Blk.drew (h : Blk w g t cs) : Blk w.drew g t cs := h
theorem Blk.drewN (h : Blk w g t cs) (n : Nat) : Blk (w.drewN n) g t cs := h
theorem Blk.alloc (h : Blk w g t cs) (o : Obj) : Blk (w.alloc o) g t cs := (Below.heap_alloc w o g h.lt).trans h
theorem Blk.set_ (h : Blk w g t cs) (i : Nat) (u : Value) : Blk (w.setCell ⟨g, i, none⟩ u) g t (cs.setIfInBounds i u) := by
  unfold Blk at h ⊢
  simp [World.setCell, Array.getElem?_modify, h]
theorem Blk.far (h : Blk w g t cs) {p : Addr} (hp : g ≠ p.block) (u : Value) : Blk (w.setCell p u) g t cs := (Below.heap_setCell w p u g hp).trans h
theorem Blk.ne_ {g' : Nat} {t' : TypeId} {cs' : Array Value} (h : Blk w g t cs) (h' : Blk w g' t' cs') (hne : t ≠ t') : g ≠ g' := by
  rintro rfl
  unfold Blk at h h'
  rw [h] at h'
  injection h' with h'
  injection h' with _ ht
  exact hne ht
end

/-- w' is w but for the blocks in F, and for new blocks. -/
structure Chg (F : List Nat) (w w' : World) : Prop where
  os : w'.os = w.os
  tape : w'.tape = w.tape
  output : w'.output = w.output
  size : w.heap.size ≤ w'.heap.size
  block : ∀ k, k < w.heap.size → k ∉ F → w'.heap[k]? = w.heap[k]?

section
variable {F G : List Nat} {a w w' : World}
theorem Chg.refl (F : List Nat) (w : World) : Chg F w w := ⟨rfl, rfl, rfl, Nat.le_refl _, fun _ _ _ => rfl⟩
theorem Chg.trans (h : Chg F a w) (k : Chg G w w') (hs : ∀ x, x ∈ G → x ∈ F ∨ a.heap.size ≤ x) : Chg F a w' :=
  ⟨k.os.trans h.os, k.tape.trans h.tape, k.output.trans h.output, Nat.le_trans h.size k.size, fun i hi hF =>
    (k.block i (Nat.lt_of_lt_of_le hi h.size) (fun hG => by rcases hs i hG with h1 | h1 <;> first | exact hF h1 | omega)).trans (h.block i hi hF)⟩
theorem Chg.mono (h : Chg F a w) (hs : ∀ x, x ∈ F → x ∈ G ∨ a.heap.size ≤ x) : Chg G a w := (Chg.refl G a).trans h hs
theorem Chg.alloc (h : Chg F a w) (o : Obj) : Chg F a (w.alloc o) :=
  h.trans (G := []) ⟨rfl, rfl, rfl, by simp, fun k hk _ => Below.heap_alloc _ _ _ hk⟩ (by simp)
theorem Chg.setCell (h : Chg F a w) {p : Addr} (hp : p.block ∈ F ∨ a.heap.size ≤ p.block) (u : Value) : Chg F a (w.setCell p u) :=
  h.trans (G := [p.block]) ⟨rfl, rfl, rfl, by simp, fun k _ hF => Below.heap_setCell _ _ _ _ (by simpa using hF)⟩ (by simpa using hp)
theorem Chg.drew (h : Chg F a w) : Chg F a w.drew := ⟨h.os, h.tape, h.output, h.size, h.block⟩
theorem Chg.drewN (h : Chg F a w) (n : Nat) : Chg F a (w.drewN n) := ⟨h.os, h.tape, h.output, h.size, h.block⟩
theorem Chg.grown {row : Option Nat} (h : Chg F a w) (hg : w.grownBy w' row) (hr : ∀ k, row = some k → k ∈ F ∨ a.heap.size ≤ k) : Chg F a w' :=
  h.trans (G := row.toList) ⟨hg.os, hg.tape, hg.output, hg.size, fun k hk hn => hg.block k hk (fun e => hn (by simp [← e]))⟩ (by simpa using hr)
theorem Chg.to_below {B : Nat} (h : Chg F a w) (hB : B ≤ a.heap.size) (hF : ∀ x, x ∈ F → B ≤ x) : Below B a w :=
  ⟨h.os, h.tape, h.output, h.size, fun k hk => h.block k (by omega) (fun hm => by have := hF k hm; omega)⟩
theorem Chg.below {B : Nat} {w0 : World} (hb : Below B w0 a) (h : Chg F a w) (hB : B ≤ a.heap.size) (hF : ∀ x, x ∈ F → B ≤ x) : Below B w0 w :=
  hb.trans (h.to_below hB hF)
theorem Blk.chg {g : Nat} {t : TypeId} {cs : Array Value} (h : Blk w g t cs) (hc : Chg F w w') (hg : g ∉ F) : Blk w' g t cs := (hc.block g h.lt hg).trans h
theorem Chg.cell (hc : Chg F w w') {p : Addr} (hp : p.block < w.heap.size) (hn : p.block ∉ F) : w'.cell? p = w.cell? p := World.cell?_of_block (hc.block _ hp hn)
theorem own_chg {base : Nat} {e : TypeId} {size : Nat} {v : Value} {n : Nat} {xs : List Value} (h : w.ownsRow base e size v n xs) (hc : Chg F w w') (hv : ∀ k, v.ownBlock = some k → k ∉ F) : w'.ownsRow base e size v n xs := by
  refine ⟨h.1, ?_⟩
  rcases h.2 with hn | ⟨g, cap, cur, rfl, hb, hgg, rest⟩
  · exact .inl hn
  · exact .inr ⟨g, cap, cur, rfl, hb, (hc.block g (lt_of_heap hgg) (hv g rfl)).trans hgg, rest⟩
end

theorem own_ne {w : World} {base : Nat} {e : TypeId} {size n : Nat} {v : Value} {xs : List Value} {g : Nat} {t : TypeId} {cs : Array Value} (h : w.ownsRow base e size v n xs) (hg : Blk w g t cs) (hne : e ≠ t) : ∀ k, v.ownBlock = some k → k ≠ g := by
  intro k hk
  rcases h.2 with ⟨rfl, _⟩ | ⟨g', cap, cur, rfl, _, hh, _⟩
  · simp [Value.ownBlock] at hk
  · simp [Value.ownBlock] at hk
    subst hk
    exact Blk.ne_ (t := e) hh hg hne

/-- A byte as a cell, a row of bytes as cells. -/
def bv (x : UInt8) : Value := .int .u8 (x.toNat : Int)
def bs (l : List UInt8) : List Value := l.map bv
theorem bs_length (l : List UInt8) : (bs l).length = l.length := by simp [bs]
theorem bs_append (l m : List UInt8) : bs (l ++ m) = bs l ++ bs m := by simp [bs]
theorem bs_take (l : List UInt8) (n : Nat) : bs (l.take n) = (bs l).take n := by simp [bs, List.map_take]
theorem bs_drop (l : List UInt8) (n : Nat) : bs (l.drop n) = (bs l).drop n := by simp [bs, List.map_drop]
theorem bs_get (l : List UInt8) (j : Nat) : (bs l)[j]? = (l[j]?).map bv := by simp [bs]
theorem bs_one (l : List UInt8) : ∀ u ∈ bs l, u.oneCell' = true := by
  intro u hu
  simp only [bs, List.mem_map] at hu
  obtain ⟨x, _, rfl⟩ := hu
  rfl

theorem block_of_add (a : Addr) (n : Nat) : (a.add n).block = a.block := by unfold Addr.add; split <;> rfl
theorem add_of_add (a : Addr) (i j : Nat) : (a.add i).add j = a.add (i + j) := by
  unfold Addr.add
  by_cases hi : i = 0 <;> by_cases hj : j = 0 <;> simp [hi, hj, Nat.add_assoc]

/-- The slice value v of n elements (size cells each) reads as the cells xs. -/
def Rd (w : World) (size : Nat) (v : Value) (n : Nat) (xs : List Value) : Prop :=
  xs.length = n * size ∧ ∃ A c, v = .slice A n c ∧ n ≤ c ∧ (A = none → c = 0) ∧ ∀ ad, A = some ad → (0 < n → ad.block < w.heap.size) ∧ ∀ j u, xs[j]? = some u → w.cell? (ad.add j) = some u

section
variable {w w' : World} {size n : Nat} {v : Value} {xs : List Value} {F : List Nat}
theorem pos_of_get {xs : List Value} {n size j : Nat} {u : Value} (hl : xs.length = n * size) (h : xs[j]? = some u) : 0 < n := by
  rcases Nat.eq_zero_or_pos n with h0 | h0
  · subst h0
    have : xs = [] := List.eq_nil_of_length_eq_zero (by simpa using hl)
    subst this
    simp at h
  · exact h0
theorem Rd.chg (h : Rd w size v n xs) (hc : Chg F w w') (hv : 0 < n → ∀ k, v.ownBlock = some k → k ∉ F) : Rd w' size v n xs := by
  obtain ⟨hl, A, c, rfl, hn, h0, hr⟩ := h
  refine ⟨hl, A, c, rfl, hn, h0, fun ad had => ?_⟩
  obtain ⟨h1, h2⟩ := hr ad had
  subst had
  refine ⟨fun hp => Nat.lt_of_lt_of_le (h1 hp) hc.size, fun j u hu => ?_⟩
  rw [hc.cell (by rw [block_of_add]; exact h1 (pos_of_get hl hu)) (by rw [block_of_add]; exact hv (pos_of_get hl hu) _ rfl)]
  exact h2 j u hu
theorem Rd.below {B : Nat} (h : Rd w size v n xs) (hc : Below B w w') (hB : w.heap.size ≤ B) : Rd w' size v n xs := by
  obtain ⟨hl, A, c, rfl, hn, h0, hr⟩ := h
  refine ⟨hl, A, c, rfl, hn, h0, fun ad had => ?_⟩
  obtain ⟨h1, h2⟩ := hr ad had
  refine ⟨fun hp => Nat.lt_of_lt_of_le (h1 hp) hc.size, fun j u hu => ?_⟩
  have := h1 (pos_of_get hl hu)
  rw [hc.cell (by rw [block_of_add]; omega)]
  exact h2 j u hu
/-- Old memory is as it was: what came in reads as it did. -/
theorem Rd.old (h : Rd w size v n xs) (hc : Chg [] w w') : Rd w' size v n xs := h.chg hc (by simp)
theorem Rd.of_own {base : Nat} {e : TypeId} (h : w.ownsRow base e size v n xs) : Rd w size v n xs := by
  refine ⟨h.1, ?_⟩
  rcases h.2 with ⟨rfl, rfl⟩ | ⟨g, cap, cur, rfl, hb, hgg, hcap, rest⟩
  · exact ⟨none, 0, rfl, Nat.le_refl _, fun _ => rfl, fun ad had => by cases had⟩
  · refine ⟨some ⟨g, 0, none⟩, cap, rfl, hcap, (fun h => by cases h), fun ad had => ?_⟩
    injection had with had
    subst had
    exact ⟨fun _ => lt_of_heap hgg, h.cells (g := g) rfl⟩
end

/-- A slice of bytes that reads as l; one that is owned. -/
def RdB (w : World) (v : Value) (l : List UInt8) : Prop := Rd w 1 v l.length (bs l)
def OwnB (w : World) (e : TypeId) (v : Value) (l : List UInt8) : Prop := w.ownsRow 0 e 1 v l.length (bs l)
theorem OwnB.rd {w : World} {e : TypeId} {v : Value} {l : List UInt8} (h : OwnB w e v l) : RdB w v l := Rd.of_own h

end Go.Proofs.YtjiafaiklmbbeaaDoor
