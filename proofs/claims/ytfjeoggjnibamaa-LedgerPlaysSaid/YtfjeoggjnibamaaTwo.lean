/- A disk and a ledger of the program's beside those of the document, in one world. -/
import Derived.Test.YtfjeoggjnibamaaRefLedger2
namespace Go.Proofs.Ytfjeoggjnibamaa
open Go.RowKit
set_option linter.unusedSimpArgs false

structure Two (w0 w : World) (g r : Nat) (v u : Value) (s1 s2 : Dk) (p m l1 l2 : Nat) : Prop where
  ok1 : s1.ok
  ok2 : s2.ok
  dk : DkAt w g v s1
  rk : RkAt w r u s2
  lg : LgAt w p g l1
  rlg : RLgAt w m r l2
  chg : Chg [] w0 w
  hg : w0.heap.size ≤ g
  hr : w0.heap.size ≤ r
  hp : w0.heap.size ≤ p
  hm : w0.heap.size ≤ m
  hv : ∀ k, v.ownBlock = some k → w0.heap.size ≤ k
  hu : ∀ k, u.ownBlock = some k → w0.heap.size ≤ k
  hvu : ∀ k, v.ownBlock = some k → u.ownBlock ≠ some k

theorem Two.drew {w0 w : World} {g r p m l1 l2 : Nat} {v u : Value} {s1 s2 : Dk} (h : Two w0 w g r v u s1 s2 p m l1 l2) : Two w0 w.drew g r v u s1 s2 p m l1 l2 :=
  ⟨h.ok1, h.ok2, h.dk, h.rk, h.lg, h.rlg, h.chg.drew, h.hg, h.hr, h.hp, h.hm, h.hv, h.hu, h.hvu⟩

/-- The blocks that hold a call stand as they stood. -/
def Kept (w w' : World) : Prop := ∀ C cs, Blk w C 61 cs → Blk w' C 61 cs

theorem Two.left {w0 w w' : World} {g r p m l1 l2 l1' : Nat} {v v' u : Value} {s1 s1' s2 : Dk} (h : Two w0 w g r v u s1 s2 p m l1 l2) {F : List Nat} (hok : s1'.ok) (hd : DkAt w' g v' s1') (hl : LgAt w' p g l1') (hc : Chg F w w') (hF : ∀ x, x ∈ F → x = p ∨ x = g ∨ v.ownBlock = some x) (hv : v'.ownBlock = v.ownBlock ∨ NewV w v') :
    Two w0 w' g r v' u s1' s2 p m l1' l2 ∧ Kept w w' := by
  have a1 : ∀ k, v.ownBlock = some k → k ≠ r := own_ne h.dk.2 h.rk.1 (by decide)
  have a2 : ∀ k, v.ownBlock = some k → k ≠ m := own_ne h.dk.2 h.rlg (by decide)
  have b1 : ∀ k, u.ownBlock = some k → k ≠ g := own_ne h.rk.2 h.dk.1 (by decide)
  have b2 : ∀ k, u.ownBlock = some k → k ≠ p := own_ne h.rk.2 h.lg (by decide)
  have c1 : p ≠ r := h.lg.ne_ h.rk.1 (by decide)
  have c2 : g ≠ r := h.dk.1.ne_ h.rk.1 (by decide)
  have c3 : p ≠ m := h.lg.ne_ h.rlg (by decide)
  have c4 : g ≠ m := h.dk.1.ne_ h.rlg (by decide)
  have hrF : r ∉ F := fun hx => by rcases hF r hx with e | e | e; exact c1 e.symm; exact c2 e.symm; exact a1 r e rfl
  have hmF : m ∉ F := fun hx => by rcases hF m hx with e | e | e; exact c3 e.symm; exact c4 e.symm; exact a2 m e rfl
  have huF : ∀ k, u.ownBlock = some k → k ∉ F := fun k hk hx => by rcases hF k hx with e | e | e; exact b2 k hk e; exact b1 k hk e; exact h.hvu k e hk
  refine ⟨⟨hok, h.ok2, hd, h.rk.chg hc hrF huF, hl, h.rlg.chg hc hmF, h.chg.trans hc fun x hx => .inr ?_, h.hg, h.hr, h.hp, h.hm, fun k hk => ?_, h.hu, fun k hk hk2 => ?_⟩, fun C cs hC => hC.chg hc fun hx => ?_⟩
  · rcases hF x hx with e | e | e
    · rw [e]; exact h.hp
    · rw [e]; exact h.hg
    · exact h.hv x e
  · rcases hv with e | e
    · exact h.hv k (by rw [← e]; exact hk)
    · exact Nat.le_trans h.chg.size (e k hk)
  · rcases hv with e | e
    · exact h.hvu k (by rw [← e]; exact hk) hk2
    · have q1 := e k hk
      have q2 := (h.rk.2.lt k hk2).2
      omega
  · rcases hF C hx with e | e | e
    · exact (hC.ne_ h.lg (by decide)) e
    · exact (hC.ne_ h.dk.1 (by decide)) e
    · exact own_ne h.dk.2 hC (by decide) C e rfl

theorem Two.right {w0 w w' : World} {g r p m l1 l2 l2' : Nat} {v u u' : Value} {s1 s2 s2' : Dk} (h : Two w0 w g r v u s1 s2 p m l1 l2) {F : List Nat} (hok : s2'.ok) (hd : RkAt w' r u' s2') (hl : RLgAt w' m r l2') (hc : Chg F w w') (hF : ∀ x, x ∈ F → x = m ∨ x = r) (hu : u'.ownBlock = u.ownBlock ∨ NewV w u') :
    Two w0 w' g r v u' s1 s2' p m l1 l2' ∧ Kept w w' := by
  have a1 : ∀ k, v.ownBlock = some k → k ≠ r := own_ne h.dk.2 h.rk.1 (by decide)
  have a2 : ∀ k, v.ownBlock = some k → k ≠ m := own_ne h.dk.2 h.rlg (by decide)
  have c1 : p ≠ r := h.lg.ne_ h.rk.1 (by decide)
  have c2 : g ≠ r := h.dk.1.ne_ h.rk.1 (by decide)
  have c3 : p ≠ m := h.lg.ne_ h.rlg (by decide)
  have c4 : g ≠ m := h.dk.1.ne_ h.rlg (by decide)
  have hgF : g ∉ F := fun hx => by rcases hF g hx with e | e; exact c4 e; exact c2 e
  have hpF : p ∉ F := fun hx => by rcases hF p hx with e | e; exact c3 e; exact c1 e
  have hvF : ∀ k, v.ownBlock = some k → k ∉ F := fun k hk hx => by rcases hF k hx with e | e; exact a2 k hk e; exact a1 k hk e
  refine ⟨⟨h.ok1, hok, h.dk.chg hc hgF hvF, hd, h.lg.chg hc hpF, hl, h.chg.trans hc fun x hx => .inr ?_, h.hg, h.hr, h.hp, h.hm, h.hv, fun k hk => ?_, fun k hk hk2 => ?_⟩, fun C cs hC => hC.chg hc fun hx => ?_⟩
  · rcases hF x hx with e | e
    · rw [e]; exact h.hm
    · rw [e]; exact h.hr
  · rcases hu with e | e
    · exact h.hu k (by rw [← e]; exact hk)
    · exact Nat.le_trans h.chg.size (e k hk)
  · rcases hu with e | e
    · exact h.hvu k hk (by rw [← e]; exact hk2)
    · have q1 := e k hk2
      have q2 := (h.dk.2.lt k hk).2
      omega
  · rcases hF C hx with e | e
    · exact (hC.ne_ h.rlg (by decide)) e
    · exact (hC.ne_ h.rk.1 (by decide)) e

theorem Two.lg_at {w0 w w' : World} {g r p m l1 l2 : Nat} {v u : Value} {s1 s2 : Dk} (h : Two w0 w g r v u s1 s2 p m l1 l2) {F : List Nat} (hc : Chg F w w') (hF : ∀ x, x ∈ F → x = g ∨ v.ownBlock = some x) : LgAt w' p g l1 :=
  h.lg.chg hc fun hx => by
    rcases hF p hx with e | e
    · exact (h.lg.ne_ h.dk.1 (by decide)) e
    · exact own_ne h.dk.2 h.lg (by decide) p e rfl
theorem Two.rlg_at {w0 w w' : World} {g r p m l1 l2 : Nat} {v u : Value} {s1 s2 : Dk} (h : Two w0 w g r v u s1 s2 p m l1 l2) (hc : Chg [r] w w') : RLgAt w' m r l2 :=
  h.rlg.chg hc (by simpa using h.rlg.ne_ h.rk.1 (by decide))

theorem tw_next {w0 w : World} {g r p m l1 l2 : Nat} {v u : Value} {s1 s2 : Dk} (h : Two w0 w g r v u s1 s2 p m l1 l2) (hops : s1.ops < 90000) :
    Calls Try.prog 29 #[.pointer (some ⟨p, 0, none⟩)] w fun e w' => ∃ v', e = .returned (.tuple #[answer (nextD s1 l1).2.1 (nextD s1 l1).2.2, .int .i64 (nextD s1 l1).2.2]) ∧ Two w0 w' g r v' u (nextD s1 l1).1 s2 p m (nextD s1 l1).2.1 l2 ∧ Kept w w' := by
  refine (next_any p g l1 v s1 w h.lg h.dk h.ok1 (by omega)).mono ?_
  rintro e w2 ⟨v', rfl, hl2, hd2, hc2, hv2⟩
  exact ⟨v', rfl, h.left (nextD_keeps h.ok1 (Nat.le_refl _) hops l1).1 hd2 hl2 hc2 (fun x hx => by simpa using hx) hv2⟩
theorem tw_rnext {w0 w : World} {g r p m l1 l2 : Nat} {v u : Value} {s1 s2 : Dk} (h : Two w0 w g r v u s1 s2 p m l1 l2) (hops : s2.ops < 90000) :
    Calls Try.prog 32 #[.pointer (some ⟨m, 0, none⟩)] w fun e w' => ∃ u', e = .returned (.tuple #[answer (nextD s2 l2).2.1 (nextD s2 l2).2.2, .int .i64 (nextD s2 l2).2.2]) ∧ Two w0 w' g r v u' s1 (nextD s2 l2).1 p m l1 (nextD s2 l2).2.1 ∧ Kept w w' := by
  refine (rnext_any m r l2 u s2 w h.rlg h.rk h.ok2 (by omega)).mono ?_
  rintro e w2 ⟨v', rfl, hl2, hd2, hc2, hv2⟩
  exact ⟨v', rfl, h.right (nextD_keeps h.ok2 (Nat.le_refl _) hops l2).1 hd2 hl2 hc2 (fun x hx => by simpa using hx) (hv2.imp (fun e => by rw [e]) id)⟩

theorem tw_stop {w0 w : World} {g r p m l1 l2 : Nat} {v u : Value} {s1 s2 : Dk} (h : Two w0 w g r v u s1 s2 p m l1 l2) (n : Int) (hn : n ≤ 9223372036854775807) :
    Calls Try.prog 21 #[.pointer (some ⟨g, 0, none⟩), .int .i64 n] w fun e w' => e = .returned (.tuple #[]) ∧ Two w0 w' g r v u (s1.stop n) s2 p m l1 l2 ∧ Kept w w' := by
  refine (stop_any g v s1 n w h.dk).mono ?_
  rintro e w2 ⟨rfl, hd2, hc2⟩
  exact ⟨rfl, h.left (Dk.stop_keeps h.ok1 n hn) hd2 (h.lg_at hc2 (by simp)) hc2 (by simp) (.inl rfl)⟩
theorem tw_rstop {w0 w : World} {g r p m l1 l2 : Nat} {v u : Value} {s1 s2 : Dk} (h : Two w0 w g r v u s1 s2 p m l1 l2) (n : Int) (hn : n ≤ 9223372036854775807) :
    Calls Try.prog 22 #[.pointer (some ⟨r, 0, none⟩), .int .i64 n] w fun e w' => e = .returned (.tuple #[]) ∧ Two w0 w' g r v u s1 (s2.stop n) p m l1 l2 ∧ Kept w w' := by
  refine (rstop_any r u s2 n w h.rk).mono ?_
  rintro e w2 ⟨rfl, hd2, hc2⟩
  exact ⟨rfl, h.right (Dk.stop_keeps h.ok2 n hn) hd2 (h.rlg_at hc2) hc2 (by simp) (.inl rfl)⟩

theorem tw_crash {w0 w : World} {g r p m l1 l2 : Nat} {v u : Value} {s1 s2 : Dk} (h : Two w0 w g r v u s1 s2 p m l1 l2) (n : Int) :
    Calls Try.prog 17 #[.pointer (some ⟨g, 0, none⟩), .int .i64 n] w fun e w' => ∃ v', e = .returned (.int .i64 (s1.pick n)) ∧ Two w0 w' g r v' u (s1.crash n) s2 p m l1 l2 ∧ Kept w w' := by
  refine (crash_any g v s1 n w h.dk h.ok1).mono ?_
  rintro e w2 ⟨v', rfl, hd2, hc2, hv2⟩
  exact ⟨v', rfl, h.left (Dk.crash_keeps h.ok1 n) hd2 (h.lg_at hc2 (by simp)) hc2 (by simp) (.inl hv2)⟩
theorem tw_rcrash {w0 w : World} {g r p m l1 l2 : Nat} {v u : Value} {s1 s2 : Dk} (h : Two w0 w g r v u s1 s2 p m l1 l2) (n : Int) :
    Calls Try.prog 23 #[.pointer (some ⟨r, 0, none⟩), .int .i64 n] w fun e w' => ∃ u', e = .returned (.int .i64 (s2.pick n)) ∧ Two w0 w' g r v u' s1 (s2.crash n) p m l1 l2 ∧ Kept w w' := by
  refine (rcrash_any r u s2 n w h.rk h.ok2).mono ?_
  rintro e w2 ⟨v', rfl, hd2, hc2, hv2⟩
  exact ⟨v', rfl, h.right (Dk.crash_keeps h.ok2 n) hd2 (h.rlg_at hc2) hc2 (by simp) (.inl hv2)⟩

theorem tw_append {w0 w : World} {g r p m l1 l2 : Nat} {v u : Value} {s1 s2 : Dk} (h : Two w0 w g r v u s1 s2 p m l1 l2) (hops : s1.ops ≤ 90000) (vb : Value) (l : List UInt8) (hr : RdB w0 vb l) (hl : l.length ≤ 1000) :
    Calls Try.prog 14 #[.pointer (some ⟨g, 0, none⟩), vb] w fun e w' => ∃ v', e = .returned (.int .i64 (s1.append l).2) ∧ Two w0 w' g r v' u (s1.append l).1 s2 p m l1 l2 ∧ Kept w w' := by
  refine (append_any g v vb l s1 w h.dk h.ok1 (hr.old h.chg) (fun hp k hk => by have := hr.block hp k hk; have := h.hg; omega) (by omega)).mono ?_
  rintro e w2 ⟨v', rfl, hd2, hc2, hv2⟩
  exact ⟨v', rfl, h.left (Dk.append_keeps h.ok1 hops (by omega) l).1 hd2 (h.lg_at hc2 (by simp)) hc2 (fun x hx => by simp at hx; exact .inr hx) hv2⟩
theorem tw_rappend {w0 w : World} {g r p m l1 l2 : Nat} {v u : Value} {s1 s2 : Dk} (h : Two w0 w g r v u s1 s2 p m l1 l2) (hops : s2.ops ≤ 90000) (vb : Value) (l : List UInt8) (hr : RdB w0 vb l) (hl : l.length ≤ 1000) :
    Calls Try.prog 19 #[.pointer (some ⟨r, 0, none⟩), vb] w fun e w' => ∃ u', e = .returned (.int .i64 (s2.append l).2) ∧ Two w0 w' g r v u' s1 (s2.append l).1 p m l1 l2 ∧ Kept w w' := by
  refine (rappend_any r u vb l s2 w h.rk h.ok2 (hr.old h.chg) (fun hp k hk => by have := hr.block hp k hk; have := h.hr; omega) (by omega)).mono ?_
  rintro e w2 ⟨v', rfl, hd2, hc2, hv2⟩
  exact ⟨v', rfl, h.right (Dk.append_keeps h.ok2 hops (by omega) l).1 hd2 (h.rlg_at hc2) hc2 (by simp) (hv2.imp (fun e => by rw [e]) id)⟩

theorem Two.still {w0 w w' : World} {g r p m l1 l2 : Nat} {v u : Value} {s1 s2 : Dk} (h : Two w0 w g r v u s1 s2 p m l1 l2) (hc : Chg [] w w') : Two w0 w' g r v u s1 s2 p m l1 l2 ∧ Kept w w' :=
  h.left h.ok1 (h.dk.chg hc (by simp) (by simp)) (h.lg.chg hc (by simp)) hc (by simp) (.inl rfl)
theorem tw_open {w0 w : World} {g r p m l1 l2 : Nat} {v u : Value} {s1 s2 : Dk} (h : Two w0 w g r v u s1 s2 p m l1 l2) (hd : s1.dead = false) :
    Calls Try.prog 28 #[.pointer (some ⟨g, 0, none⟩)] w fun e w' => ∃ q, e = .returned (.tuple #[.pointer (some ⟨q, 0, none⟩), .int .i64 0]) ∧ Two w0 w' g r v u s1 s2 q m (scan s1.b) l2 ∧ Kept w w' := by
  refine (open_any g v s1 w h.dk h.ok1 hd).mono ?_
  rintro e w2 ⟨q, rfl, hq, hl, hc⟩
  obtain ⟨h2, hk⟩ := h.still hc
  exact ⟨q, rfl, ⟨h2.ok1, h2.ok2, h2.dk, h2.rk, hl, h2.rlg, h2.chg, h2.hg, h2.hr, Nat.le_trans h.chg.size hq, h2.hm, h2.hv, h2.hu, h2.hvu⟩, hk⟩
theorem tw_ropen {w0 w : World} {g r p m l1 l2 : Nat} {v u : Value} {s1 s2 : Dk} (h : Two w0 w g r v u s1 s2 p m l1 l2) (hd : s2.dead = false) :
    Calls Try.prog 31 #[.pointer (some ⟨r, 0, none⟩)] w fun e w' => ∃ q, e = .returned (.tuple #[.pointer (some ⟨q, 0, none⟩), .int .i64 0]) ∧ Two w0 w' g r v u s1 s2 p q l1 (scan s2.b) ∧ Kept w w' := by
  refine (ropen_any r u s2 w h.rk h.ok2 hd).mono ?_
  rintro e w2 ⟨q, rfl, hq, hl, hc⟩
  obtain ⟨h2, hk⟩ := h.still hc
  exact ⟨q, rfl, ⟨h2.ok1, h2.ok2, h2.dk, h2.rk, h2.lg, hl, h2.chg, h2.hg, h2.hr, h2.hp, Nat.le_trans h.chg.size hq, h2.hv, h2.hu, h2.hvu⟩, hk⟩
theorem tw_bytes {w0 w : World} {g r p m l1 l2 : Nat} {v u : Value} {s1 s2 : Dk} (h : Two w0 w g r v u s1 s2 p m l1 l2) :
    Calls Try.prog 15 #[.pointer (some ⟨g, 0, none⟩)] w fun e w' => ∃ v', e = .returned v' ∧ OwnB w' 5 v' s1.b ∧ Two w0 w' g r v u s1 s2 p m l1 l2 := by
  refine (bytes_any g v s1 w h.dk h.ok1).mono ?_
  rintro e w2 ⟨v', rfl, ho, hc, _⟩
  exact ⟨v', rfl, ho, (h.still hc).1⟩
end Go.Proofs.Ytfjeoggjnibamaa
