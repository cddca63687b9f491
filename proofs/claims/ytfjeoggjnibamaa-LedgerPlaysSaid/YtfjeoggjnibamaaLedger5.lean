/- Disks and ledgers that a law has made itself; the ledger laws' example. -/
import Derived.Test.YtfjeoggjnibamaaLedger4
import Derived.Test.YtfjeoggjnibamaaLawDiskRoom
namespace Go.Proofs.Ytfjeoggjnibamaa
open Go.RowKit
set_option linter.unusedSimpArgs false

/-- A disk at g, made since w0. -/
structure Dsk (w0 w : World) (g : Nat) (v : Value) (s : Dk) : Prop where
  ok : s.ok
  at_ : DkAt w g v s
  chg : Chg [] w0 w
  new : w0.heap.size ≤ g
  own : ∀ k, v.ownBlock = some k → w0.heap.size ≤ k

theorem Dsk.step {w0 w w' : World} {g : Nat} {v v' : Value} {s s' : Dk} (h : Dsk w0 w g v s) {F : List Nat} (hok : s'.ok) (hd : DkAt w' g v' s') (hc : Chg F w w') (hF : ∀ x, x ∈ F → w0.heap.size ≤ x) (hv : v'.ownBlock = v.ownBlock ∨ NewV w v') : Dsk w0 w' g v' s' :=
  ⟨hok, hd, h.chg.trans hc (fun x hx => .inr (hF x hx)), h.new, round_own h.own hv h.chg.size⟩
theorem Dsk.old {w0 w w' : World} {g : Nat} {v : Value} {s : Dk} (h : Dsk w0 w g v s) (hc : Chg [] w w') : Dsk w0 w' g v s :=
  h.step h.ok (h.at_.chg hc (by simp) (by simp)) hc (by simp) (.inl rfl)

theorem nextD_keeps {s : Dk} (h : s.ok) {k : Nat} (hk : s.ops ≤ k) (hk2 : k < 90000) (last : Nat) : (nextD s last).1.ok ∧ (nextD s last).1.ops ≤ k + 2 := by
  have h1 := Dk.append_keeps h hk (by omega) (line s.b (last + 1))
  have h2 := Dk.sync_keeps h1.1 h1.2 (by omega)
  unfold nextD
  split
  · exact ⟨h, by simp; omega⟩
  · split
    · split
      · exact h2
      · exact h2
    · exact ⟨h1.1, Nat.le_succ_of_le h1.2⟩
theorem Dk.crash_keeps {s : Dk} (h : s.ok) (p : Int) : (s.crash p).ok := by
  obtain ⟨o1, o2, o3, o4, o5⟩ := h
  have := pick_le s p
  exact ⟨o1, by simp [Dk.crash]; omega, by simp [Dk.crash]; omega, by simp [Dk.crash], o5⟩
theorem Dk.stop_keeps {s : Dk} (h : s.ok) (n : Int) (hn : n ≤ 9223372036854775807) : (s.stop n).ok := by
  obtain ⟨o1, o2, o3, o4, o5⟩ := h
  exact ⟨o1, o2, o3, by simp [Dk.stop]; omega, o5⟩

theorem LgAt.chg {w w' : World} {p g last : Nat} {F : List Nat} (h : LgAt w p g last) (hc : Chg F w w') (hp : p ∉ F) : LgAt w' p g last := Blk.chg h hc hp

theorem dsk_new (w0 : World) (room : Int) (w : World) (h1 : 1 ≤ room) (h2 : room ≤ 16777216) (hc : Chg [] w0 w) :
    Calls Try.prog 13 #[.int .i64 room] w fun e w' => ∃ g, e = .returned (.tuple #[.pointer (some ⟨g, 0, none⟩), .int .i64 0]) ∧ Dsk w0 w' g (.slice none 0 0) (Dk.new room.toNat) := by
  refine (new_ok room w h1 h2).mono ?_
  rintro e w2 ⟨g, rfl, hg, hd, hc2⟩
  exact ⟨g, rfl, Dk.new_ok _ (by omega), hd, hc.trans hc2 (by simp), by have := hc.size; omega, by simp [Value.ownBlock]⟩

theorem dsk_open {w0 w : World} {g : Nat} {v : Value} {s : Dk} (h : Dsk w0 w g v s) (hd : s.dead = false) :
    Calls Try.prog 28 #[.pointer (some ⟨g, 0, none⟩)] w fun e w' => ∃ p, e = .returned (.tuple #[.pointer (some ⟨p, 0, none⟩), .int .i64 0]) ∧ Dsk w0 w' g v s ∧ LgAt w' p g (scan s.b) ∧ w.heap.size ≤ p ∧ w0.heap.size ≤ p ∧ Chg [] w w' := by
  refine (open_any g v s w h.at_ h.ok hd).mono ?_
  rintro e w2 ⟨p, rfl, hp, hl, hc⟩
  exact ⟨p, rfl, h.old hc, hl, hp, Nat.le_trans h.chg.size hp, hc⟩

theorem dsk_next {w0 w : World} {p g last : Nat} {v : Value} {s : Dk} (h : Dsk w0 w g v s) (hl : LgAt w p g last) (hp : w0.heap.size ≤ p) (hops : s.ops < 90000) :
    Calls Try.prog 29 #[.pointer (some ⟨p, 0, none⟩)] w fun e w' => ∃ v', e = .returned (.tuple #[answer (nextD s last).2.1 (nextD s last).2.2, .int .i64 (nextD s last).2.2]) ∧ Dsk w0 w' g v' (nextD s last).1 ∧ LgAt w' p g (nextD s last).2.1 := by
  refine (next_any p g last v s w hl h.at_ h.ok (by omega)).mono ?_
  rintro e w2 ⟨v', rfl, hl2, hd2, hc2, hv2⟩
  exact ⟨v', rfl, h.step (nextD_keeps h.ok (Nat.le_refl _) hops last).1 hd2 hc2 (fun x hx => by
    rcases List.mem_cons.1 hx with rfl | hx
    · exact hp
    · rcases List.mem_cons.1 hx with rfl | hx
      · exact h.new
      · exact h.own x (by simpa using hx)) hv2, hl2⟩

theorem dsk_stop {w0 w : World} {g : Nat} {v : Value} {s : Dk} (h : Dsk w0 w g v s) (n : Int) (hn : n ≤ 9223372036854775807) :
    Calls Try.prog 21 #[.pointer (some ⟨g, 0, none⟩), .int .i64 n] w fun e w' => e = .returned (.tuple #[]) ∧ Dsk w0 w' g v (s.stop n) ∧ Chg [g] w w' := by
  refine (stop_any g v s n w h.at_).mono ?_
  rintro e w2 ⟨rfl, hd2, hc2⟩
  exact ⟨rfl, h.step (Dk.stop_keeps h.ok n hn) hd2 hc2 (by simpa using h.new) (.inl rfl), hc2⟩

theorem dsk_crash {w0 w : World} {g : Nat} {v : Value} {s : Dk} (h : Dsk w0 w g v s) (n : Int) :
    Calls Try.prog 17 #[.pointer (some ⟨g, 0, none⟩), .int .i64 n] w fun e w' => ∃ v', e = .returned (.int .i64 (s.pick n)) ∧ Dsk w0 w' g v' (s.crash n) ∧ Chg [g] w w' := by
  refine (crash_any g v s n w h.at_ h.ok).mono ?_
  rintro e w2 ⟨v', rfl, hd2, hc2, hv2⟩
  exact ⟨v', rfl, h.step (Dk.crash_keeps h.ok n) hd2 hc2 (by simpa using h.new) (.inl hv2), hc2⟩

theorem LgAt.apart {w w' : World} {p g last : Nat} {v : Value} {s : Dk} (h : LgAt w p g last) (hd : DkAt w g v s) (hc : Chg [g] w w') : LgAt w' p g last :=
  h.chg hc (by simpa using h.ne_ hd.1 (by decide))

set_option maxHeartbeats 1000000 in
theorem lknown_any (w : World) :
    Calls Try.prog 26 #[] w fun e w' => e = .returned (.bool true) ∧ Chg [] w w' := by
  go_enter Try.func26, Try.ntmps26
  go_wp2_with fail
  refine (dsk_new w 100 _ (by omega) (by omega) (Chg.refl _ _)).mono ?_
  rintro e w1 ⟨g, rfl, hd⟩
  go_wp2_with fail
  refine (dsk_open hd rfl).mono ?_
  rintro e w2 ⟨p, rfl, hd2, hl2, _, hp, _⟩
  go_wp2_with fail
  refine (dsk_next hd2 hl2 hp (by decide)).mono ?_
  have h1 : nextD (Dk.new (100 : Int).toNat) (scan (Dk.new (100 : Int).toNat).b) = (⟨100, rec 1, 8, 0, false, 2⟩, 1, 0) := by rfl
  rw [h1]
  rintro e w3 ⟨v3, rfl, hd3, hl3⟩
  go_wp2_with fail
  refine (dsk_next hd3 hl3 hp (by decide)).mono ?_
  have h2 : nextD ⟨100, rec 1, 8, 0, false, 2⟩ 1 = (⟨100, rec 1 ++ rec 2, 16, 0, false, 4⟩, 2, 0) := by rfl
  rintro e w4 ⟨v4, he, hd4, hl4⟩
  replace he : e = .returned (.tuple #[.int .i64 2, .int .i64 0]) := by rw [he, h2]; rfl
  rw [h2] at hd4 hl4
  subst he
  simp only [answer]
  go_wp2_with fail
  refine (last_any p g 2 _ hl4).mono ?_
  rintro e w5 ⟨rfl, rfl⟩
  go_wp2
  go_ret
  exact ⟨rfl, hd4.chg⟩

theorem lwithin_any (a n : Int) (w : World) (hn : 0 < n) (hn' : n ≤ 1000000) :
    Calls Try.prog 27 #[.int .i64 a, .int .i64 n] w fun e w' => e = .returned (.int .i64 (a % n)) ∧ w = w' := by
  have hb1 := Int.tmod_lt_of_pos a hn
  have hb2 : -n < a.tmod n := by have := Int.lt_tmod_of_pos a hn; omega
  have hn0 : (n == 0) = false := by simp; omega
  by_cases h : a.tmod n < 0
  · have hE : a % n = a.tmod n + n := emod_neg hn h
    have HE := Lib.hid hE; clear hE
    go_enter Try.func27, Try.ntmps27
    go_wp2
    go_ret
    rw [HE.out]
    exact ⟨rfl, rfl⟩
  · have hE : a % n = a.tmod n := emod_pos hn h
    have HE := Lib.hid hE; clear hE
    go_enter Try.func27, Try.ntmps27
    go_wp2
    go_ret
    rw [HE.out]
    exact ⟨rfl, rfl⟩
end Go.Proofs.Ytfjeoggjnibamaa
