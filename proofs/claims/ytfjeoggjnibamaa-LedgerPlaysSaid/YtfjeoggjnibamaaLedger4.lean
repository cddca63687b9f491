/- The ledger: Next. -/
import Derived.Test.YtfjeoggjnibamaaLedger3
import Derived.Test.YtfjeoggjnibamaaMem4
import Derived.IntWalk
namespace Go.Proofs.Ytfjeoggjnibamaa
open Go.RowKit
set_option linter.unusedSimpArgs false

/-- How many zeros a disk lacks to be of whole records; what is written for number n. -/
def lacks (b : List UInt8) : Nat := (8 - b.length % 8) % 8
def line (b : List UInt8) (n : Nat) : List UInt8 := List.replicate (lacks b) 0 ++ rec n
/-- Next: the disk, the last number, what is answered. -/
def nextD (s : Dk) (last : Nat) : Dk × Nat × Int :=
  if 4294967295 ≤ last then (s, last, 16)
  else if (s.append (line s.b (last + 1))).2 = 0 then
    if (s.append (line s.b (last + 1))).1.sync.2 = 0 then ((s.append (line s.b (last + 1))).1.sync.1, last + 1, 0)
    else ((s.append (line s.b (last + 1))).1.sync.1, last, (s.append (line s.b (last + 1))).1.sync.2)
  else ((s.append (line s.b (last + 1))).1, last, (s.append (line s.b (last + 1))).2)

/-- The number that is told: 0 with an error. -/
def answer (n : Nat) (e : Int) : Value := .int .i64 (if e = 0 then n else 0)

theorem lacks_lt (b : List UInt8) : lacks b < 8 := by unfold lacks; omega
theorem lacks_int (b : List UInt8) : ((8 : Int) - (b.length : Int) % 8) % 8 = (lacks b : Int) := by
  unfold lacks
  omega

theorem Dk.spend_keeps {s : Dk} (h : s.ok) {k : Nat} (hk : s.ops ≤ k) (hk2 : k < 100000) : s.spend.1.ok ∧ s.spend.1.ops ≤ k + 1 := by
  obtain ⟨q1, q2, q3, q4, q5⟩ := h
  unfold Dk.spend
  split
  · split
    · exact ⟨⟨q1, q2, q3, by simp, q5⟩, by simp; omega⟩
    · exact ⟨⟨q1, q2, q3, by simp; omega, by simp; omega⟩, by simp; omega⟩
  · split
    · exact ⟨⟨q1, q2, q3, q4, q5⟩, by simp; omega⟩
    · exact ⟨⟨q1, q2, q3, q4, by simp; omega⟩, by simp; omega⟩
theorem Dk.sync_keeps {s : Dk} (h : s.ok) {k : Nat} (hk : s.ops ≤ k) (hk2 : k < 100000) : s.sync.1.ok ∧ s.sync.1.ops ≤ k + 1 := by
  have hs := Dk.spend_keeps h hk hk2
  have hb := spend_b s
  unfold Dk.sync
  split
  · exact ⟨h, by simp; omega⟩
  · split
    · obtain ⟨⟨q1, q2, q3, q4, q5⟩, q6⟩ := hs
      exact ⟨⟨q1, q2, by simp [hb], q4, q5⟩, q6⟩
    · exact hs
theorem Dk.append_keeps {s : Dk} (h : s.ok) {k : Nat} (hk : s.ops ≤ k) (hk2 : k < 100000) (l : List UInt8) : (s.append l).1.ok ∧ (s.append l).1.ops ≤ k + 1 := by
  have hs := Dk.spend_keeps h hk hk2
  have hb := spend_b s
  have hr := spend_room s
  have hsy := (spend_ok s).2.1
  unfold Dk.append
  split
  · exact ⟨h, by simp; omega⟩
  · split
    · exact ⟨h, by simp; omega⟩
    · rename_i h1 h2
      obtain ⟨⟨q1, q2, q3, q4, q5⟩, q6⟩ := hs
      have := h.2.2.1
      exact ⟨⟨q1, by simp [hr]; omega, by simp [hsy]; omega, q4, q5⟩, q6⟩
theorem line_length (b : List UInt8) (n : Nat) : (line b n).length = lacks b + 8 := by
  simp [line]; rfl
theorem line_own {w : World} {e : TypeId} {v : Value} {b : List UInt8} {n : Nat} (h : w.ownsRow 0 e 1 v (lacks b + 8) (List.replicate (lacks b) (.int .u8 0) ++ bs (rec n))) : OwnB w e v (line b n) := by
  unfold OwnB
  rw [line_length]
  unfold line
  rw [bs_append, ← zero_byte_row]
  exact h

theorem next_new {w w5 : World} {v v6 : Value} (h : v6.ownBlock = v.ownBlock ∨ NewV w5 v6) (hw : w.heap.size ≤ w5.heap.size) : v6.ownBlock = v.ownBlock ∨ NewV w v6 :=
  h.imp id fun h k hk => Nat.le_trans hw (h k hk)
theorem next_chg' {w w6 w7 : World} {p g : Nat} {F : List Nat} (h6 : Chg (g :: F) w w6) (h7 : Chg [g] w6 w7) : Chg (p :: g :: F) w w7 :=
  (h6.mono (fun x hx => .inl (List.mem_cons_of_mem _ hx))).trans h7 (fun x hx => .inl (by simp at hx; simp [hx]))
theorem next_chg {w w6 w7 : World} {p g : Nat} {F : List Nat} (h6 : Chg (g :: F) w w6) (h7 : Chg [g] w6 w7) (u : Value) : Chg (p :: g :: F) w (w7.setCell ⟨p, 1, none⟩ u) :=
  (next_chg' h6 h7).setCell (p := ⟨p, 1, none⟩) (.inl (by simp)) _
theorem nextD_good {s : Dk} {last : Nat} (h1 : ¬ 4294967295 ≤ last) (h2 : (s.append (line s.b (last + 1))).2 = 0) (h3 : (s.append (line s.b (last + 1))).1.sync.2 = 0) :
    nextD s last = ((s.append (line s.b (last + 1))).1.sync.1, last + 1, 0) := by
  unfold nextD; rw [if_neg h1, if_pos h2, if_pos h3]
theorem nextD_sync {s : Dk} {last : Nat} (h1 : ¬ 4294967295 ≤ last) (h2 : (s.append (line s.b (last + 1))).2 = 0) (h3 : ¬ (s.append (line s.b (last + 1))).1.sync.2 = 0) :
    nextD s last = ((s.append (line s.b (last + 1))).1.sync.1, last, (s.append (line s.b (last + 1))).1.sync.2) := by
  unfold nextD; rw [if_neg h1, if_pos h2, if_neg h3]
theorem nextD_append {s : Dk} {last : Nat} (h1 : ¬ 4294967295 ≤ last) (h2 : ¬ (s.append (line s.b (last + 1))).2 = 0) :
    nextD s last = ((s.append (line s.b (last + 1))).1, last, (s.append (line s.b (last + 1))).2) := by
  unfold nextD; rw [if_neg h1, if_neg h2]

set_option maxHeartbeats 800000 in
theorem next_any (p g last : Nat) (v : Value) (s : Dk) (w : World) (hl : LgAt w p g last) (hd : DkAt w g v s) (hs : s.ok) (hops : s.ops ≤ 90000) :
    Calls Try.prog 29 #[.pointer (some ⟨p, 0, none⟩)] w fun e w' => ∃ v', e = .returned (.tuple #[answer (nextD s last).2.1 (nextD s last).2.2, .int .i64 (nextD s last).2.2]) ∧ LgAt w' p g (nextD s last).2.1 ∧ DkAt w' g v' (nextD s last).1 ∧ Chg (p :: g :: v.ownBlock.toList) w w' ∧ (v'.ownBlock = v.ownBlock ∨ NewV w v') := by
  have c0 := hl.cell 0
  have c1 := hl.cell 1
  simp at c0 c1
  have f1 := hl.frozen 1
  have hpg : p ≠ g := hl.ne_ hd.1 (by decide)
  have hpv : ∀ k, v.ownBlock = some k → k ≠ p := own_ne hd.2 hl (by decide)
  have hm := maxLen_eq
  by_cases hfull : 4294967295 ≤ last
  · have hfin : nextD s last = (s, last, 16) := by unfold nextD; rw [if_pos hfull]
    rw [hfin]
    have hf1 : (4294967295 : Int) ≤ (last : Int) := by omega
    clear hfull
    go_enter Try.func29, Try.ntmps29
    go_wp2
    go_ret2
    exact ⟨v, rfl, hl, hd, Chg.refl _ _, .inl rfl⟩
  · have hf1 : ¬ (4294967295 : Int) ≤ (last : Int) := by omega
    have hlac := lacks_int s.b
    have hlt := lacks_lt s.b
    have hwr := IntWalk.i64_in ((last : Int) + 1) (by omega)
    obtain ⟨i0, hi, hz0, hz1, hz2⟩ := info_parts byte_info
    go_enter Try.func29, Try.ntmps29
    go_wp2_with fail
    refine (bytes_any g v s _ hd hs).mono ?_
    rintro e w2 ⟨v2, rfl, ho2, hc2, hn2⟩
    obtain ⟨A2, cc2, rfl, hl2, hm2, _, _⟩ := own_form ho2
    go_wp2_with fail
    try rw [hlac]
    have hL : LgAt w2 p g last := hl.chg hc2 (by simp)
    have hD : DkAt w2 g v s := hd.chg hc2 (by simp) (by simp)
    have hC := hc2
    have hZ := Nat.le_refl w2.heap.size
    have q0 := hL.cell 0
    have q1 := hL.cell 1
    simp at q0 q1
    refine wp_region_held_drew (S := (fun w' => w'.cell? ⟨p, 0, none⟩ = some (.pointer (some ⟨g, 0, none⟩)) ∧ w'.cell? ⟨p, 1, none⟩ = some (.int .i64 last))) (by kernel_rfl) (by exact ⟨q0, q1⟩) (fun hHeld => ?_)
    refine wpAnyH_take (i := 0) (oi := { dst := some 21, op := Go.Op.move (Go.Operand.tmp 0), type := 51, pos := "ledger.go:64", after := #[], guard := none }) (v := ?_) rfl (by kernel_rfl) (by kernel_rfl) (by kernel_rfl) (fun _ _ _ h => h) (Or.inl ⟨by rfl, ?_⟩) (by first | assumption | trivial) ?_
    rotate_left 1
    focus (intro w hSw; (try dsimp only at hSw); go_simp; (try with_reducible rfl))
    try simp only [Act.put, List.setIfInBounds_toArray, List.set_cons_zero, List.set_cons_succ]
    refine wpAnyH_take (i := 1) (oi := { dst := some 22, op := Go.Op.nilCheck (Go.Operand.tmp 21), type := 0, pos := "ledger.go:64", after := #[{ on := 0, ground := Go.Ground.data }], guard := none }) (v := ?_) rfl (by kernel_rfl) (by kernel_rfl) (by kernel_rfl) (fun _ _ _ h => h) (Or.inl ⟨by rfl, ?_⟩) (by first | assumption | trivial) ?_
    rotate_left 1
    focus (intro w hSw; (try dsimp only at hSw); go_simp; (try with_reducible rfl))
    try simp only [Act.put, List.setIfInBounds_toArray, List.set_cons_zero, List.set_cons_succ]
    refine wpAnyH_take (i := 2) (oi := { dst := some 23, op := Go.Op.fieldAddr 73 (Go.Operand.tmp 22) 0, type := 0, pos := "ledger.go:64", after := #[{ on := 1, ground := Go.Ground.data }], guard := none }) (v := ?_) rfl (by kernel_rfl) (by kernel_rfl) (by kernel_rfl) (fun _ _ _ h => h) (Or.inl ⟨by rfl, ?_⟩) (by first | assumption | trivial) ?_
    rotate_left 1
    focus (intro w hSw; (try dsimp only at hSw); go_simp; (try with_reducible rfl))
    try simp only [Act.put, List.setIfInBounds_toArray, List.set_cons_zero, List.set_cons_succ]
    refine wpAnyH_take (i := 3) (oi := { dst := some 24, op := Go.Op.load 25 (Go.Operand.tmp 23), type := 25, pos := "ledger.go:64", after := #[{ on := 2, ground := Go.Ground.data }], guard := none }) (v := ?_) rfl (by kernel_rfl) (by kernel_rfl) (by kernel_rfl) (fun _ _ _ h => h) (Or.inl ⟨by rfl, ?_⟩) (by first | assumption | trivial) ?_
    rotate_left 1
    focus (intro w hSw; (try dsimp only at hSw); go_simp; (try with_reducible rfl))
    try simp only [Act.put, List.setIfInBounds_toArray, List.set_cons_zero, List.set_cons_succ]
    refine wpAnyH_take (i := 4) (oi := { dst := some 25, op := Go.Op.move (Go.Operand.tmp 4), type := 3, pos := "ledger.go:64", after := #[], guard := none }) (v := ?_) rfl (by kernel_rfl) (by kernel_rfl) (by kernel_rfl) (fun _ _ _ h => h) (Or.inl ⟨by rfl, ?_⟩) (by first | assumption | trivial) ?_
    rotate_left 1
    focus (intro w hSw; (try dsimp only at hSw); go_simp; (try with_reducible rfl))
    try simp only [Act.put, List.setIfInBounds_toArray, List.set_cons_zero, List.set_cons_succ]
    refine wpAnyH_take (i := 6) (oi := { dst := some 27, op := Go.Op.move (Go.Operand.tmp 0), type := 51, pos := "ledger.go:64", after := #[], guard := none }) (v := ?_) rfl (by kernel_rfl) (by kernel_rfl) (by kernel_rfl) (fun _ _ _ h => h) (Or.inl ⟨by rfl, ?_⟩) (by first | assumption | trivial) ?_
    rotate_left 1
    focus (intro w hSw; (try dsimp only at hSw); go_simp; (try with_reducible rfl))
    try simp only [Act.put, List.setIfInBounds_toArray, List.set_cons_zero, List.set_cons_succ]
    refine wpAnyH_take (i := 7) (oi := { dst := some 28, op := Go.Op.nilCheck (Go.Operand.tmp 27), type := 0, pos := "ledger.go:64", after := #[{ on := 6, ground := Go.Ground.data }], guard := none }) (v := ?_) rfl (by kernel_rfl) (by kernel_rfl) (by kernel_rfl) (fun _ _ _ h => h) (Or.inl ⟨by rfl, ?_⟩) (by first | assumption | trivial) ?_
    rotate_left 1
    focus (intro w hSw; (try dsimp only at hSw); go_simp; (try with_reducible rfl))
    try simp only [Act.put, List.setIfInBounds_toArray, List.set_cons_zero, List.set_cons_succ]
    refine wpAnyH_take (i := 8) (oi := { dst := some 29, op := Go.Op.fieldAddr 73 (Go.Operand.tmp 28) 1, type := 0, pos := "ledger.go:64", after := #[{ on := 7, ground := Go.Ground.data }], guard := none }) (v := ?_) rfl (by kernel_rfl) (by kernel_rfl) (by kernel_rfl) (fun _ _ _ h => h) (Or.inl ⟨by rfl, ?_⟩) (by first | assumption | trivial) ?_
    rotate_left 1
    focus (intro w hSw; (try dsimp only at hSw); go_simp; (try with_reducible rfl))
    try simp only [Act.put, List.setIfInBounds_toArray, List.set_cons_zero, List.set_cons_succ]
    refine wpAnyH_take (i := 9) (oi := { dst := some 30, op := Go.Op.load 3 (Go.Operand.tmp 29), type := 3, pos := "ledger.go:64", after := #[{ on := 8, ground := Go.Ground.data }], guard := none }) (v := ?_) rfl (by kernel_rfl) (by kernel_rfl) (by kernel_rfl) (fun _ _ _ h => h) (Or.inl ⟨by rfl, ?_⟩) (by first | assumption | trivial) ?_
    rotate_left 1
    focus (intro w hSw; (try dsimp only at hSw); go_simp; (try with_reducible rfl))
    try simp only [Act.put, List.setIfInBounds_toArray, List.set_cons_zero, List.set_cons_succ]
    refine wpAnyH_take (i := 10) (oi := { dst := some 31, op := Go.Op.binOp Go.BinOp.add 3 (Go.Operand.tmp 30) (Go.Operand.const (Go.Value.int Go.IntKind.i64 1)) 3, type := 3, pos := "ledger.go:64", after := #[{ on := 9, ground := Go.Ground.data }], guard := none }) (v := ?_) rfl (by kernel_rfl) (by kernel_rfl) (by kernel_rfl) (fun _ _ _ h => h) (Or.inl ⟨by rfl, ?_⟩) (by first | assumption | trivial) ?_
    rotate_left 1
    focus (intro w hSw; (try dsimp only at hSw); go_simp; (try with_reducible rfl))
    try simp only [Act.put, List.setIfInBounds_toArray, List.set_cons_zero, List.set_cons_succ]
    refine wpAnyH_ready (rs := [5, 11]) (by kernel_rfl) (by simp) ?_
    refine AllReadyH.cons (o := { dst := some 26, op := Go.Op.makeSlice 30 (Go.Operand.tmp 25) (Go.Operand.tmp 25), type := 30, pos := "ledger.go:64", after := #[{ on := 4, ground := Go.Ground.data }, { on := 4, ground := Go.Ground.data }], guard := none }) rfl (fun K hK => ?_) (AllReadyH.cons (o := { dst := some 32, op := Go.Op.call { callee := Go.Callee.value (Go.Operand.func 37), args := #[Go.Operand.tmp 31], argTypes := #[3] }, type := 30, pos := "ledger.go:64", after := #[{ on := 10, ground := Go.Ground.data }], guard := none }) rfl (fun K hK => ?_) AllReadyH.nil)
    · go_simp
      refine upon_make_rd 30 5 i0 (.int .u8 0) Try.underlying30 hi hz0 hz1 rfl .i64 .i64 (lacks s.b) (by rw [hz2]; omega) (by omega) ?_; intro w3 hown3 hc3
      have hL : LgAt w3 p g last := Blk.chg (by exact hL) hc3 (by simp)
      have hD : DkAt w3 g v s := DkAt.chg (by exact hD) hc3 (by simp) (by simp)
      have hC : Chg [] w w3 := Chg.trans (by first | exact hC | exact hC.drew) hc3 (by simp)
      have q0 := hL.cell 0
      have q1 := hL.cell 1
      simp at q0 q1
      have hZ : w2.heap.size ≤ w3.heap.size := Nat.le_trans (by exact hZ) hc3.size
      try have ho4 : OwnB w3 5 v4 (rec (last + 1)) := own_chg (by exact ho4) hc3 (by simp)
      go_wp2_with fail
      refine hK.out _ _ (by first | (exact ⟨q0, q1⟩) | ((try dsimp only); exact ⟨q0, q1⟩)) (fun hHeld => ?_)
      clear hK K
      try simp only [Act.put, List.setIfInBounds_toArray, List.set_cons_zero, List.set_cons_succ]
      refine wpAnyH_ready (rs := [11]) (by kernel_rfl) (by simp) ?_
      refine AllReadyH.cons (o := { dst := some 32, op := Go.Op.call { callee := Go.Callee.value (Go.Operand.func 37), args := #[Go.Operand.tmp 31], argTypes := #[3] }, type := 30, pos := "ledger.go:64", after := #[{ on := 10, ground := Go.Ground.data }], guard := none }) rfl (fun K hK => ?_) AllReadyH.nil
      go_simp
      refine (record_any ((last : Int) + 1) _ (by omega)).mono ?_
      rintro e w4 ⟨v4, rfl, ho4, hc4, hn4⟩
      rw [show ((last : Int) + 1).toNat = last + 1 by omega] at ho4
      have hL : LgAt w4 p g last := Blk.chg (by exact hL) hc4 (by simp)
      have hD : DkAt w4 g v s := DkAt.chg (by exact hD) hc4 (by simp) (by simp)
      have hC : Chg [] w w4 := Chg.trans (by first | exact hC | exact hC.drew) hc4 (by simp)
      have q0 := hL.cell 0
      have q1 := hL.cell 1
      simp at q0 q1
      have hZ : w2.heap.size ≤ w4.heap.size := Nat.le_trans (by exact hZ) hc4.size
      try have hown3 := own_chg (w' := w4) (by exact hown3) hc4 (by simp)
      go_wp2_with fail
      refine hK.out _ _ (by first | (exact ⟨q0, q1⟩) | ((try dsimp only); exact ⟨q0, q1⟩)) (fun hHeld => ?_)
      clear hK K
      try simp only [Act.put, List.setIfInBounds_toArray, List.set_cons_zero, List.set_cons_succ]
      refine wpAnyH_ready (rs := [12]) (by kernel_rfl) (by simp) ?_
      refine AllReadyH.cons (o := { dst := some 33, op := Go.Op.call { callee := Go.Callee.builtin Go.Builtin.append, args := #[Go.Operand.tmp 26, Go.Operand.tmp 32], argTypes := #[30, 30] }, type := 30, pos := "ledger.go:64", after := #[{ on := 5, ground := Go.Ground.data }, { on := 11, ground := Go.Ground.data }, { on := 11, ground := Go.Ground.chain }], guard := none }) rfl (fun K hK => ?_) AllReadyH.nil
      first | refine step_append_rd rfl (.tmp 26) (.tmp 32) 30 rfl 5 i0 (.int .u8 0) 1 1 Try.underlying30 hi hz0 hz1 hz2 rfl (by omega) (.slice (some ⟨w2.heap.size, 0, none⟩) (lacks s.b) (lacks s.b)) (lacks s.b) (List.replicate (lacks s.b) (.int .u8 0)) rfl (by exact hown3) v4 8 (bs (rec (last + 1))) rfl (by exact ho4.rd) (bs_one _) (by omega) (by omega) ?_ | refine step_append_rd rfl (.tmp 26) (.tmp 32) 30 rfl 5 i0 (.int .u8 0) 1 1 Try.underlying30 hi hz0 hz1 hz2 rfl (by omega) (.slice (some ⟨w4.heap.size, 0, none⟩) (lacks s.b) (lacks s.b)) (lacks s.b) (List.replicate (lacks s.b) (.int .u8 0)) rfl (by exact hown3) v4 8 (bs (rec (last + 1))) rfl (by exact ho4.rd) (bs_one _) (by omega) (by omega) ?_
      intro A5 c5 w5 hown5 hc5 hat5
      replace hown5 := line_own hown5
      have hC : Chg [] w w5 := Chg.trans (by first | exact hC | exact hC.drew) hc5 (by have := hc2.size; have := hZ; simp [Value.ownBlock]; omega)
      have hNe : ∀ kk, (Value.slice A5 (lacks s.b + 8) c5).ownBlock = some kk → w2.heap.size ≤ kk := fun kk hk => by have := hZ; rw [hk] at hat5; simp [Value.ownBlock] at hat5; omega
      have hL : LgAt w5 p g last := hl.chg hC (by simp)
      have hD : DkAt w5 g v s := hd.chg hC (by simp) (by simp)
      have q0 := hL.cell 0
      have q1 := hL.cell 1
      simp at q0 q1
      dsimp only [Act.put]
      refine hK.out _ _ (by first | (exact ⟨q0, q1⟩) | ((try dsimp only); exact ⟨q0, q1⟩)) (fun hHeld => ?_)
      clear hK K
      try simp only [Act.put, List.setIfInBounds_toArray, List.set_cons_zero, List.set_cons_succ]
      refine wpAnyH_ready (rs := [13]) (by kernel_rfl) (by simp) ?_
      refine AllReadyH.cons (o := { dst := some 34, op := Go.Op.call { callee := Go.Callee.value (Go.Operand.func 14), args := #[Go.Operand.tmp 24, Go.Operand.tmp 33], argTypes := #[25, 30] }, type := 26, pos := "ledger.go:64", after := #[{ on := 3, ground := Go.Ground.data }, { on := 12, ground := Go.Ground.data }, { on := 12, ground := Go.Ground.chain }], guard := none }) rfl (fun K hK => ?_) AllReadyH.nil
      go_simp
      refine (append_any g v (.slice A5 (lacks s.b + 8) c5) (line s.b (last + 1)) s _ (by exact hD) hs (by exact hown5.rd) (fun _ kk hk => by have := hNe kk hk; have := hd.1.lt; have := hc2.size; omega) (by rw [line_length]; omega)).mono ?_
      rintro e w6 ⟨v6, rfl, hd6, hc6, hv6⟩
      have hL : LgAt w6 p g last := Blk.chg (by exact hL) hc6 (by intro hm; rcases List.mem_cons.1 hm with h | h; exact hpg h; exact hpv p (by simpa using h) rfl)
      have hv6 : v6.ownBlock = v.ownBlock ∨ NewV w v6 := next_new hv6 (by exact hC.size)
      have hC : Chg (g :: v.ownBlock.toList) w w6 := Chg.trans (by first | exact hC.mono (by simp) | exact (hC.mono (by simp)).drew) hc6 (fun x hx => .inl hx)
      have q0 := hL.cell 0
      have q1 := hL.cell 1
      have f1 := hL.frozen 1
      simp at q0 q1
      go_wp2_with fail
      refine hK.out _ _ (by first | (exact ⟨q0, q1⟩) | ((try dsimp only); exact ⟨q0, q1⟩)) (fun hHeld => ?_)
      clear hK K
      try simp only [Act.put, List.setIfInBounds_toArray, List.set_cons_zero, List.set_cons_succ]
      refine wpAnyH_take (i := 14) (oi := { dst := some 5, op := Go.Op.assign (Go.Operand.tmp 34), type := 26, pos := "ledger.go:64", after := #[{ on := 13, ground := Go.Ground.data }, { on := 13, ground := Go.Ground.chain }, { on := 0, ground := Go.Ground.phase }, { on := 1, ground := Go.Ground.phase }, { on := 2, ground := Go.Ground.phase }, { on := 3, ground := Go.Ground.phase }, { on := 4, ground := Go.Ground.phase }, { on := 5, ground := Go.Ground.phase }, { on := 6, ground := Go.Ground.phase }, { on := 7, ground := Go.Ground.phase }, { on := 8, ground := Go.Ground.phase }, { on := 9, ground := Go.Ground.phase }, { on := 10, ground := Go.Ground.phase }, { on := 11, ground := Go.Ground.phase }, { on := 12, ground := Go.Ground.phase }, { on := 13, ground := Go.Ground.phase }], guard := none }) (v := ?_) rfl (by kernel_rfl) (by kernel_rfl) (by kernel_rfl) (fun _ _ _ h => h) (Or.inl ⟨by rfl, ?_⟩) (by first | assumption | trivial) ?_
      rotate_left 1
      focus (intro w hSw; (try dsimp only at hSw); go_simp; (try with_reducible rfl))
      try simp only [Act.put, List.setIfInBounds_toArray, List.set_cons_zero, List.set_cons_succ]
      refine wpAnyH_done (by kernel_rfl) ?_ _
      by_cases he : (s.append (line s.b (last + 1))).2 = 0
      · have hkp := (Dk.append_keeps hs hops (by omega) (line s.b (last + 1))).1
        rw [he]
        go_wp2_with fail
        refine (sync_any g v6 _ _ hd6 hkp).mono ?_
        rintro e w7 ⟨he7, hd7, hc7⟩
        by_cases hy : (s.append (line s.b (last + 1))).1.sync.2 = 0
        · have hfin := nextD_good hfull he hy
          clear hf1 hfull hm hm2
          rw [hy] at he7
          subst he7
          have hL := hL.chg hc7 (by simpa using hpg)
          have q0 := hL.cell 0
          have q1 := hL.cell 1
          have f1 := hL.frozen 1
          simp at q0 q1
          go_wp2
          go_ret2
          rw [hfin]
          exact ⟨v6, by simp [answer], blk_eq (Blk.set_ hL 1 _) (by simp), hd7.chg (F := [p]) ((Chg.refl _ _).setCell (p := ⟨p, 1, none⟩) (.inl (by simp)) _) (by simpa using hpg.symm) (fun k hk => by simpa using own_ne hd7.2 hL (by decide) k hk), next_chg hC hc7 _, hv6⟩
        · have hfin := nextD_sync hfull he hy
          clear hf1 hfull hm hm2
          subst he7
          generalize (s.append (line s.b (last + 1))).1.sync.2 = e7 at *
          go_wp2
          go_ret2
          rw [hfin]
          exact ⟨v6, by simp [answer, hy], hL.chg hc7 (by simpa using hpg), hd7, next_chg' hC hc7, hv6⟩
      · have hfin := nextD_append hfull he
        clear hf1 hfull hm hm2
        generalize (s.append (line s.b (last + 1))).2 = e6 at *
        go_wp2
        go_ret2
        rw [hfin]
        exact ⟨v6, by simp [answer, he], hL, hd6, hC.mono (fun x hx => .inl (List.mem_cons_of_mem _ hx)), hv6⟩
    · go_simp
      refine (record_any ((last : Int) + 1) _ (by omega)).mono ?_
      rintro e w4 ⟨v4, rfl, ho4, hc4, hn4⟩
      rw [show ((last : Int) + 1).toNat = last + 1 by omega] at ho4
      have hL : LgAt w4 p g last := Blk.chg (by exact hL) hc4 (by simp)
      have hD : DkAt w4 g v s := DkAt.chg (by exact hD) hc4 (by simp) (by simp)
      have hC : Chg [] w w4 := Chg.trans (by first | exact hC | exact hC.drew) hc4 (by simp)
      have q0 := hL.cell 0
      have q1 := hL.cell 1
      simp at q0 q1
      have hZ : w2.heap.size ≤ w4.heap.size := Nat.le_trans (by exact hZ) hc4.size
      try have hown3 := own_chg (w' := w4) (by exact hown3) hc4 (by simp)
      go_wp2_with fail
      refine hK.out _ _ (by first | (exact ⟨q0, q1⟩) | ((try dsimp only); exact ⟨q0, q1⟩)) (fun hHeld => ?_)
      clear hK K
      try simp only [Act.put, List.setIfInBounds_toArray, List.set_cons_zero, List.set_cons_succ]
      refine wpAnyH_ready (rs := [5]) (by kernel_rfl) (by simp) ?_
      refine AllReadyH.cons (o := { dst := some 26, op := Go.Op.makeSlice 30 (Go.Operand.tmp 25) (Go.Operand.tmp 25), type := 30, pos := "ledger.go:64", after := #[{ on := 4, ground := Go.Ground.data }, { on := 4, ground := Go.Ground.data }], guard := none }) rfl (fun K hK => ?_) AllReadyH.nil
      go_simp
      refine upon_make_rd 30 5 i0 (.int .u8 0) Try.underlying30 hi hz0 hz1 rfl .i64 .i64 (lacks s.b) (by rw [hz2]; omega) (by omega) ?_; intro w3 hown3 hc3
      have hL : LgAt w3 p g last := Blk.chg (by exact hL) hc3 (by simp)
      have hD : DkAt w3 g v s := DkAt.chg (by exact hD) hc3 (by simp) (by simp)
      have hC : Chg [] w w3 := Chg.trans (by first | exact hC | exact hC.drew) hc3 (by simp)
      have q0 := hL.cell 0
      have q1 := hL.cell 1
      simp at q0 q1
      have hZ : w2.heap.size ≤ w3.heap.size := Nat.le_trans (by exact hZ) hc3.size
      try have ho4 : OwnB w3 5 v4 (rec (last + 1)) := own_chg (by exact ho4) hc3 (by simp)
      go_wp2_with fail
      refine hK.out _ _ (by first | (exact ⟨q0, q1⟩) | ((try dsimp only); exact ⟨q0, q1⟩)) (fun hHeld => ?_)
      clear hK K
      try simp only [Act.put, List.setIfInBounds_toArray, List.set_cons_zero, List.set_cons_succ]
      refine wpAnyH_ready (rs := [12]) (by kernel_rfl) (by simp) ?_
      refine AllReadyH.cons (o := { dst := some 33, op := Go.Op.call { callee := Go.Callee.builtin Go.Builtin.append, args := #[Go.Operand.tmp 26, Go.Operand.tmp 32], argTypes := #[30, 30] }, type := 30, pos := "ledger.go:64", after := #[{ on := 5, ground := Go.Ground.data }, { on := 11, ground := Go.Ground.data }, { on := 11, ground := Go.Ground.chain }], guard := none }) rfl (fun K hK => ?_) AllReadyH.nil
      first | refine step_append_rd rfl (.tmp 26) (.tmp 32) 30 rfl 5 i0 (.int .u8 0) 1 1 Try.underlying30 hi hz0 hz1 hz2 rfl (by omega) (.slice (some ⟨w2.heap.size, 0, none⟩) (lacks s.b) (lacks s.b)) (lacks s.b) (List.replicate (lacks s.b) (.int .u8 0)) rfl (by exact hown3) v4 8 (bs (rec (last + 1))) rfl (by exact ho4.rd) (bs_one _) (by omega) (by omega) ?_ | refine step_append_rd rfl (.tmp 26) (.tmp 32) 30 rfl 5 i0 (.int .u8 0) 1 1 Try.underlying30 hi hz0 hz1 hz2 rfl (by omega) (.slice (some ⟨w4.heap.size, 0, none⟩) (lacks s.b) (lacks s.b)) (lacks s.b) (List.replicate (lacks s.b) (.int .u8 0)) rfl (by exact hown3) v4 8 (bs (rec (last + 1))) rfl (by exact ho4.rd) (bs_one _) (by omega) (by omega) ?_
      intro A5 c5 w5 hown5 hc5 hat5
      replace hown5 := line_own hown5
      have hC : Chg [] w w5 := Chg.trans (by first | exact hC | exact hC.drew) hc5 (by have := hc2.size; have := hZ; simp [Value.ownBlock]; omega)
      have hNe : ∀ kk, (Value.slice A5 (lacks s.b + 8) c5).ownBlock = some kk → w2.heap.size ≤ kk := fun kk hk => by have := hZ; rw [hk] at hat5; simp [Value.ownBlock] at hat5; omega
      have hL : LgAt w5 p g last := hl.chg hC (by simp)
      have hD : DkAt w5 g v s := hd.chg hC (by simp) (by simp)
      have q0 := hL.cell 0
      have q1 := hL.cell 1
      simp at q0 q1
      dsimp only [Act.put]
      refine hK.out _ _ (by first | (exact ⟨q0, q1⟩) | ((try dsimp only); exact ⟨q0, q1⟩)) (fun hHeld => ?_)
      clear hK K
      try simp only [Act.put, List.setIfInBounds_toArray, List.set_cons_zero, List.set_cons_succ]
      refine wpAnyH_ready (rs := [13]) (by kernel_rfl) (by simp) ?_
      refine AllReadyH.cons (o := { dst := some 34, op := Go.Op.call { callee := Go.Callee.value (Go.Operand.func 14), args := #[Go.Operand.tmp 24, Go.Operand.tmp 33], argTypes := #[25, 30] }, type := 26, pos := "ledger.go:64", after := #[{ on := 3, ground := Go.Ground.data }, { on := 12, ground := Go.Ground.data }, { on := 12, ground := Go.Ground.chain }], guard := none }) rfl (fun K hK => ?_) AllReadyH.nil
      go_simp
      refine (append_any g v (.slice A5 (lacks s.b + 8) c5) (line s.b (last + 1)) s _ (by exact hD) hs (by exact hown5.rd) (fun _ kk hk => by have := hNe kk hk; have := hd.1.lt; have := hc2.size; omega) (by rw [line_length]; omega)).mono ?_
      rintro e w6 ⟨v6, rfl, hd6, hc6, hv6⟩
      have hL : LgAt w6 p g last := Blk.chg (by exact hL) hc6 (by intro hm; rcases List.mem_cons.1 hm with h | h; exact hpg h; exact hpv p (by simpa using h) rfl)
      have hv6 : v6.ownBlock = v.ownBlock ∨ NewV w v6 := next_new hv6 (by exact hC.size)
      have hC : Chg (g :: v.ownBlock.toList) w w6 := Chg.trans (by first | exact hC.mono (by simp) | exact (hC.mono (by simp)).drew) hc6 (fun x hx => .inl hx)
      have q0 := hL.cell 0
      have q1 := hL.cell 1
      have f1 := hL.frozen 1
      simp at q0 q1
      go_wp2_with fail
      refine hK.out _ _ (by first | (exact ⟨q0, q1⟩) | ((try dsimp only); exact ⟨q0, q1⟩)) (fun hHeld => ?_)
      clear hK K
      try simp only [Act.put, List.setIfInBounds_toArray, List.set_cons_zero, List.set_cons_succ]
      refine wpAnyH_take (i := 14) (oi := { dst := some 5, op := Go.Op.assign (Go.Operand.tmp 34), type := 26, pos := "ledger.go:64", after := #[{ on := 13, ground := Go.Ground.data }, { on := 13, ground := Go.Ground.chain }, { on := 0, ground := Go.Ground.phase }, { on := 1, ground := Go.Ground.phase }, { on := 2, ground := Go.Ground.phase }, { on := 3, ground := Go.Ground.phase }, { on := 4, ground := Go.Ground.phase }, { on := 5, ground := Go.Ground.phase }, { on := 6, ground := Go.Ground.phase }, { on := 7, ground := Go.Ground.phase }, { on := 8, ground := Go.Ground.phase }, { on := 9, ground := Go.Ground.phase }, { on := 10, ground := Go.Ground.phase }, { on := 11, ground := Go.Ground.phase }, { on := 12, ground := Go.Ground.phase }, { on := 13, ground := Go.Ground.phase }], guard := none }) (v := ?_) rfl (by kernel_rfl) (by kernel_rfl) (by kernel_rfl) (fun _ _ _ h => h) (Or.inl ⟨by rfl, ?_⟩) (by first | assumption | trivial) ?_
      rotate_left 1
      focus (intro w hSw; (try dsimp only at hSw); go_simp; (try with_reducible rfl))
      try simp only [Act.put, List.setIfInBounds_toArray, List.set_cons_zero, List.set_cons_succ]
      refine wpAnyH_done (by kernel_rfl) ?_ _
      by_cases he : (s.append (line s.b (last + 1))).2 = 0
      · have hkp := (Dk.append_keeps hs hops (by omega) (line s.b (last + 1))).1
        rw [he]
        go_wp2_with fail
        refine (sync_any g v6 _ _ hd6 hkp).mono ?_
        rintro e w7 ⟨he7, hd7, hc7⟩
        by_cases hy : (s.append (line s.b (last + 1))).1.sync.2 = 0
        · have hfin := nextD_good hfull he hy
          clear hf1 hfull hm hm2
          rw [hy] at he7
          subst he7
          have hL := hL.chg hc7 (by simpa using hpg)
          have q0 := hL.cell 0
          have q1 := hL.cell 1
          have f1 := hL.frozen 1
          simp at q0 q1
          go_wp2
          go_ret2
          rw [hfin]
          exact ⟨v6, by simp [answer], blk_eq (Blk.set_ hL 1 _) (by simp), hd7.chg (F := [p]) ((Chg.refl _ _).setCell (p := ⟨p, 1, none⟩) (.inl (by simp)) _) (by simpa using hpg.symm) (fun k hk => by simpa using own_ne hd7.2 hL (by decide) k hk), next_chg hC hc7 _, hv6⟩
        · have hfin := nextD_sync hfull he hy
          clear hf1 hfull hm hm2
          subst he7
          generalize (s.append (line s.b (last + 1))).1.sync.2 = e7 at *
          go_wp2
          go_ret2
          rw [hfin]
          exact ⟨v6, by simp [answer, hy], hL.chg hc7 (by simpa using hpg), hd7, next_chg' hC hc7, hv6⟩
      · have hfin := nextD_append hfull he
        clear hf1 hfull hm hm2
        generalize (s.append (line s.b (last + 1))).2 = e6 at *
        go_wp2
        go_ret2
        rw [hfin]
        exact ⟨v6, by simp [answer, he], hL, hd6, hC.mono (fun x hx => .inl (List.mem_cons_of_mem _ hx)), hv6⟩

end Go.Proofs.Ytfjeoggjnibamaa
