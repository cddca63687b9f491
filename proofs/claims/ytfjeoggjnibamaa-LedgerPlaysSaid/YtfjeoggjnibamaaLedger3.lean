/- The ledger: Open, Last. -/
import Derived.Test.YtfjeoggjnibamaaLedger2
import Derived.Deep.RegionHeld3
namespace Go.Proofs.Ytfjeoggjnibamaa
open Go.RowKit
set_option linter.unusedSimpArgs false

/-- The greatest number of the first k records. -/
def scanTo (b : List UInt8) : Nat → Nat
  | 0 => 0
  | k + 1 => max (scanTo b k) (num (b.drop (8 * k)))
def scan (b : List UInt8) : Nat := scanTo b (b.length / 8)

/-- A ledger at block p: its disk's block, its last number. -/
def LgAt (w : World) (p g last : Nat) : Prop := Blk w p 73 #[.pointer (some ⟨g, 0, none⟩), .int .i64 last]

theorem num_lt (l : List UInt8) : num l < 4294967296 := by
  unfold num
  split
  · have := val_lt l 4; simpa using this
  · omega
theorem scanTo_lt (b : List UInt8) : ∀ k, scanTo b k < 4294967296
  | 0 => by simp [scanTo]
  | k + 1 => by
    have h1 := scanTo_lt b k
    have h2 := num_lt (b.drop (8 * k))
    simp only [scanTo]
    omega

/-- A slice that is cut at its front. -/
theorem RdB.cut {w : World} {A : Option Addr} {n c k : Nat} {l : List UInt8} (h : RdB w (.slice A n c) l) (hk : k ≤ l.length) : RdB w (.slice (if c = k then A else A.map (·.add k)) (n - k) (c - k)) (l.drop k) := by
  obtain ⟨hl, A', c', hv, hn, h0, hr⟩ := h
  injection hv with e1 e2 e3
  subst e1; subst e2; subst e3
  refine ⟨by simp [bs_length], (if c = k then A else A.map (·.add k)), c - k, by simp, by simp; omega, fun h => ?_, fun ad had => ?_⟩
  · split at h
    · rename_i hck; omega
    · cases A with
      | none => have := h0 rfl; omega
      | some a => simp at h
  · rw [List.length_drop]
    split at had
    · rename_i hck
      exact ⟨fun hp => by omega, fun j u hu => by
        rw [bs_drop, List.getElem?_drop] at hu
        have := (List.getElem?_eq_some_iff.1 hu).1
        rw [bs_length] at this
        omega⟩
    · cases A with
      | none => simp at had
      | some a =>
        simp at had
        subst had
        refine ⟨fun hp => by rw [block_of_add]; exact (hr a rfl).1 (by omega), fun j u hu => ?_⟩
        rw [add_of_add]
        rw [bs_drop, List.getElem?_drop] at hu
        exact (hr a rfl).2 _ _ hu

theorem last_any (p g last : Nat) (w : World) (h : LgAt w p g last) :
    Calls Try.prog 30 #[.pointer (some ⟨p, 0, none⟩)] w fun e w' => e = .returned (.int .i64 last) ∧ w = w' := by
  have h4 := h.cell 1
  simp at h4
  clear h
  go_enter Try.func30, Try.ntmps30
  go_wp2
  go_ret
  exact ⟨rfl, rfl⟩

theorem open_dead (g : Nat) (v : Value) (s : Dk) (w : World) (h : DkAt w g v s) (hd : s.dead = true) :
    Calls Try.prog 28 #[.pointer (some ⟨g, 0, none⟩)] w fun e w' => e = .returned (.tuple #[.pointer none, .int .i64 17]) ∧ w = w' := by
  have HD := fun w h => dead_any g v s w h
  rw [hd] at HD
  have HD' := Lib.hid HD; clear HD hd
  go_enter Try.func28, Try.ntmps28
  go_wp2_with fail
  refine (HD'.out _ h.1).mono ?_
  rintro e w1 ⟨rfl, rfl⟩
  go_wp2
  go_ret2
  exact ⟨rfl, rfl⟩

theorem open_slot (A : Option Addr) (c n m : Nat) (h : n = m) : Value.slice (if c = 8 then A else Option.map (fun x => ({ block := x.block, off := x.off + 8 } : Addr)) A) n (c - 8) = .slice (if c = 8 then A else A.map (·.add 8)) m (c - 8) := by
  subst h
  cases A <;> simp [Addr.add]
theorem open_apart {A : Option Addr} {c n m p : Nat} (h : ∀ kk, (Value.slice A n c).ownBlock = some kk → kk ≠ p) : ∀ kk, (Value.slice (if c = 8 then A else A.map (·.add 8)) m (c - 8)).ownBlock = some kk → kk ≠ p := by
  intro kk hk
  refine h kk ?_
  cases A with
  | none => split at hk <;> simp [Value.ownBlock] at hk
  | some a =>
    split at hk
    · simpa [Value.ownBlock] using hk
    · simpa [Value.ownBlock, block_of_add] using hk
theorem open_apart' {A : Option Addr} {c n m p q : Nat} (h : ∀ kk, (Value.slice A n c).ownBlock = some kk → kk ≠ p) : 0 < q → ∀ kk, (Value.slice (if c = 8 then A else A.map (·.add 8)) m (c - 8)).ownBlock = some kk → kk ∉ [p] := by
  intro _ kk hk
  have := open_apart h (m := m) kk hk
  simpa using this

set_option maxHeartbeats 2000000 in
theorem open_any (g : Nat) (v : Value) (s : Dk) (w : World) (h : DkAt w g v s) (hs : s.ok) (hd : s.dead = false) :
    Calls Try.prog 28 #[.pointer (some ⟨g, 0, none⟩)] w fun e w' => ∃ p, e = .returned (.tuple #[.pointer (some ⟨p, 0, none⟩), .int .i64 0]) ∧ w.heap.size ≤ p ∧ LgAt w' p g (scan s.b) ∧ Chg [] w w' := by
  have HD := fun w h => dead_any g v s w h
  rw [hd] at HD
  have HD' := Lib.hid HD; clear HD hd
  have hal : Chg [] w (w.alloc (.cells #[.pointer (some ⟨g, 0, none⟩), .int .i64 0] 73)) := (Chg.refl [] _).alloc _
  have hp0 := Blk.new w 73 #[.pointer (some ⟨g, 0, none⟩), .int .i64 0]
  have hd1 := h.chg hal (by simp) (by simp)
  have hb2 := hs.2.1
  have hb1 := hs.1
  go_enter Try.func28, Try.ntmps28
  go_wp2_with fail
  refine (HD'.out _ h.1).mono ?_
  rintro e w1 ⟨rfl, rfl⟩
  go_wp2_with fail
  refine (bytes_any g v s _ hd1 hs).mono ?_
  rintro e w2 ⟨v2, rfl, ho2, hc2, hn2⟩
  have hp2 := hp0.chg hc2 (by simp)
  have hch2 := hal.trans hc2 (by simp)
  obtain ⟨A2, c2, rfl, hl2, hm2, _, _⟩ := own_form ho2
  unfold maxLen at hm2
  go_wp2_with fail
  go_loopw [5] (fun b wr => ∃ (k : Nat) (A : Option Addr) (c : Nat), 8 * k ≤ s.b.length ∧ b = .slice A (s.b.length - 8 * k) c ∧ RdB wr (.slice A (s.b.length - 8 * k) c) (s.b.drop (8 * k)) ∧ c ≤ 9223372036854775807 ∧ LgAt wr w.heap.size g (scanTo s.b k) ∧ Chg [] w wr ∧ (∀ kk, (Value.slice A (s.b.length - 8 * k) c).ownBlock = some kk → kk ≠ w.heap.size))
    (fun b _ => match b with | .slice _ n _ => n | _ => 0)
  case atStart => exact ⟨0, A2, c2, Nat.zero_le _, rfl, ho2.rd, hm2, hp2, hch2, fun kk hk => by have := hn2 kk hk; simp at this; omega⟩
  case round =>
    obtain ⟨k, A, c, hk, rfl, hbv, hcm, hlg, hch, hap⟩ := hrel
    by_cases hlt : 8 ≤ s.b.length - 8 * k
    · have hc1 := hlg.cell 1
      simp at hc1
      have hf1 := hlg.frozen 1
      go_wp2_with fail
      refine wp_region_held_drew (S := (fun w' => True)) (by kernel_rfl) (by trivial) (fun hHeld => ?_)
      refine wpAnyH_take (i := 0) (oi := { dst := some 18, op := Go.Op.move (Go.Operand.tmp 4), type := 51, pos := "ledger.go:53", after := #[], guard := none }) (v := ?_) rfl (by kernel_rfl) (by kernel_rfl) (by kernel_rfl) (fun _ _ _ h => h) (Or.inl ⟨by rfl, ?_⟩) (by first | assumption | trivial) ?_
      rotate_left 1
      focus (intro w hSw; (try dsimp only at hSw); go_simp; (try with_reducible rfl))
      try simp only [Act.put, List.setIfInBounds_toArray, List.set_cons_zero, List.set_cons_succ]
      refine wpAnyH_take (i := 1) (oi := { dst := some 19, op := Go.Op.move (Go.Operand.tmp 4), type := 51, pos := "ledger.go:53", after := #[], guard := none }) (v := ?_) rfl (by kernel_rfl) (by kernel_rfl) (by kernel_rfl) (fun _ _ _ h => h) (Or.inl ⟨by rfl, ?_⟩) (by first | assumption | trivial) ?_
      rotate_left 1
      focus (intro w hSw; (try dsimp only at hSw); go_simp; (try with_reducible rfl))
      try simp only [Act.put, List.setIfInBounds_toArray, List.set_cons_zero, List.set_cons_succ]
      refine wpAnyH_take (i := 2) (oi := { dst := some 20, op := Go.Op.nilCheck (Go.Operand.tmp 19), type := 0, pos := "ledger.go:53", after := #[{ on := 1, ground := Go.Ground.data }], guard := none }) (v := ?_) rfl (by kernel_rfl) (by kernel_rfl) (by kernel_rfl) (fun _ _ _ h => h) (Or.inl ⟨by rfl, ?_⟩) (by first | assumption | trivial) ?_
      rotate_left 1
      focus (intro w hSw; (try dsimp only at hSw); go_simp; (try with_reducible rfl))
      try simp only [Act.put, List.setIfInBounds_toArray, List.set_cons_zero, List.set_cons_succ]
      refine wpAnyH_take (i := 3) (oi := { dst := some 21, op := Go.Op.fieldAddr 73 (Go.Operand.tmp 20) 1, type := 0, pos := "ledger.go:53", after := #[{ on := 2, ground := Go.Ground.data }], guard := none }) (v := ?_) rfl (by kernel_rfl) (by kernel_rfl) (by kernel_rfl) (fun _ _ _ h => h) (Or.inl ⟨by rfl, ?_⟩) (by first | assumption | trivial) ?_
      rotate_left 1
      focus (intro w hSw; (try dsimp only at hSw); go_simp; (try with_reducible rfl))
      try simp only [Act.put, List.setIfInBounds_toArray, List.set_cons_zero, List.set_cons_succ]
      refine wpAnyH_take (i := 5) (oi := { dst := some 23, op := Go.Op.move (Go.Operand.tmp 5), type := 30, pos := "ledger.go:53", after := #[], guard := none }) (v := ?_) rfl (by kernel_rfl) (by kernel_rfl) (by kernel_rfl) (fun _ _ _ h => h) (Or.inl ⟨by rfl, ?_⟩) (by first | assumption | trivial) ?_
      rotate_left 1
      focus (intro w hSw; (try dsimp only at hSw); go_simp; (try with_reducible rfl))
      try simp only [Act.put, List.setIfInBounds_toArray, List.set_cons_zero, List.set_cons_succ]
      refine wpAnyH_ready (rs := [4, 6]) (by kernel_rfl) (by simp) ?_
      refine AllReadyH.cons (o := { dst := some 22, op := Go.Op.load 3 (Go.Operand.tmp 21), type := 3, pos := "ledger.go:53", after := #[{ on := 3, ground := Go.Ground.data }], guard := none }) rfl (fun K hK => ?_) (AllReadyH.cons (o := { dst := some 24, op := Go.Op.call { callee := Go.Callee.value (Go.Operand.func 36), args := #[Go.Operand.tmp 23], argTypes := #[30] }, type := 3, pos := "ledger.go:53", after := #[{ on := 5, ground := Go.Ground.data }], guard := none }) rfl (fun K hK => ?_) AllReadyH.nil)
      · go_simp
        refine hK.out _ _ (by first | (trivial) | ((try dsimp only); trivial)) (fun hHeld => ?_)
        clear hK K
        try simp only [Act.put, List.setIfInBounds_toArray, List.set_cons_zero, List.set_cons_succ]
        refine wpAnyH_ready (rs := [6]) (by kernel_rfl) (by simp) ?_
        refine AllReadyH.cons (o := { dst := some 24, op := Go.Op.call { callee := Go.Callee.value (Go.Operand.func 36), args := #[Go.Operand.tmp 23], argTypes := #[30] }, type := 3, pos := "ledger.go:53", after := #[{ on := 5, ground := Go.Ground.data }], guard := none }) rfl (fun K hK => ?_) AllReadyH.nil
        go_simp
        refine (number_any (.slice A (s.b.length - 8 * k) c) (s.b.drop (8 * k)) _ (by exact hbv) (by simp; omega)).mono ?_
        rintro e w5 ⟨rfl, n5, rfl⟩
        go_wp2_with fail
        refine hK.out _ _ (by first | (trivial) | ((try dsimp only); trivial)) (fun hHeld => ?_)
        clear hK K
        try simp only [Act.put, List.setIfInBounds_toArray, List.set_cons_zero, List.set_cons_succ]
        refine wpAnyH_take (i := 7) (oi := { dst := some 25, op := Go.Op.call { callee := Go.Callee.builtin Go.Builtin.max, args := #[Go.Operand.tmp 22, Go.Operand.tmp 24], argTypes := #[3, 3] }, type := 3, pos := "ledger.go:53", after := #[{ on := 4, ground := Go.Ground.data }, { on := 6, ground := Go.Ground.data }], guard := none }) (v := ?_) rfl (by kernel_rfl) (by kernel_rfl) (by kernel_rfl) (fun _ _ _ h => h) (Or.inl ⟨by rfl, ?_⟩) (by first | assumption | trivial) ?_
        rotate_left 1
        focus (intro w hSw; (try dsimp only at hSw); go_simp; (try with_reducible rfl))
        try simp only [Act.put, List.setIfInBounds_toArray, List.set_cons_zero, List.set_cons_succ]
        refine wpAnyH_take (i := 8) (oi := { dst := some 26, op := Go.Op.nilCheck (Go.Operand.tmp 18), type := 0, pos := "ledger.go:53", after := #[{ on := 0, ground := Go.Ground.data }, { on := 0, ground := Go.Ground.phase }, { on := 1, ground := Go.Ground.phase }, { on := 2, ground := Go.Ground.phase }, { on := 3, ground := Go.Ground.phase }, { on := 4, ground := Go.Ground.phase }, { on := 5, ground := Go.Ground.phase }, { on := 6, ground := Go.Ground.phase }, { on := 7, ground := Go.Ground.phase }], guard := none }) (v := ?_) rfl (by kernel_rfl) (by kernel_rfl) (by kernel_rfl) (fun _ _ _ h => h) (Or.inl ⟨by rfl, ?_⟩) (by first | assumption | trivial) ?_
        rotate_left 1
        focus (intro w hSw; (try dsimp only at hSw); go_simp; (try with_reducible rfl))
        try simp only [Act.put, List.setIfInBounds_toArray, List.set_cons_zero, List.set_cons_succ]
        refine wpAnyH_take (i := 9) (oi := { dst := some 27, op := Go.Op.fieldAddr 73 (Go.Operand.tmp 26) 1, type := 0, pos := "ledger.go:53", after := #[{ on := 8, ground := Go.Ground.data }, { on := 0, ground := Go.Ground.phase }, { on := 1, ground := Go.Ground.phase }, { on := 2, ground := Go.Ground.phase }, { on := 3, ground := Go.Ground.phase }, { on := 4, ground := Go.Ground.phase }, { on := 5, ground := Go.Ground.phase }, { on := 6, ground := Go.Ground.phase }, { on := 7, ground := Go.Ground.phase }], guard := none }) (v := ?_) rfl (by kernel_rfl) (by kernel_rfl) (by kernel_rfl) (fun _ _ _ h => h) (Or.inl ⟨by rfl, ?_⟩) (by first | assumption | trivial) ?_
        rotate_left 1
        focus (intro w hSw; (try dsimp only at hSw); go_simp; (try with_reducible rfl))
        try simp only [Act.put, List.setIfInBounds_toArray, List.set_cons_zero, List.set_cons_succ]
        refine wpAnyH_ready (rs := [10]) (by kernel_rfl) (by simp) ?_
        refine AllReadyH.cons (o := { dst := none, op := Go.Op.store 3 (Go.Operand.tmp 27) (Go.Operand.tmp 25), type := 0, pos := "ledger.go:53", after := #[{ on := 9, ground := Go.Ground.data }, { on := 7, ground := Go.Ground.data }, { on := 6, ground := Go.Ground.chain }, { on := 0, ground := Go.Ground.phase }, { on := 1, ground := Go.Ground.phase }, { on := 2, ground := Go.Ground.phase }, { on := 3, ground := Go.Ground.phase }, { on := 4, ground := Go.Ground.phase }, { on := 5, ground := Go.Ground.phase }, { on := 6, ground := Go.Ground.phase }, { on := 7, ground := Go.Ground.phase }], guard := none }) rfl (fun K hK => ?_) AllReadyH.nil
        go_simp
        refine hK.out _ _ (by first | (trivial) | ((try dsimp only); trivial)) (fun hHeld => ?_)
        clear hK K
        try simp only [Act.put, List.setIfInBounds_toArray, List.set_cons_zero, List.set_cons_succ]
        refine wpAnyH_done (by kernel_rfl) ?_ _
        go_wp2
        go_roundw
        case rel =>
          refine ⟨k + 1, if c = 8 then A else A.map (·.add 8), c - 8, by omega, open_slot A c _ _ (by omega), ?_, by omega, blk_eq (Blk.set_ (w := wr.drewN _) hlg 1 _) ?_, (hch.drewN _).setCell (p := ⟨w.heap.size, 1, none⟩) (.inr (Nat.le_refl _)) _, open_apart hap⟩
          · have h1 := hbv.cut (k := 8) (by simp; omega)
            rw [List.drop_drop] at h1
            rw [show s.b.length - 8 * (k + 1) = s.b.length - 8 * k - 8 by omega, show 8 * (k + 1) = 8 * k + 8 by omega]
            refine h1.chg (F := [w.heap.size]) (((Chg.refl [w.heap.size] wr).drewN _).setCell (p := ⟨w.heap.size, 1, none⟩) (.inl (by simp)) _) (open_apart' hap)
          · simp only [scanTo]; congr 1; simp; split <;> omega
        case measure => simp; omega
      · go_simp
        refine (number_any (.slice A (s.b.length - 8 * k) c) (s.b.drop (8 * k)) _ (by exact hbv) (by simp; omega)).mono ?_
        rintro e w5 ⟨rfl, n5, rfl⟩
        go_wp2_with fail
        refine hK.out _ _ (by first | (trivial) | ((try dsimp only); trivial)) (fun hHeld => ?_)
        clear hK K
        try simp only [Act.put, List.setIfInBounds_toArray, List.set_cons_zero, List.set_cons_succ]
        refine wpAnyH_ready (rs := [4]) (by kernel_rfl) (by simp) ?_
        refine AllReadyH.cons (o := { dst := some 22, op := Go.Op.load 3 (Go.Operand.tmp 21), type := 3, pos := "ledger.go:53", after := #[{ on := 3, ground := Go.Ground.data }], guard := none }) rfl (fun K hK => ?_) AllReadyH.nil
        go_simp
        refine hK.out _ _ (by first | (trivial) | ((try dsimp only); trivial)) (fun hHeld => ?_)
        clear hK K
        try simp only [Act.put, List.setIfInBounds_toArray, List.set_cons_zero, List.set_cons_succ]
        refine wpAnyH_take (i := 7) (oi := { dst := some 25, op := Go.Op.call { callee := Go.Callee.builtin Go.Builtin.max, args := #[Go.Operand.tmp 22, Go.Operand.tmp 24], argTypes := #[3, 3] }, type := 3, pos := "ledger.go:53", after := #[{ on := 4, ground := Go.Ground.data }, { on := 6, ground := Go.Ground.data }], guard := none }) (v := ?_) rfl (by kernel_rfl) (by kernel_rfl) (by kernel_rfl) (fun _ _ _ h => h) (Or.inl ⟨by rfl, ?_⟩) (by first | assumption | trivial) ?_
        rotate_left 1
        focus (intro w hSw; (try dsimp only at hSw); go_simp; (try with_reducible rfl))
        try simp only [Act.put, List.setIfInBounds_toArray, List.set_cons_zero, List.set_cons_succ]
        refine wpAnyH_take (i := 8) (oi := { dst := some 26, op := Go.Op.nilCheck (Go.Operand.tmp 18), type := 0, pos := "ledger.go:53", after := #[{ on := 0, ground := Go.Ground.data }, { on := 0, ground := Go.Ground.phase }, { on := 1, ground := Go.Ground.phase }, { on := 2, ground := Go.Ground.phase }, { on := 3, ground := Go.Ground.phase }, { on := 4, ground := Go.Ground.phase }, { on := 5, ground := Go.Ground.phase }, { on := 6, ground := Go.Ground.phase }, { on := 7, ground := Go.Ground.phase }], guard := none }) (v := ?_) rfl (by kernel_rfl) (by kernel_rfl) (by kernel_rfl) (fun _ _ _ h => h) (Or.inl ⟨by rfl, ?_⟩) (by first | assumption | trivial) ?_
        rotate_left 1
        focus (intro w hSw; (try dsimp only at hSw); go_simp; (try with_reducible rfl))
        try simp only [Act.put, List.setIfInBounds_toArray, List.set_cons_zero, List.set_cons_succ]
        refine wpAnyH_take (i := 9) (oi := { dst := some 27, op := Go.Op.fieldAddr 73 (Go.Operand.tmp 26) 1, type := 0, pos := "ledger.go:53", after := #[{ on := 8, ground := Go.Ground.data }, { on := 0, ground := Go.Ground.phase }, { on := 1, ground := Go.Ground.phase }, { on := 2, ground := Go.Ground.phase }, { on := 3, ground := Go.Ground.phase }, { on := 4, ground := Go.Ground.phase }, { on := 5, ground := Go.Ground.phase }, { on := 6, ground := Go.Ground.phase }, { on := 7, ground := Go.Ground.phase }], guard := none }) (v := ?_) rfl (by kernel_rfl) (by kernel_rfl) (by kernel_rfl) (fun _ _ _ h => h) (Or.inl ⟨by rfl, ?_⟩) (by first | assumption | trivial) ?_
        rotate_left 1
        focus (intro w hSw; (try dsimp only at hSw); go_simp; (try with_reducible rfl))
        try simp only [Act.put, List.setIfInBounds_toArray, List.set_cons_zero, List.set_cons_succ]
        refine wpAnyH_ready (rs := [10]) (by kernel_rfl) (by simp) ?_
        refine AllReadyH.cons (o := { dst := none, op := Go.Op.store 3 (Go.Operand.tmp 27) (Go.Operand.tmp 25), type := 0, pos := "ledger.go:53", after := #[{ on := 9, ground := Go.Ground.data }, { on := 7, ground := Go.Ground.data }, { on := 6, ground := Go.Ground.chain }, { on := 0, ground := Go.Ground.phase }, { on := 1, ground := Go.Ground.phase }, { on := 2, ground := Go.Ground.phase }, { on := 3, ground := Go.Ground.phase }, { on := 4, ground := Go.Ground.phase }, { on := 5, ground := Go.Ground.phase }, { on := 6, ground := Go.Ground.phase }, { on := 7, ground := Go.Ground.phase }], guard := none }) rfl (fun K hK => ?_) AllReadyH.nil
        go_simp
        refine hK.out _ _ (by first | (trivial) | ((try dsimp only); trivial)) (fun hHeld => ?_)
        clear hK K
        try simp only [Act.put, List.setIfInBounds_toArray, List.set_cons_zero, List.set_cons_succ]
        refine wpAnyH_done (by kernel_rfl) ?_ _
        go_wp2
        go_roundw
        case rel =>
          refine ⟨k + 1, if c = 8 then A else A.map (·.add 8), c - 8, by omega, open_slot A c _ _ (by omega), ?_, by omega, blk_eq (Blk.set_ (w := wr.drewN _) hlg 1 _) ?_, (hch.drewN _).setCell (p := ⟨w.heap.size, 1, none⟩) (.inr (Nat.le_refl _)) _, open_apart hap⟩
          · have h1 := hbv.cut (k := 8) (by simp; omega)
            rw [List.drop_drop] at h1
            rw [show s.b.length - 8 * (k + 1) = s.b.length - 8 * k - 8 by omega, show 8 * (k + 1) = 8 * k + 8 by omega]
            refine h1.chg (F := [w.heap.size]) (((Chg.refl [w.heap.size] wr).drewN _).setCell (p := ⟨w.heap.size, 1, none⟩) (.inl (by simp)) _) (open_apart' hap)
          · simp only [scanTo]; congr 1; simp; split <;> omega
        case measure => simp; omega
    · have hk8 : k = s.b.length / 8 := by omega
      have hfin : scanTo s.b k = scan s.b := by rw [hk8]; rfl
      rw [hfin] at hlg
      clear hfin hk8
      go_wp2
      go_ret2
      exact ⟨w.heap.size, rfl, Nat.le_refl _, hlg, hch⟩
end Go.Proofs.Ytfjeoggjnibamaa
