/- LedgerPlays: the walk of the law. -/
import Derived.Test.YtfjeoggjnibamaaLawDiskPlays
import Derived.Test.YtfjeoggjnibamaaTwo
namespace Go.Proofs.Ytfjeoggjnibamaa
open Go.RowKit
set_option linter.unusedSimpArgs false

theorem rdCl8_of {H : Type} {enc : TypeId × Value → H} {w : World} {base : Nat} {spare : Nat → Bool} {held : Bool} {fuel : Nat} {v : Value} {x : DataW H × List MemPlace}
    (h : DataW.trod enc Try.prog w base spare held fuel 57 [v] = some x) : ∃ cs, RdCl w v cs ∧ cs.length ≤ maxLen := by
  obtain ⟨rs, hr, hm, hrs⟩ := rows_of Try.underlying57 Try.underlying61 (by kernel_rfl) (by decide) (by kernel_rfl) h
  obtain ⟨cs, hcs, hp⟩ := pairs_of (R := fun (r : List Value) (c : Cl) => r = c.cells ∧ c.ok w) rs fun r hrm => by
    obtain ⟨hl, hf⟩ := hrs r hrm
    obtain ⟨u0, n0, y0, e0, t0⟩ := hf 0 _ rfl
    obtain ⟨u1, n1, y1, e1, t1⟩ := hf 1 _ rfl
    obtain ⟨u2, n2, y2, e2, t2⟩ := hf 2 _ rfl
    obtain ⟨a, ha, _, wa⟩ := DataW.trod_int Try.underlying3 t0
    obtain ⟨b, hb, _, wb⟩ := DataW.trod_int Try.underlying3 t1
    obtain ⟨l, hl2, _⟩ := rdB_of Try.underlying30 Try.underlying5 (by kernel_rfl) t2
    injection ha with ha; injection hb with hb
    subst ha; subst hb
    refine ⟨⟨a, b, u2, l⟩, ?_, ⟨(wf_i64 wa).1, (wf_i64 wa).2, (wf_i64 wb).1, (wf_i64 wb).2, hl2⟩⟩
    match r, hl with
    | [r0, r1, r2], _ =>
      simp at e0 e1 e2
      subst e0; subst e1; subst e2
      rfl
  subst hcs
  rw [List.length_map] at hr hm
  refine ⟨cs.map (·.2), ⟨?_, fun c hc => ?_⟩, by simpa using hm⟩
  · have he : (cs.map (·.2)).flatMap Cl.cells = (cs.map (·.1)).flatten := by
      rw [List.flatMap_def, List.map_map]
      congr 1
      refine List.map_congr_left fun p hpm => ?_
      exact (hp p hpm).1.symm
    rw [he, List.length_map]
    exact hr
  · simp only [List.mem_map] at hc
    obtain ⟨p, hpm, rfl⟩ := hc
    exact (hp p hpm).2


theorem ans_eq (n : Nat) (e : Int) : (intOf (answer n e) == intOf (answer n e)) = true := by simp

set_option maxRecDepth 100000 in
set_option maxHeartbeats 8000000 in
theorem ledgerPlays_any (w : World) (room : Int) (_ : -9223372036854775808 ≤ room) (_ : room ≤ 9223372036854775807) (vc : Value) (cs : List Cl) (hc : RdCl w vc cs) (_ : cs.length ≤ maxLen) :
    Calls Try.prog 8 #[.int .i64 room, vc] w fun e w' => e = .returned (.bool true) ∧ Chg [] w w' := by
  obtain ⟨⟨hlen, A, c, rfl, hac, h0, hrd⟩, hcs⟩ := hc
  have HW := fun w => lwithin_any room 400 w (by omega) (by omega)
  have hR1 := Int.emod_nonneg room (b := 400) (by omega)
  have hR2 := Int.emod_lt_of_pos room (b := 400) (by omega)
  obtain ⟨R, hm⟩ := Int.eq_ofNat_of_zero_le hR1
  rw [hm] at HW hR2
  clear hR1 hm
  have HWH := Lib.hid HW; clear HW
  go_enter Try.func8, Try.ntmps8
  go_wp2_with fail
  refine (lknown_any _).mono ?_
  rintro e w1 ⟨rfl, hc1⟩
  go_wp2_with fail
  refine (HWH.out _).mono ?_
  rintro e w1' ⟨rfl, rfl⟩
  go_wp2_with fail
  refine (new_ok (1 + (R : Int)) _ (by omega) (by omega)).mono ?_
  rintro e w2 ⟨g, rfl, hg, hd, hc2⟩
  go_wp2_with fail
  refine (rnew_ok (1 + (R : Int)) _ (by omega) (by omega)).mono ?_
  rintro e w3 ⟨r, rfl, hr, hx, hc3⟩
  have hd3 := hd.chg hc3 (by simp) (by simp)
  have hw1 := hc1.size
  have hw2 := hc2.size
  have hw3 := hc3.size
  have hc13 := (hc1.trans hc2 (by simp)).trans hc3 (by simp)
  have hok := Dk.new_ok (1 + (R : Int)).toNat (by omega)
  have hz : scan (Dk.new (1 + (R : Int)).toNat).b = 0 := by simp [scan, Dk.new, scanTo]
  have hdd : (Dk.new (1 + (R : Int)).toNat).dead = false := rfl
  have hop0 : (Dk.new (1 + (R : Int)).toNat).ops = 0 := rfl
  generalize Dk.new (1 + (R : Int)).toNat = s0 at *
  go_wp2_with fail
  refine (open_any g _ s0 _ hd3 hok hdd).mono ?_
  rintro e w4 ⟨p, rfl, hp, hl4, hc4⟩
  have hd4 := hd3.chg hc4 (by simp) (by simp)
  have hx4 := hx.chg hc4 (by simp) (by simp)
  have hw4 := hc4.size
  go_wp2_with fail
  refine (ropen_any r _ s0 _ hx4 hok hdd).mono ?_
  rintro e w5 ⟨m, rfl, hm, hl5, hc5⟩
  rw [hz] at hl4 hl5
  have T : Two w w5 g r (.slice none 0 0) (.slice none 0 0) s0 s0 p m 0 0 :=
    ⟨hok, hok, hd4.chg hc5 (by simp) (by simp), hx4.chg hc5 (by simp) (by simp), hl4.chg hc5 (by simp), hl5, (hc13.trans hc4 (by simp)).trans hc5 (by simp), by omega, by omega, by omega, by omega, by simp [Value.ownBlock], by simp [Value.ownBlock], by simp [Value.ownBlock]⟩
  clear hd hd3 hd4 hx hx4 hl4 hl5 hc1 hc2 hc3 hc4 hc5 hw1 hw2 hw3 hw4 hc13 hok hdd hz hg hr hp hm
  go_wp2_with fail
  go_loopw [9, 11, 13] (fun vl vm i wr => ∃ k : Nat, k ≤ cs.length ∧ k ≤ 60 ∧ i = .int .i64 k ∧ ∃ (p m last : Nat) (v u : Value) (s : Dk), vl = .pointer (some ⟨p, 0, none⟩) ∧ vm = .pointer (some ⟨m, 0, none⟩) ∧ s.ops ≤ 2 * k ∧ Two w wr g r v u s s p m last last) (fun _ _ i _ => 60 - (intOf i).toNat)
  case atStart => exact ⟨0, Nat.zero_le _, Nat.zero_le _, rfl, p, m, 0, _, _, s0, rfl, rfl, by omega, T⟩
  case round =>
    clear T
    obtain ⟨k, hk, hk60, rfl, p, m, last, v, u, s, rfl, rfl, hops, T⟩ := hrel
    by_cases hlt : k < cs.length ∧ k < 60
    · obtain ⟨hlt1, hlt2⟩ := hlt
      have hA : ∃ ad, A = some ad := by
        cases A with
        | none => have := h0 rfl; omega
        | some ad => exact ⟨ad, rfl⟩
      obtain ⟨ad, rfl⟩ := hA
      obtain ⟨cb, co, hcb, hA3, hq0, hq1, hq2⟩ := cells_of_call hlt1 (hrd ad rfl) T.chg
      have hcok := hcs cs[k] (List.getElem_mem _)
      generalize cs[k] = cl at *
      obtain ⟨kind, n, cv, b⟩ := cl
      obtain ⟨b1, b2, b3, b4, hbr⟩ := hcok
      simp only at hq0 hq1 hq2 b1 b2 b3 b4 hbr
      obtain ⟨A1, c1, hcv, hbc⟩ := hbr.form
      subst hcv
      have hc4 : Chg [] wr (wr.alloc (.cells #[.int .i64 kind, .int .i64 n, .slice A1 b.length c1] 61)) := (Chg.refl [] _).alloc _
      by_cases hbig : 30 < b.length
      · go_wp2_with fail
        go_roundw
        case rel => exact ⟨k + 1, by omega, by omega, by go_num, p, m, last, v, u, s, rfl, rfl, by omega, (T.still hc4).1⟩
        case measure => simp [intOf]; omega
      · have hB4 := Blk.new wr 61 #[.int .i64 kind, .int .i64 n, .slice A1 b.length c1]
        have T4 := (T.still hc4).1
        have HK := fun w => lwithin_any kind 6 w (by omega) (by omega)
        have hj1 := Int.emod_nonneg kind (b := 6) (by omega)
        have hj2 := Int.emod_lt_of_pos kind (b := 6) (by omega)
        generalize kind % 6 = j at *
        have HKH := Lib.hid HK; clear HK
        go_wp2_with fail
        refine (HKH.out _).mono ?_
        rintro e w4 ⟨rfl, hw4⟩
        rw [hw4] at T4 hB4
        clear hw4 hc4 hq0 hq1 hq2 T
        obtain ⟨C, hC⟩ : ∃ C, C = wr.heap.size := ⟨_, rfl⟩
        rw [← hC] at hB4
        rw [← hC]
        clear hC
        go_upto_block 2 with fail
        go_cut [9, 11] (fun vl vm wx => ∃ (p m last : Nat) (v u : Value) (s : Dk), vl = .pointer (some ⟨p, 0, none⟩) ∧ vm = .pointer (some ⟨m, 0, none⟩) ∧ s.ops ≤ 2 * (k + 1) ∧ Two w wx g r v u s s p m last last)
        case first =>
          have hsel : j = 0 ∨ j = 1 ∨ j = 2 ∨ j = 3 ∨ j = 4 ∨ j = 5 := by omega
          clear hj1 hj2
          have e0 := hB4.cell 0
          have e1 := hB4.cell 1
          have e2 := hB4.cell 2
          simp at e0 e1 e2
          rcases hsel with rfl | rfl | rfl | rfl | rfl | rfl
          · have HN := tw_next T4 (by omega)
            have HN' := Lib.hid HN; clear HN
            generalize hD : nextD s last = D at *
            go_wp2_with fail
            refine HN'.out.mono ?_
            rintro e w5 ⟨v5, rfl, T5, K5⟩
            have HM := tw_rnext T5 (by omega)
            rw [hD] at HM
            have HM' := Lib.hid HM; clear HM
            unfold answer at *
            generalize hX : (if D.2.2 = 0 then (D.2.1 : Int) else 0) = X at *
            go_wp2_with fail
            refine HM'.out.mono ?_
            rintro e w6 ⟨u6, rfl, T6, K6⟩
            go_wp2
            go_meet
            exact ⟨p, m, D.2.1, v5, u6, D.1, rfl, rfl, by rw [← hD]; have := (nextD_keeps T4.ok1 (k := 2 * k) hops (by omega) last).2; omega, T6⟩
          · have HN := tw_next T4 (by omega)
            have HN' := Lib.hid HN; clear HN
            generalize hD : nextD s last = D at *
            go_wp2_with fail
            refine HN'.out.mono ?_
            rintro e w5 ⟨v5, rfl, T5, K5⟩
            have HM := tw_rnext T5 (by omega)
            rw [hD] at HM
            have HM' := Lib.hid HM; clear HM
            unfold answer at *
            generalize hX : (if D.2.2 = 0 then (D.2.1 : Int) else 0) = X at *
            go_wp2_with fail
            refine HM'.out.mono ?_
            rintro e w6 ⟨u6, rfl, T6, K6⟩
            go_wp2
            go_meet
            exact ⟨p, m, D.2.1, v5, u6, D.1, rfl, rfl, by rw [← hD]; have := (nextD_keeps T4.ok1 (k := 2 * k) hops (by omega) last).2; omega, T6⟩
          · go_wp2_with fail
            refine (tw_stop T4 n b4).mono ?_
            rintro e w5 ⟨rfl, T5, K5⟩
            have e1 := (K5 _ _ hB4).cell 1
            simp at e1
            go_wp2_with fail
            refine (tw_rstop T5 n b4).mono ?_
            rintro e w6 ⟨rfl, T6, K6⟩
            go_wp2
            go_meet
            exact ⟨p, m, last, v, u, s.stop n, rfl, rfl, by show s.ops ≤ 2 * (k + 1); omega, T6⟩
          · go_wp2_with fail
            refine (tw_crash T4 n).mono ?_
            rintro e w5 ⟨v5, rfl, T5, K5⟩
            have e1 := (K5 _ _ hB4).cell 1
            simp at e1
            go_wp2_with fail
            refine (tw_rcrash T5 n).mono ?_
            rintro e w6 ⟨u6, rfl, T6, K6⟩
            go_wp2_with fail
            refine (tw_open T6 rfl).mono ?_
            rintro e w7 ⟨p7, rfl, T7, K7⟩
            go_wp2_with fail
            refine (tw_ropen T7 rfl).mono ?_
            rintro e w8 ⟨m8, rfl, T8, K8⟩
            go_wp2
            go_meet
            exact ⟨p7, m8, _, v5, u6, s.crash n, rfl, rfl, by show s.ops ≤ 2 * (k + 1); omega, T8⟩
          · go_wp2_with fail
            refine (HKH.out _).mono ?_
            rintro e w4' ⟨rfl, rfl⟩
            by_cases hdd : s.dead = true
            · go_wp2_with fail
              refine (open_dead g _ _ _ T4.dk hdd).mono ?_
              rintro e w8 ⟨rfl, rfl⟩
              go_wp2_with fail
              refine (ropen_dead r _ _ _ T4.rk hdd).mono ?_
              rintro e w9 ⟨rfl, rfl⟩
              go_wp2
              go_meet
              exact ⟨p, m, last, _, _, _, rfl, rfl, by omega, T4⟩
            · have hdf : s.dead = false := by simpa using hdd
              go_wp2_with fail
              refine (tw_open T4 hdf).mono ?_
              rintro e w8 ⟨p8, rfl, T8, K8⟩
              go_wp2_with fail
              refine (tw_ropen T8 hdf).mono ?_
              rintro e w9 ⟨m9, rfl, T9, K9⟩
              go_wp2
              go_meet
              exact ⟨p8, m9, _, _, _, _, rfl, rfl, by omega, T9⟩
          · have e5 := (rkCells T4.rk.1).c5
            by_cases hds : s.dead = true
            · rw [hds] at e5
              go_wp2_with fail
              refine (HKH.out _).mono ?_
              rintro e w4' ⟨rfl, rfl⟩
              go_wp2_with fail
              refine (open_dead g _ _ _ T4.dk hds).mono ?_
              rintro e w8 ⟨rfl, rfl⟩
              go_wp2_with fail
              refine (ropen_dead r _ _ _ T4.rk hds).mono ?_
              rintro e w9 ⟨rfl, rfl⟩
              go_wp2
              go_meet
              exact ⟨p, m, last, _, _, _, rfl, rfl, by omega, T4⟩
            · have hdsf : s.dead = false := by simpa using hds
              rw [hdsf] at e5
              have HA := tw_append T4 (by omega) _ b hbr (by omega)
              have HA' := Lib.hid HA; clear HA
              have hop2 := (Dk.append_keeps T4.ok1 (k := 2 * k) hops (by omega) b).2
              go_wp2_with fail
              refine (HKH.out _).mono ?_
              rintro e w4' ⟨rfl, rfl⟩
              go_wp2_with fail
              refine HA'.out.mono ?_
              rintro e w5 ⟨v5, rfl, T5, K5⟩
              have e2 := (K5 _ _ hB4).cell 2
              simp at e2
              go_wp2_with fail
              refine (tw_rappend T5 (by omega) _ b hbr (by omega)).mono ?_
              rintro e w6 ⟨u6, rfl, T6, K6⟩
              clear HA'
              generalize (s.append b).1 = s6 at *
              by_cases hdd : s6.dead = true
              · go_wp2_with fail
                refine (open_dead g _ _ _ T6.dk hdd).mono ?_
                rintro e w8 ⟨rfl, rfl⟩
                go_wp2_with fail
                refine (ropen_dead r _ _ _ T6.rk hdd).mono ?_
                rintro e w9 ⟨rfl, rfl⟩
                go_wp2
                go_meet
                exact ⟨p, m, last, _, _, _, rfl, rfl, by omega, T6⟩
              · have hdf : s6.dead = false := by simpa using hdd
                go_wp2_with fail
                refine (tw_open T6 hdf).mono ?_
                rintro e w8 ⟨p8, rfl, T8, K8⟩
                go_wp2_with fail
                refine (tw_ropen T8 hdf).mono ?_
                rintro e w9 ⟨m9, rfl, T9, K9⟩
                go_wp2
                go_meet
                exact ⟨p8, m9, _, _, _, _, rfl, rfl, by omega, T9⟩
        case rest =>
          clear T4 hops hB4
          clear v u s last
          obtain ⟨p, m, last, v, u, s, rfl, rfl, hops, T⟩ := hcut
          have q1 := T.rlg.cell 1
          have q2 := (rkCells T.rk.1).c2
          simp at q1
          have q3 := conv_rd (w := wc.drew) T.rk.2.rd 30 5 Try.underlying30 Try.underlying5 9 Try.underlying9
          go_wp2_with fail
          refine wp_region_held_drew (S := (fun w' => w'.cell? ⟨m, 1, none⟩ = some (.int .i64 last) ∧ w'.cell? ⟨r, 2, none⟩ = some u ∧ (convert 30 9 u).run Try.prog w' = .ok (.string (strB s.b)) w')) (by kernel_rfl) (by exact ⟨q1, q2, q3⟩) (fun hHeld => ?_)
          refine wpAnyH_take (i := 0) (oi := { dst := some 178, op := Go.Op.move (Go.Operand.tmp 9), type := 51, pos := "law.go:92", after := #[], guard := none }) (v := ?_) rfl (by kernel_rfl) (by kernel_rfl) (by kernel_rfl) (fun _ _ _ h => h) (Or.inl ⟨by rfl, ?_⟩) (by first | assumption | trivial) ?_
          rotate_left 1
          focus (intro w hSw; (try dsimp only at hSw); go_simp; (try with_reducible rfl))
          try simp only [Act.put, List.setIfInBounds_toArray, List.set_cons_zero, List.set_cons_succ]
          refine wpAnyH_take (i := 2) (oi := { dst := some 180, op := Go.Op.move (Go.Operand.tmp 11), type := 58, pos := "law.go:92", after := #[], guard := none }) (v := ?_) rfl (by kernel_rfl) (by kernel_rfl) (by kernel_rfl) (fun _ _ _ h => h) (Or.inl ⟨by rfl, ?_⟩) (by first | assumption | trivial) ?_
          rotate_left 1
          focus (intro w hSw; (try dsimp only at hSw); go_simp; (try with_reducible rfl))
          try simp only [Act.put, List.setIfInBounds_toArray, List.set_cons_zero, List.set_cons_succ]
          refine wpAnyH_take (i := 3) (oi := { dst := some 181, op := Go.Op.nilCheck (Go.Operand.tmp 180), type := 0, pos := "law.go:92", after := #[{ on := 2, ground := Go.Ground.data }], guard := none }) (v := ?_) rfl (by kernel_rfl) (by kernel_rfl) (by kernel_rfl) (fun _ _ _ h => h) (Or.inl ⟨by rfl, ?_⟩) (by first | assumption | trivial) ?_
          rotate_left 1
          focus (intro w hSw; (try dsimp only at hSw); go_simp; (try with_reducible rfl))
          try simp only [Act.put, List.setIfInBounds_toArray, List.set_cons_zero, List.set_cons_succ]
          refine wpAnyH_take (i := 4) (oi := { dst := some 182, op := Go.Op.fieldAddr 65 (Go.Operand.tmp 181) 1, type := 0, pos := "law.go:92", after := #[{ on := 3, ground := Go.Ground.data }], guard := none }) (v := ?_) rfl (by kernel_rfl) (by kernel_rfl) (by kernel_rfl) (fun _ _ _ h => h) (Or.inl ⟨by rfl, ?_⟩) (by first | assumption | trivial) ?_
          rotate_left 1
          focus (intro w hSw; (try dsimp only at hSw); go_simp; (try with_reducible rfl))
          try simp only [Act.put, List.setIfInBounds_toArray, List.set_cons_zero, List.set_cons_succ]
          refine wpAnyH_take (i := 5) (oi := { dst := some 183, op := Go.Op.load 3 (Go.Operand.tmp 182), type := 3, pos := "law.go:92", after := #[{ on := 4, ground := Go.Ground.data }], guard := none }) (v := ?_) rfl (by kernel_rfl) (by kernel_rfl) (by kernel_rfl) (fun _ _ _ h => h) (Or.inl ⟨by rfl, ?_⟩) (by first | assumption | trivial) ?_
          rotate_left 1
          focus (intro w hSw; (try dsimp only at hSw); go_simp; (try with_reducible rfl))
          try simp only [Act.put, List.setIfInBounds_toArray, List.set_cons_zero, List.set_cons_succ]
          refine wpAnyH_ready (rs := [1]) (by kernel_rfl) (by simp) ?_
          refine AllReadyH.cons (o := { dst := some 179, op := Go.Op.call { callee := Go.Callee.value (Go.Operand.func 30), args := #[Go.Operand.tmp 178], argTypes := #[51] }, type := 3, pos := "law.go:92", after := #[{ on := 0, ground := Go.Ground.data }], guard := none }) rfl (fun K hK => ?_) AllReadyH.nil
          go_simp
          refine (last_any p g last _ (by exact T.lg)).mono ?_
          rintro e w5 ⟨rfl, rfl⟩
          go_wp2_with fail
          refine hK.out _ _ (by first | (exact ⟨q1, q2, q3⟩) | ((try dsimp only); exact ⟨q1, q2, q3⟩)) (fun hHeld => ?_)
          clear hK K
          try simp only [Act.put, List.setIfInBounds_toArray, List.set_cons_zero, List.set_cons_succ]
          refine wpAnyH_take (i := 6) (oi := { dst := some 184, op := Go.Op.binOp Go.BinOp.neq 3 (Go.Operand.tmp 179) (Go.Operand.tmp 183) 3, type := 4, pos := "law.go:92", after := #[{ on := 1, ground := Go.Ground.data }, { on := 5, ground := Go.Ground.data }], guard := none }) (v := ?_) rfl (by kernel_rfl) (by kernel_rfl) (by kernel_rfl) (fun _ _ _ h => h) (Or.inl ⟨by rfl, ?_⟩) (by first | assumption | trivial) ?_
          rotate_left 1
          focus (intro w hSw; (try dsimp only at hSw); go_simp; (try with_reducible rfl))
          try simp only [Act.put, List.setIfInBounds_toArray, List.set_cons_zero, List.set_cons_succ]
          refine wpAnyH_take (i := 7) (oi := { dst := some 185, op := Go.Op.move (Go.Operand.tmp 184), type := 4, pos := "law.go:92", after := #[{ on := 6, ground := Go.Ground.data }, { on := 1, ground := Go.Ground.chain }], guard := none }) (v := ?_) rfl (by kernel_rfl) (by kernel_rfl) (by kernel_rfl) (fun _ _ _ h => h) (Or.inl ⟨by rfl, ?_⟩) (by first | assumption | trivial) ?_
          rotate_left 1
          focus (intro w hSw; (try dsimp only at hSw); go_simp; (try with_reducible rfl))
          try simp only [Act.put, List.setIfInBounds_toArray, List.set_cons_zero, List.set_cons_succ]
          refine wpAnyH_take (i := 8) (oi := { dst := some 186, op := Go.Op.move (Go.Operand.tmp 5), type := 25, pos := "law.go:92", after := #[{ on := 7, ground := Go.Ground.guard }], guard := some (7, false) }) (v := ?_) rfl (by kernel_rfl) (by kernel_rfl) (by kernel_rfl) (fun _ _ _ h => h) (Or.inl ⟨by rfl, ?_⟩) (by first | assumption | trivial) ?_
          rotate_left 1
          focus (intro w hSw; (try dsimp only at hSw); go_simp; (try with_reducible rfl))
          try simp only [Act.put, List.setIfInBounds_toArray, List.set_cons_zero, List.set_cons_succ]
          refine wpAnyH_take (i := 11) (oi := { dst := some 189, op := Go.Op.move (Go.Operand.tmp 7), type := 38, pos := "law.go:92", after := #[{ on := 7, ground := Go.Ground.guard }], guard := some (7, false) }) (v := ?_) rfl (by kernel_rfl) (by kernel_rfl) (by kernel_rfl) (fun _ _ _ h => h) (Or.inl ⟨by rfl, ?_⟩) (by first | assumption | trivial) ?_
          rotate_left 1
          focus (intro w hSw; (try dsimp only at hSw); go_simp; (try with_reducible rfl))
          try simp only [Act.put, List.setIfInBounds_toArray, List.set_cons_zero, List.set_cons_succ]
          refine wpAnyH_take (i := 12) (oi := { dst := some 190, op := Go.Op.nilCheck (Go.Operand.tmp 189), type := 0, pos := "law.go:92", after := #[{ on := 11, ground := Go.Ground.data }, { on := 7, ground := Go.Ground.guard }], guard := some (7, false) }) (v := ?_) rfl (by kernel_rfl) (by kernel_rfl) (by kernel_rfl) (fun _ _ _ h => h) (Or.inl ⟨by rfl, ?_⟩) (by first | assumption | trivial) ?_
          rotate_left 1
          focus (intro w hSw; (try dsimp only at hSw); go_simp; (try with_reducible rfl))
          try simp only [Act.put, List.setIfInBounds_toArray, List.set_cons_zero, List.set_cons_succ]
          refine wpAnyH_take (i := 13) (oi := { dst := some 191, op := Go.Op.fieldAddr 47 (Go.Operand.tmp 190) 2, type := 0, pos := "law.go:92", after := #[{ on := 12, ground := Go.Ground.data }, { on := 7, ground := Go.Ground.guard }], guard := some (7, false) }) (v := ?_) rfl (by kernel_rfl) (by kernel_rfl) (by kernel_rfl) (fun _ _ _ h => h) (Or.inl ⟨by rfl, ?_⟩) (by first | assumption | trivial) ?_
          rotate_left 1
          focus (intro w hSw; (try dsimp only at hSw); go_simp; (try with_reducible rfl))
          try simp only [Act.put, List.setIfInBounds_toArray, List.set_cons_zero, List.set_cons_succ]
          refine wpAnyH_take (i := 14) (oi := { dst := some 192, op := Go.Op.load 30 (Go.Operand.tmp 191), type := 30, pos := "law.go:92", after := #[{ on := 13, ground := Go.Ground.data }, { on := 7, ground := Go.Ground.guard }], guard := some (7, false) }) (v := ?_) rfl (by kernel_rfl) (by kernel_rfl) (by kernel_rfl) (fun _ _ _ h => h) (Or.inl ⟨by rfl, ?_⟩) (by first | assumption | trivial) ?_
          rotate_left 1
          focus (intro w hSw; (try dsimp only at hSw); go_simp; (try with_reducible rfl))
          try simp only [Act.put, List.setIfInBounds_toArray, List.set_cons_zero, List.set_cons_succ]
          refine wpAnyH_take (i := 15) (oi := { dst := some 193, op := Go.Op.convert 30 9 (Go.Operand.tmp 192), type := 9, pos := "law.go:92", after := #[{ on := 14, ground := Go.Ground.data }, { on := 7, ground := Go.Ground.guard }], guard := some (7, false) }) (v := ?_) rfl (by kernel_rfl) (by kernel_rfl) (by kernel_rfl) (fun _ _ _ h => h) (Or.inl ⟨by rfl, ?_⟩) (by first | assumption | trivial) ?_
          rotate_left 1
          focus (intro w hSw; (try dsimp only at hSw); go_simp; (try with_reducible rfl))
          try simp only [Act.put, List.setIfInBounds_toArray, List.set_cons_zero, List.set_cons_succ]
          refine wpAnyH_ready (rs := [9]) (by kernel_rfl) (by simp) ?_
          refine AllReadyH.cons (o := { dst := some 187, op := Go.Op.call { callee := Go.Callee.value (Go.Operand.func 15), args := #[Go.Operand.tmp 186], argTypes := #[25] }, type := 30, pos := "law.go:92", after := #[{ on := 8, ground := Go.Ground.data }, { on := 7, ground := Go.Ground.chain }, { on := 7, ground := Go.Ground.guard }], guard := some (7, false) }) rfl (fun K hK => ?_) AllReadyH.nil
          go_simp
          refine (tw_bytes T.drew).mono ?_
          rintro e w6 ⟨v6, rfl, ho6, T⟩
          have q1 := T.rlg.cell 1
          have q2 := (rkCells T.rk.1).c2
          simp at q1
          have q3 := conv_rd T.rk.2.rd 30 5 Try.underlying30 Try.underlying5 9 Try.underlying9
          have hv6 := conv_rd ho6.rd 30 5 Try.underlying30 Try.underlying5 9 Try.underlying9
          go_wp2_with fail
          refine hK.out _ _ (by first | (exact ⟨q1, q2, q3⟩) | ((try dsimp only); exact ⟨q1, q2, q3⟩)) (fun hHeld => ?_)
          clear hK K
          try simp only [Act.put, List.setIfInBounds_toArray, List.set_cons_zero, List.set_cons_succ]
          refine wpAnyH_ready (rs := [10]) (by kernel_rfl) (by simp) ?_
          refine AllReadyH.cons (o := { dst := some 188, op := Go.Op.convert 30 9 (Go.Operand.tmp 187), type := 9, pos := "law.go:92", after := #[{ on := 9, ground := Go.Ground.data }, { on := 7, ground := Go.Ground.guard }], guard := some (7, false) }) rfl (fun K hK => ?_) AllReadyH.nil
          go_simp
          refine hK.out _ _ (by first | (exact ⟨q1, q2, q3⟩) | ((try dsimp only); exact ⟨q1, q2, q3⟩)) (fun hHeld => ?_)
          clear hK K
          try simp only [Act.put, List.setIfInBounds_toArray, List.set_cons_zero, List.set_cons_succ]
          refine wpAnyH_take (i := 16) (oi := { dst := some 194, op := Go.Op.binOp Go.BinOp.neq 9 (Go.Operand.tmp 188) (Go.Operand.tmp 193) 9, type := 4, pos := "law.go:92", after := #[{ on := 10, ground := Go.Ground.data }, { on := 15, ground := Go.Ground.data }, { on := 7, ground := Go.Ground.guard }], guard := some (7, false) }) (v := ?_) rfl (by kernel_rfl) (by kernel_rfl) (by kernel_rfl) (fun _ _ _ h => h) (Or.inl ⟨by rfl, ?_⟩) (by first | assumption | trivial) ?_
          rotate_left 1
          focus (intro w hSw; (try dsimp only at hSw); go_simp; (try with_reducible rfl))
          try simp only [Act.put, List.setIfInBounds_toArray, List.set_cons_zero, List.set_cons_succ]
          refine wpAnyH_take (i := 17) (oi := { dst := some 195, op := Go.Op.pick (Go.Operand.tmp 185) (Go.Operand.const (Go.Value.bool true)) (Go.Operand.tmp 194), type := 4, pos := "law.go:92", after := #[{ on := 7, ground := Go.Ground.data }, { on := 16, ground := Go.Ground.data }], guard := none }) (v := ?_) rfl (by kernel_rfl) (by kernel_rfl) (by kernel_rfl) (fun _ _ _ h => h) (Or.inl ⟨by rfl, ?_⟩) (by first | assumption | trivial) ?_
          rotate_left 1
          focus (intro w hSw; (try dsimp only at hSw); go_simp; (try with_reducible rfl))
          try simp only [Act.put, List.setIfInBounds_toArray, List.set_cons_zero, List.set_cons_succ]
          refine wpAnyH_done (by kernel_rfl) ?_ _
          go_wp2
          go_roundw
          case rel => exact ⟨k + 1, by omega, by omega, by go_num, p, m, last, v, u, s, rfl, rfl, hops, T⟩
          case measure => simp [intOf]; omega
    · go_wp2
      all_goals go_ret
      all_goals exact ⟨rfl, T.chg⟩
end Go.Proofs.Ytfjeoggjnibamaa
