/- DiskPlays: the walk of the law. -/
import Derived.Test.YtfjeoggjnibamaaLawDiskStays
import Derived.Test.YtfjeoggjnibamaaRefDisk2
import Derived.Deep.RegionHeld3
import Derived.Deep.DeepCutAuto
import Derived.Deep.CutBlock
namespace Go.Proofs.Ytfjeoggjnibamaa
open Go.RowKit

/-- A call of the law: its kind, its number, its bytes' value, its bytes. -/
structure Cl where
  kind : Int
  n : Int
  v : Value
  b : List UInt8
def Cl.cells (c : Cl) : List Value := [.int .i64 c.kind, .int .i64 c.n, c.v]
structure Cl.ok (w : World) (c : Cl) : Prop where
  k1 : -9223372036854775808 ≤ c.kind
  k2 : c.kind ≤ 9223372036854775807
  n1 : -9223372036854775808 ≤ c.n
  n2 : c.n ≤ 9223372036854775807
  b : RdB w c.v c.b
def RdCl (w : World) (v : Value) (cs : List Cl) : Prop := Rd w 3 v cs.length (cs.flatMap Cl.cells) ∧ ∀ c ∈ cs, c.ok w

theorem flatMap_cells_length (cs : List Cl) : (cs.flatMap Cl.cells).length = cs.length * 3 := by
  induction cs with
  | nil => rfl
  | cons c cs ih => rw [List.flatMap_cons, List.length_append, ih]; simp [Cl.cells]; omega
theorem flatMap_cells_get (cs : List Cl) : ∀ (k : Nat) (hk : k < cs.length) (j : Nat), j < 3 → (cs.flatMap Cl.cells)[k * 3 + j]? = (cs[k]).cells[j]? := by
  induction cs with
  | nil => intro k hk; simp at hk
  | cons c cs ih =>
    intro k hk j hj
    rw [List.flatMap_cons]
    cases k with
    | zero => rw [List.getElem?_append_left (by simp [Cl.cells]; omega)]; simp
    | succ k =>
      rw [List.getElem?_append_right (by simp [Cl.cells]; omega)]
      simp only [List.getElem_cons_succ]
      rw [← ih k (by simpa using hk) j hj]
      congr 1
      simp [Cl.cells]; omega

theorem rdCl_of {H : Type} {enc : TypeId × Value → H} {w : World} {base : Nat} {spare : Nat → Bool} {held : Bool} {fuel : Nat} {v : Value} {x : DataW H × List MemPlace}
    (h : DataW.trod enc Try.prog w base spare held fuel 37 [v] = some x) : ∃ cs, RdCl w v cs ∧ cs.length ≤ maxLen := by
  obtain ⟨rs, hr, hm, hrs⟩ := rows_of Try.underlying37 Try.underlying42 (by kernel_rfl) (by decide) (by kernel_rfl) h
  obtain ⟨cs, hcs, hp⟩ := pairs_of (R := fun (r : List Value) (c : Cl) => r = c.cells ∧ c.ok w) rs fun r hrm => by
    obtain ⟨hl, hf⟩ := hrs r hrm
    obtain ⟨u0, n0, y0, e0, t0⟩ := hf 0 _ rfl
    obtain ⟨u1, n1, y1, e1, t1⟩ := hf 1 _ rfl
    obtain ⟨u2, n2, y2, e2, t2⟩ := hf 2 _ rfl
    obtain ⟨a, ha, _, wa⟩ := DataW.trod_int Try.underlying3 t0
    obtain ⟨b, hb, _, wb⟩ := DataW.trod_int Try.underlying3 t1
    obtain ⟨l, hl2, _⟩ := rdB_of Try.underlying30 Try.underlying5 (by kernel_rfl) t2
    injection ha with ha; injection hb with hb
    subst ha; subst hb
    refine ⟨⟨a, b, u2, l⟩, ?_, ⟨(wf_i64 wa).1, (wf_i64 wa).2, (wf_i64 wb).1, (wf_i64 wb).2, hl2⟩⟩
    match r, hl with
    | [r0, r1, r2], _ =>
      simp at e0 e1 e2
      subst e0; subst e1; subst e2
      rfl
  subst hcs
  rw [List.length_map] at hr hm
  refine ⟨cs.map (·.2), ⟨?_, fun c hc => ?_⟩, by simpa using hm⟩
  · have he : (cs.map (·.2)).flatMap Cl.cells = (cs.map (·.1)).flatten := by
      rw [List.flatMap_def, List.map_map]
      congr 1
      refine List.map_congr_left fun p hpm => ?_
      exact (hp p hpm).1.symm
    rw [he, List.length_map]
    exact hr
  · simp only [List.mem_map] at hc
    obtain ⟨p, hpm, rfl⟩ := hc
    exact (hp p hpm).2

theorem spend_keeps {s : Dk} (h : s.ok) {k : Nat} (hk : s.ops ≤ k) (hk2 : k < 1000) : s.spend.1.ok ∧ s.spend.1.ops ≤ k + 1 := by
  obtain ⟨o1, o2, o3, o4, o5⟩ := h
  unfold Dk.spend
  (repeat' split)
  · exact ⟨⟨o1, o2, o3, by simp, o5⟩, by simp; omega⟩
  · exact ⟨⟨o1, o2, o3, by simp; omega, by simp; omega⟩, by simp; omega⟩
  · exact ⟨⟨o1, o2, o3, o4, o5⟩, by simp; omega⟩
  · exact ⟨⟨o1, o2, o3, o4, by simp; omega⟩, by simp; omega⟩
theorem sync_keeps {s : Dk} (h : s.ok) {k : Nat} (hk : s.ops ≤ k) (hk2 : k < 1000) : s.sync.1.ok ∧ s.sync.1.ops ≤ k + 1 := by
  have hs := spend_keeps h hk hk2
  unfold Dk.sync
  (repeat' split)
  · exact ⟨h, by show s.ops ≤ k + 1; omega⟩
  · obtain ⟨⟨o1, o2, o3, o4, o5⟩, h2⟩ := hs
    exact ⟨⟨o1, o2, by simp [spend_b], o4, o5⟩, h2⟩
  · exact hs
theorem append_keeps {s : Dk} (h : s.ok) {k : Nat} (hk : s.ops ≤ k) (hk2 : k < 1000) (l : List UInt8) : (s.append l).1.ok ∧ (s.append l).1.ops ≤ k + 1 := by
  have hs := spend_keeps h hk hk2
  have hr := spend_ok s
  unfold Dk.append
  (repeat' split)
  · exact ⟨h, by show s.ops ≤ k + 1; omega⟩
  · exact ⟨h, by show s.ops ≤ k + 1; omega⟩
  all_goals
    obtain ⟨⟨o1, o2, o3, o4, o5⟩, h2⟩ := hs
    rw [spend_b] at o3
    exact ⟨⟨o1, by simp; omega, by simp; omega, o4, o5⟩, h2⟩
theorem crash_keeps {s : Dk} (h : s.ok) (p : Int) : (s.crash p).ok := by
  obtain ⟨o1, o2, o3, o4, o5⟩ := h
  have := pick_le s p
  exact ⟨o1, by simp [Dk.crash]; omega, by simp [Dk.crash]; omega, by simp [Dk.crash], o5⟩

theorem addr_of_cell {w : World} {a : Addr} {v : Value} (h : w.cell? a = some v) : a = ⟨a.block, a.off, none⟩ := by
  obtain ⟨b, o, sp⟩ := a
  cases sp with
  | none => rfl
  | some x =>
    unfold World.cell? at h
    split at h
    · simp at h
    · cases h

/-- The three cells of the k-th call, in a later world. -/
theorem cells_of_call {w wr : World} {ad : Addr} {cs : List Cl} {k : Nat} (hk : k < cs.length) (hr : (0 < cs.length → ad.block < w.heap.size) ∧ ∀ (j : Nat) (u : Value), (cs.flatMap Cl.cells)[j]? = some u → w.cell? (ad.add j) = some u) (hch : Chg [] w wr) :
    ∃ b o, b < w.heap.size ∧ ad.add (k * 3) = ⟨b, o, none⟩ ∧ wr.cell? ⟨b, o, none⟩ = some (.int .i64 cs[k].kind) ∧ wr.cell? ⟨b, o + 1, none⟩ = some (.int .i64 cs[k].n) ∧ wr.cell? ⟨b, o + 2, none⟩ = some cs[k].v := by
  have hb := hr.1 (by omega)
  have hg : ∀ j, j < 3 → wr.cell? (ad.add (k * 3 + j)) = cs[k].cells[j]? := by
    intro j hj
    rw [hch.cell (by rw [block_of_add]; exact hb) (by simp), ← flatMap_cells_get cs k hk j hj]
    have hlt : k * 3 + j < (cs.flatMap Cl.cells).length := by rw [flatMap_cells_length]; omega
    rw [List.getElem?_eq_getElem hlt]
    exact hr.2 _ _ (List.getElem?_eq_getElem hlt)
  have h0 := hg 0 (by omega)
  have h1 := hg 1 (by omega)
  have h2 := hg 2 (by omega)
  have e0 : ad.add (k * 3) = ⟨(ad.add (k * 3)).block, (ad.add (k * 3)).off, none⟩ := addr_of_cell (w := wr) (v := .int .i64 cs[k].kind) (by rw [← Nat.add_zero (k * 3), h0]; rfl)
  rw [Nat.add_zero] at h0
  rw [← add_of_add] at h1 h2
  generalize (ad.add (k * 3)).block = b at e0
  generalize (ad.add (k * 3)).off = o at e0
  rw [e0] at h0 h1 h2
  have hb' : b < w.heap.size := by rw [← block_of_add ad (k * 3), e0] at hb; exact hb
  exact ⟨b, o, hb', e0, h0, h1, h2⟩

set_option linter.unusedSimpArgs false
set_option maxRecDepth 100000 in
set_option maxHeartbeats 8000000 in
theorem diskPlays_any (w : World) (room : Int) (hr1 : -9223372036854775808 ≤ room) (hr2 : room ≤ 9223372036854775807) (vc : Value) (cs : List Cl) (hc : RdCl w vc cs) (_ : cs.length ≤ maxLen) :
    Calls Try.prog 5 #[.int .i64 room, vc] w fun e w' => e = .returned (.bool true) ∧ Chg [] w w' := by
  obtain ⟨⟨hlen, A, c, rfl, hac, h0, hrd⟩, hcs⟩ := hc
  by_cases hbad : room < 1 ∨ 16777216 < room
  · go_enter Try.func5, Try.ntmps5
    go_wp2_with fail
    refine (known_any _).mono ?_
    rintro e w1 ⟨rfl, hc1⟩
    go_wp2_with fail
    refine (new_bad room _ hbad).mono ?_
    rintro e w2 ⟨rfl, rfl⟩
    go_wp2_with fail
    refine (rnew_bad room _ hbad).mono ?_
    rintro e w2 ⟨rfl, rfl⟩
    go_wp2
    refine wp_loop_rounds 1 ?_
    rw [rounds_succ]
    go_wp2
    go_ret
    exact ⟨rfl, hc1⟩
  · go_enter Try.func5, Try.ntmps5
    go_wp2_with fail
    refine (known_any _).mono ?_
    rintro e w1 ⟨rfl, hc1⟩
    go_wp2_with fail
    refine (new_ok room _ (by omega) (by omega)).mono ?_
    rintro e w2 ⟨g, rfl, hg, hd, hc2⟩
    go_wp2_with fail
    refine (rnew_ok room _ (by omega) (by omega)).mono ?_
    rintro e w3 ⟨r, rfl, hr, hx, hc3⟩
    have hd3 := hd.chg hc3 (by simp) (by simp)
    have hgr : g ≠ r := by have := hd.1.lt; omega
    have hw1 := hc1.size
    have hw2 := hc2.size
    have hc13 := (hc1.trans hc2 (by simp)).trans hc3 (by simp)
    go_wp2_with fail
    go_loopw [9] (fun i wr => ∃ k : Nat, k ≤ cs.length ∧ k ≤ 100 ∧ i = .int .i64 k ∧ ∃ (v u : Value) (s : Dk), s.ok ∧ s.ops ≤ k ∧ DkAt wr g v s ∧ RkAt wr r u s ∧ Chg [] w wr ∧ (∀ k, v.ownBlock = some k → w.heap.size ≤ k) ∧ (∀ k, u.ownBlock = some k → w.heap.size ≤ k) ∧ (∀ k, v.ownBlock = some k → u.ownBlock ≠ some k)) (fun i _ => 100 - (intOf i).toNat)
    case atStart => exact ⟨0, Nat.zero_le _, Nat.zero_le _, rfl, _, _, Dk.new room.toNat, Dk.new_ok _ (by omega), Nat.zero_le _, hd3, hx, hc13, by simp [Value.ownBlock], by simp [Value.ownBlock], by simp [Value.ownBlock]⟩
    case round =>
      clear hd hd3 hx hc13
      obtain ⟨k, hk, hk100, rfl, v, u, s, hok, hops, hdk, hrk, hch, hvb, hub, hvu⟩ := hrel
      by_cases hlt : k < cs.length ∧ k < 100
      · obtain ⟨hlt1, hlt2⟩ := hlt
        have hA : ∃ ad, A = some ad := by
          cases A with
          | none => have := h0 rfl; omega
          | some ad => exact ⟨ad, rfl⟩
        obtain ⟨ad, rfl⟩ := hA
        obtain ⟨cb, co, hcb, hA3, hq0, hq1, hq2⟩ := cells_of_call hlt1 (hrd ad rfl) hch
        have hcok := hcs cs[k] (List.getElem_mem _)
        generalize cs[k] = cl at *
        obtain ⟨kind, n, cv, b⟩ := cl
        obtain ⟨b1, b2, b3, b4, hbr⟩ := hcok
        simp only at hq0 hq1 hq2 b1 b2 b3 b4 hbr
        obtain ⟨A1, c1, hcv, hbc⟩ := hbr.form
        subst hcv
        by_cases hbig : 500 < b.length
        · have hc4 : Chg [] wr (wr.alloc (.cells #[.int .i64 kind, .int .i64 n, .slice A1 b.length c1] 42)) := (Chg.refl [] _).alloc _
          go_wp2_with fail
          go_roundw
          case rel => exact ⟨k + 1, by omega, by omega, by go_num, v, u, s, hok, by omega, hdk.chg hc4 (by simp) (by simp), hrk.chg hc4 (by simp) (by simp), hch.trans hc4 (by simp), hvb, hub, hvu⟩
          case measure => simp [intOf]; omega
        · have hc4 : Chg [] wr (wr.alloc (.cells #[.int .i64 kind, .int .i64 n, .slice A1 b.length c1] 42)) := (Chg.refl [] _).alloc _
          have hB4 := Blk.new wr 42 #[.int .i64 kind, .int .i64 n, .slice A1 b.length c1]
          go_wp2_with fail
          refine (within_any kind 5 _ (by omega) (by omega)).mono ?_
          rintro e w4 ⟨rfl, hw4⟩
          rw [hw4] at hc4 hB4
          clear hw4
          have hj1 := Int.emod_nonneg kind (b := 5) (by omega)
          have hj2 := Int.emod_lt_of_pos kind (b := 5) (by omega)
          generalize kind % 5 = j at *
          have hgl := hdk.1.lt
          have hrl := hrk.1.lt
          have hdk4 := hdk.chg hc4 (by simp) (by simp)
          have hrk4 := hrk.chg hc4 (by simp) (by simp)
          have hch4 := hch.trans hc4 (by simp)
          obtain ⟨C, hC⟩ : ∃ C, C = wr.heap.size := ⟨_, rfl⟩
          rw [← hC] at hB4
          rw [← hC]
          have hCg : C ≠ g := by omega
          have hCr : C ≠ r := by omega
          have hwC : w.heap.size ≤ C := by have := hch.size; omega
          clear hC
          go_upto_block 2 with fail
          go_cut [] (fun wx => ∃ (v' u' : Value) (s' : Dk), s'.ok ∧ s'.ops ≤ k + 1 ∧ DkAt wx g v' s' ∧ RkAt wx r u' s' ∧ Chg [] w wx ∧ (∀ k, v'.ownBlock = some k → w.heap.size ≤ k) ∧ (∀ k, u'.ownBlock = some k → w.heap.size ≤ k) ∧ (∀ k, v'.ownBlock = some k → u'.ownBlock ≠ some k))
          case first =>
            have hsel : j = 0 ∨ j = 1 ∨ j = 2 ∨ j = 3 ∨ j = 4 := by omega
            clear hj1 hj2
            have hCl := hB4.lt
            have hug : ∀ k, u.ownBlock = some k → k ∉ [g] := fun k hk => by have := own_ne hrk4.2 hdk4.1 (by decide) k hk; simpa using this
            have hvr : ∀ k, v.ownBlock = some k → k ∉ [r] := fun k hk => by have := own_ne hdk4.2 hrk4.1 (by decide) k hk; simpa using this
            have hq1 := hB4.cell 1
            have hq2 := hB4.cell 2
            simp at hq1 hq2
            rcases hsel with rfl | rfl | rfl | rfl | rfl
            · have htt : True := trivial
              have hkp := append_keeps hok hops (by omega) b
              have hbr4 : RdB w4 (.slice A1 b.length c1) b := hbr.old hch4
              have hbr0 := hbr.block
              have hE4 : (w4.alloc (.cells #[] 5)).ownsRow 0 5 1 (.slice (some ⟨w4.heap.size, 0, none⟩) 0 0) 0 [] := World.ownsRow_lit w4 #[] 0 (Nat.zero_le _) (by unfold maxLen; omega) (by simp)
              have hal : Chg [] w4 (w4.alloc (.cells #[] 5)) := (Chg.refl [] _).alloc _
              have hbrA : RdB (w4.alloc (.cells #[] 5)) (.slice A1 b.length c1) b := hbr4.old hal
              have hqA : (w4.alloc (.cells #[] 5)).cell? ⟨C, 2, none⟩ = some (.slice A1 b.length c1) := (hal.cell (p := ⟨C, 2, none⟩) hCl (by simp)).trans hq2
              obtain ⟨i0, hi, hz0, hz1, hz2⟩ := info_parts byte_info
              go_upto_region 16 with (at_builtin; refine wpList_append_rd rfl (.tmp 63) (.tmp 65) 30 rfl 5 i0 (.int .u8 0) 1 1 Try.underlying30 hi hz0 hz1 hz2 rfl (by omega) (.slice (some ⟨w4.heap.size, 0, none⟩) 0 0) 0 [] rfl hE4 (.slice A1 b.length c1) b.length (bs b) rfl hbrA (bs_one _) (by unfold maxLen; omega) (by omega) ?_; intro A2 c2 w5 hown5 hc5 hat5; simp only [Nat.zero_add, List.nil_append] at hown5 hat5)
              replace hc5 : Chg [] w4 w5 := hal.trans hc5 (by simp [Value.ownBlock])
              have hmine : ∀ kk, (Value.slice A2 b.length c2).ownBlock = some kk → w4.heap.size ≤ kk := by
                intro kk hkk
                rw [hkk] at hat5
                simp [Value.ownBlock] at hat5
                omega
              replace hown5 : OwnB w5 5 (.slice A2 b.length c2) b := hown5
              clear hat5 hE4 hal hbrA hqA
              have hdk5 := hdk4.chg hc5 (by simp) (by simp)
              have hrk5 := hrk4.chg hc5 (by simp) (by simp)
              have hch5 := hch4.trans hc5 (by simp)
              have hbr5 := hbr4.old hc5
              have hs5 := hc5.size
              have hq25 := (hc5.cell (p := ⟨C, 2, none⟩) hCl (by simp)).trans hq2
              have hvw : ∀ kk, v.ownBlock = some kk → w.heap.size ≤ kk ∧ kk ≠ C ∧ kk ≠ r := fun kk hk => ⟨hvb kk hk, own_ne hdk4.2 hB4 (by decide) kk hk, by have := hvr kk hk; simpa using this⟩
              have hCn : C ∉ g :: v.ownBlock.toList := by
                intro hm
                rcases List.mem_cons.1 hm with h | h
                · exact hCg h
                · exact (hvw C (by simpa using h)).2.1 rfl
              have hrn : r ∉ g :: v.ownBlock.toList := by
                intro hm
                rcases List.mem_cons.1 hm with h | h
                · exact hgr h.symm
                · exact (hvw r (by simpa using h)).2.2 rfl
              have hun : ∀ kk, u.ownBlock = some kk → kk ∉ g :: v.ownBlock.toList := by
                intro kk hk hm
                rcases List.mem_cons.1 hm with h | h
                · exact hug kk hk (by simp [h])
                · exact hvu kk (by simpa using h) hk
              have hbn : 0 < b.length → ∀ kk, (Value.slice A1 b.length c1).ownBlock = some kk → kk ∉ g :: v.ownBlock.toList := by
                intro hp kk hk hm
                have := hbr0 hp kk hk
                rcases List.mem_cons.1 hm with h | h
                · omega
                · have := (hvw kk (by simpa using h)).1; omega
              refine wp_region_held_drew (S := (fun w' => w'.cell? ⟨C, 2, none⟩ = some (.slice A1 b.length c1))) (by kernel_rfl) (by first | exact hq25 | exact hq6 | exact hq7) (fun hHeld => ?_)
              refine wpAnyH_take (i := 0) (oi := { dst := some 67, op := Go.Op.move (Go.Operand.tmp 5), type := 25, pos := "law.go:54", after := #[], guard := none }) (v := ?_) rfl (by kernel_rfl) (by kernel_rfl) (by kernel_rfl) (fun _ _ _ h => h) (Or.inl ⟨by rfl, ?_⟩) (by assumption) ?_
              rotate_left 1
              focus (intro w hSw; (try dsimp only at hSw); go_simp; (try with_reducible rfl))
              try simp only [Act.put, List.setIfInBounds_toArray, List.set_cons_zero, List.set_cons_succ]
              refine wpAnyH_take (i := 1) (oi := { dst := some 68, op := Go.Op.move (Go.Operand.tmp 11), type := 30, pos := "law.go:54", after := #[], guard := none }) (v := ?_) rfl (by kernel_rfl) (by kernel_rfl) (by kernel_rfl) (fun _ _ _ h => h) (Or.inl ⟨by rfl, ?_⟩) (by assumption) ?_
              rotate_left 1
              focus (intro w hSw; (try dsimp only at hSw); go_simp; (try with_reducible rfl))
              try simp only [Act.put, List.setIfInBounds_toArray, List.set_cons_zero, List.set_cons_succ]
              refine wpAnyH_take (i := 3) (oi := { dst := some 70, op := Go.Op.move (Go.Operand.tmp 7), type := 38, pos := "law.go:54", after := #[], guard := none }) (v := ?_) rfl (by kernel_rfl) (by kernel_rfl) (by kernel_rfl) (fun _ _ _ h => h) (Or.inl ⟨by rfl, ?_⟩) (by assumption) ?_
              rotate_left 1
              focus (intro w hSw; (try dsimp only at hSw); go_simp; (try with_reducible rfl))
              try simp only [Act.put, List.setIfInBounds_toArray, List.set_cons_zero, List.set_cons_succ]
              refine wpAnyH_take (i := 4) (oi := { dst := some 71, op := Go.Op.fieldAddr 42 (Go.Operand.tmp 10) 2, type := 0, pos := "law.go:54", after := #[], guard := none }) (v := ?_) rfl (by kernel_rfl) (by kernel_rfl) (by kernel_rfl) (fun _ _ _ h => h) (Or.inl ⟨by rfl, ?_⟩) (by assumption) ?_
              rotate_left 1
              focus (intro w hSw; (try dsimp only at hSw); go_simp; (try with_reducible rfl))
              try simp only [Act.put, List.setIfInBounds_toArray, List.set_cons_zero, List.set_cons_succ]
              refine wpAnyH_take (i := 5) (oi := { dst := some 72, op := Go.Op.load 30 (Go.Operand.tmp 71), type := 30, pos := "law.go:54", after := #[{ on := 4, ground := Go.Ground.data }], guard := none }) (v := ?_) rfl (by kernel_rfl) (by kernel_rfl) (by kernel_rfl) (fun _ _ _ h => h) (Or.inl ⟨by rfl, ?_⟩) (by assumption) ?_
              rotate_left 1
              focus (intro w hSw; (try dsimp only at hSw); go_simp; (try with_reducible rfl))
              try simp only [Act.put, List.setIfInBounds_toArray, List.set_cons_zero, List.set_cons_succ]
              refine wpAnyH_ready (rs := [2]) (by kernel_rfl) (by simp) ?_
              refine AllReadyH.cons (o := { dst := some 69, op := Go.Op.call { callee := Go.Callee.value (Go.Operand.func 14), args := #[Go.Operand.tmp 67, Go.Operand.tmp 68], argTypes := #[25, 30] }, type := 26, pos := "law.go:54", after := #[{ on := 0, ground := Go.Ground.data }, { on := 1, ground := Go.Ground.data }], guard := none }) rfl (fun K hK => ?_) AllReadyH.nil
              go_simp
              refine (append_any g v (.slice A2 b.length c2) b s _ (by exact hdk5) hok (by exact hown5.rd) (fun _ kk hkk => by have := hmine kk hkk; have := hdk4.1.lt; omega) (by omega)).mono ?_
              rintro e w6 ⟨v', rfl, hdk6, hc6, hv6⟩
              have hq6 := (hc6.cell (p := ⟨C, 2, none⟩) (by simp; omega) hCn).trans hq25
              have hrk6 := (show RkAt w5.drew r u s from hrk5).chg hc6 hrn hun
              have hbr6 := RdB.chg (show RdB w5.drew (.slice A1 b.length c1) b from hbr5) hc6 hbn
              go_wp2_with fail
              refine hK.out _ _ (by (try dsimp only); first | exact hq25 | exact hq6 | exact hq7) (fun hHeld => ?_)
              clear hK K
              try simp only [Act.put, List.setIfInBounds_toArray, List.set_cons_zero, List.set_cons_succ]
              refine wpAnyH_ready (rs := [6]) (by kernel_rfl) (by simp) ?_
              refine AllReadyH.cons (o := { dst := some 73, op := Go.Op.call { callee := Go.Callee.value (Go.Operand.func 19), args := #[Go.Operand.tmp 70, Go.Operand.tmp 72], argTypes := #[38, 30] }, type := 3, pos := "law.go:54", after := #[{ on := 3, ground := Go.Ground.data }, { on := 5, ground := Go.Ground.data }, { on := 2, ground := Go.Ground.chain }], guard := none }) rfl (fun K hK => ?_) AllReadyH.nil
              go_simp
              refine (rappend_any r u (.slice A1 b.length c1) b s _ (by exact hrk6) hok (by exact hbr6) (fun hp kk hkk => by have := hbr0 hp kk hkk; omega) (by omega)).mono ?_
              rintro e w7 ⟨u', rfl, hrk7, hc7, hu7⟩
              have hq7 := (hc7.cell (p := ⟨C, 2, none⟩) (by have := hc6.size; simp at this ⊢; omega) (by simp; omega)).trans hq6
              go_wp2_with fail
              refine hK.out _ _ (by (try dsimp only); first | exact hq25 | exact hq6 | exact hq7) (fun hHeld => ?_)
              clear hK K
              try simp only [Act.put, List.setIfInBounds_toArray, List.set_cons_zero, List.set_cons_succ]
              refine wpAnyH_take (i := 7) (oi := { dst := some 74, op := Go.Op.binOp Go.BinOp.neq 3 (Go.Operand.tmp 69) (Go.Operand.tmp 73) 3, type := 4, pos := "law.go:54", after := #[{ on := 2, ground := Go.Ground.data }, { on := 6, ground := Go.Ground.data }], guard := none }) (v := ?_) rfl (by kernel_rfl) (by kernel_rfl) (by kernel_rfl) (fun _ _ _ h => h) (Or.inl ⟨by rfl, ?_⟩) (by assumption) ?_
              rotate_left 1
              focus (intro w hSw; (try dsimp only at hSw); go_simp; (try with_reducible rfl))
              try simp only [Act.put, List.setIfInBounds_toArray, List.set_cons_zero, List.set_cons_succ]
              refine wpAnyH_done (by kernel_rfl) ?_ _
              have hfin7 := (hch5.drew.trans hc6 (by intro x hx; rcases List.mem_cons.1 hx with h | h; exact .inr (by omega); exact .inr (hvw x (by simpa using h)).1)).trans hc7 (by simp; omega)
              have hvr' : ∀ kk, v'.ownBlock = some kk → kk ≠ r := fun kk hk => own_ne hdk6.2 hrk6.1 (by decide) kk hk
              have hdk7 := hdk6.chg hc7 (by simp; omega) (fun kk hk => by have := hvr' kk hk; simpa using this)
              have hvb7 : ∀ kk, v'.ownBlock = some kk → w.heap.size ≤ kk := fun kk hk => by
                rcases hv6 with h | h
                · exact hvb kk (by rw [← h]; exact hk)
                · have := h kk hk; simp at this; omega
              have hub7 : ∀ kk, u'.ownBlock = some kk → w.heap.size ≤ kk := fun kk hk => by
                rcases hu7 with h | h
                · exact hub kk (by rw [← h]; exact hk)
                · have := h kk hk; have := hc6.size; simp at this; omega
              have hdl := hdk4.1.lt
              have hmlt : ∀ kk, (Value.slice A2 b.length c2).ownBlock = some kk → kk < w5.heap.size := fun kk hk => (hown5.lt kk hk).2
              have hvl : ∀ kk, v.ownBlock = some kk → kk < w4.heap.size := fun kk hk => (hdk4.2.lt kk hk).2
              have hul : ∀ kk, u.ownBlock = some kk → kk < w4.heap.size := fun kk hk => (hrk4.2.lt kk hk).2
              have hrl4 := hrk4.1.lt
              have hown7 : w7.ownsRow 0 5 1 (.slice A2 b.length c2) b.length (bs b) := by
                refine own_chg (own_chg (show w5.drew.ownsRow 0 5 1 (.slice A2 b.length c2) b.length (bs b) from hown5) hc6 ?_) hc7 ?_
                · intro kk hk hm
                  have := hmine kk hk
                  rcases List.mem_cons.1 hm with h | h
                  · omega
                  · have := hvl kk (by simpa using h); omega
                · intro kk hk hm
                  have := hmine kk hk
                  simp at hm
                  omega
              have hv7l : ∀ kk, v'.ownBlock = some kk → ∀ mm, (Value.slice A2 b.length c2).ownBlock = some mm → kk ≠ mm := by
                intro kk hk mm hmm
                have h1 := hmine mm hmm
                have h2 := hmlt mm hmm
                rcases hv6 with h | h
                · have := hvl kk (by rw [← h]; exact hk); omega
                · have := h kk hk; simp at this; omega
              have hu7l : ∀ kk, u'.ownBlock = some kk → ∀ mm, (Value.slice A2 b.length c2).ownBlock = some mm → kk ≠ mm := by
                intro kk hk mm hmm
                have h1 := hmine mm hmm
                have h2 := hmlt mm hmm
                rcases hu7 with h | h
                · have := hul kk (by rw [← h]; exact hk); omega
                · have := h kk hk; have := hc6.size; simp at this; omega
              have hvu7 : ∀ kk, v'.ownBlock = some kk → u'.ownBlock ≠ some kk := by
                intro kk hk hk2
                have h2 : kk < w6.heap.size := (hdk6.2.lt kk hk).2
                rcases hu7 with h | h
                · rcases hv6 with h1 | h1
                  · exact hvu kk (by rw [← h1]; exact hk) (by rw [← h]; exact hk2)
                  · have h3 := h1 kk hk; have h4 := hul kk (by rw [← h]; exact hk2); simp at h3; omega
                · have := h kk hk2; omega
              generalize (s.append b).2 = q2 at *
              generalize (s.append b).1 = s2 at *
              go_wp2_with fail
              clear hq6 hq7 hrk6 hbr6 hdk6 hrk5 hdk5 hbr5 hbr4 hown5 hc5
              go_loopw [12] (fun i wl => ∃ q : Nat, q ≤ b.length ∧ i = .int .i64 q ∧ ∃ xs, wl.ownsRow 0 5 1 (.slice A2 b.length c2) b.length xs ∧ Chg (Value.slice A2 b.length c2).ownBlock.toList w7 wl) (fun i _ => b.length - (intOf i).toNat)
              case atStart => exact ⟨0, Nat.zero_le _, rfl, _, hown7, Chg.refl _ _⟩
              case round =>
                obtain ⟨q, hq, rfl, xs, hox, hcx⟩ := hrel
                by_cases hql : q < b.length
                · have hA2 : ∃ gm, A2 = some ⟨gm, 0, none⟩ := by
                    obtain ⟨gm, cap, he, _⟩ := hox.form (by omega)
                    injection he with he
                    exact ⟨gm, he⟩
                  obtain ⟨gm, rfl⟩ := hA2
                  have hcl := hox.cellAt q (by omega)
                  have hfz := hox.frozenAt q
                  have hxl := hox.1
                  rw [List.getElem?_eq_getElem (by omega)] at hcl
                  have hst := hox.stored q (.int .u8 238)
                  have HST := Lib.hid hst; clear hst
                  go_wp2
                  go_roundw
                  case rel => exact ⟨q + 1, by omega, by go_num, _, HST.out.1, hcx.setCell (.inl (by simp [Value.ownBlock])) _⟩
                  case measure => simp [intOf]; omega
                · go_wp2
                  go_meet
                  have hF : ∀ z, (∀ mm, (Value.slice A2 b.length c2).ownBlock = some mm → z ≠ mm) → z ∉ (Value.slice A2 b.length c2).ownBlock.toList := fun z hz hm => hz z (by simpa using hm) rfl
                  refine ⟨v', u', s2, hkp.1, hkp.2, hdk7.chg hcx (hF g ?_) (fun kk hk => hF kk (hv7l kk hk)), hrk7.chg hcx (hF r ?_) (fun kk hk => hF kk (hu7l kk hk)), hfin7.trans hcx ?_, hvb7, hub7, hvu7⟩
                  · intro mm hmm; have := hmine mm hmm; omega
                  · intro mm hmm; have := hmine mm hmm; omega
                  · intro x hx; have := hmine x (by simpa using hx); have := hch4.size; right; omega
            · have htt : True := trivial
              have hkp := append_keeps hok hops (by omega) b
              have hbr4 : RdB w4 (.slice A1 b.length c1) b := hbr.old hch4
              have hbr0 := hbr.block
              have hE4 : (w4.alloc (.cells #[] 5)).ownsRow 0 5 1 (.slice (some ⟨w4.heap.size, 0, none⟩) 0 0) 0 [] := World.ownsRow_lit w4 #[] 0 (Nat.zero_le _) (by unfold maxLen; omega) (by simp)
              have hal : Chg [] w4 (w4.alloc (.cells #[] 5)) := (Chg.refl [] _).alloc _
              have hbrA : RdB (w4.alloc (.cells #[] 5)) (.slice A1 b.length c1) b := hbr4.old hal
              have hqA : (w4.alloc (.cells #[] 5)).cell? ⟨C, 2, none⟩ = some (.slice A1 b.length c1) := (hal.cell (p := ⟨C, 2, none⟩) hCl (by simp)).trans hq2
              obtain ⟨i0, hi, hz0, hz1, hz2⟩ := info_parts byte_info
              go_upto_region 16 with (at_builtin; refine wpList_append_rd rfl (.tmp 63) (.tmp 65) 30 rfl 5 i0 (.int .u8 0) 1 1 Try.underlying30 hi hz0 hz1 hz2 rfl (by omega) (.slice (some ⟨w4.heap.size, 0, none⟩) 0 0) 0 [] rfl hE4 (.slice A1 b.length c1) b.length (bs b) rfl hbrA (bs_one _) (by unfold maxLen; omega) (by omega) ?_; intro A2 c2 w5 hown5 hc5 hat5; simp only [Nat.zero_add, List.nil_append] at hown5 hat5)
              replace hc5 : Chg [] w4 w5 := hal.trans hc5 (by simp [Value.ownBlock])
              have hmine : ∀ kk, (Value.slice A2 b.length c2).ownBlock = some kk → w4.heap.size ≤ kk := by
                intro kk hkk
                rw [hkk] at hat5
                simp [Value.ownBlock] at hat5
                omega
              replace hown5 : OwnB w5 5 (.slice A2 b.length c2) b := hown5
              clear hat5 hE4 hal hbrA hqA
              have hdk5 := hdk4.chg hc5 (by simp) (by simp)
              have hrk5 := hrk4.chg hc5 (by simp) (by simp)
              have hch5 := hch4.trans hc5 (by simp)
              have hbr5 := hbr4.old hc5
              have hs5 := hc5.size
              have hq25 := (hc5.cell (p := ⟨C, 2, none⟩) hCl (by simp)).trans hq2
              have hvw : ∀ kk, v.ownBlock = some kk → w.heap.size ≤ kk ∧ kk ≠ C ∧ kk ≠ r := fun kk hk => ⟨hvb kk hk, own_ne hdk4.2 hB4 (by decide) kk hk, by have := hvr kk hk; simpa using this⟩
              have hCn : C ∉ g :: v.ownBlock.toList := by
                intro hm
                rcases List.mem_cons.1 hm with h | h
                · exact hCg h
                · exact (hvw C (by simpa using h)).2.1 rfl
              have hrn : r ∉ g :: v.ownBlock.toList := by
                intro hm
                rcases List.mem_cons.1 hm with h | h
                · exact hgr h.symm
                · exact (hvw r (by simpa using h)).2.2 rfl
              have hun : ∀ kk, u.ownBlock = some kk → kk ∉ g :: v.ownBlock.toList := by
                intro kk hk hm
                rcases List.mem_cons.1 hm with h | h
                · exact hug kk hk (by simp [h])
                · exact hvu kk (by simpa using h) hk
              have hbn : 0 < b.length → ∀ kk, (Value.slice A1 b.length c1).ownBlock = some kk → kk ∉ g :: v.ownBlock.toList := by
                intro hp kk hk hm
                have := hbr0 hp kk hk
                rcases List.mem_cons.1 hm with h | h
                · omega
                · have := (hvw kk (by simpa using h)).1; omega
              refine wp_region_held_drew (S := (fun w' => w'.cell? ⟨C, 2, none⟩ = some (.slice A1 b.length c1))) (by kernel_rfl) (by first | exact hq25 | exact hq6 | exact hq7) (fun hHeld => ?_)
              refine wpAnyH_take (i := 0) (oi := { dst := some 67, op := Go.Op.move (Go.Operand.tmp 5), type := 25, pos := "law.go:54", after := #[], guard := none }) (v := ?_) rfl (by kernel_rfl) (by kernel_rfl) (by kernel_rfl) (fun _ _ _ h => h) (Or.inl ⟨by rfl, ?_⟩) (by assumption) ?_
              rotate_left 1
              focus (intro w hSw; (try dsimp only at hSw); go_simp; (try with_reducible rfl))
              try simp only [Act.put, List.setIfInBounds_toArray, List.set_cons_zero, List.set_cons_succ]
              refine wpAnyH_take (i := 1) (oi := { dst := some 68, op := Go.Op.move (Go.Operand.tmp 11), type := 30, pos := "law.go:54", after := #[], guard := none }) (v := ?_) rfl (by kernel_rfl) (by kernel_rfl) (by kernel_rfl) (fun _ _ _ h => h) (Or.inl ⟨by rfl, ?_⟩) (by assumption) ?_
              rotate_left 1
              focus (intro w hSw; (try dsimp only at hSw); go_simp; (try with_reducible rfl))
              try simp only [Act.put, List.setIfInBounds_toArray, List.set_cons_zero, List.set_cons_succ]
              refine wpAnyH_take (i := 3) (oi := { dst := some 70, op := Go.Op.move (Go.Operand.tmp 7), type := 38, pos := "law.go:54", after := #[], guard := none }) (v := ?_) rfl (by kernel_rfl) (by kernel_rfl) (by kernel_rfl) (fun _ _ _ h => h) (Or.inl ⟨by rfl, ?_⟩) (by assumption) ?_
              rotate_left 1
              focus (intro w hSw; (try dsimp only at hSw); go_simp; (try with_reducible rfl))
              try simp only [Act.put, List.setIfInBounds_toArray, List.set_cons_zero, List.set_cons_succ]
              refine wpAnyH_take (i := 4) (oi := { dst := some 71, op := Go.Op.fieldAddr 42 (Go.Operand.tmp 10) 2, type := 0, pos := "law.go:54", after := #[], guard := none }) (v := ?_) rfl (by kernel_rfl) (by kernel_rfl) (by kernel_rfl) (fun _ _ _ h => h) (Or.inl ⟨by rfl, ?_⟩) (by assumption) ?_
              rotate_left 1
              focus (intro w hSw; (try dsimp only at hSw); go_simp; (try with_reducible rfl))
              try simp only [Act.put, List.setIfInBounds_toArray, List.set_cons_zero, List.set_cons_succ]
              refine wpAnyH_take (i := 5) (oi := { dst := some 72, op := Go.Op.load 30 (Go.Operand.tmp 71), type := 30, pos := "law.go:54", after := #[{ on := 4, ground := Go.Ground.data }], guard := none }) (v := ?_) rfl (by kernel_rfl) (by kernel_rfl) (by kernel_rfl) (fun _ _ _ h => h) (Or.inl ⟨by rfl, ?_⟩) (by assumption) ?_
              rotate_left 1
              focus (intro w hSw; (try dsimp only at hSw); go_simp; (try with_reducible rfl))
              try simp only [Act.put, List.setIfInBounds_toArray, List.set_cons_zero, List.set_cons_succ]
              refine wpAnyH_ready (rs := [2]) (by kernel_rfl) (by simp) ?_
              refine AllReadyH.cons (o := { dst := some 69, op := Go.Op.call { callee := Go.Callee.value (Go.Operand.func 14), args := #[Go.Operand.tmp 67, Go.Operand.tmp 68], argTypes := #[25, 30] }, type := 26, pos := "law.go:54", after := #[{ on := 0, ground := Go.Ground.data }, { on := 1, ground := Go.Ground.data }], guard := none }) rfl (fun K hK => ?_) AllReadyH.nil
              go_simp
              refine (append_any g v (.slice A2 b.length c2) b s _ (by exact hdk5) hok (by exact hown5.rd) (fun _ kk hkk => by have := hmine kk hkk; have := hdk4.1.lt; omega) (by omega)).mono ?_
              rintro e w6 ⟨v', rfl, hdk6, hc6, hv6⟩
              have hq6 := (hc6.cell (p := ⟨C, 2, none⟩) (by simp; omega) hCn).trans hq25
              have hrk6 := (show RkAt w5.drew r u s from hrk5).chg hc6 hrn hun
              have hbr6 := RdB.chg (show RdB w5.drew (.slice A1 b.length c1) b from hbr5) hc6 hbn
              go_wp2_with fail
              refine hK.out _ _ (by (try dsimp only); first | exact hq25 | exact hq6 | exact hq7) (fun hHeld => ?_)
              clear hK K
              try simp only [Act.put, List.setIfInBounds_toArray, List.set_cons_zero, List.set_cons_succ]
              refine wpAnyH_ready (rs := [6]) (by kernel_rfl) (by simp) ?_
              refine AllReadyH.cons (o := { dst := some 73, op := Go.Op.call { callee := Go.Callee.value (Go.Operand.func 19), args := #[Go.Operand.tmp 70, Go.Operand.tmp 72], argTypes := #[38, 30] }, type := 3, pos := "law.go:54", after := #[{ on := 3, ground := Go.Ground.data }, { on := 5, ground := Go.Ground.data }, { on := 2, ground := Go.Ground.chain }], guard := none }) rfl (fun K hK => ?_) AllReadyH.nil
              go_simp
              refine (rappend_any r u (.slice A1 b.length c1) b s _ (by exact hrk6) hok (by exact hbr6) (fun hp kk hkk => by have := hbr0 hp kk hkk; omega) (by omega)).mono ?_
              rintro e w7 ⟨u', rfl, hrk7, hc7, hu7⟩
              have hq7 := (hc7.cell (p := ⟨C, 2, none⟩) (by have := hc6.size; simp at this ⊢; omega) (by simp; omega)).trans hq6
              go_wp2_with fail
              refine hK.out _ _ (by (try dsimp only); first | exact hq25 | exact hq6 | exact hq7) (fun hHeld => ?_)
              clear hK K
              try simp only [Act.put, List.setIfInBounds_toArray, List.set_cons_zero, List.set_cons_succ]
              refine wpAnyH_take (i := 7) (oi := { dst := some 74, op := Go.Op.binOp Go.BinOp.neq 3 (Go.Operand.tmp 69) (Go.Operand.tmp 73) 3, type := 4, pos := "law.go:54", after := #[{ on := 2, ground := Go.Ground.data }, { on := 6, ground := Go.Ground.data }], guard := none }) (v := ?_) rfl (by kernel_rfl) (by kernel_rfl) (by kernel_rfl) (fun _ _ _ h => h) (Or.inl ⟨by rfl, ?_⟩) (by assumption) ?_
              rotate_left 1
              focus (intro w hSw; (try dsimp only at hSw); go_simp; (try with_reducible rfl))
              try simp only [Act.put, List.setIfInBounds_toArray, List.set_cons_zero, List.set_cons_succ]
              refine wpAnyH_done (by kernel_rfl) ?_ _
              have hfin7 := (hch5.drew.trans hc6 (by intro x hx; rcases List.mem_cons.1 hx with h | h; exact .inr (by omega); exact .inr (hvw x (by simpa using h)).1)).trans hc7 (by simp; omega)
              have hvr' : ∀ kk, v'.ownBlock = some kk → kk ≠ r := fun kk hk => own_ne hdk6.2 hrk6.1 (by decide) kk hk
              have hdk7 := hdk6.chg hc7 (by simp; omega) (fun kk hk => by have := hvr' kk hk; simpa using this)
              have hvb7 : ∀ kk, v'.ownBlock = some kk → w.heap.size ≤ kk := fun kk hk => by
                rcases hv6 with h | h
                · exact hvb kk (by rw [← h]; exact hk)
                · have := h kk hk; simp at this; omega
              have hub7 : ∀ kk, u'.ownBlock = some kk → w.heap.size ≤ kk := fun kk hk => by
                rcases hu7 with h | h
                · exact hub kk (by rw [← h]; exact hk)
                · have := h kk hk; have := hc6.size; simp at this; omega
              have hdl := hdk4.1.lt
              have hmlt : ∀ kk, (Value.slice A2 b.length c2).ownBlock = some kk → kk < w5.heap.size := fun kk hk => (hown5.lt kk hk).2
              have hvl : ∀ kk, v.ownBlock = some kk → kk < w4.heap.size := fun kk hk => (hdk4.2.lt kk hk).2
              have hul : ∀ kk, u.ownBlock = some kk → kk < w4.heap.size := fun kk hk => (hrk4.2.lt kk hk).2
              have hrl4 := hrk4.1.lt
              have hown7 : w7.ownsRow 0 5 1 (.slice A2 b.length c2) b.length (bs b) := by
                refine own_chg (own_chg (show w5.drew.ownsRow 0 5 1 (.slice A2 b.length c2) b.length (bs b) from hown5) hc6 ?_) hc7 ?_
                · intro kk hk hm
                  have := hmine kk hk
                  rcases List.mem_cons.1 hm with h | h
                  · omega
                  · have := hvl kk (by simpa using h); omega
                · intro kk hk hm
                  have := hmine kk hk
                  simp at hm
                  omega
              have hv7l : ∀ kk, v'.ownBlock = some kk → ∀ mm, (Value.slice A2 b.length c2).ownBlock = some mm → kk ≠ mm := by
                intro kk hk mm hmm
                have h1 := hmine mm hmm
                have h2 := hmlt mm hmm
                rcases hv6 with h | h
                · have := hvl kk (by rw [← h]; exact hk); omega
                · have := h kk hk; simp at this; omega
              have hu7l : ∀ kk, u'.ownBlock = some kk → ∀ mm, (Value.slice A2 b.length c2).ownBlock = some mm → kk ≠ mm := by
                intro kk hk mm hmm
                have h1 := hmine mm hmm
                have h2 := hmlt mm hmm
                rcases hu7 with h | h
                · have := hul kk (by rw [← h]; exact hk); omega
                · have := h kk hk; have := hc6.size; simp at this; omega
              have hvu7 : ∀ kk, v'.ownBlock = some kk → u'.ownBlock ≠ some kk := by
                intro kk hk hk2
                have h2 : kk < w6.heap.size := (hdk6.2.lt kk hk).2
                rcases hu7 with h | h
                · rcases hv6 with h1 | h1
                  · exact hvu kk (by rw [← h1]; exact hk) (by rw [← h]; exact hk2)
                  · have h3 := h1 kk hk; have h4 := hul kk (by rw [← h]; exact hk2); simp at h3; omega
                · have := h kk hk2; omega
              generalize (s.append b).2 = q2 at *
              generalize (s.append b).1 = s2 at *
              go_wp2_with fail
              clear hq6 hq7 hrk6 hbr6 hdk6 hrk5 hdk5 hbr5 hbr4 hown5 hc5
              go_loopw [12] (fun i wl => ∃ q : Nat, q ≤ b.length ∧ i = .int .i64 q ∧ ∃ xs, wl.ownsRow 0 5 1 (.slice A2 b.length c2) b.length xs ∧ Chg (Value.slice A2 b.length c2).ownBlock.toList w7 wl) (fun i _ => b.length - (intOf i).toNat)
              case atStart => exact ⟨0, Nat.zero_le _, rfl, _, hown7, Chg.refl _ _⟩
              case round =>
                obtain ⟨q, hq, rfl, xs, hox, hcx⟩ := hrel
                by_cases hql : q < b.length
                · have hA2 : ∃ gm, A2 = some ⟨gm, 0, none⟩ := by
                    obtain ⟨gm, cap, he, _⟩ := hox.form (by omega)
                    injection he with he
                    exact ⟨gm, he⟩
                  obtain ⟨gm, rfl⟩ := hA2
                  have hcl := hox.cellAt q (by omega)
                  have hfz := hox.frozenAt q
                  have hxl := hox.1
                  rw [List.getElem?_eq_getElem (by omega)] at hcl
                  have hst := hox.stored q (.int .u8 238)
                  have HST := Lib.hid hst; clear hst
                  go_wp2
                  go_roundw
                  case rel => exact ⟨q + 1, by omega, by go_num, _, HST.out.1, hcx.setCell (.inl (by simp [Value.ownBlock])) _⟩
                  case measure => simp [intOf]; omega
                · go_wp2
                  go_meet
                  have hF : ∀ z, (∀ mm, (Value.slice A2 b.length c2).ownBlock = some mm → z ≠ mm) → z ∉ (Value.slice A2 b.length c2).ownBlock.toList := fun z hz hm => hz z (by simpa using hm) rfl
                  refine ⟨v', u', s2, hkp.1, hkp.2, hdk7.chg hcx (hF g ?_) (fun kk hk => hF kk (hv7l kk hk)), hrk7.chg hcx (hF r ?_) (fun kk hk => hF kk (hu7l kk hk)), hfin7.trans hcx ?_, hvb7, hub7, hvu7⟩
                  · intro mm hmm; have := hmine mm hmm; omega
                  · intro mm hmm; have := hmine mm hmm; omega
                  · intro x hx; have := hmine x (by simpa using hx); have := hch4.size; right; omega
            · have hkp := sync_keeps hok hops (by omega)
              go_wp2_with fail
              refine (sync_any g v s _ hdk4 hok).mono ?_
              rintro e w5 ⟨rfl, hdk5, hc5⟩
              go_wp2_with fail
              refine (rsync_any r u s _ (hrk4.chg hc5 (by simp; omega) hug) hok).mono ?_
              rintro e w6 ⟨rfl, hrk6, hc6⟩
              have hfin := (hch4.trans hc5 (by simp; omega)).trans hc6 (by simp; omega)
              have hdk6 := hdk5.chg hc6 (by simp; omega) hvr
              generalize s.sync.2 = q at *
              generalize s.sync.1 = s1 at *
              go_wp2
              go_meet
              exact ⟨v, u, s1, hkp.1, hkp.2, hdk6, hrk6, hfin, hvb, hub, hvu⟩
            · have hkp : (s.stop n).ok := ⟨hok.1, hok.2.1, hok.2.2.1, by simp [Dk.stop]; omega, hok.2.2.2.2⟩
              go_wp2_with fail
              refine (stop_any g v s n _ hdk4).mono ?_
              rintro e w5 ⟨rfl, hdk5, hc5⟩
              have hq5 := (hc5.cell (p := ⟨C, 1, none⟩) hCl (by simp; omega)).trans hq1
              go_wp2_with fail
              refine (rstop_any r u s n _ (hrk4.chg hc5 (by simp; omega) hug)).mono ?_
              rintro e w6 ⟨rfl, hrk6, hc6⟩
              have hfin := (hch4.trans hc5 (by simp; omega)).trans hc6 (by simp; omega)
              have hdk6 := hdk5.chg hc6 (by simp; omega) hvr
              go_wp2
              go_meet
              exact ⟨v, u, s.stop n, hkp, (by show s.ops ≤ k + 1; omega), hdk6, hrk6, hfin, hvb, hub, hvu⟩
            · have hkp := crash_keeps hok n
              have hop : (s.crash n).ops ≤ k + 1 := by show s.ops ≤ k + 1; omega
              go_wp2_with fail
              go_region_held3 (fun w' => w'.cell? ⟨C, 1, none⟩ = some (.int .i64 n)) (first | exact hq1 | exact hq5 | exact hq6)
                (first
                  | (go_at_call 17; refine (crash_any g v s n _ (by exact hdk4) hok).mono ?_; rintro e w5 ⟨v', rfl, hdk5, hc5, hv5⟩; have hCl5 := Nat.lt_of_lt_of_le hCl hc5.size; have hq5 := (hc5.cell (p := ⟨C, 1, none⟩) hCl (by simp; omega)).trans hq1; have hrkD := (show RkAt w4.drew r u s from hrk4).chg hc5 (by simp; omega) hug)
                  | (go_at_call 23; refine (rcrash_any r u s n _ (by exact hrkD) hok).mono ?_; rintro e w6 ⟨u', rfl, hrk6, hc6, hu6⟩; have hq6 := (hc6.cell (p := ⟨C, 1, none⟩) hCl5 (by simp; omega)).trans hq5))
              have hfin := (hch4.drew.trans hc5 (by simp; omega)).trans hc6 (by simp; omega)
              have hvr' : ∀ k, v'.ownBlock = some k → k ∉ [r] := fun k hk => hvr k (by rw [← hv5]; exact hk)
              have hdk6 := hdk5.chg hc6 (by simp; omega) hvr'
              go_wp2
              go_meet
              exact ⟨v', u', s.crash n, hkp, hop, hdk6, hrk6, hfin, fun k hk => hvb k (by rw [← hv5]; exact hk), fun k hk => hub k (by rw [← hu6]; exact hk), fun k hk => by rw [hu6]; exact hvu k (by rw [← hv5]; exact hk)⟩
          case rest =>
            obtain ⟨v', u', s', hok', hops', hdk', hrk', hch', hvb', hub', hvu'⟩ := hcut
            obtain ⟨_, _, p2, _, p4, p5, _, _, _, _, _⟩ := rkCells hrk'.1
            have hru : RdB wc u' s'.b := hrk'.2.rd
            have hu0 := conv_rd (w := wc.drew) hru 30 5 Try.underlying30 Try.underlying5 9 Try.underlying9
            go_wp2_with fail
            refine wp_region_held_drew (S := (fun w' => w'.cell? ⟨r, 2, none⟩ = some u' ∧ w'.cell? ⟨r, 4, none⟩ = some (.int .i64 s'.ops) ∧ w'.cell? ⟨r, 5, none⟩ = some (.bool s'.dead) ∧ (convert 30 9 u').run Try.prog w' = .ok (.string (strB s'.b)) w')) (by kernel_rfl) (by first | exact ⟨p2, p4, p5, hu0⟩ | exact ⟨p2', p4', p5', hu6⟩) (fun hHeld => ?_)
            refine wpAnyH_take (i := 0) (oi := { dst := some 112, op := Go.Op.move (Go.Operand.tmp 5), type := 25, pos := "law.go:72", after := #[], guard := none }) (v := ?_) rfl (by kernel_rfl) (by kernel_rfl) (by kernel_rfl) (fun _ _ _ h => h) (Or.inl ⟨by rfl, ?_⟩) (by assumption) ?_
            rotate_left 1
            focus (intro w hSw; (try dsimp only at hSw); go_simp; (try with_reducible rfl))
            try simp only [Act.put, List.setIfInBounds_toArray, List.set_cons_zero, List.set_cons_succ]
            refine wpAnyH_take (i := 3) (oi := { dst := some 115, op := Go.Op.move (Go.Operand.tmp 7), type := 38, pos := "law.go:72", after := #[], guard := none }) (v := ?_) rfl (by kernel_rfl) (by kernel_rfl) (by kernel_rfl) (fun _ _ _ h => h) (Or.inl ⟨by rfl, ?_⟩) (by assumption) ?_
            rotate_left 1
            focus (intro w hSw; (try dsimp only at hSw); go_simp; (try with_reducible rfl))
            try simp only [Act.put, List.setIfInBounds_toArray, List.set_cons_zero, List.set_cons_succ]
            refine wpAnyH_take (i := 4) (oi := { dst := some 116, op := Go.Op.nilCheck (Go.Operand.tmp 115), type := 0, pos := "law.go:72", after := #[{ on := 3, ground := Go.Ground.data }], guard := none }) (v := ?_) rfl (by kernel_rfl) (by kernel_rfl) (by kernel_rfl) (fun _ _ _ h => h) (Or.inl ⟨by rfl, ?_⟩) (by assumption) ?_
            rotate_left 1
            focus (intro w hSw; (try dsimp only at hSw); go_simp; (try with_reducible rfl))
            try simp only [Act.put, List.setIfInBounds_toArray, List.set_cons_zero, List.set_cons_succ]
            refine wpAnyH_take (i := 5) (oi := { dst := some 117, op := Go.Op.fieldAddr 47 (Go.Operand.tmp 116) 2, type := 0, pos := "law.go:72", after := #[{ on := 4, ground := Go.Ground.data }], guard := none }) (v := ?_) rfl (by kernel_rfl) (by kernel_rfl) (by kernel_rfl) (fun _ _ _ h => h) (Or.inl ⟨by rfl, ?_⟩) (by assumption) ?_
            rotate_left 1
            focus (intro w hSw; (try dsimp only at hSw); go_simp; (try with_reducible rfl))
            try simp only [Act.put, List.setIfInBounds_toArray, List.set_cons_zero, List.set_cons_succ]
            refine wpAnyH_take (i := 6) (oi := { dst := some 118, op := Go.Op.load 30 (Go.Operand.tmp 117), type := 30, pos := "law.go:72", after := #[{ on := 5, ground := Go.Ground.data }], guard := none }) (v := ?_) rfl (by kernel_rfl) (by kernel_rfl) (by kernel_rfl) (fun _ _ _ h => h) (Or.inl ⟨by rfl, ?_⟩) (by assumption) ?_
            rotate_left 1
            focus (intro w hSw; (try dsimp only at hSw); go_simp; (try with_reducible rfl))
            try simp only [Act.put, List.setIfInBounds_toArray, List.set_cons_zero, List.set_cons_succ]
            refine wpAnyH_take (i := 7) (oi := { dst := some 119, op := Go.Op.convert 30 9 (Go.Operand.tmp 118), type := 9, pos := "law.go:72", after := #[{ on := 6, ground := Go.Ground.data }], guard := none }) (v := ?_) rfl (by kernel_rfl) (by kernel_rfl) (by kernel_rfl) (fun _ _ _ h => h) (Or.inl ⟨by rfl, ?_⟩) (by assumption) ?_
            rotate_left 1
            focus (intro w hSw; (try dsimp only at hSw); go_simp; (try with_reducible rfl))
            try simp only [Act.put, List.setIfInBounds_toArray, List.set_cons_zero, List.set_cons_succ]
            refine wpAnyH_ready (rs := [1]) (by kernel_rfl) (by simp) ?_
            refine AllReadyH.cons (o := { dst := some 113, op := Go.Op.call { callee := Go.Callee.value (Go.Operand.func 15), args := #[Go.Operand.tmp 112], argTypes := #[25] }, type := 30, pos := "law.go:72", after := #[{ on := 0, ground := Go.Ground.data }], guard := none }) rfl (fun K hK => ?_) AllReadyH.nil
            go_simp
            refine (bytes_any g v' s' _ (by exact hdk') hok').mono ?_
            rintro e w5 ⟨v6, rfl, ho6, hc6, hn6⟩
            have hrk6 := (show RkAt wc.drew r u' s' from hrk').chg hc6 (by simp) (by simp)
            have hdk6 := (show DkAt wc.drew g v' s' from hdk').chg hc6 (by simp) (by simp)
            have p2' := (rkCells hrk6.1).c2
            have p4' := (rkCells hrk6.1).c4
            have p5' := (rkCells hrk6.1).c5
            have hu6 := conv_rd hrk6.2.rd 30 5 Try.underlying30 Try.underlying5 9 Try.underlying9
            have hv6 := conv_rd ho6.rd 30 5 Try.underlying30 Try.underlying5 9 Try.underlying9
            go_wp2_with fail
            refine hK.out _ _ (by (try dsimp only); first | exact ⟨p2, p4, p5, hu0⟩ | exact ⟨p2', p4', p5', hu6⟩) (fun hHeld => ?_)
            clear hK K
            try simp only [Act.put, List.setIfInBounds_toArray, List.set_cons_zero, List.set_cons_succ]
            refine wpAnyH_ready (rs := [2]) (by kernel_rfl) (by simp) ?_
            refine AllReadyH.cons (o := { dst := some 114, op := Go.Op.convert 30 9 (Go.Operand.tmp 113), type := 9, pos := "law.go:72", after := #[{ on := 1, ground := Go.Ground.data }], guard := none }) rfl (fun K hK => ?_) AllReadyH.nil
            go_simp
            refine hK.out _ _ (by (try dsimp only); first | exact ⟨p2, p4, p5, hu0⟩ | exact ⟨p2', p4', p5', hu6⟩) (fun hHeld => ?_)
            clear hK K
            try simp only [Act.put, List.setIfInBounds_toArray, List.set_cons_zero, List.set_cons_succ]
            refine wpAnyH_take (i := 8) (oi := { dst := some 120, op := Go.Op.binOp Go.BinOp.neq 9 (Go.Operand.tmp 114) (Go.Operand.tmp 119) 9, type := 4, pos := "law.go:72", after := #[{ on := 2, ground := Go.Ground.data }, { on := 7, ground := Go.Ground.data }], guard := none }) (v := ?_) rfl (by kernel_rfl) (by kernel_rfl) (by kernel_rfl) (fun _ _ _ h => h) (Or.inl ⟨by rfl, ?_⟩) (by assumption) ?_
            rotate_left 1
            focus (intro w hSw; (try dsimp only at hSw); go_simp; (try with_reducible rfl))
            try simp only [Act.put, List.setIfInBounds_toArray, List.set_cons_zero, List.set_cons_succ]
            refine wpAnyH_take (i := 9) (oi := { dst := some 121, op := Go.Op.move (Go.Operand.tmp 120), type := 4, pos := "law.go:72", after := #[{ on := 8, ground := Go.Ground.data }, { on := 1, ground := Go.Ground.chain }], guard := none }) (v := ?_) rfl (by kernel_rfl) (by kernel_rfl) (by kernel_rfl) (fun _ _ _ h => h) (Or.inl ⟨by rfl, ?_⟩) (by assumption) ?_
            rotate_left 1
            focus (intro w hSw; (try dsimp only at hSw); go_simp; (try with_reducible rfl))
            try simp only [Act.put, List.setIfInBounds_toArray, List.set_cons_zero, List.set_cons_succ]
            refine wpAnyH_take (i := 10) (oi := { dst := some 122, op := Go.Op.move (Go.Operand.tmp 5), type := 25, pos := "law.go:72", after := #[{ on := 9, ground := Go.Ground.guard }], guard := some (9, false) }) (v := ?_) rfl (by kernel_rfl) (by kernel_rfl) (by kernel_rfl) (fun _ _ _ h => h) (Or.inl ⟨by rfl, ?_⟩) (by assumption) ?_
            rotate_left 1
            focus (intro w hSw; (try dsimp only at hSw); go_simp; (try with_reducible rfl))
            try simp only [Act.put, List.setIfInBounds_toArray, List.set_cons_zero, List.set_cons_succ]
            refine wpAnyH_take (i := 12) (oi := { dst := some 124, op := Go.Op.move (Go.Operand.tmp 7), type := 38, pos := "law.go:72", after := #[{ on := 9, ground := Go.Ground.guard }], guard := some (9, false) }) (v := ?_) rfl (by kernel_rfl) (by kernel_rfl) (by kernel_rfl) (fun _ _ _ h => h) (Or.inl ⟨by rfl, ?_⟩) (by assumption) ?_
            rotate_left 1
            focus (intro w hSw; (try dsimp only at hSw); go_simp; (try with_reducible rfl))
            try simp only [Act.put, List.setIfInBounds_toArray, List.set_cons_zero, List.set_cons_succ]
            refine wpAnyH_take (i := 13) (oi := { dst := some 125, op := Go.Op.nilCheck (Go.Operand.tmp 124), type := 0, pos := "law.go:72", after := #[{ on := 12, ground := Go.Ground.data }, { on := 9, ground := Go.Ground.guard }], guard := some (9, false) }) (v := ?_) rfl (by kernel_rfl) (by kernel_rfl) (by kernel_rfl) (fun _ _ _ h => h) (Or.inl ⟨by rfl, ?_⟩) (by assumption) ?_
            rotate_left 1
            focus (intro w hSw; (try dsimp only at hSw); go_simp; (try with_reducible rfl))
            try simp only [Act.put, List.setIfInBounds_toArray, List.set_cons_zero, List.set_cons_succ]
            refine wpAnyH_take (i := 14) (oi := { dst := some 126, op := Go.Op.fieldAddr 47 (Go.Operand.tmp 125) 5, type := 0, pos := "law.go:72", after := #[{ on := 13, ground := Go.Ground.data }, { on := 9, ground := Go.Ground.guard }], guard := some (9, false) }) (v := ?_) rfl (by kernel_rfl) (by kernel_rfl) (by kernel_rfl) (fun _ _ _ h => h) (Or.inl ⟨by rfl, ?_⟩) (by assumption) ?_
            rotate_left 1
            focus (intro w hSw; (try dsimp only at hSw); go_simp; (try with_reducible rfl))
            try simp only [Act.put, List.setIfInBounds_toArray, List.set_cons_zero, List.set_cons_succ]
            refine wpAnyH_take (i := 15) (oi := { dst := some 127, op := Go.Op.load 4 (Go.Operand.tmp 126), type := 4, pos := "law.go:72", after := #[{ on := 14, ground := Go.Ground.data }, { on := 9, ground := Go.Ground.guard }], guard := some (9, false) }) (v := ?_) rfl (by kernel_rfl) (by kernel_rfl) (by kernel_rfl) (fun _ _ _ h => h) (Or.inl ⟨by rfl, ?_⟩) (by assumption) ?_
            rotate_left 1
            focus (intro w hSw; (try dsimp only at hSw); go_simp; (try with_reducible rfl))
            try simp only [Act.put, List.setIfInBounds_toArray, List.set_cons_zero, List.set_cons_succ]
            refine wpAnyH_ready (rs := [11]) (by kernel_rfl) (by simp) ?_
            refine AllReadyH.cons (o := { dst := some 123, op := Go.Op.call { callee := Go.Callee.value (Go.Operand.func 24), args := #[Go.Operand.tmp 122], argTypes := #[25] }, type := 4, pos := "law.go:72", after := #[{ on := 10, ground := Go.Ground.data }, { on := 9, ground := Go.Ground.chain }, { on := 9, ground := Go.Ground.guard }], guard := some (9, false) }) rfl (fun K hK => ?_) AllReadyH.nil
            go_simp
            refine (dead_any g v' s' _ (by exact hdk6.1)).mono ?_
            rintro e w7 ⟨rfl, rfl⟩
            go_wp2_with fail
            refine hK.out _ _ (by (try dsimp only); first | exact ⟨p2, p4, p5, hu0⟩ | exact ⟨p2', p4', p5', hu6⟩) (fun hHeld => ?_)
            clear hK K
            try simp only [Act.put, List.setIfInBounds_toArray, List.set_cons_zero, List.set_cons_succ]
            refine wpAnyH_take (i := 16) (oi := { dst := some 128, op := Go.Op.binOp Go.BinOp.neq 4 (Go.Operand.tmp 123) (Go.Operand.tmp 127) 4, type := 4, pos := "law.go:72", after := #[{ on := 11, ground := Go.Ground.data }, { on := 15, ground := Go.Ground.data }, { on := 9, ground := Go.Ground.guard }], guard := some (9, false) }) (v := ?_) rfl (by kernel_rfl) (by kernel_rfl) (by kernel_rfl) (fun _ _ _ h => h) (Or.inl ⟨by rfl, ?_⟩) (by assumption) ?_
            rotate_left 1
            focus (intro w hSw; (try dsimp only at hSw); go_simp; (try with_reducible rfl))
            try simp only [Act.put, List.setIfInBounds_toArray, List.set_cons_zero, List.set_cons_succ]
            refine wpAnyH_take (i := 17) (oi := { dst := some 129, op := Go.Op.pick (Go.Operand.tmp 121) (Go.Operand.const (Go.Value.bool true)) (Go.Operand.tmp 128), type := 4, pos := "law.go:72", after := #[{ on := 9, ground := Go.Ground.data }, { on := 16, ground := Go.Ground.data }], guard := none }) (v := ?_) rfl (by kernel_rfl) (by kernel_rfl) (by kernel_rfl) (fun _ _ _ h => h) (Or.inl ⟨by rfl, ?_⟩) (by assumption) ?_
            rotate_left 1
            focus (intro w hSw; (try dsimp only at hSw); go_simp; (try with_reducible rfl))
            try simp only [Act.put, List.setIfInBounds_toArray, List.set_cons_zero, List.set_cons_succ]
            refine wpAnyH_take (i := 18) (oi := { dst := some 130, op := Go.Op.move (Go.Operand.tmp 129), type := 4, pos := "law.go:72", after := #[{ on := 17, ground := Go.Ground.data }, { on := 11, ground := Go.Ground.chain }], guard := none }) (v := ?_) rfl (by kernel_rfl) (by kernel_rfl) (by kernel_rfl) (fun _ _ _ h => h) (Or.inl ⟨by rfl, ?_⟩) (by assumption) ?_
            rotate_left 1
            focus (intro w hSw; (try dsimp only at hSw); go_simp; (try with_reducible rfl))
            try simp only [Act.put, List.setIfInBounds_toArray, List.set_cons_zero, List.set_cons_succ]
            refine wpAnyH_take (i := 19) (oi := { dst := some 131, op := Go.Op.move (Go.Operand.tmp 5), type := 25, pos := "law.go:72", after := #[{ on := 18, ground := Go.Ground.guard }], guard := some (18, false) }) (v := ?_) rfl (by kernel_rfl) (by kernel_rfl) (by kernel_rfl) (fun _ _ _ h => h) (Or.inl ⟨by rfl, ?_⟩) (by assumption) ?_
            rotate_left 1
            focus (intro w hSw; (try dsimp only at hSw); go_simp; (try with_reducible rfl))
            try simp only [Act.put, List.setIfInBounds_toArray, List.set_cons_zero, List.set_cons_succ]
            refine wpAnyH_take (i := 21) (oi := { dst := some 133, op := Go.Op.move (Go.Operand.tmp 7), type := 38, pos := "law.go:72", after := #[{ on := 18, ground := Go.Ground.guard }], guard := some (18, false) }) (v := ?_) rfl (by kernel_rfl) (by kernel_rfl) (by kernel_rfl) (fun _ _ _ h => h) (Or.inl ⟨by rfl, ?_⟩) (by assumption) ?_
            rotate_left 1
            focus (intro w hSw; (try dsimp only at hSw); go_simp; (try with_reducible rfl))
            try simp only [Act.put, List.setIfInBounds_toArray, List.set_cons_zero, List.set_cons_succ]
            refine wpAnyH_take (i := 22) (oi := { dst := some 134, op := Go.Op.nilCheck (Go.Operand.tmp 133), type := 0, pos := "law.go:72", after := #[{ on := 21, ground := Go.Ground.data }, { on := 18, ground := Go.Ground.guard }], guard := some (18, false) }) (v := ?_) rfl (by kernel_rfl) (by kernel_rfl) (by kernel_rfl) (fun _ _ _ h => h) (Or.inl ⟨by rfl, ?_⟩) (by assumption) ?_
            rotate_left 1
            focus (intro w hSw; (try dsimp only at hSw); go_simp; (try with_reducible rfl))
            try simp only [Act.put, List.setIfInBounds_toArray, List.set_cons_zero, List.set_cons_succ]
            refine wpAnyH_take (i := 23) (oi := { dst := some 135, op := Go.Op.fieldAddr 47 (Go.Operand.tmp 134) 4, type := 0, pos := "law.go:72", after := #[{ on := 22, ground := Go.Ground.data }, { on := 18, ground := Go.Ground.guard }], guard := some (18, false) }) (v := ?_) rfl (by kernel_rfl) (by kernel_rfl) (by kernel_rfl) (fun _ _ _ h => h) (Or.inl ⟨by rfl, ?_⟩) (by assumption) ?_
            rotate_left 1
            focus (intro w hSw; (try dsimp only at hSw); go_simp; (try with_reducible rfl))
            try simp only [Act.put, List.setIfInBounds_toArray, List.set_cons_zero, List.set_cons_succ]
            refine wpAnyH_take (i := 24) (oi := { dst := some 136, op := Go.Op.load 3 (Go.Operand.tmp 135), type := 3, pos := "law.go:72", after := #[{ on := 23, ground := Go.Ground.data }, { on := 18, ground := Go.Ground.guard }], guard := some (18, false) }) (v := ?_) rfl (by kernel_rfl) (by kernel_rfl) (by kernel_rfl) (fun _ _ _ h => h) (Or.inl ⟨by rfl, ?_⟩) (by assumption) ?_
            rotate_left 1
            focus (intro w hSw; (try dsimp only at hSw); go_simp; (try with_reducible rfl))
            try simp only [Act.put, List.setIfInBounds_toArray, List.set_cons_zero, List.set_cons_succ]
            refine wpAnyH_ready (rs := [20]) (by kernel_rfl) (by simp) ?_
            refine AllReadyH.cons (o := { dst := some 132, op := Go.Op.call { callee := Go.Callee.value (Go.Operand.func 25), args := #[Go.Operand.tmp 131], argTypes := #[25] }, type := 3, pos := "law.go:72", after := #[{ on := 19, ground := Go.Ground.data }, { on := 18, ground := Go.Ground.chain }, { on := 18, ground := Go.Ground.guard }], guard := some (18, false) }) rfl (fun K hK => ?_) AllReadyH.nil
            go_simp
            refine (ops_any g v' s' _ (by exact hdk6.1)).mono ?_
            rintro e w7 ⟨rfl, rfl⟩
            go_wp2_with fail
            refine hK.out _ _ (by (try dsimp only); first | exact ⟨p2, p4, p5, hu0⟩ | exact ⟨p2', p4', p5', hu6⟩) (fun hHeld => ?_)
            clear hK K
            try simp only [Act.put, List.setIfInBounds_toArray, List.set_cons_zero, List.set_cons_succ]
            refine wpAnyH_take (i := 25) (oi := { dst := some 137, op := Go.Op.binOp Go.BinOp.neq 3 (Go.Operand.tmp 132) (Go.Operand.tmp 136) 3, type := 4, pos := "law.go:72", after := #[{ on := 20, ground := Go.Ground.data }, { on := 24, ground := Go.Ground.data }, { on := 18, ground := Go.Ground.guard }], guard := some (18, false) }) (v := ?_) rfl (by kernel_rfl) (by kernel_rfl) (by kernel_rfl) (fun _ _ _ h => h) (Or.inl ⟨by rfl, ?_⟩) (by assumption) ?_
            rotate_left 1
            focus (intro w hSw; (try dsimp only at hSw); go_simp; (try with_reducible rfl))
            try simp only [Act.put, List.setIfInBounds_toArray, List.set_cons_zero, List.set_cons_succ]
            refine wpAnyH_take (i := 26) (oi := { dst := some 138, op := Go.Op.pick (Go.Operand.tmp 130) (Go.Operand.const (Go.Value.bool true)) (Go.Operand.tmp 137), type := 4, pos := "law.go:72", after := #[{ on := 18, ground := Go.Ground.data }, { on := 25, ground := Go.Ground.data }], guard := none }) (v := ?_) rfl (by kernel_rfl) (by kernel_rfl) (by kernel_rfl) (fun _ _ _ h => h) (Or.inl ⟨by rfl, ?_⟩) (by assumption) ?_
            rotate_left 1
            focus (intro w hSw; (try dsimp only at hSw); go_simp; (try with_reducible rfl))
            try simp only [Act.put, List.setIfInBounds_toArray, List.set_cons_zero, List.set_cons_succ]
            refine wpAnyH_done (by kernel_rfl) ?_ _
            go_wp2
            go_roundw
            case rel => exact ⟨k + 1, by omega, by omega, by go_num, v', u', s', hok', hops', hdk6, hrk6, hch'.drew.trans hc6 (by simp), hvb', hub', hvu'⟩
            case measure => simp [intOf]; omega
      · by_cases hlt1 : k < cs.length
        · have hlt2 : ¬ k < 100 := by omega
          go_wp2
          go_ret
          exact ⟨rfl, hch⟩
        · go_wp2
          go_ret
          exact ⟨rfl, hch⟩
end Go.Proofs.Ytfjeoggjnibamaa
