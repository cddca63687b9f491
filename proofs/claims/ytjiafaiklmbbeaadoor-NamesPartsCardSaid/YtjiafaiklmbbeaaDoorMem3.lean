/- Bytes and strings: a conversion of bytes that read to a string; constant bytes. -/
import Derived.Test.YtjiafaiklmbbeaaDoorMem2
import Derived.Laws.BytesArg
import Derived.Lib.SlBytesConst
import Derived.Laws.Strings
namespace Go.Proofs.YtjiafaiklmbbeaaDoor
open Go.RowKit

/-- A string of bytes, as the model has it. -/
def strB (l : List UInt8) : ByteArray := ⟨l.toArray⟩
theorem strB_inj {l m : List UInt8} (h : strB l = strB m) : l = m := by
  unfold strB at h
  injection h with h
  simpa using h
theorem strB_size (l : List UInt8) : (strB l).size = l.length := by simp [strB, ByteArray.size]
theorem strB_toList (l : List UInt8) : (strB l).toList = l := by rw [ByteArray.toList_eq]; simp [strB]

section
variable {P : Program} {w : World}
theorem conv_rd {v : Value} {l : List UInt8} (h : RdB w v l) (src e : TypeId) (hs : P.underlying src = some (.slice e)) (he : P.underlying e = some (.int .u8)) (dst : TypeId) (hd : P.underlying dst = some .string) :
    (convert src dst v).run P w = .ok (.string (strB l)) w := by
  obtain ⟨hlen, A, c, rfl, hnc, h0, hrd⟩ := h
  cases A with
  | none =>
    have hc := h0 rfl
    have hl0 : l.length = 0 := by omega
    have hnil : l = [] := List.eq_nil_of_length_eq_zero hl0
    subst hnil
    exact run_convert_bytes_nil w src e hs he _ _ dst hd
  | some ad =>
    obtain ⟨_, hc⟩ := hrd ad rfl
    have hl : (loadCells ad l.length).run P w = .ok ((l.map fun x => (x.toNat : Int)).map (Value.int .u8)).toArray w := by
      have := run_loadCells_list (P := P) w ad (bs l) hc
      rw [bs_length] at this
      rw [this]
      simp [bs, bv, Function.comp_def]
    rw [run_convert_bytes_string w src dst e _ _ _ hs he hd, run_bytesToString w _ _ _ _ hl, foldl_push_bytes]
    simp [strB, ByteArray.empty, ByteArray.emptyWithCapacity, Function.comp_def]
    rfl
theorem RdB.mark (w : World) (e : TypeId) (C : Array Value) (k : Nat × Nat) (l : List UInt8) (n : Nat) (hC : C = (bs l).toArray) (hn : l.length = n) : RdB (w.alloc (.cells C e k)) (.slice (some ⟨w.heap.size, 0, none⟩) n n) l := by
  subst hn; subst hC
  refine ⟨by simp [bs_length], some ⟨w.heap.size, 0, none⟩, l.length, rfl, Nat.le_refl _, (fun h => by cases h), fun ad had => ?_⟩
  injection had with had
  subst had
  refine ⟨fun _ => by simp, fun j u hu => ?_⟩
  have hadd : (⟨w.heap.size, 0, none⟩ : Addr).add j = ⟨w.heap.size, j, none⟩ := by unfold Addr.add; split <;> simp_all
  have hh : (w.alloc (.cells (bs l).toArray e k)).heap[w.heap.size]? = some (.cells (bs l).toArray e k) := heap_alloc_new w _
  rw [hadd]
  simp only [World.cell?, hh]
  simpa using hu
end
end Go.Proofs.YtjiafaiklmbbeaaDoor
