-- written by this session's program wip/hybrid.py over the kit's printer, and by hand. Not trusted: Lean checks it.
import Derived.Test.YtepgponpnijonaaPrint0
import Derived.Test.YtepgponpnijonaaPrint2
namespace Go.Proofs.Ytepgponpnijonaa.Print
open Go.RowKit Go.Proofs.YtepgponpnijonaaW.PrintWords Go.Proofs.YtepgponpnijonaaW.PrintLast Go.Proofs.YtepgponpnijonaaW.PrintMore
attribute [local go_sem] max2_int min2_int max_two min_two max_three min_three max_four min_four   -- for this text's walks alone
set_option linter.unusedVariables false
set_option linter.unusedSimpArgs false

/-! ### batch_table: function 29 -/
def batch_table.step (n : Int) : Int := Go.bits .xor .u32 (n / 2) ((3988292384 * (Go.bits .and .u32 n 1)) % 4294967296)
def batch_table.n8 : Nat → Int → Int
  | 0, n => n
  | k + 1, n => batch_table.step (batch_table.n8 k n)
def batch_table.T (n : Int) : Int := batch_table.n8 8 n
def batch_table.cs (i : Nat) : Array Value := ((List.range 256).map fun j => Value.int .u32 (if j < i then batch_table.T j else 0)).toArray
theorem batch_table.cs0 : batch_table.cs 0 = Array.replicate 256 (.int .u32 0) := by
  unfold batch_table.cs
  apply Array.ext
  · simp
  · intro i h1 h2; simp
theorem batch_table.cs_at (i j : Nat) : (batch_table.cs i)[j]? = if j < 256 then some (Value.int .u32 (if j < i then batch_table.T j else 0)) else none := by
  unfold batch_table.cs
  rw [List.getElem?_toArray, List.getElem?_map]
  by_cases c : j < 256
  · rw [List.getElem?_range c, if_pos c]; rfl
  · rw [List.getElem?_eq_none (by simp; omega), if_neg c]; rfl
theorem batch_table.cs_next (i : Nat) (h : i < 256) : (batch_table.cs i).setIfInBounds i (.int .u32 (batch_table.T i)) = batch_table.cs (i + 1) := by
  apply Array.ext_getElem?
  intro j
  rw [Array.getElem?_setIfInBounds, batch_table.cs_at, batch_table.cs_at]
  have hs : (batch_table.cs i).size = 256 := by unfold batch_table.cs; simp
  rw [hs]
  by_cases c : i = j
  · subst c; simp [h]
  · by_cases d : j < 256
    · rw [if_neg c, if_pos d, if_pos d]
      by_cases e : j < i
      · rw [if_pos e, if_pos (by omega)]
      · rw [if_neg e, if_neg (by omega)]
    · rw [if_neg c, if_neg d, if_neg d]
def batch_table.P (w : World) (e : Ending) (w' : World) : Prop := e = .returned (.agg (batch_table.cs 256)) ∧ Below w.heap.size w w'
set_option maxHeartbeats 4000000 in
set_option maxRecDepth 100000 in
theorem batch_table.calls (w : World) : Calls Try.prog 29 #[] w (batch_table.P w) := by
  have hz : ∀ W, (zeroValue 63).run Try.prog W = .ok (.agg (Array.replicate 256 (.int .u32 0))) W := fun _ => by kernel_rfl
  go_enter Try.func29, Try.ntmps29
  go_wp2
  go_loopw [3] (fun v wr => ∃ i : Nat, i ≤ 256 ∧ v = .int .i64 i ∧ wr.heap[w.heap.size]? = some (.cells (batch_table.cs i) 63 (0, 0)) ∧ Aside0 (Below w.heap.size w wr)) (fun v _ => 256 - (intOf v).toNat)
  case atStart => exact ⟨0, Nat.zero_le _, rfl, by rw [batch_table.cs0]; exact (MapKept.heap_alloc w _).1, ⟨below_alloc (Below.refl _ _) _⟩⟩
  case round =>
    obtain ⟨i, hi, rfl, hblk, HB⟩ := hrel
    have HBLK := Aside0.mk hblk
    clear hblk
    by_cases hlt : i < 256
    · go_wp2
      go_loopw [2, 8] (fun v u wq => ∃ j : Nat, j ≤ 8 ∧ v = .int .u32 (batch_table.n8 j i) ∧ u = .int .i64 j ∧ wq.heap[w.heap.size]? = some (.cells (batch_table.cs i) 63 (0, 0)) ∧ Aside0 (Below w.heap.size w wq)) (fun _ u _ => 8 - (intOf u).toNat)
      case atStart => exact ⟨0, Nat.zero_le _, rfl, rfl, HBLK.out, HB⟩
      case round =>
        clear HBLK HB
        obtain ⟨j, hj, rfl, rfl, hblk, HB⟩ := hrel
        by_cases hlt2 : j < 8
        · have HBLK := Aside0.mk hblk
          clear hblk
          go_wp2
          go_roundw
          case rel => exact ⟨j + 1, by omega, rfl, by go_num, HBLK.out, HB⟩
          case measure => simp [intOf]; omega
        · obtain rfl : j = 8 := by omega
          have hc : wr.cell? ⟨w.heap.size, i, none⟩ = some (.int .u32 0) := (blk_cell hblk i).trans (by rw [batch_table.cs_at, if_pos hlt, if_neg (Nat.lt_irrefl _)])
          have hf := blk_frozen hblk i
          have HBLK := Aside0.mk hblk
          clear hblk
          go_wp2
          go_roundw
          case rel => exact ⟨i + 1, by omega, by go_num, blk_put HBLK.out i _ (batch_table.cs_next i hlt), ⟨below_set HB.out (Nat.le_refl _)⟩⟩
          case measure => simp [intOf]; omega
    · obtain rfl : i = 256 := by omega
      have hsz : (batch_table.cs 256).size = 256 := by unfold batch_table.cs; simp
      have hi : (Try.prog.info? 63).map (·.size) = some (batch_table.cs 256).size := by rw [hsz]; kernel_rfl
      have hall : (batch_table.cs 256).all (·.oneCell') = true := by
        rw [Array.all_eq_true]
        intro j hj
        have := batch_table.cs_at 256 j
        rw [Array.getElem?_eq_getElem hj, if_pos (by omega)] at this
        rw [Option.some.inj this]; rfl
      go_wp2
      refine wp_load_row 63 (.tmp 0) rfl w.heap.size rfl 63 _ (0, 0) _ HBLK.out Try.underlying63 rfl hi ?_
      have hst : (storeCells ⟨w.heap.size, 0, none⟩ (batch_table.cs 256).toList).run Try.prog wr = .ok () wr := by
        have := run_storeCells_from (P := Try.prog) w.heap.size 63 (batch_table.cs 256).toList 0 (batch_table.cs 256) wr HBLK.out (by simp) (fun v hv => (Array.all_eq_true_iff_forall_mem.1 hall) v (by simpa using hv))
        rw [List.take_zero, List.nil_append, Array.toArray_toList, setRow_same HBLK.out] at this
        exact this
      go_wp2
      refine bodyPost_ret (results_single rfl (.cell w.heap.size 63 (batch_table.cs 256) (0, 0) _ rfl HBLK.out Try.underlying63 rfl hi .nil)) rfl ⟨rfl, HB.out⟩


end Go.Proofs.Ytepgponpnijonaa.Print
