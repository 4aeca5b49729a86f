-- written by this session's program wip/hybrid.py over the kit's printer, and by hand. Not trusted: Lean checks it.
import Derived.Test.YtepgponpnijonaaPrint0
import Derived.Test.YtepgponpnijonaaPrint8
namespace Go.Proofs.Ytepgponpnijonaa.Print
open Go.RowKit Go.Proofs.YtepgponpnijonaaW.PrintWords Go.Proofs.YtepgponpnijonaaW.PrintLast Go.Proofs.YtepgponpnijonaaW.PrintMore
attribute [local go_sem] max2_int min2_int max_two min_two max_three min_three max_four min_four   -- for this text's walks alone
set_option linter.unusedVariables false
set_option linter.unusedSimpArgs false

/-! ### batch_Sum: function 16 -/
def batch_Sum.one (n c : Int) : Int := Go.bits .xor .u32 (n / 256) (batch_table.T (Go.bits .xor .u8 (n % 256) c))
def batch_Sum.go (l : List Int) (n : Int) : Int := l.foldl batch_Sum.one n
def batch_Sum.f (l0 : List Int) : Option Int := if l0.length ≤ 1000000000000 then some (Go.bits .xor .u32 IntKind.u32.max (batch_Sum.go l0 4294967295)) else none
theorem batch_Sum.go_next (l : List Int) (i : Nat) (h : i < l.length) : batch_Sum.go (l.take (i + 1)) 4294967295 = batch_Sum.one (batch_Sum.go (l.take i) 4294967295) l[i] := by
  unfold batch_Sum.go
  rw [List.take_succ_eq_append_getElem h, List.foldl_append]
  rfl
set_option maxHeartbeats 4000000 in
set_option maxRecDepth 100000 in
theorem batch_Sum.walk (A0 : Option Addr) (c0 : Nat) (l0 : List Int) (w : World) (hr0 : Kd.C (Kd.int .u8) w A0 l0.length l0) (hc0 : l0.length ≤ c0) (hlen : l0.length ≤ 1000000000000) : Calls Try.prog 16 #[.slice A0 l0.length c0] w fun e w' => e = .returned (.int .u32 (Go.bits .xor .u32 IntKind.u32.max (batch_Sum.go l0 4294967295))) ∧ Below w.heap.size w w' := by
  have hz : ∀ W, (zeroValue 63).run Try.prog W = .ok (.agg (Array.replicate 256 (.int .u32 0))) W := fun _ => by kernel_rfl
  have hsz : (batch_table.cs 256).size = 256 := by unfold batch_table.cs; simp
  have hi : (Try.prog.info? 63).map (·.size) = some (batch_table.cs 256).size := by rw [hsz]; kernel_rfl
  have hall : (batch_table.cs 256).all (·.oneCell') = true := by
    rw [Array.all_eq_true]
    intro j hj
    have := batch_table.cs_at 256 j
    rw [Array.getElem?_eq_getElem hj, if_pos (by omega)] at this
    rw [Option.some.inj this]; rfl
  have hst : ∀ w1 : World, (storeCells ⟨w1.heap.size, 0, none⟩ (batch_table.cs 256).toList).run Try.prog (w1.alloc (.cells (Array.replicate 256 (.int .u32 0)) 63)) = .ok () (w1.alloc (.cells (batch_table.cs 256) 63)) := fun w1 => Go.run_storeCells_new (P := Try.prog) w1 63 (Array.replicate 256 (.int .u32 0)) (batch_table.cs 256) hi (by rw [hsz]; simp) hall
  have HR := Aside0.mk hr0
  clear hr0
  go_enter Try.func16, Try.ntmps16
  go_wp2_with (go_at_call 29; refine (batch_table.calls _).mono ?_; rintro e w1 ⟨rfl, hb⟩; have HB1 := Aside0.mk hb; clear hb)
  go_loopw [4, 10] (fun v u wr => ∃ i : Nat, i ≤ l0.length ∧ v = .int .u32 (batch_Sum.go (l0.take i) 4294967295) ∧ u = .int .i64 i ∧ Aside0 (wr.heap[w1.heap.size]? = some (.cells (batch_table.cs 256) 63 (0, 0))) ∧ Aside0 (Below w.heap.size w wr)) (fun _ u _ => l0.length - (intOf u).toNat)
  case atStart => exact ⟨0, Nat.zero_le _, rfl, rfl, ⟨(MapKept.heap_alloc w1 _).1⟩, ⟨below_alloc HB1.out _⟩⟩
  case round =>
    obtain ⟨i, hi, rfl, rfl, HBLK, HB⟩ := hrel
    by_cases hlt : i < l0.length
    · obtain ⟨ad, rfl, hx0⟩ := Kd.at_int HR.out (i : Int) (by omega) (by omega)
      replace hx0 := (HB.out.cell (World.block_lt_of_cell? w _ hx0)).trans hx0
      rw [Int.toNat_natCast] at hx0
      have hnext := batch_Sum.go_next l0 i hlt
      have hrd : rd l0 (i : Int) = l0[i] := by simp [rd, List.getElem?_eq_getElem hlt]
      rw [← hrd] at hnext
      have HNX := Aside0.mk hnext
      clear hnext hrd
      generalize rd l0 (i : Int) = c at hx0 HNX
      generalize batch_Sum.go (l0.take i) 4294967295 = n at HNX ⊢
      obtain ⟨q, hq, hqe⟩ : ∃ q : Nat, q < 256 ∧ Go.bits .xor .u8 (n % 256) c = (q : Int) := by
        have h1 := bits_lo_u8 .xor (n % 256) c
        have h2 := bits_hi_u8 .xor (n % 256) c
        exact ⟨(Go.bits .xor .u8 (n % 256) c).toNat, by omega, by omega⟩
      have hcell : wr.cell? ⟨w1.heap.size, q, none⟩ = some (.int .u32 (batch_table.T q)) := (blk_cell HBLK.out q).trans (by rw [batch_table.cs_at, if_pos hq, if_pos hq])
      have HNX2 : Aside0 (batch_Sum.go (l0.take (i + 1)) 4294967295 = Go.bits .xor .u32 (n / 256) (batch_table.T q)) := ⟨by rw [HNX.out]; unfold batch_Sum.one; rw [hqe]⟩
      clear HNX
      go_wp2
      go_roundw
      case rel => exact ⟨i + 1, by omega, by rw [HNX2.out], by go_num, HBLK, HB⟩
      case measure => simp [intOf]; omega
    · obtain rfl : i = l0.length := by omega
      rw [List.take_length]
      go_wp2
      go_ret
      exact ⟨rfl, HB.out⟩
theorem batch_Sum.calls (A0 : Option Addr) (c0 : Nat) (l0 : List Int) (r : Int) (w : World) (hr0 : Kd.C (Kd.int .u8) w A0 l0.length l0) (hc0 : l0.length ≤ c0) (h : batch_Sum.f l0 = some r) :
    Calls Try.prog 16 #[.slice A0 l0.length c0] w fun e w' => e = .returned (.int .u32 r) ∧ Below w.heap.size w w' := by
  unfold batch_Sum.f at h
  by_cases c : l0.length ≤ 1000000000000
  · rw [if_pos c] at h
    obtain rfl := Option.some.inj h
    exact batch_Sum.walk _ _ _ _ hr0 hc0 c
  · rw [if_neg c] at h
    cases h


end Go.Proofs.Ytepgponpnijonaa.Print
