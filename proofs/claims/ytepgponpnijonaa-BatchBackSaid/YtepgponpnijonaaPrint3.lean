-- written by this session's program wip/hybrid.py over the kit's printer, and by hand. Not trusted: Lean checks it.
import Derived.Test.YtepgponpnijonaaPrint0
namespace Go.Proofs.Ytepgponpnijonaa.Print
open Go.RowKit Go.Proofs.YtepgponpnijonaaW.PrintWords Go.Proofs.YtepgponpnijonaaW.PrintLast Go.Proofs.YtepgponpnijonaaW.PrintMore
attribute [local go_sem] max2_int min2_int max_two min_two max_three min_three max_four min_four   -- for this text's walks alone
set_option linter.unusedVariables false
set_option linter.unusedSimpArgs false

/-! ### chart_account_int: function 37 -/
def chart_account_int.g (l : List S73) (n : Int) : S73 := (l.find? (fun x => x.f0 == n)).getD z73
theorem chart_account_int.no (l : List S73) (n : Int) (h : ∀ j : Nat, j < l.length → ((rd_T73 l (j : Int)).f0 == n) = false) : chart_account_int.g l n = z73 := by
  unfold chart_account_int.g
  rw [List.find?_eq_none.2]
  · rfl
  · intro x hx
    obtain ⟨j, hj⟩ := List.mem_iff_getElem?.1 hx
    have hlt := (List.getElem?_eq_some_iff.1 hj).1
    have := h j hlt
    simp only [rd_T73, Int.toNat_natCast, List.getD_eq_getElem?_getD, hj, Option.getD_some] at this
    simpa using this
theorem chart_account_int.yes (l : List S73) (n : Int) (k : Nat) (hk : k < l.length) (h : ∀ j : Nat, j < k → ((rd_T73 l (j : Int)).f0 == n) = false) (hy : ((rd_T73 l (k : Int)).f0 == n) = true) : chart_account_int.g l n = rd_T73 l (k : Int) := by
  induction l generalizing k with
  | nil => exact absurd hk (by simp)
  | cons x t ih =>
    cases k with
    | zero =>
      simp only [rd_T73, Int.toNat_natCast] at hy ⊢
      unfold chart_account_int.g
      simp only [List.getD_cons_zero] at hy
      rw [List.find?_cons_of_pos (by simpa using hy)]
      rfl
    | succ k =>
      have h0 := h 0 (by omega)
      simp only [rd_T73, Int.toNat_natCast, List.getD_cons_zero] at h0
      have := ih k (by simpa using hk) (fun j hj => by
        have := h (j + 1) (by omega)
        simpa [rd_T73] using this) (by simpa [rd_T73] using hy)
      unfold chart_account_int.g at this ⊢
      rw [List.find?_cons_of_neg (by simpa using h0), this]
      simp [rd_T73]
set_option maxHeartbeats 1000000 in
set_option maxRecDepth 100000 in
theorem chart_account_int.look (A : Option Addr) (c : Nat) (l : List S73) (n : Int) (w : World) (hr : Kd.C k73 w A l.length l) (hc : l.length ≤ c) (hl : l.length ≤ 100) :
    Calls Try.prog 37 #[.slice A l.length c, .func (.func 39) #[] #[], .int .i64 n] w fun e w' => e = .returned (.agg #[.int .i64 (chart_account_int.g l n).f0, .string (chart_account_int.g l n).f1]) ∧ Below w.heap.size w w' := by
  have HR := Aside0.mk hr
  clear hr
  go_enter Try.func37, Try.ntmps37
  go_wp2
  go_loopw [11] (fun i wr => ∃ k : Nat, k ≤ l.length ∧ i = .int .i64 k ∧ wr.heap[w.heap.size]? = some (.cells #[.int .i64 0, .string ⟨#[]⟩] 73 (0, 0)) ∧ Below w.heap.size w wr ∧ Aside0 (∀ j : Nat, j < k → ((rd_T73 l (j : Int)).f0 == n) = false)) (fun i _ => l.length - (intOf i).toNat)
  case atStart => exact ⟨0, Nat.zero_le _, rfl, (MapKept.heap_alloc w _).1, below_alloc (Below.refl _ _) _, ⟨fun j hj => absurd hj (Nat.not_lt_zero _)⟩⟩
  case round =>
    obtain ⟨k, hk, rfl, hblk, hB, hno⟩ := hrel
    have hz := hB.size
    have hlt' : w.heap.size < wr.heap.size := blk_lt hblk
    have hc0 : wr.cell? ⟨w.heap.size, 0, none⟩ = some (.int .i64 0) := blk_cell hblk 0
    have hc1 : wr.cell? ⟨w.heap.size, 1, none⟩ = some (.string ⟨#[]⟩) := blk_cell hblk 1
    have hf0 : wr.frozen? ⟨w.heap.size, 0, none⟩ = false := blk_frozen hblk 0
    have hf1 : wr.frozen? ⟨w.heap.size, 1, none⟩ = false := blk_frozen hblk 1
    by_cases hlt : k < l.length
    · obtain ⟨ad, rfl, hx0, hx1⟩ := at_T73 HR.out (k : Int) (by omega) (by omega)
      replace hx0 := (hB.cell (World.block_lt_of_cell? w _ hx0)).trans hx0
      replace hx1 := (hB.cell (World.block_lt_of_cell? w _ hx1)).trans hx1
      rw [Int.toNat_natCast] at hx0 hx1
      have HB := Aside0.mk hB
      have HBLK := Aside0.mk hblk
      clear hB hblk
      by_cases hy : ((rd_T73 l (k : Int)).f0 == n) = true
      · go_wp2
        have hL := chart_account_int.yes l n k hlt (fun j hj => hno.out j hj) hy
        rw [hL]
        refine bodyPost_ret (results_single rfl (.cell w.heap.size 73 #[.int .i64 (rd_T73 l (k : Int)).f0, .string (rd_T73 l (k : Int)).f1] (0, 0) _ rfl ?hg Try.underlying73 rfl (by kernel_rfl) .nil)) rfl ⟨rfl, by repeat (first | exact HB.out | exact Below.refl _ _ | apply below_alloc | apply pw_below_drewN | apply below_drew1 | refine below_set ?_ (Nat.le_refl _))⟩
        case hg => repeat (first | exact HBLK.out | refine blk_alloc ?_ _ | refine blk_put (cs := #[.int .i64 (rd_T73 l (k : Int)).f0, .string ⟨#[]⟩]) ?_ 1 _ rfl | refine blk_put (cs := #[.int .i64 0, .string ⟨#[]⟩]) ?_ 0 _ rfl)
      · have hy' : ((rd_T73 l (k : Int)).f0 == n) = false := by simpa using hy
        clear hy
        go_wp2
        go_roundw
        case rel =>
          refine ⟨k + 1, by omega, by go_num, by repeat (first | exact HBLK.out | refine blk_alloc ?_ _), by repeat (first | exact HB.out | exact Below.refl _ _ | apply below_alloc | apply pw_below_drewN | apply below_drew1 | refine below_set ?_ (Nat.le_refl _)), ⟨fun j hj => ?_⟩⟩
          by_cases hjk : j < k
          · exact hno.out j hjk
          · obtain rfl : j = k := by omega
            exact hy'
        case measure => simp [intOf]; omega
    · obtain rfl : k = l.length := by omega
      have HB := Aside0.mk hB
      have HBLK := Aside0.mk hblk
      clear hB hblk
      go_wp2
      have hL := chart_account_int.no l n (fun j hj => hno.out j hj)
      rw [hL]
      refine bodyPost_ret (results_single rfl (.cell w.heap.size 73 #[.int .i64 0, .string ⟨#[]⟩] (0, 0) _ rfl ?hg Try.underlying73 rfl (by kernel_rfl) .nil)) rfl ⟨rfl, by repeat (first | exact HB.out | exact Below.refl _ _ | apply below_alloc | apply pw_below_drewN | apply below_drew1 | refine below_set ?_ (Nat.le_refl _))⟩
      case hg => repeat (first | exact HBLK.out | refine blk_alloc ?_ _ | refine blk_put (cs := #[.int .i64 0, .string ⟨#[]⟩]) ?_ 1 _ rfl | refine blk_put (cs := #[.int .i64 0, .string ⟨#[]⟩]) ?_ 0 _ rfl)


end Go.Proofs.Ytepgponpnijonaa.Print
