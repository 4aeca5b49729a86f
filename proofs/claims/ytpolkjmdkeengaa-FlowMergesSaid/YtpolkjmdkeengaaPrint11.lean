-- written by this session's program wip/hybrid.py over the kit's printer, and by hand. Not trusted: Lean checks it.
import Derived.Test.YtpolkjmdkeengaaPrint0
import Derived.Test.YtpolkjmdkeengaaPrint10
namespace Go.Proofs.Ytpolkjmdkeengaa.Print
open Go.RowKit Go.Proofs.YtpolkjmdkeengaaW.PrintWords Go.Proofs.YtpolkjmdkeengaaW.PrintLast Go.Proofs.YtpolkjmdkeengaaW.PrintMore
attribute [local go_sem] max2_int min2_int max_two min_two max_three min_three max_four min_four   -- for this text's walks alone
set_option linter.unusedVariables false
set_option linter.unusedSimpArgs false

/-! ### flow_Total: function 13 -/
def flow_Total.f (l0 : List S39) : Option (Int × Int) := if l0.length ≤ 1000000000000 then money_Sum.f (l0.map (·.f1)) else none
theorem info2' : (Try.prog.info? 2).map (fun i => (i.zero, i.size, i.bytes)) = some (some (.int .i64 0), 1, 8) := by kernel_rfl
set_option maxHeartbeats 4000000 in
set_option maxRecDepth 100000 in
theorem flow_Total.calls (A0 : Option Addr) (c0 : Nat) (l0 : List (S39)) (r1 : Int) (r2 : Int) (w : World) (hr0 : Kd.C k39 w A0 l0.length l0) (hc0 : l0.length ≤ c0) (h : flow_Total.f l0 = some (r1, r2)) :
    Calls Try.prog 13 #[.slice A0 l0.length c0] w fun e w' => e = .returned (.tuple #[.int .i64 r1, .int .i64 r2]) ∧ Below w.heap.size w w' := by
  have hlen : l0.length ≤ 1000000000000 := by
    apply Classical.byContradiction
    intro c
    unfold flow_Total.f at h
    rw [if_neg c] at h
    cases h
  unfold flow_Total.f at h
  rw [if_pos hlen] at h
  have HR := Aside0.mk hr0
  have HH := Aside0.mk h
  clear hr0 h
  obtain ⟨i0, hi, hz0, hz1, hz2⟩ := info_parts info2'
  obtain ⟨w1, hmk, hown, hgrow⟩ := run_make_own (P := Try.prog) w w.heap.size 46 2 i0 (.int .i64 0) 1 Try.underlying46 hi hz0 hz1 .i64 .i64 l0.length (by rw [hz2]; omega) (by unfold maxLen; omega) (Nat.le_refl _)
  have HO := Aside0.mk (show Kd.R (Kd.int .i64) 2 w1 w.heap.size (fun _ => True) (.slice (some ⟨w.heap.size, 0, none⟩) 0 l0.length) [] from Kd.R_of_own (enc := Value.int .i64) (h1 := fun _ => rfl) hown (fun _ _ => trivial))
  have HB := Aside0.mk (show Below w.heap.size w w1 from (Below.refl _ _).grown hgrow (Nat.le_refl _) (fun k hk => by cases hk))
  clear hown hgrow
  go_enter Try.func13, Try.ntmps13
  go_wp2
  clear hmk
  go_loopw [4, 12] (fun v i wr => ∃ k : Nat, k ≤ l0.length ∧ i = .int .i64 k ∧ Aside0 (Kd.R (Kd.int .i64) 2 wr w.heap.size (fun _ => True) v ((l0.take k).map (·.f1))) ∧ Aside0 (Below w.heap.size w wr)) (fun _ i _ => l0.length - (intOf i).toNat)
  case atStart => exact ⟨0, Nat.zero_le _, rfl, HO, HB⟩
  case round =>
    clear HO HB
    obtain ⟨k, hk, rfl, HO, HB⟩ := hrel
    by_cases hlt : k < l0.length
    · obtain ⟨ad, rfl, hx0, hx1⟩ := at_T39 HR.out (k : Int) (by omega) (by omega)
      replace hx0 := (HB.out.cell (World.block_lt_of_cell? w _ hx0)).trans hx0
      replace hx1 := (HB.out.cell (World.block_lt_of_cell? w _ hx1)).trans hx1
      rw [Int.toNat_natCast] at hx0 hx1
      have HTK : Aside0 ((l0.take (k + 1)).map (·.f1) = (l0.take k).map (·.f1) ++ [(rd_T39 l0 (k : Int)).f1]) := ⟨by rw [List.take_succ_eq_append_getElem hlt, List.map_append]; congr 1; simp [rd_T39, List.getElem?_eq_getElem hlt]⟩
      have HLN : Aside0 (((l0.take k).map (·.f1)).length ≤ 1000000000000) := ⟨by simp; omega⟩
      generalize rd_T39 l0 (k : Int) = x at hx0 hx1 HTK
      generalize (l0.take k).map (·.f1) = acc at HO HTK HLN
      have hsz : w.heap.size ≤ wr.heap.size := HB.out.size
      go_wp2_with ((with_reducible refine gate_builtin (b := .append) (xs := #[.tmp 16, .tmp 19]) rfl ?_); at_builtin; refine Kd.R_append (Kd.int .i64) (w0 := w) w.heap.size rfl (.tmp 16) (.tmp 19) 46 2 (.int .i64 0) 8 rfl Try.underlying46 info2' rfl (by decide) (by omega) u4 acc x.f1 [.int .i64 x.f1] (fun _ => True) (fun _ => False) rfl (by first | (go_simp; done) | (go_simp; rfl)) ?aP (fun _ hk => hk.elim) ?aF ?aO ?aB ?aS ?aL ?_; (case aP => rfl); (case aB => exact (by repeat (first | exact HB.out | apply below_alloc | apply pw_below_drewN | apply below_drew1))); (case aF => exact (fun _ _ => trivial)); (case aO => exact (by (with_reducible repeat (first | apply Kd.R_alloc | apply Kd.R_drewN | apply Kd.R_drew)); exact HO.out)); (case aS => (simp <;> omega)); (case aL => have := HLN.out; omega); intro v8 w8 ho hb hg hat; have HO8 := Aside0.mk ho; have HB8 := Aside0.mk hb; clear ho hb hg hat)
      go_roundw
      case rel => exact ⟨k + 1, by omega, by go_num, ⟨by rw [HTK.out]; exact HO8.out⟩, HB8⟩
      case measure => simp [intOf]; omega
    · obtain rfl : k = l0.length := by omega
      rw [List.take_length] at HO
      generalize l0.map (·.f1) = acc at HO HH
      obtain ⟨A3, c3, rfl, hc3, hC3⟩ := Kd.R_reads HO.out
      have HC3 := Aside0.mk hC3
      clear hC3
      go_wp2_with (go_at_call 27; (with_reducible refine (money_Sum.calls A3 c3 acc r1 r2 wr HC3.out hc3 HH.out).mono ?_); rintro e w4 ⟨rfl, hd⟩; have HB4 := Aside0.mk (below_step HB.out hd.below); clear hd)
      go_ret2
      exact ⟨rfl, HB4.out⟩


end Go.Proofs.Ytpolkjmdkeengaa.Print
