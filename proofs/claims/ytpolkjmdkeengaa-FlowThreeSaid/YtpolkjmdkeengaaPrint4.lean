-- written by this session's program wip/hybrid.py over the kit's printer, and by hand. Not trusted: Lean checks it.
import Derived.Test.YtpolkjmdkeengaaPrint0
import Derived.Test.YtpolkjmdkeengaaPrint3
import Derived.Test.YtpolkjmdkeengaaPrint5
namespace Go.Proofs.Ytpolkjmdkeengaa.Print
open Go.RowKit Go.Proofs.YtpolkjmdkeengaaW.PrintWords Go.Proofs.YtpolkjmdkeengaaW.PrintLast Go.Proofs.YtpolkjmdkeengaaW.PrintMore
attribute [local go_sem] max2_int min2_int max_two min_two max_three min_three max_four min_four   -- for this text's walks alone
set_option linter.unusedVariables false
set_option linter.unusedSimpArgs false

/-! ### flow_Flow_29: function 29 -/
def flow_Flow_29.rise : Int → List S39 → Int
  | _, [] => 0
  | last, x :: t => if x.f0 ≤ last then 5 else if 3652059 < x.f0 then 5 else if -10000000000000 ≤ x.f1 ∧ x.f1 ≤ 10000000000000 then flow_Flow_29.rise x.f0 t else 2
set_option maxHeartbeats 4000000 in
set_option maxRecDepth 100000 in
theorem flow_Flow_29.go_ (A : Option Addr) (c : Nat) (l : List S39) (w : World) (hr : Kd.C k39 w A l.length l) (hc : l.length ≤ c) (hl : l.length ≤ 1000000000000) :
    Calls Try.prog 29 #[.slice A l.length c, .func (.func 23) #[] #[], .func (.func 30) #[] #[]] w fun e w' => e = .returned (.int .i64 (flow_Flow_29.rise 0 l)) ∧ Below w.heap.size w w' := by
  have HR := Aside0.mk hr
  clear hr
  obtain ⟨r, hre⟩ : ∃ r, flow_Flow_29.rise 0 l = r := ⟨_, rfl⟩
  rw [hre]
  have HRE := Aside0.mk hre
  clear hre
  go_enter Try.func29, Try.ntmps29
  go_wp2
  go_loopw [7, 14] (fun v i wr => ∃ (k : Nat) (last : Int), k ≤ l.length ∧ v = .int .i64 last ∧ i = .int .i64 k ∧ Aside0 (flow_Flow_29.rise last (l.drop k) = r) ∧ Aside0 (Below w.heap.size w wr)) (fun _ i _ => l.length - (intOf i).toNat)
  case atStart => exact ⟨0, 0, Nat.zero_le _, rfl, rfl, HRE, ⟨Below.refl _ _⟩⟩
  case round =>
    clear HRE
    obtain ⟨k, last, hk, rfl, rfl, HRE, HB⟩ := hrel
    by_cases hlt : k < l.length
    · obtain ⟨ad, rfl, hx0, hx1⟩ := at_T39 HR.out (k : Int) (by omega) (by omega)
      replace hx0 := (HB.out.cell (World.block_lt_of_cell? w _ hx0)).trans hx0
      replace hx1 := (HB.out.cell (World.block_lt_of_cell? w _ hx1)).trans hx1
      rw [Int.toNat_natCast] at hx0 hx1
      have hdr : l.drop k = rd_T39 l (k : Int) :: l.drop (k + 1) := by
        rw [List.drop_eq_getElem_cons hlt]; simp [rd_T39, List.getElem?_eq_getElem hlt]
      have hre := HRE.out
      rw [hdr, flow_Flow_29.rise] at hre
      clear HRE hdr
      generalize rd_T39 l (k : Int) = x at hx0 hx1 hre
      have hnew : ∀ o, (wr.alloc o).heap[wr.heap.size]? = some o := fun o => heap_alloc_new wr o
      by_cases c1 : x.f0 ≤ last
      · rw [if_pos c1] at hre
        subst hre
        go_wp2_with (go_at_call 23; refine (flow_day.calls x.f0 x.f1 x.f0 _ rfl).mono ?_; rintro e w1 ⟨rfl, hB⟩; have HB1 := Aside0.mk (below_step (below_alloc HB.out _) hB); clear hB)
        go_ret
        exact ⟨rfl, HB1.out⟩
      · rw [if_neg c1] at hre
        by_cases c2 : 3652059 < x.f0
        · rw [if_pos c2] at hre
          subst hre
          go_wp2_with (go_at_call 23; refine (flow_day.calls x.f0 x.f1 x.f0 _ rfl).mono ?_; rintro e w1 ⟨rfl, hB⟩; have HB1 := Aside0.mk (below_step (below_alloc HB.out _) hB); clear hB)
          go_ret
          exact ⟨rfl, HB1.out⟩
        · rw [if_neg c2] at hre
          by_cases c3 : -10000000000000 ≤ x.f1 ∧ x.f1 ≤ 10000000000000
          · rw [if_pos c3] at hre
            have HRE := Aside0.mk hre
            clear hre
            have hm : flow_may.f x.f0 x.f1 = some 0 := by simp [flow_may.f, money_May.f, c3.1, c3.2]
            have HM := Aside0.mk hm
            clear hm
            go_wp2_with (first | (go_at_call 23; refine (flow_day.calls x.f0 x.f1 x.f0 _ rfl).mono ?_; rintro e w1 ⟨rfl, hB⟩; have HB1 := Aside0.mk (below_step (below_alloc HB.out _) hB); have HBK := Aside0.mk ((hB.block wr.heap.size (by simp)).trans (hnew _)); have hb0 := blk_cell HBK.out 0; have hb1 := blk_cell HBK.out 1; clear hB) | (go_at_call 30; refine (flow_may.calls x.f0 x.f1 0 _ HM.out).mono ?_; rintro e w2 ⟨rfl, hB⟩; have HB2 := Aside0.mk (below_step HB1.out hB); clear hB))
            go_roundw
            case rel => exact ⟨k + 1, x.f0, by omega, rfl, by go_num, HRE, HB2⟩
            case measure => simp [intOf]; omega
          · rw [if_neg c3] at hre
            subst hre
            have hm : flow_may.f x.f0 x.f1 = some 2 := by
              unfold flow_may.f money_May.f
              by_cases d : x.f1 ≥ -10000000000000
              · rw [if_pos d, Option.bind_some, if_neg (by simp; omega)]
              · rw [if_neg d, Option.bind_some, if_neg (by simp)]
            have HM := Aside0.mk hm
            clear hm
            go_wp2_with (first | (go_at_call 23; refine (flow_day.calls x.f0 x.f1 x.f0 _ rfl).mono ?_; rintro e w1 ⟨rfl, hB⟩; have HB1 := Aside0.mk (below_step (below_alloc HB.out _) hB); have HBK := Aside0.mk ((hB.block wr.heap.size (by simp)).trans (hnew _)); have hb0 := blk_cell HBK.out 0; have hb1 := blk_cell HBK.out 1; clear hB) | (go_at_call 30; refine (flow_may.calls x.f0 x.f1 2 _ HM.out).mono ?_; rintro e w2 ⟨rfl, hB⟩; have HB2 := Aside0.mk (below_step HB1.out hB); clear hB))
            go_ret
            exact ⟨rfl, HB2.out⟩
    · obtain rfl : k = l.length := by omega
      have hre := HRE.out
      rw [List.drop_length, flow_Flow_29.rise] at hre
      subst hre
      go_wp2
      go_ret
      exact ⟨rfl, HB.out⟩


end Go.Proofs.Ytpolkjmdkeengaa.Print
