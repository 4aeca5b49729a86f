-- written by this session's program wip/hybrid.py over the kit's printer, and by hand. Not trusted: Lean checks it.
import Derived.Test.YtpolkjmdkeengaaPrint0
namespace Go.Proofs.Ytpolkjmdkeengaa.Print
open Go.RowKit Go.Proofs.YtpolkjmdkeengaaW.PrintWords Go.Proofs.YtpolkjmdkeengaaW.PrintLast Go.Proofs.YtpolkjmdkeengaaW.PrintMore
attribute [local go_sem] max2_int min2_int max_two min_two max_three min_three max_four min_four   -- for this text's walks alone
set_option linter.unusedVariables false
set_option linter.unusedSimpArgs false

/-! ### flow_rising_int: function 31 -/
def flow_rising_int.rise : Int → List Int → Int
  | _, [] => 0
  | last, x :: t => if x ≤ last then 5 else if 3652059 < x then 5 else flow_rising_int.rise x t
set_option maxHeartbeats 4000000 in
set_option maxRecDepth 100000 in
theorem flow_rising_int.go_ (A : Option Addr) (c : Nat) (l : List Int) (w : World) (hr : Kd.C (Kd.int .i64) w A l.length l) (hc : l.length ≤ c) (hl : l.length ≤ 1000000000000) :
    Calls Try.prog 31 #[.slice A l.length c, .func (.func 32) #[] #[], .func (.func 33) #[] #[]] w fun e w' => e = .returned (.int .i64 (flow_rising_int.rise 0 l)) ∧ Below w.heap.size w w' := by
  have HR := Aside0.mk hr
  clear hr
  obtain ⟨r, hre⟩ : ∃ r, flow_rising_int.rise 0 l = r := ⟨_, rfl⟩
  rw [hre]
  have HRE := Aside0.mk hre
  clear hre
  go_enter Try.func31, Try.ntmps31
  go_wp2
  go_loopw [7, 14] (fun v i wr => ∃ (k : Nat) (last : Int), k ≤ l.length ∧ v = .int .i64 last ∧ i = .int .i64 k ∧ Aside0 (flow_rising_int.rise last (l.drop k) = r) ∧ Aside0 (Below w.heap.size w wr)) (fun _ i _ => l.length - (intOf i).toNat)
  case atStart => exact ⟨0, 0, Nat.zero_le _, rfl, rfl, HRE, ⟨Below.refl _ _⟩⟩
  case round =>
    clear HRE
    obtain ⟨k, last, hk, rfl, rfl, HRE, HB⟩ := hrel
    by_cases hlt : k < l.length
    · obtain ⟨ad, rfl, hx0⟩ := Kd.at_int HR.out (k : Int) (by omega) (by omega)
      replace hx0 := (HB.out.cell (World.block_lt_of_cell? w _ hx0)).trans hx0
      rw [Int.toNat_natCast] at hx0
      have hdr : l.drop k = rd l (k : Int) :: l.drop (k + 1) := by
        rw [List.drop_eq_getElem_cons hlt]; simp [rd, List.getElem?_eq_getElem hlt]
      have hre := HRE.out
      rw [hdr, flow_rising_int.rise] at hre
      clear HRE hdr
      generalize rd l (k : Int) = x at hx0 hre
      by_cases c1 : x ≤ last
      · rw [if_pos c1] at hre
        subst hre
        go_wp2
        go_ret
        exact ⟨rfl, by repeat (first | exact HB.out | apply below_alloc | apply pw_below_drewN | apply below_drew1)⟩
      · rw [if_neg c1] at hre
        by_cases c2 : 3652059 < x
        · rw [if_pos c2] at hre
          subst hre
          go_wp2
          go_ret
          exact ⟨rfl, by repeat (first | exact HB.out | apply below_alloc | apply pw_below_drewN | apply below_drew1)⟩
        · rw [if_neg c2] at hre
          have HRE := Aside0.mk hre
          clear hre
          go_wp2
          go_roundw
          case rel => exact ⟨k + 1, x, by omega, rfl, by go_num, HRE, ⟨by repeat (first | exact HB.out | apply below_alloc | apply pw_below_drewN | apply below_drew1)⟩⟩
          case measure => simp [intOf]; omega
    · obtain rfl : k = l.length := by omega
      have hre := HRE.out
      rw [List.drop_length, flow_rising_int.rise] at hre
      subst hre
      go_wp2
      go_ret
      exact ⟨rfl, HB.out⟩


end Go.Proofs.Ytpolkjmdkeengaa.Print
