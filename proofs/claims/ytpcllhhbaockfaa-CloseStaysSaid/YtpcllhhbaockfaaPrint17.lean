-- written by this session's program wip/hybrid.py over the kit's printer, and by hand. Not trusted: Lean checks it.
import Derived.Test.YtpcllhhbaockfaaPrint0
namespace Go.Proofs.Ytpcllhhbaockfaa.Print
open Go.RowKit Go.Proofs.YtpcllhhbaockfaaW.PrintWords Go.Proofs.YtpcllhhbaockfaaW.PrintLast Go.Proofs.YtpcllhhbaockfaaW.PrintMore
attribute [local go_sem] max2_int min2_int max_two min_two max_three min_three max_four min_four   -- for this text's walks alone
set_option linter.unusedVariables false
set_option linter.unusedSimpArgs false

/-! ### money_Sum: function 46 -/
theorem money_Sum.add64_run (x y : Int) (hx : 0 ≤ x) (hy : 0 ≤ y) (w : World) :
    (callFunc 48 #[.int .u64 x, .int .u64 y, .int .u64 0]).run Try.prog w = .ok (.value (.tuple #[.int .u64 ((x + y) % 18446744073709551616), .int .u64 ((x + y) / 18446744073709551616)])) w := by
  rw [run_callFunc_extern Try.func48 (by kernel_rfl) (by kernel_rfl) (by kernel_rfl) (e := add64Entry) (by kernel_rfl), run_add64 x y 0 hx hy (by omega) (by omega)]
  simp only [Result.andThen, Int.add_zero]
def money_Sum.ok (l : List Int) : Prop := l.length ≤ 1000000000000000 ∧ ∀ x ∈ l, -9223372036854775808 ≤ x ∧ x ≤ 9223372036854775807
instance money_Sum_dec (l : List Int) : Decidable (money_Sum.ok l) := by unfold money_Sum.ok; infer_instance
def money_Sum.s (l : List Int) : Int × Int := if -9223372036854775808 ≤ l.sum ∧ l.sum ≤ 9223372036854775807 then (l.sum, 0) else (0, 3)
def money_Sum.f (l0 : List Int) : Option (Int × Int) := if money_Sum.ok l0 then some (money_Sum.s l0) else none
theorem money_Sum.uw (n : Int) : IntKind.u64.wrap n = n % 18446744073709551616 := rfl
theorem money_Sum.step {S n : Int} {k : Nat} (hk : k ≤ 1000000000000000) (h1 : S ≤ k * 9223372036854775808) (h2 : -(k * 9223372036854775808 : Int) ≤ S) (n1 : -9223372036854775808 ≤ n) (n2 : n ≤ 9223372036854775807) :
    (S % 18446744073709551616 + IntKind.u64.wrap n) % 18446744073709551616 = (S + n) % 18446744073709551616 ∧
    wrap64 (wrap64 (S / 18446744073709551616 + n / 9223372036854775808) + wrap64 ((S % 18446744073709551616 + IntKind.u64.wrap n) / 18446744073709551616)) = (S + n) / 18446744073709551616 ∧
    S + n ≤ ((k + 1 : Nat) : Int) * 9223372036854775808 ∧ -(((k + 1 : Nat) : Int) * 9223372036854775808) ≤ S + n := by
  rw [money_Sum.uw]
  refine ⟨by omega, ?_, by omega, by omega⟩
  have w1 : wrap64 (S / 18446744073709551616 + n / 9223372036854775808) = S / 18446744073709551616 + n / 9223372036854775808 := by unfold wrap64; omega
  have w2 : wrap64 ((S % 18446744073709551616 + n % 18446744073709551616) / 18446744073709551616) = (S % 18446744073709551616 + n % 18446744073709551616) / 18446744073709551616 := by unfold wrap64; omega
  rw [w1, w2]
  have e : S / 18446744073709551616 + n / 9223372036854775808 + (S % 18446744073709551616 + n % 18446744073709551616) / 18446744073709551616 = (S + n) / 18446744073709551616 := by omega
  rw [e]
  unfold wrap64; omega
theorem money_Sum.lo {S : Int} (h1 : -9223372036854775808 ≤ S) (h2 : S ≤ 9223372036854775807) : wrap64 (S % 18446744073709551616) = S := by unfold wrap64; omega
theorem money_Sum.hi {S : Int} : (S / 18446744073709551616 == wrap64 (S % 18446744073709551616) / 9223372036854775808) = decide (-9223372036854775808 ≤ S ∧ S ≤ 9223372036854775807) := by
  rw [Bool.eq_iff_iff, decide_eq_true_iff, beq_iff_eq]
  unfold wrap64; omega
theorem money_Sum.take (l : List Int) (k : Nat) (h : k < l.length) : (l.take (k + 1)).sum = (l.take k).sum + l.getD k 0 := by
  rw [List.take_succ_eq_append_getElem h, List.sum_append, List.getD_eq_getElem?_getD, List.getElem?_eq_getElem h]
  simp
set_option maxHeartbeats 1000000 in
theorem money_Sum.calls (A0 : Option Addr) (c0 : Nat) (l0 : List Int) (r1 : Int) (r2 : Int) (w : World) (hr0 : Kd.C (Kd.int .i64) w A0 l0.length l0) (hc0 : l0.length ≤ c0) (h : money_Sum.f l0 = some (r1, r2)) :
    Calls Try.prog 46 #[.slice A0 l0.length c0] w fun e w' => e = .returned (.tuple #[.int .i64 r1, .int .i64 r2]) ∧ Drawn0 w w' := by
  unfold money_Sum.f at h
  have hok : money_Sum.ok l0 := by
    apply Classical.byContradiction
    intro c
    rw [if_neg c] at h
    cases h
  rw [if_pos hok] at h
  obtain ⟨hlen, hrange⟩ := hok
  have H := Option.some.inj h
  clear h
  unfold money_Sum.s at H
  have HR := Aside0.mk hr0
  clear hr0
  have HH := Aside0.mk H
  clear H
  have HRG := Aside0.mk hrange
  clear hrange
  go_enter Try.func46, Try.ntmps46
  go_wp2
  go_loop [4, 5, 12] (fun lo hi i => ∃ (k : Nat) (x y : Int), k ≤ l0.length ∧ 0 ≤ x ∧ i = .int .i64 k ∧ lo = .int .u64 x ∧ hi = .int .i64 y ∧ Aside0 (x = (l0.take k).sum % 18446744073709551616 ∧ y = (l0.take k).sum / 18446744073709551616 ∧ (l0.take k).sum ≤ (k : Int) * 9223372036854775808 ∧ -((k : Int) * 9223372036854775808) ≤ (l0.take k).sum)) (fun _ _ i => l0.length - (intOf i).toNat)
  case atStart => exact ⟨0, 0, 0, Nat.zero_le _, Int.le_refl _, rfl, rfl, rfl, ⟨by simp⟩⟩
  case round =>
    obtain ⟨k, x, y, hk, hx, rfl, rfl, rfl, hS⟩ := hrel
    by_cases hlt : k < l0.length
    · obtain ⟨ad, cs, rfl, _, hK, hc⟩ := Kd.C_get HR.out 0 (k : Int) (by omega) (by omega)
      obtain rfl : cs = [.int .i64 (l0.getD (k : Int).toNat 0)] := hK
      have hx0 : w.cell? (ad.add k) = some (.int .i64 (l0.getD k 0)) := by have := hc 0 _ rfl; simpa [Kd.int, Kd.scalar] using this
      clear hc
      have hmem : l0.getD k 0 ∈ l0 := by rw [List.getD_eq_getElem?_getD, List.getElem?_eq_getElem hlt]; exact List.getElem_mem hlt
      have hrn := HRG.out _ hmem
      have HT := money_Sum.take l0 k hlt
      generalize hn : l0.getD k 0 = n at hx0 hmem hrn HT
      have HST := Aside0.mk (money_Sum.step (S := (l0.take k).sum) (n := n) (by omega) hS.out.2.2.1 hS.out.2.2.2 hrn.1 hrn.2)
      have HT' := Aside0.mk HT
      clear hn hmem hrn HT
      have hadd := fun (W : World) (v : Int) (hv : 0 ≤ v) => money_Sum.add64_run x v hx hv W
      go_wp2
      go_round
      case rel =>
        obtain ⟨rfl, rfl, _, _⟩ := hS.out
        obtain ⟨e1, e2, e3, e4⟩ := HST.out
        refine ⟨k + 1, _, _, by omega, ?_, by go_num, rfl, rfl, ⟨?_⟩⟩
        · rw [e1]; omega
        · rw [HT'.out]; exact ⟨e1, e2, e3, e4⟩
      case measure => simp [intOf]; omega
    · obtain rfl : k = l0.length := by omega
      obtain ⟨ex, ey, _, _⟩ := hS.out
      have hh := money_Sum.hi (S := l0.sum)
      rw [List.take_length] at ex ey
      have HX := Aside0.mk ex
      have HY := Aside0.mk ey
      rw [← ex, ← ey] at hh
      have HH2 := HH.out
      by_cases c : -9223372036854775808 ≤ l0.sum ∧ l0.sum ≤ 9223372036854775807
      · rw [if_pos c] at HH2
        rw [decide_eq_true c] at hh
        have hlo : wrap64 x = l0.sum := by rw [ex]; exact money_Sum.lo c.1 c.2
        have HL := Aside0.mk hlo
        have HC := Aside0.mk HH2
        clear hlo HH2 c ex ey hS
        go_wp2
        go_ret2
        obtain ⟨rfl, rfl⟩ := Prod.mk.inj HC.out
        exact ⟨(show Ending.returned (.tuple #[.int .i64 (wrap64 x), .int .i64 0]) = _ by rw [HL.out]), Drawn0.refl _⟩
      · rw [if_neg c] at HH2
        rw [decide_eq_false c] at hh
        have HC := Aside0.mk HH2
        clear HH2 c ex ey hS
        go_wp2
        go_ret2
        obtain ⟨rfl, rfl⟩ := Prod.mk.inj HC.out
        exact ⟨rfl, Drawn0.refl _⟩


end Go.Proofs.Ytpcllhhbaockfaa.Print
