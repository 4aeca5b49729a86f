-- written by this session's program wip/hybrid.py over the kit's printer, and by hand. Not trusted: Lean checks it.
import Derived.Test.YtpcllhhbaockfaaPrint0
namespace Go.Proofs.Ytpcllhhbaockfaa.Print
open Go.RowKit Go.Proofs.YtpcllhhbaockfaaW.PrintWords Go.Proofs.YtpcllhhbaockfaaW.PrintLast Go.Proofs.YtpcllhhbaockfaaW.PrintMore
attribute [local go_sem] max2_int min2_int max_two min_two max_three min_three max_four min_four   -- for this text's walks alone
set_option linter.unusedVariables false
set_option linter.unusedSimpArgs false

/-! ### allow_Change_16: function 16 -/
def z5 : Value := .agg #[.int .i64 0, .int .i64 0, .int .i64 0, .int .i64 0, .int .i64 0]
theorem chg_info : (Try.prog.info? 64).map (fun i => (i.zero, i.size, i.bytes)) = some (some z5, k64.sz, 40) := by kernel_rfl
theorem chg_und : Try.prog.underlying 49 = some (.slice 64) := by kernel_rfl
set_option maxHeartbeats 8000000 in
set_option maxRecDepth 100000 in
theorem chg_Grow {w : World} (n : Nat) (hl : n ≤ 1000000000) : Calls Try.prog 36 #[.slice none 0 0, .int .i64 n] w fun e w' => ∃ v, e = .returned v ∧ Kd.R k64 64 w' w.heap.size (fun _ => True) v [] ∧ Below w.heap.size w w' := by
  by_cases h0 : n = 0
  · subst h0
    go_enter Try.func36, Try.ntmps36
    go_wp2_with fail
    go_ret
    exact ⟨_, rfl, Kd.R_nil _ _ _ _ _, Below.refl _ _⟩
  · have h1 : 0 < n := by omega
    have h0' : ¬ ((n : Int) < 0) := by omega
    go_enter Try.func36, Try.ntmps36
    go_wp2_with ((with_reducible refine gate_builtin (b := .append) (xs := #[.tmp 20, .tmp 21]) rfl ?_); refine Shut.out ?_)
    unfold Shut
    refine Kd.R_append_zeros (w0 := w) k64 w.heap.size rfl (.tmp 20) (.tmp 21) 49 3 64 z5 40 rfl chg_und (k := .i64) (by kernel_rfl) chg_info rfl (by show 0 < 5; omega) (by omega) (.slice none 0 0) [] z64 (n : Int) (fun _ => True) rfl rfl (k64_mkM _ _ _ z64) (fun _ _ => trivial) (Kd.R_nil _ _ _ _ _) (by omega) (Below.refl _ _) (Nat.le_refl _) (by simp; omega) ?_
    intro v1 w1 hR hb _ _
    have HR := Aside0.mk hR
    have HB := Aside0.mk hb
    obtain ⟨A, c, hv⟩ := Kd.R_slice hR
    subst hv
    rw [List.nil_append, List.length_replicate, Int.toNat_natCast] at HR ⊢
    clear hR hb
    have hcap := (Kd.R_reads' HR.out).2.1
    go_wp2_with fail
    go_ret
    exact ⟨_, rfl, by simpa using Kd.R_take HR.out (m := 0) (Nat.zero_le _), HB.out⟩
theorem chg_at {w : World} {A : Option Addr} {n : Nat} {xs : List (List S64)} (h : Kd.C (Kd.slice 64 k64) w A n xs) (i : Nat) (h1 : i < xs.length) : ∃ ad A0 c0, A = some ad ∧ w.cell? (ad.add i) = some (.slice A0 xs[i].length c0) ∧ xs[i].length ≤ c0 ∧ k64.C w A0 xs[i].length xs[i] := by
  obtain ⟨ad, c, e, _, hK, hc0⟩ := Kd.C_get h ([] : List S64) (i : Int) (by omega) (by have := h.1; omega)
  have hc : ∀ j u, c[j]? = some u → w.cell? (ad.add (i * 1 + j)) = some u := hc0
  obtain ⟨A0, c0, rfl, l0, g0⟩ := hK
  have e3 : xs.getD (Int.toNat (i : Int)) [] = xs[i] := by simp [List.getD, h1]
  rw [e3] at hc l0 g0
  exact ⟨ad, A0, c0, e, by have hq := hc 0 _ rfl; rwa [Nat.mul_one, Nat.add_zero] at hq, l0, g0⟩
def ctot (l : List (List S64)) : Nat := l.flatten.length
theorem ctot_step (l : List (List S64)) (i : Nat) (hi : i < l.length) : ctot (l.take (i + 1)) = ctot (l.take i) + l[i].length := by
  unfold ctot
  rw [List.take_succ_eq_append_getElem hi, List.flatten_append, List.length_append, List.flatten_singleton]
theorem ctot_le (l : List (List S64)) (i : Nat) : ctot (l.take i) ≤ ctot l := by
  unfold ctot
  have h : l.flatten = (l.take i).flatten ++ (l.drop i).flatten := by rw [← List.flatten_append, List.take_append_drop]
  rw [h, List.length_append]
  omega
set_option maxHeartbeats 8000000 in
set_option maxRecDepth 100000 in
theorem chg_Concat {w : World} {A : Option Addr} {c : Nat} {l : List (List S64)} (hC : Kd.C (Kd.slice 64 k64) w A l.length l) (hc : l.length ≤ c) (hl : ctot l ≤ 1000000000) (hn : l.length ≤ 1000000000) :
    Calls Try.prog 16 #[.slice A l.length c] w fun e w' => ∃ v, e = .returned v ∧ Kd.R k64 64 w' w.heap.size (fun _ => True) v l.flatten ∧ Below w.heap.size w w' := by
  have hC := Aside0.mk hC
  go_enter Try.func16, Try.ntmps16
  go_wp2_with fail
  go_loopw [3, 11] (fun v u wr => ∃ i : Nat, i ≤ l.length ∧ v = .int .i64 (ctot (l.take i)) ∧ u = .int .i64 i ∧ w = wr) (fun _ u _ => l.length - (intOf u).toNat)
  case atStart => exact ⟨0, Nat.zero_le _, rfl, rfl, rfl⟩
  case round =>
    obtain ⟨i, hi, rfl, rfl, rfl⟩ := hrel
    by_cases hlt : i < l.length
    · obtain ⟨ad, A0, c0, rfl, hx, _, _⟩ := chg_at hC.out i hlt
      have hs := ctot_step l i hlt
      have ht := ctot_le l (i + 1)
      have hs2 : ((ctot (l.take (i + 1)) : Nat) : Int) = (ctot (l.take i) : Int) + (l[i].length : Int) := by omega
      replace hs := Aside0.mk hs
      have hneg : ¬ ((ctot (l.take i) : Int) + (l[i].length : Int) < 0) := by omega
      have hbig : (ctot (l.take i) : Int) + (l[i].length : Int) ≤ 1000000000 := by omega
      replace hs2 := Aside0.mk hs2
      generalize l[i].length = m at hx hneg hbig hs hs2
      go_wp2_with fail
      go_roundw
      case rel => exact ⟨i + 1, by omega, by rw [hs2.out], by go_num, by first | trivial | rfl⟩
      case measure => simp [intOf]; omega
    · obtain rfl : i = l.length := by omega
      rw [List.take_length]
      go_wp2_with fail
      refine (chg_Grow (ctot l) hl).mono ?_
      rintro e w1 ⟨v, rfl, hR, hb⟩
      have HR := Aside0.mk hR
      have HB := Aside0.mk hb
      clear hR hb
      go_wp2_with fail
      go_loopw [6, 27] (fun v u wr => ∃ i : Nat, i ≤ l.length ∧ Aside0 (Kd.R k64 64 wr w.heap.size (fun _ => True) v (l.take i).flatten) ∧ u = .int .i64 i ∧ Aside0 (Below w.heap.size w wr)) (fun _ u _ => l.length - (intOf u).toNat)
      case atStart => exact ⟨0, Nat.zero_le _, ⟨by simpa using HR.out⟩, rfl, HB⟩
      case round =>
        clear HR HB
        obtain ⟨i, hi, HR, rfl, HB⟩ := hrel
        by_cases hlt : i < l.length
        · obtain ⟨ad, A0, c0, hA, hx, hle, hC0⟩ := chg_at (Kd.C_below hC.out HB.out) i hlt
          subst hA
          have HC0 := Aside0.mk hC0
          clear hC0
          go_wp2_with ((with_reducible refine gate_builtin (b := .append) (xs := #[.tmp 31, .tmp 32]) rfl ?_); refine Shut.out ?_)
          unfold Shut
          have ht := ctot_le l (i + 1)
          rw [ctot_step l i hlt] at ht
          unfold ctot at ht hl
          refine Kd.R_append_rows k64 (w0 := w) w.heap.size rfl (.tmp 31) (.tmp 32) 49 64 z5 40 rfl chg_und chg_info rfl (by show 0 < 5; omega) (by omega) _ _ l[i] A0 l[i].length c0 (fun _ => True) (fun _ => False) rfl rfl HR.out HC0.out (fun x cs h => by rw [k64_open h]; exact k64_mkM _ _ _ x) (fun _ h => h.elim) (fun _ _ => trivial) HB.out HB.out.size (by omega) ?_
          intro v1 w2 hR hb _ _
          have HR' := Aside0.mk hR
          have HB' := Aside0.mk hb
          clear hR hb HR HB HC0 hx
          go_wp2_with fail
          go_roundw
          case rel => exact ⟨i + 1, by omega, ⟨by rw [List.take_succ_eq_append_getElem hlt, List.flatten_append, List.flatten_singleton]; exact HR'.out⟩, by go_num, HB'⟩
          case measure => simp [intOf]; omega
        · obtain rfl : i = l.length := by omega
          rw [List.take_length] at HR
          go_wp2_with fail
          go_ret
          exact ⟨_, rfl, HR.out, HB.out⟩


end Go.Proofs.Ytpcllhhbaockfaa.Print
