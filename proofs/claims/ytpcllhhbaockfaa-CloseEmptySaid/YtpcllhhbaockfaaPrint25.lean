-- written by this session's program wip/hybrid.py over the kit's printer, and by hand. Not trusted: Lean checks it.
import Derived.Test.YtpcllhhbaockfaaPrint0
import Derived.Test.YtpcllhhbaockfaaPrint1
import Derived.Test.YtpcllhhbaockfaaPrint2
import Derived.Test.YtpcllhhbaockfaaPrint12
import Derived.Test.YtpcllhhbaockfaaPrint13
import Derived.Test.YtpcllhhbaockfaaPrint14
import Derived.Test.YtpcllhhbaockfaaPrint15
import Derived.Test.YtpcllhhbaockfaaPrint20
import Derived.Test.YtpcllhhbaockfaaPrint21
import Derived.Test.YtpcllhhbaockfaaPrint22
import Derived.Test.YtpcllhhbaockfaaPrint23
namespace Go.Proofs.Ytpcllhhbaockfaa.Print
open Go.RowKit Go.Proofs.YtpcllhhbaockfaaW.PrintWords Go.Proofs.YtpcllhhbaockfaaW.PrintLast Go.Proofs.YtpcllhhbaockfaaW.PrintMore
attribute [local go_sem] max2_int min2_int max_two min_two max_three min_three max_four min_four   -- for this text's walks alone
set_option linter.unusedVariables false
set_option linter.unusedSimpArgs false

/-! ### lombardlaw23_CloseEmpty: function 3 -/
def lombardlaw23_CloseEmpty.f (l : List S34) : Option Bool := some true
theorem lombardlaw23_CloseEmpty.eq36 (d : Nat) (w : World) (x0 y0 x1 y1 x2 y2 x3 y3 x4 y4 x5 y5 x6 y6 : Int) :
    (Op.equalIn (d + 2) 36 (.agg #[.int .i64 x0, .int .i64 x1, .int .i64 x2, .int .i64 x3, .int .i64 x4, .int .i64 x5, .int .i64 x6]) (.agg #[.int .i64 y0, .int .i64 y1, .int .i64 y2, .int .i64 y3, .int .i64 y4, .int .i64 y5, .int .i64 y6])).run Try.prog w = .ok (x0 == y0 && (x1 == y1 && (x2 == y2 && (x3 == y3 && (x4 == y4 && (x5 == y5 && (x6 == y6))))))) w := by
  refine eqA_of Try.underlying36 (by kernel_rfl) ?_
  refine eqf_cons (by rfl) (by go_simp; rfl) (by go_simp; rfl) (by go_simp) ?_
  refine eqf_cons (by rfl) (by go_simp; rfl) (by go_simp; rfl) (by go_simp) ?_
  refine eqf_cons (by rfl) (by go_simp; rfl) (by go_simp; rfl) (by go_simp) ?_
  refine eqf_cons (by rfl) (by go_simp; rfl) (by go_simp; rfl) (by go_simp) ?_
  refine eqf_cons (by rfl) (by go_simp; rfl) (by go_simp; rfl) (by go_simp) ?_
  refine eqf_cons (by rfl) (by go_simp; rfl) (by go_simp; rfl) (by go_simp) ?_
  exact eqf_last (by rfl) (by go_simp; rfl) (by go_simp; rfl) (by go_simp)
theorem lombardlaw23_CloseEmpty.eqc (d : Nat) (w : World) (c : Int) : (Op.equalIn (d + 2) 36 (.agg #[.int .i64 c, .int .i64 0, .int .i64 0, .int .i64 0, .int .i64 0, .int .i64 0, .int .i64 c]) (.agg #[.int .i64 c, .int .i64 0, .int .i64 0, .int .i64 0, .int .i64 0, .int .i64 0, .int .i64 c])).run Try.prog w = .ok true w := by
  rw [lombardlaw23_CloseEmpty.eq36]
  simp
set_option maxHeartbeats 32000000 in
set_option maxRecDepth 100000 in
theorem lombardlaw23_CloseEmpty.walk (A0 : Option Addr) (c0 : Nat) (l0 : List S34) (w : World) (hr0 : Kd.C k34 w A0 l0.length l0) (hc0 : l0.length ≤ c0) : Calls Try.prog 3 #[.slice A0 l0.length c0] w fun e w' => e = .returned (.bool true) ∧ Below w.heap.size w w' := by
  obtain ⟨rl0, hgl0, hgz⟩ := cx_great l0 hr0.2.1
  replace hgl0 := Aside0.mk hgl0
  have HR0 := Aside0.mk hr0
  clear hr0
  go_enter Try.func3, Try.ntmps3
  go_wp2_with fail
  refine lombardlaw23_alive.calls.mono ?_
  rintro e w1 ⟨rfl, hb⟩
  have HB := Aside0.mk hb
  clear hb
  go_wp2_with fail
  with_reducible refine (lombardlaw23_great.calls _ A0 c0 l0 rl0 w1 (Kd.C_below HR0.out HB.out) hc0 hgl0.out).mono ?_
  rintro e w2 ⟨rfl, hb⟩
  have HB' := Aside0.mk (below_step HB.out hb)
  clear hb HB
  have HB := HB'
  clear HB' hgl0
  cases rl0
  case true =>
    go_wp2_with fail
    go_ret
    exact ⟨rfl, HB.out⟩
  obtain ⟨hl100, hgx⟩ := hgz rfl
  clear hgz
  go_wp2_with fail
  refine close_New.calls.mono ?_
  rintro e w3 ⟨pa, rfl, hca, hb⟩
  have HA := Aside0.mk (hca.lower HB.out.size)
  have HB' := Aside0.mk (below_step HB.out hb)
  clear hca hb HB
  have HB := HB'
  clear HB'
  go_wp2_with fail
  refine close_New.calls.mono ?_
  rintro e w4 ⟨pb, rfl, hcb, hb⟩
  have hne : Aside0 (pa ≠ pb) := ⟨fun e => by have h1 := HA.out.lt; have h2 := hcb.hB; omega⟩
  have HA' := Aside0.mk (HA.out.below hb)
  have HX := Aside0.mk (hcb.lower HB.out.size)
  have HB' := Aside0.mk (below_step HB.out hb)
  clear hcb hb HB HA
  have HB := HB'
  have HA := HA'
  clear HB' HA'
  go_wp2_with fail
  go_loopw [24] (fun y wr => ∃ (i : Nat) (xa : Rep) (ta : Nat) (cva : Value) (cha : List S64) (pv : Value) (past : List Rep) (xb : Rep) (tb : Nat) (cvb : Value) (chb : List S64), i ≤ l0.length ∧ y = .int .i64 i ∧ past.length ≤ i ∧ Aside0 (CA w.heap.size wr pa (.slice none 0 0) [] xa ta cva cha) ∧ Aside0 (CA w.heap.size wr pb pv past xb tb cvb chb) ∧ Aside0 (InvX xa cha) ∧ Aside0 (InvX xb chb) ∧ Aside0 (cx_Eq xa xb) ∧ Aside0 (Below w.heap.size w wr)) (fun y _ => l0.length - (intOf y).toNat)
  case atStart => exact ⟨0, rep1, 0, .slice none 0 0, [], .slice none 0 0, [], rep1, 0, .slice none 0 0, [], Nat.zero_le _, rfl, Nat.zero_le _, HA, HX, ⟨InvX.first⟩, ⟨InvX.first⟩, ⟨rfl, rfl, rfl, rfl⟩, HB⟩
  case round =>
    clear HA HX HB
    obtain ⟨i, xa, ta, cva, cha, pv, past, xb, tb, cvb, chb, hi, rfl, hpl, HA, HX, IA, IB, EQ, HB⟩ := hrel
    by_cases hlt : i < l0.length
    case neg =>
      clear hgx
      go_wp2_with fail
      refine (close_Closer_Now.calls xa HA.out.hp).mono ?_
      rintro e w6 ⟨rfl, hb⟩
      have HX6 := Aside0.mk (HX.out.below hb)
      have HB6 := Aside0.mk (below_step HB.out hb)
      clear hb HB HX HA
      go_wp2_with ((with_reducible refine gate_store (t := 41) (p := 9) (v := .tmp 49) rfl ?_); refine Shut.out ?_)
      unfold Shut
      change wpList _ _ _ _ _ (w6.alloc (.cells Rep.z.cs 41))
      obtain ⟨hnb, hnk⟩ := newbk w6 Rep.z.cs xa.cs 41
      refine store_rowTo rfl 41 (.tmp 9) (.tmp 49) rfl rfl w6.heap.size xa.cs rfl rfl 41 _ (blk_new w6 _) (by kernel_rfl) rfl (Rep.all _) ?_
      have HX := Aside0.mk (HX6.out.below hnb)
      have HB := Aside0.mk (below_step HB6.out hnb)
      have H9 := Aside0.mk hnk
      clear hnb hnk HX6 HB6
      generalize (w6.alloc (.cells Rep.z.cs 41)).setRow w6.heap.size xa.cs = w7 at HX HB H9 ⊢
      generalize w6.heap.size = g9 at H9 ⊢
      go_wp2_with fail
      refine (close_Closer_Now.calls xb HX.out.hp).mono ?_
      rintro e w8 ⟨rfl, hb⟩
      have HX8 := Aside0.mk (HX.out.below hb)
      have HB8 := Aside0.mk (below_step HB.out hb)
      have H98 := Aside0.mk (blk_below H9.out hb)
      clear hb HB HX H9
      go_wp2_with ((with_reducible refine gate_store (t := 41) (p := 11) (v := .tmp 54) rfl ?_); refine Shut.out ?_)
      unfold Shut
      change wpList _ _ _ _ _ (w8.alloc (.cells Rep.z.cs 41))
      obtain ⟨hnb, hnk⟩ := newbk w8 Rep.z.cs xb.cs 41
      refine store_rowTo rfl 41 (.tmp 11) (.tmp 54) rfl rfl w8.heap.size xb.cs rfl rfl 41 _ (blk_new w8 _) (by kernel_rfl) rfl (Rep.all _) ?_
      have HX := Aside0.mk (HX8.out.below hnb)
      have HB := Aside0.mk (below_step HB8.out hnb)
      have H9 := Aside0.mk (blk_below H98.out hnb)
      have H11 := Aside0.mk hnk
      have hno : Aside0 (∀ k, pv.ownBlock = some k → k ≠ w8.heap.size) := ⟨fun k hk => by obtain ⟨inner, ho⟩ := Kd.R_own HX8.out.hw; have := own_lt ho k hk; omega⟩
      clear hnb hnk HX8 HB8 H98
      generalize (w8.alloc (.cells Rep.z.cs 41)).setRow w8.heap.size xb.cs = w9 at HX HB H9 H11 ⊢
      generalize w8.heap.size = g11 at H11 hno ⊢
      obtain ⟨ec, ec0, ec1, ec2⟩ := EQ.out
      clear EQ
      have u9 : w9.cell? ⟨g9, 7, none⟩ = some (.int .i64 xb.c) := (blk_cell H9.out 7).trans (by rw [← ec]; rfl)
      have u11 : w9.cell? ⟨g11, 7, none⟩ = some (.int .i64 xb.c) := (blk_cell H11.out 7).trans rfl
      have en : ∀ n : Int, (n != n) = false := fun n => by simp
      replace ec0 := Aside0.mk ec0
      replace ec1 := Aside0.mk ec1
      replace ec2 := Aside0.mk ec2
      clear ec
      go_wp2_with fail
      clear u9 u11
      go_loopw [13, 63] (fun _ y wr => ∃ k : Nat, k ≤ 3 ∧ y = .int .i64 k ∧ Aside0 (CA w.heap.size wr pb pv past xb tb cvb chb) ∧ Aside0 (wr.heap[g9]? = some (.cells xa.cs 41 (0, 0))) ∧ Aside0 (wr.heap[g11]? = some (.cells xb.cs 41 (0, 0))) ∧ Aside0 (Below w.heap.size w wr)) (fun _ y _ => 3 - (intOf y).toNat)
      case atStart => exact ⟨0, by omega, rfl, HX, H9, H11, HB⟩
      case round =>
        clear HX H9 H11 HB
        obtain ⟨k, hk, rfl, HX, H9, H11, HB⟩ := hrel
        rcases (show k = 3 ∨ k = 0 ∨ k = 1 ∨ k = 2 by omega) with rfl | rfl | rfl | rfl
        case inl =>
          go_wp2_with fail
          refine (close_Closer_Close.calls HX.out (by omega)).mono ?_
          rintro e q1 ⟨pv1, rfl, hx, hm⟩
          have HX1 := Aside0.mk hx
          have HB1 := Aside0.mk (hm.below HB.out HB.out.size HX.out.base)
          have hno1 : Aside0 (∀ k, pv1.ownBlock = some k → k ≠ g11) := ⟨fun k hk e => by
            rcases hm.foot k (Or.inr hk) with h2 | h2
            · rcases h2 with h2 | h2
              · exact HX.out.ne H11.out (by decide) (e ▸ h2)
              · exact hno.out k h2 e
            · have := blk_lt H11.out; omega⟩
          have H111 := Aside0.mk (hm.blk H11.out (fun e => e.elim (fun e => HX.out.ne H11.out (by decide) e) (fun e => hno.out g11 e rfl)))
          clear hx hm HX HB H9 H11
          go_wp2_with fail
          refine (close_Closer_Close.calls HX1.out (by simp; omega)).mono ?_
          rintro e q2 ⟨pv2, rfl, hx, hm⟩
          have HB2 := Aside0.mk (hm.below HB1.out HB1.out.size HX1.out.base)
          have H112 := Aside0.mk (hm.blk H111.out (fun e => e.elim (fun e => HX1.out.ne H111.out (by decide) e) (fun e => hno1.out g11 e rfl)))
          clear hx hm HX1 HB1 H111
          go_wp2_with ((with_reducible refine gate_store (t := 41) (p := 14) (v := .tmp 83) rfl ?_); refine Shut.out ?_)
          unfold Shut
          change wpList _ _ _ _ _ (q2.alloc (.cells Rep.z.cs 41))
          obtain ⟨hnb, hnk⟩ := newbk q2 Rep.z.cs (nextR xb).cs 41
          refine store_rowTo rfl 41 (.tmp 14) (.tmp 83) rfl rfl q2.heap.size (nextR xb).cs rfl rfl 41 _ (blk_new q2 _) (by kernel_rfl) rfl (Rep.all _) ?_
          have HB := Aside0.mk (below_step HB2.out hnb)
          have H11 := Aside0.mk (blk_below H112.out hnb)
          have H14 := Aside0.mk hnk
          clear hnb hnk HB2 H112
          generalize (q2.alloc (.cells Rep.z.cs 41)).setRow q2.heap.size (nextR xb).cs = q3 at HB H11 H14 ⊢
          generalize q2.heap.size = g14 at H14 ⊢
          have u11 : q3.cell? ⟨g11, 7, none⟩ = some (.int .i64 xb.c) := (blk_cell H11.out 7).trans rfl
          have u14 : q3.cell? ⟨g14, 26, none⟩ = some (.int .i64 0) := (blk_cell H14.out 26).trans rfl
          have heq := fun d W => lombardlaw23_CloseEmpty.eqc d W xb.c
          go_wp2_with (first | ((with_reducible refine gate_dst (N := 86) rfl ?_); refine gate_guard rfl ?_; refine wpl_value rfl (load_run_at 36 (.tmp 85) rfl ⟨g14, 1, none⟩ rfl (grow (nextR xb)).toList _ (grow_st (nextR xb) H14.out) Try.underlying36 rfl (by kernel_rfl)) ?_; change wpList _ _ _ _ (Act.put _ _ (.agg #[.int .i64 xb.c, .int .i64 0, .int .i64 0, .int .i64 0, .int .i64 0, .int .i64 0, .int .i64 xb.c])) _) | ((with_reducible refine gate_dst (N := 101) rfl ?_); refine gate_guard rfl ?_; refine wpList_load_row rfl 41 (.tmp 14) rfl g14 rfl 41 _ (0, 0) _ H14.out Try.underlying41 rfl (by kernel_rfl) ?_))
          refine (close_Ties.calls (nextR xb) (IB.out.next.good) _).mono ?_
          rintro e q4 ⟨rfl, hb⟩
          have HB2 := Aside0.mk (below_step HB.out hb)
          clear hb HB H11 H14 heq u11 u14
          go_wp2_with fail
          go_ret
          exact ⟨rfl, HB2.out⟩
        case inr.inl =>
          go_upto_region 22 with fail
          have n_HB := Aside0.mk (below_step HB.out (below_drew (Below.refl _ _)))
          have n_HX := Aside0.mk (HX.out.below (below_drew (Below.refl _ _)))
          have n_H9 := Aside0.mk (blk_below H9.out (below_drew (Below.refl _ _)))
          have n_H11 := Aside0.mk (blk_below H11.out (below_drew (Below.refl _ _)))
          clear HB
          have HB := n_HB
          clear n_HB
          clear HX
          have HX := n_HX
          clear n_HX
          clear H9
          have H9 := n_H9
          clear n_H9
          clear H11
          have H11 := n_H11
          clear n_H11
          refine start_ (n := 11) (S := fun w' => w'.cell? ⟨g9, 13, none⟩ = some (.int .i64 xb.s0.c) ∧ w'.cell? ⟨g11, 13, none⟩ = some (.int .i64 xb.s0.c)) (ds := []) #[false, false, false, false, false, false, false, false, false, false, false] (by kernel_rfl) rfl rfl ⟨(blk_cell H9.out 13).trans (by rw [← ec0.out]; rfl), (blk_cell H11.out 13).trans rfl⟩ (fun hHeld => ?_)
          generalize wr.drew = wd at HB HX H9 H11 hHeld ⊢
          refine pure_ (i := 0) (N := some 66) (v := ?_) (a' := ?_) #[true, false, false, false, false, false, false, false, false, false, false] rfl rfl (by kernel_rfl) (fun _ _ _ h => h) (Or.inl ⟨by rfl, ?_⟩) ?_ ?_
          rotate_left
          · intro w'
            go_simp
            with_reducible rfl
          rotate_left
          · simp only [Act.put, List.setIfInBounds_toArray, List.set_cons_zero, List.set_cons_succ, i64_w, i32_w]
            rfl
          refine pure_ (i := 1) (N := some 67) (v := ?_) (a' := ?_) #[true, true, false, false, false, false, false, false, false, false, false] rfl rfl (by kernel_rfl) (fun _ _ _ h => h) (Or.inl ⟨by rfl, ?_⟩) ?_ ?_
          rotate_left
          · intro w'
            go_simp
            with_reducible rfl
          rotate_left
          · simp only [Act.put, List.setIfInBounds_toArray, List.set_cons_zero, List.set_cons_succ, i64_w, i32_w]
            rfl
          refine pure_ (i := 2) (N := some 68) (v := ?_) (a' := ?_) #[true, true, true, false, false, false, false, false, false, false, false] rfl rfl (by kernel_rfl) (fun _ _ _ h => h) (Or.inl ⟨by rfl, ?_⟩) ?_ ?_
          rotate_left
          · intro w'
            go_simp
            with_reducible rfl
          rotate_left
          · simp only [Act.put, List.setIfInBounds_toArray, List.set_cons_zero, List.set_cons_succ, i64_w, i32_w]
            rfl
          refine pure_ (i := 3) (N := some 69) (v := ?_) (a' := ?_) #[true, true, true, true, false, false, false, false, false, false, false] rfl rfl (by kernel_rfl) (fun _ _ _ h => h) (Or.inl ⟨by rfl, ?_⟩) ?_ ?_
          rotate_left
          · intro w'
            go_simp
            with_reducible rfl
          rotate_left
          · simp only [Act.put, List.setIfInBounds_toArray, List.set_cons_zero, List.set_cons_succ, i64_w, i32_w]
            rfl
          refine pure_ (i := 5) (N := some 71) (v := ?_) (a' := ?_) #[true, true, true, true, false, true, false, false, false, false, false] rfl rfl (by kernel_rfl) (fun _ _ _ h => h) (Or.inl ⟨by rfl, ?_⟩) ?_ ?_
          rotate_left
          · intro w'
            go_simp
            with_reducible rfl
          rotate_left
          · simp only [Act.put, List.setIfInBounds_toArray, List.set_cons_zero, List.set_cons_succ, i64_w, i32_w]
            rfl
          refine pure_ (i := 6) (N := some 72) (v := ?_) (a' := ?_) #[true, true, true, true, false, true, true, false, false, false, false] rfl rfl (by kernel_rfl) (fun _ _ _ h => h) (Or.inl ⟨by rfl, ?_⟩) ?_ ?_
          rotate_left
          · intro w'
            go_simp
            with_reducible rfl
          rotate_left
          · simp only [Act.put, List.setIfInBounds_toArray, List.set_cons_zero, List.set_cons_succ, i64_w, i32_w]
            rfl
          refine pure_ (i := 7) (N := some 73) (v := ?_) (a' := ?_) #[true, true, true, true, false, true, true, true, false, false, false] rfl rfl (by kernel_rfl) (fun _ _ _ h => h) (Or.inl ⟨by rfl, ?_⟩) ?_ ?_
          rotate_left
          · intro w'
            go_simp
            with_reducible rfl
          rotate_left
          · simp only [Act.put, List.setIfInBounds_toArray, List.set_cons_zero, List.set_cons_succ, i64_w, i32_w]
            rfl
          refine pure_ (i := 8) (N := some 74) (v := ?_) (a' := ?_) #[true, true, true, true, false, true, true, true, true, false, false] rfl rfl (by kernel_rfl) (fun _ _ _ h => h) (Or.inl ⟨by rfl, ?_⟩) ?_ ?_
          rotate_left
          · intro w'
            go_simp
            with_reducible rfl
          rotate_left
          · simp only [Act.put, List.setIfInBounds_toArray, List.set_cons_zero, List.set_cons_succ, i64_w, i32_w]
            rfl
          refine take_ (i := 4) (N := some 70) (v := ?_) (a' := ?_) #[true, true, true, true, true, true, true, true, true, false, false] rfl rfl (by kernel_rfl) (fun _ _ _ h => h) (Or.inl ⟨by rfl, ?_⟩) hHeld ?_ ?_
          rotate_left
          · rintro w' ⟨s0, s1⟩
            go_simp
            with_reducible rfl
          rotate_left
          · simp only [Act.put, List.setIfInBounds_toArray, List.set_cons_zero, List.set_cons_succ, i64_w, i32_w]
            rfl
          refine take_ (i := 9) (N := some 75) (v := ?_) (a' := ?_) #[true, true, true, true, true, true, true, true, true, true, false] rfl rfl (by kernel_rfl) (fun _ _ _ h => h) (Or.inl ⟨by rfl, ?_⟩) hHeld ?_ ?_
          rotate_left
          · rintro w' ⟨s0, s1⟩
            go_simp
            with_reducible rfl
          rotate_left
          · simp only [Act.put, List.setIfInBounds_toArray, List.set_cons_zero, List.set_cons_succ, i64_w, i32_w]
            rfl
          refine pure_ (i := 10) (N := some 76) (v := ?_) (a' := ?_) #[true, true, true, true, true, true, true, true, true, true, true] rfl rfl (by kernel_rfl) (fun _ _ _ h => h) (Or.inl ⟨by rfl, ?_⟩) ?_ ?_
          rotate_left
          · intro w'
            go_simp
            with_reducible rfl
          rotate_left
          · simp only [Act.put, List.setIfInBounds_toArray, List.set_cons_zero, List.set_cons_succ, i64_w, i32_w]
            rfl
          refine done_ (by kernel_rfl) ?_
          clear hHeld
          go_wp2_with fail
          go_roundw
          case rel => exact ⟨1, by omega, by go_num, HX, H9, H11, HB⟩
          case measure => simp [intOf]
        case inr.inr.inl =>
          go_upto_region 22 with fail
          have n_HB := Aside0.mk (below_step HB.out (below_drew (Below.refl _ _)))
          have n_HX := Aside0.mk (HX.out.below (below_drew (Below.refl _ _)))
          have n_H9 := Aside0.mk (blk_below H9.out (below_drew (Below.refl _ _)))
          have n_H11 := Aside0.mk (blk_below H11.out (below_drew (Below.refl _ _)))
          clear HB
          have HB := n_HB
          clear n_HB
          clear HX
          have HX := n_HX
          clear n_HX
          clear H9
          have H9 := n_H9
          clear n_H9
          clear H11
          have H11 := n_H11
          clear n_H11
          refine start_ (n := 11) (S := fun w' => w'.cell? ⟨g9, 19, none⟩ = some (.int .i64 xb.s1.c) ∧ w'.cell? ⟨g11, 19, none⟩ = some (.int .i64 xb.s1.c)) (ds := []) #[false, false, false, false, false, false, false, false, false, false, false] (by kernel_rfl) rfl rfl ⟨(blk_cell H9.out 19).trans (by rw [← ec1.out]; rfl), (blk_cell H11.out 19).trans rfl⟩ (fun hHeld => ?_)
          generalize wr.drew = wd at HB HX H9 H11 hHeld ⊢
          refine pure_ (i := 0) (N := some 66) (v := ?_) (a' := ?_) #[true, false, false, false, false, false, false, false, false, false, false] rfl rfl (by kernel_rfl) (fun _ _ _ h => h) (Or.inl ⟨by rfl, ?_⟩) ?_ ?_
          rotate_left
          · intro w'
            go_simp
            with_reducible rfl
          rotate_left
          · simp only [Act.put, List.setIfInBounds_toArray, List.set_cons_zero, List.set_cons_succ, i64_w, i32_w]
            rfl
          refine pure_ (i := 1) (N := some 67) (v := ?_) (a' := ?_) #[true, true, false, false, false, false, false, false, false, false, false] rfl rfl (by kernel_rfl) (fun _ _ _ h => h) (Or.inl ⟨by rfl, ?_⟩) ?_ ?_
          rotate_left
          · intro w'
            go_simp
            with_reducible rfl
          rotate_left
          · simp only [Act.put, List.setIfInBounds_toArray, List.set_cons_zero, List.set_cons_succ, i64_w, i32_w]
            rfl
          refine pure_ (i := 2) (N := some 68) (v := ?_) (a' := ?_) #[true, true, true, false, false, false, false, false, false, false, false] rfl rfl (by kernel_rfl) (fun _ _ _ h => h) (Or.inl ⟨by rfl, ?_⟩) ?_ ?_
          rotate_left
          · intro w'
            go_simp
            with_reducible rfl
          rotate_left
          · simp only [Act.put, List.setIfInBounds_toArray, List.set_cons_zero, List.set_cons_succ, i64_w, i32_w]
            rfl
          refine pure_ (i := 3) (N := some 69) (v := ?_) (a' := ?_) #[true, true, true, true, false, false, false, false, false, false, false] rfl rfl (by kernel_rfl) (fun _ _ _ h => h) (Or.inl ⟨by rfl, ?_⟩) ?_ ?_
          rotate_left
          · intro w'
            go_simp
            with_reducible rfl
          rotate_left
          · simp only [Act.put, List.setIfInBounds_toArray, List.set_cons_zero, List.set_cons_succ, i64_w, i32_w]
            rfl
          refine pure_ (i := 5) (N := some 71) (v := ?_) (a' := ?_) #[true, true, true, true, false, true, false, false, false, false, false] rfl rfl (by kernel_rfl) (fun _ _ _ h => h) (Or.inl ⟨by rfl, ?_⟩) ?_ ?_
          rotate_left
          · intro w'
            go_simp
            with_reducible rfl
          rotate_left
          · simp only [Act.put, List.setIfInBounds_toArray, List.set_cons_zero, List.set_cons_succ, i64_w, i32_w]
            rfl
          refine pure_ (i := 6) (N := some 72) (v := ?_) (a' := ?_) #[true, true, true, true, false, true, true, false, false, false, false] rfl rfl (by kernel_rfl) (fun _ _ _ h => h) (Or.inl ⟨by rfl, ?_⟩) ?_ ?_
          rotate_left
          · intro w'
            go_simp
            with_reducible rfl
          rotate_left
          · simp only [Act.put, List.setIfInBounds_toArray, List.set_cons_zero, List.set_cons_succ, i64_w, i32_w]
            rfl
          refine pure_ (i := 7) (N := some 73) (v := ?_) (a' := ?_) #[true, true, true, true, false, true, true, true, false, false, false] rfl rfl (by kernel_rfl) (fun _ _ _ h => h) (Or.inl ⟨by rfl, ?_⟩) ?_ ?_
          rotate_left
          · intro w'
            go_simp
            with_reducible rfl
          rotate_left
          · simp only [Act.put, List.setIfInBounds_toArray, List.set_cons_zero, List.set_cons_succ, i64_w, i32_w]
            rfl
          refine pure_ (i := 8) (N := some 74) (v := ?_) (a' := ?_) #[true, true, true, true, false, true, true, true, true, false, false] rfl rfl (by kernel_rfl) (fun _ _ _ h => h) (Or.inl ⟨by rfl, ?_⟩) ?_ ?_
          rotate_left
          · intro w'
            go_simp
            with_reducible rfl
          rotate_left
          · simp only [Act.put, List.setIfInBounds_toArray, List.set_cons_zero, List.set_cons_succ, i64_w, i32_w]
            rfl
          refine take_ (i := 4) (N := some 70) (v := ?_) (a' := ?_) #[true, true, true, true, true, true, true, true, true, false, false] rfl rfl (by kernel_rfl) (fun _ _ _ h => h) (Or.inl ⟨by rfl, ?_⟩) hHeld ?_ ?_
          rotate_left
          · rintro w' ⟨s0, s1⟩
            go_simp
            with_reducible rfl
          rotate_left
          · simp only [Act.put, List.setIfInBounds_toArray, List.set_cons_zero, List.set_cons_succ, i64_w, i32_w]
            rfl
          refine take_ (i := 9) (N := some 75) (v := ?_) (a' := ?_) #[true, true, true, true, true, true, true, true, true, true, false] rfl rfl (by kernel_rfl) (fun _ _ _ h => h) (Or.inl ⟨by rfl, ?_⟩) hHeld ?_ ?_
          rotate_left
          · rintro w' ⟨s0, s1⟩
            go_simp
            with_reducible rfl
          rotate_left
          · simp only [Act.put, List.setIfInBounds_toArray, List.set_cons_zero, List.set_cons_succ, i64_w, i32_w]
            rfl
          refine pure_ (i := 10) (N := some 76) (v := ?_) (a' := ?_) #[true, true, true, true, true, true, true, true, true, true, true] rfl rfl (by kernel_rfl) (fun _ _ _ h => h) (Or.inl ⟨by rfl, ?_⟩) ?_ ?_
          rotate_left
          · intro w'
            go_simp
            with_reducible rfl
          rotate_left
          · simp only [Act.put, List.setIfInBounds_toArray, List.set_cons_zero, List.set_cons_succ, i64_w, i32_w]
            rfl
          refine done_ (by kernel_rfl) ?_
          clear hHeld
          go_wp2_with fail
          go_roundw
          case rel => exact ⟨2, by omega, by go_num, HX, H9, H11, HB⟩
          case measure => simp [intOf]
        case inr.inr.inr =>
          go_upto_region 22 with fail
          have n_HB := Aside0.mk (below_step HB.out (below_drew (Below.refl _ _)))
          have n_HX := Aside0.mk (HX.out.below (below_drew (Below.refl _ _)))
          have n_H9 := Aside0.mk (blk_below H9.out (below_drew (Below.refl _ _)))
          have n_H11 := Aside0.mk (blk_below H11.out (below_drew (Below.refl _ _)))
          clear HB
          have HB := n_HB
          clear n_HB
          clear HX
          have HX := n_HX
          clear n_HX
          clear H9
          have H9 := n_H9
          clear n_H9
          clear H11
          have H11 := n_H11
          clear n_H11
          refine start_ (n := 11) (S := fun w' => w'.cell? ⟨g9, 25, none⟩ = some (.int .i64 xb.s2.c) ∧ w'.cell? ⟨g11, 25, none⟩ = some (.int .i64 xb.s2.c)) (ds := []) #[false, false, false, false, false, false, false, false, false, false, false] (by kernel_rfl) rfl rfl ⟨(blk_cell H9.out 25).trans (by rw [← ec2.out]; rfl), (blk_cell H11.out 25).trans rfl⟩ (fun hHeld => ?_)
          generalize wr.drew = wd at HB HX H9 H11 hHeld ⊢
          refine pure_ (i := 0) (N := some 66) (v := ?_) (a' := ?_) #[true, false, false, false, false, false, false, false, false, false, false] rfl rfl (by kernel_rfl) (fun _ _ _ h => h) (Or.inl ⟨by rfl, ?_⟩) ?_ ?_
          rotate_left
          · intro w'
            go_simp
            with_reducible rfl
          rotate_left
          · simp only [Act.put, List.setIfInBounds_toArray, List.set_cons_zero, List.set_cons_succ, i64_w, i32_w]
            rfl
          refine pure_ (i := 1) (N := some 67) (v := ?_) (a' := ?_) #[true, true, false, false, false, false, false, false, false, false, false] rfl rfl (by kernel_rfl) (fun _ _ _ h => h) (Or.inl ⟨by rfl, ?_⟩) ?_ ?_
          rotate_left
          · intro w'
            go_simp
            with_reducible rfl
          rotate_left
          · simp only [Act.put, List.setIfInBounds_toArray, List.set_cons_zero, List.set_cons_succ, i64_w, i32_w]
            rfl
          refine pure_ (i := 2) (N := some 68) (v := ?_) (a' := ?_) #[true, true, true, false, false, false, false, false, false, false, false] rfl rfl (by kernel_rfl) (fun _ _ _ h => h) (Or.inl ⟨by rfl, ?_⟩) ?_ ?_
          rotate_left
          · intro w'
            go_simp
            with_reducible rfl
          rotate_left
          · simp only [Act.put, List.setIfInBounds_toArray, List.set_cons_zero, List.set_cons_succ, i64_w, i32_w]
            rfl
          refine pure_ (i := 3) (N := some 69) (v := ?_) (a' := ?_) #[true, true, true, true, false, false, false, false, false, false, false] rfl rfl (by kernel_rfl) (fun _ _ _ h => h) (Or.inl ⟨by rfl, ?_⟩) ?_ ?_
          rotate_left
          · intro w'
            go_simp
            with_reducible rfl
          rotate_left
          · simp only [Act.put, List.setIfInBounds_toArray, List.set_cons_zero, List.set_cons_succ, i64_w, i32_w]
            rfl
          refine pure_ (i := 5) (N := some 71) (v := ?_) (a' := ?_) #[true, true, true, true, false, true, false, false, false, false, false] rfl rfl (by kernel_rfl) (fun _ _ _ h => h) (Or.inl ⟨by rfl, ?_⟩) ?_ ?_
          rotate_left
          · intro w'
            go_simp
            with_reducible rfl
          rotate_left
          · simp only [Act.put, List.setIfInBounds_toArray, List.set_cons_zero, List.set_cons_succ, i64_w, i32_w]
            rfl
          refine pure_ (i := 6) (N := some 72) (v := ?_) (a' := ?_) #[true, true, true, true, false, true, true, false, false, false, false] rfl rfl (by kernel_rfl) (fun _ _ _ h => h) (Or.inl ⟨by rfl, ?_⟩) ?_ ?_
          rotate_left
          · intro w'
            go_simp
            with_reducible rfl
          rotate_left
          · simp only [Act.put, List.setIfInBounds_toArray, List.set_cons_zero, List.set_cons_succ, i64_w, i32_w]
            rfl
          refine pure_ (i := 7) (N := some 73) (v := ?_) (a' := ?_) #[true, true, true, true, false, true, true, true, false, false, false] rfl rfl (by kernel_rfl) (fun _ _ _ h => h) (Or.inl ⟨by rfl, ?_⟩) ?_ ?_
          rotate_left
          · intro w'
            go_simp
            with_reducible rfl
          rotate_left
          · simp only [Act.put, List.setIfInBounds_toArray, List.set_cons_zero, List.set_cons_succ, i64_w, i32_w]
            rfl
          refine pure_ (i := 8) (N := some 74) (v := ?_) (a' := ?_) #[true, true, true, true, false, true, true, true, true, false, false] rfl rfl (by kernel_rfl) (fun _ _ _ h => h) (Or.inl ⟨by rfl, ?_⟩) ?_ ?_
          rotate_left
          · intro w'
            go_simp
            with_reducible rfl
          rotate_left
          · simp only [Act.put, List.setIfInBounds_toArray, List.set_cons_zero, List.set_cons_succ, i64_w, i32_w]
            rfl
          refine take_ (i := 4) (N := some 70) (v := ?_) (a' := ?_) #[true, true, true, true, true, true, true, true, true, false, false] rfl rfl (by kernel_rfl) (fun _ _ _ h => h) (Or.inl ⟨by rfl, ?_⟩) hHeld ?_ ?_
          rotate_left
          · rintro w' ⟨s0, s1⟩
            go_simp
            with_reducible rfl
          rotate_left
          · simp only [Act.put, List.setIfInBounds_toArray, List.set_cons_zero, List.set_cons_succ, i64_w, i32_w]
            rfl
          refine take_ (i := 9) (N := some 75) (v := ?_) (a' := ?_) #[true, true, true, true, true, true, true, true, true, true, false] rfl rfl (by kernel_rfl) (fun _ _ _ h => h) (Or.inl ⟨by rfl, ?_⟩) hHeld ?_ ?_
          rotate_left
          · rintro w' ⟨s0, s1⟩
            go_simp
            with_reducible rfl
          rotate_left
          · simp only [Act.put, List.setIfInBounds_toArray, List.set_cons_zero, List.set_cons_succ, i64_w, i32_w]
            rfl
          refine pure_ (i := 10) (N := some 76) (v := ?_) (a' := ?_) #[true, true, true, true, true, true, true, true, true, true, true] rfl rfl (by kernel_rfl) (fun _ _ _ h => h) (Or.inl ⟨by rfl, ?_⟩) ?_ ?_
          rotate_left
          · intro w'
            go_simp
            with_reducible rfl
          rotate_left
          · simp only [Act.put, List.setIfInBounds_toArray, List.set_cons_zero, List.set_cons_succ, i64_w, i32_w]
            rfl
          refine done_ (by kernel_rfl) ?_
          clear hHeld
          go_wp2_with fail
          go_roundw
          case rel => exact ⟨3, by omega, by go_num, HX, H9, H11, HB⟩
          case measure => simp [intOf]
    have hi1 : i + 1 ≤ l0.length := by omega
    obtain ⟨ad, A2, c2, A9, c9, hA, hk0, hk1, hk2, hk3, hk4, hk5, hk6, hk7, hk8, hk9, hk10, hc2, hC2, hc9, hC9⟩ := at_T34 HR0.out (i : Int) (by omega) (by omega)
    have hl9 := hgx (rd_T34 l0 (i : Int)) (by unfold rd_T34; rw [Int.toNat_natCast]; simp [List.getD, hlt])
    rw [Int.toNat_natCast] at hk0 hk1 hk2 hk3 hk4 hk5 hk6 hk7 hk8 hk9 hk10
    generalize rd_T34 l0 (i : Int) = o at hk0 hk1 hk2 hk3 hk4 hk5 hk6 hk7 hk8 hk9 hk10 hc2 hC2 hc9 hC9 hl9
    obtain ⟨cl, ⟨⟨a0, a1, l2⟩, da, di, de, dr, dw, dv, l9⟩⟩ := o
    simp only at hk0 hk1 hk2 hk3 hk4 hk5 hk6 hk7 hk8 hk9 hk10 hc2 hC2 hc9 hC9 hl9
    obtain ⟨d, hd⟩ : ∃ d : D6, d = ⟨da, di, de, dr, dw, dv⟩ := ⟨_, rfl⟩
    obtain ⟨e4, e5, e6, e7, e8, e9⟩ : da = d.a ∧ di = d.i ∧ de = d.e ∧ dr = d.r ∧ dw = d.w ∧ dv = d.v := by rw [hd]; exact ⟨rfl, rfl, rfl, rfl, rfl, rfl⟩
    clear hd
    subst e4 e5 e6 e7 e8 e9
    subst hA
    have CB2 := Aside0.mk hC2
    have CB9 := Aside0.mk hC9
    have HBr := HB.out
    replace hk0 := pw_cell_below HBr hk0
    replace hk1 := pw_cell_below HBr hk1
    replace hk2 := pw_cell_below HBr hk2
    replace hk3 := pw_cell_below HBr hk3
    replace hk4 := pw_cell_below HBr hk4
    replace hk5 := pw_cell_below HBr hk5
    replace hk6 := pw_cell_below HBr hk6
    replace hk7 := pw_cell_below HBr hk7
    replace hk8 := pw_cell_below HBr hk8
    replace hk9 := pw_cell_below HBr hk9
    replace hk10 := pw_cell_below HBr hk10
    clear hC2 hC9
    go_wp2_with ((with_reducible refine gate_store (t := 34) (p := 6) (v := .tmp 27) rfl ?_); refine Shut.out ?_)
    unfold Shut
    obtain ⟨hnb, hnk⟩ := newbk wr (opc false 0 0 (.slice none 0 0) ⟨0, 0, 0, 0, 0, 0⟩ (.slice none 0 0)) (opc cl a0 a1 (.slice A2 l2.length c2) d (.slice A9 l9.length c9)) 34
    change wpList _ _ _ _ _ (wr.alloc (.cells (opc false 0 0 (.slice none 0 0) ⟨0, 0, 0, 0, 0, 0⟩ (.slice none 0 0)) 34))
    refine store_rowTo rfl 34 (.tmp 6) (.tmp 27) rfl rfl wr.heap.size (opc cl a0 a1 (.slice A2 l2.length c2) d (.slice A9 l9.length c9)) rfl rfl 34 _ (blk_new wr _) (by kernel_rfl) rfl (opc_all _ _ _ _ _ _ _ _ _ _) ?_
    have n_HB := Aside0.mk (below_step HB.out hnb)
    have n_HA := Aside0.mk (HA.out.below hnb)
    have n_HX := Aside0.mk (HX.out.below hnb)
    have BKo := Aside0.mk hnk
    clear HB hnb hnk hk0 hk1 hk2 hk3 hk4 hk5 hk6 hk7 hk8 hk9 hk10 HBr HA HX
    have HB := n_HB
    have HA := n_HA
    have HX := n_HX
    clear n_HB n_HA n_HX
    generalize (wr.alloc (.cells (opc false 0 0 (.slice none 0 0) ⟨0, 0, 0, 0, 0, 0⟩ (.slice none 0 0)) 34)).setRow wr.heap.size (opc cl a0 a1 (.slice A2 l2.length c2) d (.slice A9 l9.length c9)) = w5 at HB BKo HA HX ⊢
    generalize wr.heap.size = go at BKo ⊢
    have hj0 : w5.cell? ⟨go, 0, none⟩ = some (.bool cl) := (blk_cell BKo.out 0).trans rfl
    cases cl
    case true =>
      go_wp2_with fail
      refine (close_Closer_Close.calls HX.out (by omega)).mono ?_
      rintro e w6 ⟨pv2, rfl, hx, hm⟩
      have HX6 := Aside0.mk hx
      have HA6 := Aside0.mk (HA.out.close_other HX.out hne.out.symm (fun k hk => by simp [Value.ownBlock] at hk) hm)
      have HB6 := Aside0.mk (hm.below HB.out HB.out.size HX.out.base)
      clear hx hm HA HX HB BKo hj0 CB2 CB9
      have EQ6 : Aside0 (cx_Eq xa (nextR xb)) := EQ
      have IB6 := Aside0.mk IB.out.next
      have hpl2 : (past ++ [xb]).length ≤ i + 1 := by simp; omega
      generalize past ++ [xb] = past2 at HX6 hpl2
      go_wp2_with fail
      go_roundw
      case rel => exact ⟨i + 1, xa, ta, cva, cha, pv2, past2, nextR xb, 0, _, _, by omega, by go_num, hpl2, HA6, HX6, IA, IB6, EQ6, HB6⟩
      case measure => simp [intOf]; omega
    obtain ⟨dc, hdc0⟩ : ∃ dc, l9.map cx_cv = dc := ⟨_, rfl⟩
    have hdl : dc.length ≤ 100 := by rw [← hdc0]; simpa using hl9
    replace hdc0 := Aside0.mk hdc0
    obtain ⟨⟨era, xa2, ta2, cha2⟩, hqa⟩ : ∃ R, takeR xa ta cha d dc = R := ⟨_, rfl⟩
    obtain ⟨⟨erb, xb2, tb2, chb2⟩, hqb⟩ : ∃ R, takeR xb tb chb d dc = R := ⟨_, rfl⟩
    have LA : cha.length ≤ 100000000 := by have := IA.out.len; omega
    have LB : chb.length ≤ 100000000 := by have := IB.out.len; omega
    replace hqa := Aside0.mk hqa
    replace hqb := Aside0.mk hqb
    go_upto_region 11 with fail
    clear hj0
    have n_HB := Aside0.mk (below_step HB.out (below_drew (Below.refl _ _)))
    have n_HA := Aside0.mk (HA.out.below (below_drew (Below.refl _ _)))
    have n_HX := Aside0.mk (HX.out.below (below_drew (Below.refl _ _)))
    have n_BKo := Aside0.mk (blk_below BKo.out (below_drew (Below.refl _ _)))
    clear HB
    have HB := n_HB
    clear n_HB
    clear HA
    have HA := n_HA
    clear n_HA
    clear HX
    have HX := n_HX
    clear n_HX
    clear BKo
    have BKo := n_BKo
    clear n_BKo
    refine start_ (n := 12) (S := fun w' => w'.heap[go]? = some (.cells (opc false a0 a1 (.slice A2 l2.length c2) d (.slice A9 l9.length c9)) 34 (0, 0))) (ds := []) #[false, false, false, false, false, false, false, false, false, false, false, false] (by kernel_rfl) rfl rfl (BKo.out) (fun hHeld => ?_)
    generalize w5.drew = w6 at HB HA HX BKo hHeld ⊢
    refine pure_ (i := 0) (N := some 32) (v := ?_) (a' := ?_) #[true, false, false, false, false, false, false, false, false, false, false, false] rfl rfl (by kernel_rfl) (fun _ _ _ h => h) (Or.inl ⟨by rfl, ?_⟩) ?_ ?_
    rotate_left
    · intro w'
      go_simp
      with_reducible rfl
    rotate_left
    · simp only [Act.put, List.setIfInBounds_toArray, List.set_cons_zero, List.set_cons_succ, i64_w, i32_w]
      rfl
    refine pure_ (i := 1) (N := some 33) (v := ?_) (a' := ?_) #[true, true, false, false, false, false, false, false, false, false, false, false] rfl rfl (by kernel_rfl) (fun _ _ _ h => h) (Or.inl ⟨by rfl, ?_⟩) ?_ ?_
    rotate_left
    · intro w'
      go_simp
      with_reducible rfl
    rotate_left
    · simp only [Act.put, List.setIfInBounds_toArray, List.set_cons_zero, List.set_cons_succ, i64_w, i32_w]
      rfl
    refine pure_ (i := 5) (N := some 37) (v := ?_) (a' := ?_) #[true, true, false, false, false, true, false, false, false, false, false, false] rfl rfl (by kernel_rfl) (fun _ _ _ h => h) (Or.inl ⟨by rfl, ?_⟩) ?_ ?_
    rotate_left
    · intro w'
      go_simp
      with_reducible rfl
    rotate_left
    · simp only [Act.put, List.setIfInBounds_toArray, List.set_cons_zero, List.set_cons_succ, i64_w, i32_w]
      rfl
    refine pure_ (i := 6) (N := some 38) (v := ?_) (a' := ?_) #[true, true, false, false, false, true, true, false, false, false, false, false] rfl rfl (by kernel_rfl) (fun _ _ _ h => h) (Or.inl ⟨by rfl, ?_⟩) ?_ ?_
    rotate_left
    · intro w'
      go_simp
      with_reducible rfl
    rotate_left
    · simp only [Act.put, List.setIfInBounds_toArray, List.set_cons_zero, List.set_cons_succ, i64_w, i32_w]
      rfl
    refine take_ (i := 2) (N := some 34) (v := ?_) (a' := ?_) #[true, true, true, false, false, true, true, false, false, false, false, false] rfl rfl (by kernel_rfl) (fun _ _ _ h => h) (Or.inl ⟨by rfl, ?_⟩) hHeld ?_ ?_
    rotate_left
    · intro w' s0
      refine load_run_at 32 (.tmp 33) ?_ ⟨go, 1, none⟩ ?_ (opd a0 a1 (.slice A2 l2.length c2) d (.slice A9 l9.length c9)).toList _ (op_st _ _ _ _ _ _ s0) Try.underlying32 rfl (by kernel_rfl) <;> rfl
    rotate_left
    · simp only [Act.put, List.setIfInBounds_toArray, List.set_cons_zero, List.set_cons_succ, i64_w, i32_w]
      rfl
    refine take_ (i := 7) (N := some 39) (v := ?_) (a' := ?_) #[true, true, true, false, false, true, true, true, false, false, false, false] rfl rfl (by kernel_rfl) (fun _ _ _ h => h) (Or.inl ⟨by rfl, ?_⟩) hHeld ?_ ?_
    rotate_left
    · intro w' s0
      refine load_run_at 32 (.tmp 38) ?_ ⟨go, 1, none⟩ ?_ (opd a0 a1 (.slice A2 l2.length c2) d (.slice A9 l9.length c9)).toList _ (op_st _ _ _ _ _ _ s0) Try.underlying32 rfl (by kernel_rfl) <;> rfl
    rotate_left
    · simp only [Act.put, List.setIfInBounds_toArray, List.set_cons_zero, List.set_cons_succ, i64_w, i32_w]
      rfl
    refine one_ (i := 3) (N := some 35) #[true, true, true, true, false, true, true, true, false, false, false, false] rfl rfl (by kernel_rfl) (by decide) (fun K hK => ?_)
    refine goes_ Try.func10 (by kernel_rfl) rfl #[.agg (opd a0 a1 (.slice A2 l2.length c2) d (.slice A9 l9.length c9))] (by rfl) rfl rfl (by (try simp only [List.map_toArray, List.map_cons, List.map_nil]); first | done | rfl) ?_
    with_reducible refine (cx_doneD a0 a1 d (Kd.C_below CB2.out HB.out) hc2 (Kd.C_below CB9.out HB.out) hc9 hl9 hdc0.out).mono ?_
    rintro e y1_ ⟨lv1, Ad1, cd1, rfl, hC, hn, hb⟩
    refine ⟨_, rfl, ?_⟩
    have m_HC1 := Aside0.mk (hC)
    have m_HN1 := Aside0.mk (hn)
    have n_HB := Aside0.mk (below_step HB.out hb)
    have n_HA := Aside0.mk (HA.out.below hb)
    have n_HX := Aside0.mk (HX.out.below hb)
    have n_BKo := Aside0.mk (blk_below BKo.out hb)
    clear HB
    have HB := n_HB
    clear n_HB
    clear HA
    have HA := n_HA
    clear n_HA
    clear HX
    have HX := n_HX
    clear n_HX
    clear BKo
    have BKo := n_BKo
    clear n_BKo
    clear hb
    have HC1 := m_HC1
    clear m_HC1
    have HN1 := m_HN1
    clear m_HN1
    clear hC hn
    refine hK.out _ _ (BKo.out) (fun hHeld => ?_)
    clear hK K
    refine norm_ (a' := ?_) ?_ ?_
    rotate_left
    · show Act.put _ (some 35) _ = _
      simp only [Act.put, List.setIfInBounds_toArray, List.set_cons_zero, List.set_cons_succ, i64_w, i32_w]
      rfl
    refine one_ (i := 4) (N := some 36) #[true, true, true, true, true, true, true, true, false, false, false, false] rfl rfl (by kernel_rfl) (by decide) (fun K hK => ?_)
    refine goes_ Try.func9 (by kernel_rfl) rfl #[.pointer (some ⟨pa, 0, none⟩), .agg (dcs 0 0 lv1 d (.slice Ad1 dc.length cd1))] (by rfl) rfl rfl (by (try simp only [List.map_toArray, List.map_cons, List.map_nil]); first | done | rfl) ?_
    with_reducible refine (close_Closer_Take.calls HA.out LA d HC1.out HN1.out (by omega) hqa.out).mono ?_
    rintro e y2_ ⟨cva2, rfl, hx, hm⟩
    refine ⟨_, rfl, ?_⟩
    have m_HA2 := Aside0.mk (hx)
    have n_HB := Aside0.mk (hm.below HB.out HB.out.size (fun k hk => by rw [hk]; exact HA.out.hB))
    have n_HX := Aside0.mk (HX.out.take_other HA.out hne.out hm)
    have n_BKo := Aside0.mk (hm.blk BKo.out (HA.out.ne BKo.out (by decide)))
    clear hx hm HB HA HX BKo HC1 HN1
    have HB := n_HB
    clear n_HB
    have HX := n_HX
    clear n_HX
    have BKo := n_BKo
    clear n_BKo
    have HA2 := m_HA2
    clear m_HA2
    refine hK.out _ _ (BKo.out) (fun hHeld => ?_)
    clear hK K
    refine norm_ (a' := ?_) ?_ ?_
    rotate_left
    · show Act.put _ (some 36) _ = _
      simp only [Act.put, List.setIfInBounds_toArray, List.set_cons_zero, List.set_cons_succ, i64_w, i32_w]
      rfl
    refine one_ (i := 8) (N := some 40) #[true, true, true, true, true, true, true, true, true, false, false, false] rfl rfl (by kernel_rfl) (by decide) (fun K hK => ?_)
    refine goes_ Try.func10 (by kernel_rfl) rfl #[.agg (opd a0 a1 (.slice A2 l2.length c2) d (.slice A9 l9.length c9))] (by rfl) rfl rfl (by (try simp only [List.map_toArray, List.map_cons, List.map_nil]); first | done | rfl) ?_
    with_reducible refine (cx_doneD a0 a1 d (Kd.C_below CB2.out HB.out) hc2 (Kd.C_below CB9.out HB.out) hc9 hl9 hdc0.out).mono ?_
    rintro e y3_ ⟨lv2, Ad2, cd2, rfl, hC, hn, hb⟩
    refine ⟨_, rfl, ?_⟩
    have m_HC2 := Aside0.mk (hC)
    have m_HN2 := Aside0.mk (hn)
    have n_HB := Aside0.mk (below_step HB.out hb)
    have n_HX := Aside0.mk (HX.out.below hb)
    have n_BKo := Aside0.mk (blk_below BKo.out hb)
    have n_HA2 := Aside0.mk (HA2.out.below hb)
    clear HB
    have HB := n_HB
    clear n_HB
    clear HX
    have HX := n_HX
    clear n_HX
    clear BKo
    have BKo := n_BKo
    clear n_BKo
    clear HA2
    have HA2 := n_HA2
    clear n_HA2
    clear hb
    have HC2 := m_HC2
    clear m_HC2
    have HN2 := m_HN2
    clear m_HN2
    clear hC hn
    refine hK.out _ _ (BKo.out) (fun hHeld => ?_)
    clear hK K
    refine norm_ (a' := ?_) ?_ ?_
    rotate_left
    · show Act.put _ (some 40) _ = _
      simp only [Act.put, List.setIfInBounds_toArray, List.set_cons_zero, List.set_cons_succ, i64_w, i32_w]
      rfl
    refine one_ (i := 9) (N := some 41) #[true, true, true, true, true, true, true, true, true, true, false, false] rfl rfl (by kernel_rfl) (by decide) (fun K hK => ?_)
    refine goes_ Try.func9 (by kernel_rfl) rfl #[.pointer (some ⟨pb, 0, none⟩), .agg (dcs 0 0 lv2 d (.slice Ad2 dc.length cd2))] (by rfl) rfl rfl (by (try simp only [List.map_toArray, List.map_cons, List.map_nil]); first | done | rfl) ?_
    with_reducible refine (close_Closer_Take.calls HX.out LB d HC2.out HN2.out (by omega) hqb.out).mono ?_
    rintro e y4_ ⟨cvb2, rfl, hx, hm⟩
    refine ⟨_, rfl, ?_⟩
    have m_HX2 := Aside0.mk (hx)
    have n_HB := Aside0.mk (hm.below HB.out HB.out.size (fun k hk => by rw [hk]; exact HX.out.hB))
    have n_BKo := Aside0.mk (hm.blk BKo.out (HX.out.ne BKo.out (by decide)))
    have n_HA2 := Aside0.mk (HA2.out.take_other HX.out hne.out.symm hm)
    clear hx hm HB HX BKo HA2 HC2 HN2
    have HB := n_HB
    clear n_HB
    have BKo := n_BKo
    clear n_BKo
    have HA2 := n_HA2
    clear n_HA2
    have HX2 := m_HX2
    clear m_HX2
    refine hK.out _ _ (BKo.out) (fun hHeld => ?_)
    clear hK K
    refine norm_ (a' := ?_) ?_ ?_
    rotate_left
    · show Act.put _ (some 41) _ = _
      simp only [Act.put, List.setIfInBounds_toArray, List.set_cons_zero, List.set_cons_succ, i64_w, i32_w]
      rfl
    refine pure_ (i := 10) (N := some 7) (v := ?_) (a' := ?_) #[true, true, true, true, true, true, true, true, true, true, true, false] rfl rfl (by kernel_rfl) (fun _ _ _ h => h) (Or.inl ⟨by rfl, ?_⟩) ?_ ?_
    rotate_left
    · intro w'
      go_simp
      with_reducible rfl
    rotate_left
    · simp only [Act.put, List.setIfInBounds_toArray, List.set_cons_zero, List.set_cons_succ, i64_w, i32_w]
      rfl
    refine pure_ (i := 11) (N := some 8) (v := ?_) (a' := ?_) #[true, true, true, true, true, true, true, true, true, true, true, true] rfl rfl (by kernel_rfl) (fun _ _ _ h => h) (Or.inl ⟨by rfl, ?_⟩) ?_ ?_
    rotate_left
    · intro w'
      go_simp
      with_reducible rfl
    rotate_left
    · simp only [Act.put, List.setIfInBounds_toArray, List.set_cons_zero, List.set_cons_succ, i64_w, i32_w]
      rfl
    refine done_ (by kernel_rfl) ?_
    clear hHeld BKo
    generalize y4_ = w7 at HB HA2 HX2 ⊢
    have IA2 := Aside0.mk (IA.out.take hqa.out).1
    have IB2 := Aside0.mk (IB.out.take hqb.out).1
    by_cases he : era = erb
    case neg =>
      have he1 : (era != erb) = true := by simpa using he
      go_wp2_with fail
      go_ret
      exact ⟨rfl, HB.out⟩
    subst he
    have EQ2 := Aside0.mk (cx_Eq_take IA.out IB.out EQ.out hqa.out hqb.out)
    have he1 : (era != era) = false := by simp
    clear IA IB EQ hqa hqb hdc0 CB2 CB9
    go_wp2_with fail
    go_roundw
    case rel => exact ⟨i + 1, xa2, ta2, cva2, cha2, pv, past, xb2, tb2, cvb2, chb2, by omega, by go_num, by omega, HA2, HX2, IA2, IB2, EQ2, HB⟩
    case measure => simp [intOf]; omega
theorem lombardlaw23_CloseEmpty.calls (A0 : Option Addr) (c0 : Nat) (l0 : List (S34)) (r : Bool) (w : World) (hr0 : Kd.C k34 w A0 l0.length l0) (hc0 : l0.length ≤ c0) (h : lombardlaw23_CloseEmpty.f l0 = some r) :
    Calls Try.prog 3 #[.slice A0 l0.length c0] w fun e w' => e = .returned (.bool r) ∧ Below w.heap.size w w' := by
  have e_ := Option.some.inj h
  subst e_
  exact lombardlaw23_CloseEmpty.walk A0 c0 l0 w hr0 hc0


end Go.Proofs.Ytpcllhhbaockfaa.Print
