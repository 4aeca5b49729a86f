-- written by this session's program wip/hybrid.py over the kit's printer, and by hand. Not trusted: Lean checks it.
import Derived.Test.YtpfkjjaohmdnjaaPrint0
import Derived.Test.YtpfkjjaohmdnjaaPrint2
import Derived.Test.YtpfkjjaohmdnjaaPrint3
namespace Go.Proofs.Ytpfkjjaohmdnjaa.Print
open Go.RowKit Go.Proofs.YtpfkjjaohmdnjaaW.PrintWords Go.Proofs.YtpfkjjaohmdnjaaW.PrintLast Go.Proofs.YtpfkjjaohmdnjaaW.PrintMore
attribute [local go_sem] max2_int min2_int max_two min_two max_three min_three max_four min_four   -- for this text's walks alone
set_option linter.unusedVariables false
set_option linter.unusedSimpArgs false

/-! ### lombardlaw19_BlockLasts: function 4 -/
def lombardlaw19_BlockLasts.f (l more : List S34) : Option Bool := some true
theorem lombardlaw19_BlockLasts.great_ (l : List S34) (hl : l.length ≤ 9223372036854775807) : ∃ k r, lombardlaw19_great.f k l = some r := by
  have H : ∀ (n : Nat) (i : Nat), l.length - i + 1 ≤ n → i ≤ l.length → ∃ r, lombardlaw19_great.l0 n l l (l.length : Int) (i : Int) = some r := by
    intro n
    induction n with
    | zero => intro i h; omega
    | succ n ih =>
      intro i h hi
      rw [lombardlaw19_great.l0]
      by_cases hlt : i < l.length
      · rw [if_pos (by omega), if_pos (by omega), if_pos (by omega)]
        split
        · exact ⟨_, rfl⟩
        · split
          · exact ⟨_, rfl⟩
          · have e : wrap64 ((i : Int) + 1) = ((i + 1 : Nat) : Int) := by unfold wrap64; omega
            rw [e]
            exact ih (i + 1) (by omega) (by omega)
      · rw [if_neg (by omega)]
        exact ⟨_, rfl⟩
  obtain ⟨r, hr⟩ := H (l.length + 1) 0 (by omega) (by omega)
  exact ⟨l.length + 1, r, hr⟩
set_option maxHeartbeats 32000000 in
set_option maxRecDepth 100000 in
theorem lombardlaw19_BlockLasts.walk (A0 : Option Addr) (c0 : Nat) (l0 : List S34) (A1 : Option Addr) (c1 : Nat) (l1 : List S34) (w : World) (hr0 : Kd.C k34 w A0 l0.length l0) (hc0 : l0.length ≤ c0) (hr1 : Kd.C k34 w A1 l1.length l1) (hc1 : l1.length ≤ c1) : Calls Try.prog 4 #[.slice A0 l0.length c0, .slice A1 l1.length c1] w fun e w' => e = .returned (.bool true) ∧ Below w.heap.size w w' := by
  obtain ⟨kl0, rl0, hgl0⟩ := lombardlaw19_BlockLasts.great_ l0 hr0.2.1
  obtain ⟨kl1, rl1, hgl1⟩ := lombardlaw19_BlockLasts.great_ l1 hr1.2.1
  replace hgl0 := Aside0.mk hgl0
  replace hgl1 := Aside0.mk hgl1
  replace hr0 := Aside0.mk hr0
  replace hr1 := Aside0.mk hr1
  have hzw := fun W => wt_zero0 W
  have hze := fun W => et_zero W
  have hzb := fun W => bt_zero W
  go_enter Try.func4, Try.ntmps4
  go_wp2_with fail
  with_reducible refine (lombardlaw19_alive.calls true w rfl).mono ?_
  rintro e w1 ⟨rfl, hb⟩
  have HB := Aside0.mk hb
  clear hb
  go_wp2_with fail
  with_reducible refine (lombardlaw19_great.calls kl0 A0 c0 l0 rl0 w1 (Kd.C_below hr0.out HB.out) hc0 hgl0.out).mono ?_
  rintro e w2 ⟨rfl, hb⟩
  have HB2 := Aside0.mk (below_step HB.out hb)
  clear hb HB
  cases rl0
  case true =>
    go_wp2_with fail
    go_ret
    exact ⟨rfl, HB2.out⟩
  go_wp2_with fail
  with_reducible refine (lombardlaw19_great.calls kl1 A1 c1 l1 rl1 w2 (Kd.C_below hr1.out HB2.out) hc1 hgl1.out).mono ?_
  rintro e w3 ⟨rfl, hb⟩
  have HB := Aside0.mk (below_step HB2.out hb)
  clear hb HB2
  cases rl1
  case true =>
    go_wp2_with fail
    go_ret
    exact ⟨rfl, HB.out⟩
  go_wp2_with fail
  have hBw : w.heap.size ≤ w3.heap.size := HB.out.size
  refine (l_New 30 (by omega)).mono ?_
  rintro e w4 ⟨p, rfl, gl, gm, v, hs, hb⟩
  have HB4 := Aside0.mk (below_step HB.out hb)
  have HS4 := Aside0.mk hs
  clear hb hs HB
  generalize w3.heap.size = B at HS4 hBw
  go_wp2_with fail
  refine (l_New 30 (by omega)).mono ?_
  rintro e w5 ⟨p2, rfl, gl2, gm2, v2, hs, hb⟩
  have HB := Aside0.mk (below_step HB4.out hb)
  have HS := Aside0.mk (HS4.out.below hb)
  have HT := Aside0.mk hs
  have hBt : w.heap.size ≤ w4.heap.size := HB4.out.size
  have HX : Aside0 (Two p gl gm p2 gl2 gm2 v v2) := ⟨fun k h1 h2 => by have e1 := HS4.out.lt h1; have e2 := HT.out.base h2; omega⟩
  clear hb hs HB4 HS4
  generalize w4.heap.size = B2 at HT hBt
  go_wp2_with fail
  have hl63 := hr0.out.2.1
  have hm63 := hr1.out.2.1
  go_loopw [41] (fun u wr => ∃ (i : Nat) (v v2 : Value) (L : List (Bk × Bool)) (W : List (Int × Bk)), i ≤ l0.length ∧ u = .int .i64 i ∧ L.length = 30 ∧ Aside0 (SA B wr p gl gm v L W) ∧ Aside0 (SA B2 wr p2 gl2 gm2 v2 L W) ∧ Aside0 (Two p gl gm p2 gl2 gm2 v v2) ∧ Aside0 (Below w.heap.size w wr)) (fun u _ => ((l0.length : Int) - intOf u).toNat)
  case atStart => exact ⟨0, v, v2, zeros 30, [], by omega, rfl, zeros_len 30, HS, HT, HX, HB⟩
  case round =>
    clear HS HT HX HB
    obtain ⟨i, v, v2, L, W, hi, rfl, hLl, HS, HT, HX, HB⟩ := hrel
    by_cases hlt : i < l0.length
    case pos =>
      obtain ⟨ad, A2, c2, A3, c3, hA, hk0, hk1, hk2, hk3, hc2, hCB, hc3, hCF⟩ := at_T34 hr0.out (i : Int) (by omega) (by omega)
      rw [Int.toNat_natCast] at hk0 hk1 hk2 hk3
      generalize rd_T34 l0 (i : Int) = o at hk0 hk1 hk2 hk3 hc2 hCB hc3 hCF
      obtain ⟨k, a, bs, fs⟩ := o
      simp only at hk0 hk1 hk2 hk3 hc2 hCB hc3 hCF
      subst hA
      have hAF := Aside0.mk (HS.out.arg hCF hBw)
      have hAT := Aside0.mk (HT.out.arg hCF hBt)
      replace hk0 := pw_cell_below HB.out hk0
      replace hk1 := pw_cell_below HB.out hk1
      replace hk2 := pw_cell_below HB.out hk2
      replace hk3 := pw_cell_below HB.out hk3
      have CB0 := Aside0.mk hCB
      have CF0 := Aside0.mk hCF
      go_wp2_with ((with_reducible refine gate_store (t := 34) (p := 10) (v := .tmp 44) rfl ?_); refine Shut.out ?_)
      unfold Shut
      obtain ⟨hnb, hnk⟩ := newbk wr #[.int .i64 0, .int .i64 0, .slice none 0 0, .slice none 0 0] #[.int .i64 k, .int .i64 a, .slice A2 bs.length c2, .slice A3 fs.length c3] 34
      refine store_rowTo rfl 34 (.tmp 10) (.tmp 44) rfl rfl wr.heap.size #[.int .i64 k, .int .i64 a, .slice A2 bs.length c2, .slice A3 fs.length c3] rfl rfl 34 _ (blk_new wr _) (by kernel_rfl) rfl (op_all _ _ _ _ _ _ _ _) ?_
      have HS5 := Aside0.mk (HS.out.below hnb)
      have HT5 := Aside0.mk (HT.out.below hnb)
      have HB5 := Aside0.mk (below_step HB.out hnb)
      have BK7 := Aside0.mk hnk
      clear HS HT HB hnb hnk hCB hCF hk0 hk1 hk2 hk3
      generalize (wr.alloc (.cells #[.int .i64 0, .int .i64 0, .slice none 0 0, .slice none 0 0] 34)).setRow wr.heap.size #[.int .i64 k, .int .i64 a, .slice A2 bs.length c2, .slice A3 fs.length c3] = w5 at HS5 HT5 HB5 BK7 ⊢
      generalize wr.heap.size = g7 at BK7 ⊢
      have CB := Aside0.mk (Kd.C_below CB0.out HB5.out)
      have CF := Aside0.mk (Kd.C_below CF0.out HB5.out)
      have hj0 : w5.cell? ⟨g7, 0, none⟩ = some (.int .i64 k) := (blk_cell BK7.out 0).trans rfl
      have hj1 : w5.cell? ⟨g7, 1, none⟩ = some (.int .i64 a) := (blk_cell BK7.out 1).trans rfl
      have hj2 : w5.cell? ⟨g7, 2, none⟩ = some (.slice A2 bs.length c2) := (blk_cell BK7.out 2).trans rfl
      have hj3 : w5.cell? ⟨g7, 3, none⟩ = some (.slice A3 fs.length c3) := (blk_cell BK7.out 3).trans rfl
      go_wp2_with fail
      refine (b_do HS5.out HS5.out.base_le k a CB.out CF.out hAF.out).mono ?_
      rintro e w6 ⟨rfl, v', hs, hm⟩
      have HS6 := Aside0.mk hs
      have HT6 := Aside0.mk (HT5.out.mv2 HX.out hm)
      have HX6 := Aside0.mk (HX.out.moved HT5.out hm)
      have HB6 := Aside0.mk (hm.below HB5.out HB5.out.size (fun k hk => Nat.le_trans hBw (HS5.out.base hk)))
      have BK6 := Aside0.mk (hm.blk BK7.out (HS5.out.far BK7.out (by decide)))
      clear hs hm HS5 HT5 HB5 BK7 CB CF hj0 hj1 hj2 hj3 HX
      have CB := Aside0.mk (Kd.C_below CB0.out HB6.out)
      have CF := Aside0.mk (Kd.C_below CF0.out HB6.out)
      have hj0 : w6.cell? ⟨g7, 0, none⟩ = some (.int .i64 k) := (blk_cell BK6.out 0).trans rfl
      have hj1 : w6.cell? ⟨g7, 1, none⟩ = some (.int .i64 a) := (blk_cell BK6.out 1).trans rfl
      have hj2 : w6.cell? ⟨g7, 2, none⟩ = some (.slice A2 bs.length c2) := (blk_cell BK6.out 2).trans rfl
      have hj3 : w6.cell? ⟨g7, 3, none⟩ = some (.slice A3 fs.length c3) := (blk_cell BK6.out 3).trans rfl
      go_wp2_with fail
      refine (b_do HT6.out HT6.out.base_le k a CB.out CF.out hAT.out).mono ?_
      rintro e w7 ⟨rfl, v2', hs, hm⟩
      have HT := Aside0.mk hs
      have HS := Aside0.mk (HS6.out.mv2 HX6.out.symm hm)
      have HX := Aside0.mk (HX6.out.symm.moved HS6.out hm).symm
      have HB := Aside0.mk (hm.below HB6.out HB6.out.size (fun k hk => Nat.le_trans hBt (HT6.out.base hk)))
      have hl2 : (doL L W k fs).length = 30 := by rw [doL_len, hLl]
      clear hs hm HS6 HT6 HB6 BK6 CB CF hj0 hj1 hj2 hj3 HX6
      go_wp2_with fail
      go_roundw
      case rel => exact ⟨i + 1, v', v2', doL L W k fs, doW L W k a bs, by omega, by go_num, hl2, HS, HT, HX, HB⟩
      case measure => simp [intOf]; omega
    go_wp2_with fail
    refine (b_Waiting HS.out).mono ?_
    rintro e w6 ⟨rfl, hb⟩
    have HS6 := Aside0.mk (HS.out.below hb)
    have HT6 := Aside0.mk (HT.out.below hb)
    have HB6 := Aside0.mk (below_step HB.out hb)
    have hW4 : W.length ≤ 4096 := HS.out.hW.1
    clear hb HS HT HB
    go_wp2_with fail
    go_loopw [11, 54] (fun u11 u wq => ∃ (j : Nat) (v11 : Value), j ≤ W.length ∧ u = .int .i64 j ∧ u11 = v11 ∧ Aside0 (Kd.R (Kd.int .u8) 5 wq w.heap.size (fun _ => True) v11 (List.replicate j (1 : Int))) ∧ Aside0 (SA B wq p gl gm v L W) ∧ Aside0 (SA B2 wq p2 gl2 gm2 v2 L W) ∧ Aside0 (Below w.heap.size w wq)) (fun _ u _ => ((W.length : Int) - intOf u).toNat)
    case atStart => exact ⟨0, .slice none 0 0, by omega, rfl, rfl, ⟨Kd.R_nil _ _ _ _ _⟩, HS6, HT6, HB6⟩
    case round =>
      clear HS6 HT6 HB6
      obtain ⟨j, v11, hj, rfl, rfl, HR, HS, HT, HB⟩ := hrel
      by_cases hjl : j < W.length
      case pos =>
        go_wp2_with ((with_reducible refine gate_builtin (b := .append) (xs := #[.tmp 56, .tmp 57]) rfl ?_); refine Shut.out ?_)
        unfold Shut
        refine Kd.R_append (Kd.int .u8) (w0 := w) w.heap.size rfl (.tmp 56) (.tmp 57) 32 5 (.int .u8 0) 1 rfl by_und by_info rfl (by decide) (by omega) u11 (List.replicate j (1 : Int)) (1 : Int) [.int .u8 1] (fun _ => True) (fun _ => False) rfl rfl ?aP (fun _ hk => hk.elim) ?aF ?aO ?aB ?aS ?aL ?_
        case aP => rfl
        case aB => exact HB.out
        case aF => exact (fun _ _ => trivial)
        case aO => exact HR.out
        case aS => exact below_size HB.out
        case aL => rw [List.length_replicate]; omega
        intro v_ z6 ho hb hg hat
        rw [← List.replicate_succ'] at ho
        have HS' := Aside0.mk (HS.out.grow HR.out hg)
        have HT' := Aside0.mk (HT.out.grow HR.out hg)
        have HB' := Aside0.mk hb
        have HR' := Aside0.mk ho
        clear HS HT HB HR ho hb hg hat
        go_wp2_with fail
        go_roundw
        case rel => exact ⟨j + 1, v_, by omega, by go_num, rfl, HR', HS', HT', HB'⟩
        case measure => simp [intOf]; omega
      obtain rfl : j = W.length := by omega
      obtain ⟨ones, hones⟩ : ∃ ones : List Int, ones = List.replicate W.length 1 := ⟨_, rfl⟩
      rw [← hones] at HR
      replace hones := Aside0.mk hones
      obtain ⟨Ao, co, hvo, hco, hCo⟩ := Kd.R_reads HR.out
      subst hvo
      go_wp2_with fail
      refine (b_Sync HS.out).mono ?_
      rintro e x1 ⟨rfl, hs, hm⟩
      have HS1 := Aside0.mk hs
      have HT1 := Aside0.mk (HT.out.mv2 HX.out hm)
      have HX1 := Aside0.mk (HX.out.moved HT.out hm)
      have HB1 := Aside0.mk (hm.below HB.out HB.out.size (fun k hk => Nat.le_trans hBw (HS.out.base hk)))
      have HR1 := Aside0.mk (ones_mv HS.out HR.out hm)
      clear hs hm HS HT HX HB HR hCo
      obtain ⟨_, _, hCo⟩ := Kd.R_reads' HR1.out
      go_wp2_with fail
      refine (b_Crash (c := co) (l := ones) HT1.out hCo (fun _ ad e => ones_far HT1.out HR1.out (by rw [e]; rfl))).mono ?_
      rintro e x2 ⟨rfl, ht, hm⟩
      rw [hones.out, ones_setl] at ht
      have HT2 := Aside0.mk ht
      have HS2 := Aside0.mk (HS1.out.mv2 HX1.out.symm hm)
      have HX2 := Aside0.mk (HX1.out.symm.moved HS1.out hm).symm
      have HB2 := Aside0.mk (hm.below HB1.out HB1.out.size (fun k hk => Nat.le_trans hBt (HT1.out.base hk)))
      have hl2 : (setl (fun _ => 1) 0 W L).length = 30 := by rw [setl_len, hLl]
      clear ht hm HS1 HT1 HX1 HB1 HR1 hCo hco hones
      generalize setl (fun _ => 1) 0 W L = L0 at HS2 HT2 hl2
      go_wp2_with fail
      have hb3 := below_alloc (below_alloc (Below.refl x2.heap.size x2) (.cells (wcells want0) 53)) (.cells (ecells err0) 54)
      have BKw := Aside0.mk (blk_alloc (blk_new x2 (.cells (wcells want0) 53)) (.cells (ecells err0) 54))
      have BKe := Aside0.mk (heap_alloc2_new x2 (.cells (wcells want0) 53) (.cells (ecells err0) 54))
      have HS := Aside0.mk (HS2.out.below hb3)
      have HT := Aside0.mk (HT2.out.below hb3)
      have HB := Aside0.mk (below_step HB2.out hb3)
      have hg12 : w.heap.size ≤ x2.heap.size := HB2.out.size
      clear hb3 HS2 HT2 HX2 HB2
      generalize (x2.alloc (.cells (wcells want0) 53)).alloc (.cells (ecells err0) 54) = x3 at BKw BKe HS HT HB ⊢
      obtain ⟨g13, hg13⟩ : ∃ g, g = x2.heap.size + 1 := ⟨_, rfl⟩
      rw [← hg13] at BKe ⊢
      generalize x2.heap.size = g12 at BKw hg12 hg13 ⊢
      have hne : g12 < g13 := by omega
      clear hg13
      clear hzw hze
      go_loopw [65] (fun u wq => ∃ (j : Nat) (want : List Bk) (es : List Int), j ≤ 30 ∧ u = .int .i64 j ∧ want.length = 30 ∧ es.length = 30 ∧ Aside0 (SA B wq p gl gm (.slice none 0 0) L0 []) ∧ Aside0 (SA B2 wq p2 gl2 gm2 (.slice none 0 0) L0 []) ∧ Aside0 (Below w.heap.size w wq) ∧ Aside0 (wq.heap[g12]? = some (.cells (wcells want) 53 (0, 0))) ∧ Aside0 (wq.heap[g13]? = some (.cells (ecells es) 54 (0, 0))) ∧ Aside0 (∀ a : Nat, a < j → rd L0 [] a = (want.getD a Bk.z, es.getD a 0))) (fun u _ => (30 - intOf u).toNat)
      case atStart => exact ⟨0, want0, err0, by omega, rfl, want0_len, err0_len, HS, HT, HB, BKw, BKe, ⟨fun a ha => absurd ha (by omega)⟩⟩
      case round =>
        clear HS HT HB BKw BKe
        obtain ⟨j, want, es, hj, rfl, hwl, hel, HS, HT, HB, BKw, BKe, HRD⟩ := hrel
        by_cases hj30 : j < 30
        case pos =>
          obtain ⟨⟨b, c⟩, hb0⟩ : ∃ R, rd L0 [] (j : Int) = R := ⟨_, rfl⟩
          replace hb0 := Aside0.mk hb0
          have hj30i : (j : Int) < 30 := by omega
          have hjw : j < want.length := by omega
          have hje : j < es.length := by omega
          go_wp2_with fail
          refine (l_Read HS.out (j : Int) hb0.out).mono ?_
          rintro e q1 ⟨rfl, hb⟩
          have HS1 := Aside0.mk (HS.out.below hb)
          have HT1 := Aside0.mk (HT.out.below hb)
          have HB1 := Aside0.mk (below_step HB.out hb)
          have BKw1 := Aside0.mk (blk_below BKw.out hb)
          have BKe1 := Aside0.mk (blk_below BKe.out hb)
          clear HS HT HB BKw BKe hb
          go_wp2_with ((with_reducible refine gate_store (t := 45) (p := 76) (v := .tmp 74) rfl ?_); refine Shut.out ?_)
          unfold Shut
          refine wpl_skip rfl rfl (want_store 45 (.tmp 76) (.tmp 74) rfl rfl rfl BKw1.out hjw bk_info) ?_
          have HS2 := Aside0.mk (HS1.out.row_far BKw1.out (by decide) (wcells (want.set j b)))
          have HT2 := Aside0.mk (HT1.out.row_far BKw1.out (by decide) (wcells (want.set j b)))
          have HB2 := Aside0.mk (row_below (g := g12) HB1.out hg12 (wcells (want.set j b)))
          have BKw2 := Aside0.mk (setRow_heap _ _ _ (wcells (want.set j b)) _ _ BKw1.out)
          have BKe2 := Aside0.mk ((setRow_other q1 g12 g13 (wcells (want.set j b)) (by omega)).trans BKe1.out)
          clear HS1 HT1 HB1 BKw1 BKe1
          generalize q1.setRow g12 (wcells (want.set j b)) = q2 at HS2 HT2 HB2 BKw2 BKe2 ⊢
          have kf := blk_frozen BKe2.out j
          have kc := (blk_cell BKe2.out j).trans (ecells_at es j hje)
          go_wp2_with fail
          clear kf kc
          have HS3 := Aside0.mk (HS2.out.cell_far BKe2.out (by decide) j (.int .i64 c))
          have HT3 := Aside0.mk (HT2.out.cell_far BKe2.out (by decide) j (.int .i64 c))
          have HB3 := Aside0.mk (HB2.out.setCell (p := ⟨g13, j, none⟩) (show w.heap.size ≤ g13 by omega) (.int .i64 c))
          have BKw3 := Aside0.mk ((Below.heap_setCell q2 ⟨g13, j, none⟩ (.int .i64 c) g12 (show g12 ≠ g13 by omega)).trans BKw2.out)
          have BKe3 := Aside0.mk (blk_put BKe2.out j (.int .i64 c) (ecells_set es j c))
          clear HS2 HT2 HB2 BKw2 BKe2
          generalize q2.setCell ⟨g13, j, none⟩ (.int .i64 c) = q3 at HS3 HT3 HB3 BKw3 BKe3 ⊢
          refine (l_Read HT3.out (j : Int) hb0.out).mono ?_
          rintro e q4 ⟨rfl, hb⟩
          have HS4 := Aside0.mk (HS3.out.below hb)
          have HT4 := Aside0.mk (HT3.out.below hb)
          have HB4 := Aside0.mk (below_step HB3.out hb)
          have BKw4 := Aside0.mk (blk_below BKw3.out hb)
          have BKe4 := Aside0.mk (blk_below BKe3.out hb)
          clear HS3 HT3 HB3 BKw3 BKe3 hb
          go_wp2_with ((with_reducible refine gate_store (t := 45) (p := 15) (v := .tmp 82) rfl ?_); refine Shut.out ?_)
          unfold Shut
          obtain ⟨hnb, hnk⟩ := newbk q4 Bk.z.cs.toArray b.cs.toArray 45
          refine wpl_stbk 45 _ _ q4.heap.size b 45 Bk.z rfl rfl rfl rfl rfl (blk_new q4 _) bk_info ?_
          have HS := Aside0.mk (HS4.out.below hnb)
          have HT := Aside0.mk (HT4.out.below hnb)
          have HB := Aside0.mk (below_step HB4.out hnb)
          have BKw := Aside0.mk (blk_below BKw4.out hnb)
          have BKe := Aside0.mk (blk_below BKe4.out hnb)
          have BKa := Aside0.mk hnk
          have hwl' : (want.set j b).length = 30 := by rw [List.length_set, hwl]
          have hel' : (es.set j c).length = 30 := by rw [List.length_set, hel]
          have HRD' := Aside0.mk (was_next hj30 hwl hel HRD.out hb0.out)
          have hcw := Aside0.mk (wcells_put want j hjw b)
          have hce : (ecells (es.set j c))[j]? = some (.int .i64 c) := by rw [ecells_at _ j (by omega)]; simp [List.getD, hel, hj30]
          replace hce := Aside0.mk hce
          clear HS4 HT4 HB4 BKw4 BKe4 hnb hnk HRD
          generalize hgen : (q4.alloc (.cells Bk.z.cs.toArray 45)).setRow q4.heap.size b.cs.toArray = q5 at HS HT HB BKw BKe BKa
          change wpList _ _ _ _ _ ((q4.alloc (.cells Bk.z.cs.toArray 45)).setRow q4.heap.size b.cs.toArray)
          rw [hgen]
          clear hgen
          generalize q4.heap.size = g15 at BKa ⊢
          generalize want.set j b = want' at BKw hcw HRD' hwl'
          generalize es.set j c = es' at BKe hce HRD' hel'
          have heq : ∀ d W, (Op.equalIn (d + 2) 45 (.agg b.cs.toArray) (.agg b.cs.toArray)).run Try.prog W = .ok true W := fun d W => (bk_eq d b b W).trans (by simp)
          go_wp2_with fail
          have n_HB := Aside0.mk (below_step HB.out (below_drew (Below.refl _ _)))
          have n_HS := Aside0.mk (HS.out.below (below_drew (Below.refl _ _)))
          have n_HT := Aside0.mk (HT.out.below (below_drew (Below.refl _ _)))
          have n_BKw := Aside0.mk (blk_below BKw.out (below_drew (Below.refl _ _)))
          have n_BKe := Aside0.mk (blk_below BKe.out (below_drew (Below.refl _ _)))
          have n_BKa := Aside0.mk (blk_below BKa.out (below_drew (Below.refl _ _)))
          clear HB
          have HB := n_HB
          clear n_HB
          clear HS
          have HS := n_HS
          clear n_HS
          clear HT
          have HT := n_HT
          clear n_HT
          clear BKw
          have BKw := n_BKw
          clear n_BKw
          clear BKe
          have BKe := n_BKe
          clear n_BKe
          clear BKa
          have BKa := n_BKa
          clear n_BKa
          refine start_ (n := 12) (S := fun w' => w'.heap[g15]? = some (.cells b.cs.toArray 45 (0, 0)) ∧ w'.heap[g12]? = some (.cells (wcells want') 53 (0, 0)) ∧ w'.cell? ⟨g13, j, none⟩ = some (.int .i64 c)) (ds := []) #[false, false, false, false, false, false, false, false, false, false, false, false] (by kernel_rfl) rfl rfl ⟨BKa.out, BKw.out, (blk_cell BKe.out j).trans hce.out⟩ (fun hHeld => ?_)
          generalize q5.drew = q6 at HB HS HT BKw BKe BKa hHeld ⊢
          refine pure_ (i := 1) (N := some 85) (v := ?_) (a' := ?_) #[false, true, false, false, false, false, false, false, false, false, false, false] rfl rfl (by kernel_rfl) (fun _ _ _ h => h) (Or.inl ⟨by rfl, ?_⟩) ?_ ?_
          rotate_left
          · intro w'
            go_simp
            with_reducible rfl
          rotate_left
          · simp only [Act.put, List.setIfInBounds_toArray, List.set_cons_zero, List.set_cons_succ, i64_w, i32_w]
            rfl
          refine pure_ (i := 2) (N := some 86) (v := ?_) (a' := ?_) #[false, true, true, false, false, false, false, false, false, false, false, false] rfl rfl (by kernel_rfl) (fun _ _ _ h => h) (Or.inl ⟨by rfl, ?_⟩) ?_ ?_
          rotate_left
          · intro w'
            go_simp
            with_reducible rfl
          rotate_left
          · simp only [Act.put, List.setIfInBounds_toArray, List.set_cons_zero, List.set_cons_succ, i64_w, i32_w]
            rfl
          refine take_ (i := 0) (N := some 84) (v := ?_) (a' := ?_) #[true, true, true, false, false, false, false, false, false, false, false, false] rfl rfl (by kernel_rfl) (fun _ _ _ h => h) (Or.inl ⟨by rfl, ?_⟩) hHeld ?_ ?_
          rotate_left
          · rintro w' ⟨s0, s1, s2⟩
            refine load_run 45 (.tmp 15) ?_ g15 ?_ 45 _ (0, 0) _ s0 bk_und rfl (by rw [bk_sz]; exact bk_info) <;> rfl
          rotate_left
          · simp only [Act.put, List.setIfInBounds_toArray, List.set_cons_zero, List.set_cons_succ, i64_w, i32_w]
            rfl
          refine take_ (i := 3) (N := some 87) (v := ?_) (a' := ?_) #[true, true, true, true, false, false, false, false, false, false, false, false] rfl rfl (by kernel_rfl) (fun _ _ _ h => h) (Or.inl ⟨by rfl, ?_⟩) hHeld ?_ ?_
          rotate_left
          · rintro w' ⟨s0, s1, s2⟩
            refine load_run_at 45 (.tmp 86) ?_ ⟨g12, j * 64, none⟩ ?_ b.cs _ (row_at s1 hcw.out) bk_und rfl (by rw [b.len]; exact bk_info) <;> rfl
          rotate_left
          · simp only [Act.put, List.setIfInBounds_toArray, List.set_cons_zero, List.set_cons_succ, i64_w, i32_w]
            rfl
          refine pure_ (i := 4) (N := some 88) (v := ?_) (a' := ?_) #[true, true, true, true, true, false, false, false, false, false, false, false] rfl rfl (by kernel_rfl) (fun _ _ _ h => h) (Or.inl ⟨by rfl, ?_⟩) ?_ ?_
          rotate_left
          · intro w'
            go_simp
            with_reducible rfl
          rotate_left
          · simp only [Act.put, List.setIfInBounds_toArray, List.set_cons_zero, List.set_cons_succ, i64_w, i32_w]
            rfl
          refine pure_ (i := 5) (N := some 89) (v := ?_) (a' := ?_) #[true, true, true, true, true, true, false, false, false, false, false, false] rfl rfl (by kernel_rfl) (fun _ _ _ h => h) (Or.inl ⟨by rfl, ?_⟩) ?_ ?_
          rotate_left
          · intro w'
            go_simp
            with_reducible rfl
          rotate_left
          · simp only [Act.put, List.setIfInBounds_toArray, List.set_cons_zero, List.set_cons_succ, i64_w, i32_w]
            rfl
          refine pure_ (i := 6) (N := some 90) (v := ?_) (a' := ?_) #[true, true, true, true, true, true, true, false, false, false, false, false] rfl rfl (by kernel_rfl) (fun _ _ _ h => h) (Or.inl ⟨by rfl, ?_⟩) ?_ ?_
          rotate_left
          · intro w'
            go_simp
            with_reducible rfl
          rotate_left
          · simp only [Act.put, List.setIfInBounds_toArray, List.set_cons_zero, List.set_cons_succ, i64_w, i32_w]
            rfl
          refine pure_ (i := 7) (N := some 91) (v := ?_) (a' := ?_) #[true, true, true, true, true, true, true, true, false, false, false, false] rfl rfl (by kernel_rfl) (fun _ _ _ h => h) (Or.inl ⟨by rfl, ?_⟩) ?_ ?_
          rotate_left
          · intro w'
            go_simp
            with_reducible rfl
          rotate_left
          · simp only [Act.put, List.setIfInBounds_toArray, List.set_cons_zero, List.set_cons_succ, i64_w, i32_w]
            rfl
          refine pure_ (i := 8) (N := some 92) (v := ?_) (a' := ?_) #[true, true, true, true, true, true, true, true, true, false, false, false] rfl rfl (by kernel_rfl) (fun _ _ _ h => h) (Or.inl ⟨by rfl, ?_⟩) ?_ ?_
          rotate_left
          · intro w'
            go_simp
            with_reducible rfl
          rotate_left
          · simp only [Act.put, List.setIfInBounds_toArray, List.set_cons_zero, List.set_cons_succ, i64_w, i32_w]
            rfl
          refine take_ (i := 9) (N := some 93) (v := ?_) (a' := ?_) #[true, true, true, true, true, true, true, true, true, true, false, false] rfl rfl (by kernel_rfl) (fun _ _ _ h => h) (Or.inl ⟨by rfl, ?_⟩) hHeld ?_ ?_
          rotate_left
          · rintro w' ⟨s0, s1, s2⟩
            go_simp
            with_reducible rfl
          rotate_left
          · simp only [Act.put, List.setIfInBounds_toArray, List.set_cons_zero, List.set_cons_succ, i64_w, i32_w]
            rfl
          refine pure_ (i := 10) (N := some 94) (v := ?_) (a' := ?_) #[true, true, true, true, true, true, true, true, true, true, true, false] rfl rfl (by kernel_rfl) (fun _ _ _ h => h) (Or.inl ⟨by rfl, ?_⟩) ?_ ?_
          rotate_left
          · intro w'
            go_simp
            with_reducible rfl
          rotate_left
          · simp only [Act.put, List.setIfInBounds_toArray, List.set_cons_zero, List.set_cons_succ, i64_w, i32_w]
            rfl
          refine pure_ (i := 11) (N := some 95) (v := ?_) (a' := ?_) #[true, true, true, true, true, true, true, true, true, true, true, true] rfl rfl (by kernel_rfl) (fun _ _ _ h => h) (Or.inl ⟨by rfl, ?_⟩) ?_ ?_
          rotate_left
          · intro w'
            go_simp
            with_reducible rfl
          rotate_left
          · simp only [Act.put, List.setIfInBounds_toArray, List.set_cons_zero, List.set_cons_succ, i64_w, i32_w]
            rfl
          refine done_ (by kernel_rfl) ?_
          clear hHeld
          go_wp2_with fail
          go_roundw
          case rel => exact ⟨j + 1, want', es', by omega, by go_num, hwl', hel', HS, HT, HB, BKw, BKe, HRD'⟩
          case measure => simp [intOf]; omega
        obtain rfl : j = 30 := by omega
        go_wp2_with fail
        generalize wr = x4 at HS HT HB BKw BKe ⊢
        clear wr
        have hb3 := below_alloc (Below.refl x4.heap.size x4) (.cells (bcells ag0) 55)
        have BKg' := Aside0.mk (blk_new x4 (.cells (bcells ag0) 55))
        have HS' := Aside0.mk (HS.out.below hb3)
        have HB' := Aside0.mk (below_step HB.out hb3)
        have BKw' := Aside0.mk (blk_below BKw.out hb3)
        have BKe' := Aside0.mk (blk_below BKe.out hb3)
        have hg17 : w.heap.size ≤ x4.heap.size := HB.out.size
        have hn12 := blk_lt BKw.out
        have hn13 := blk_lt BKe.out
        clear HS HT HB BKw BKe hb3 hzb
        generalize x4.alloc (.cells (bcells ag0) 55) = x5 at HS' HB' BKw' BKe' BKg' ⊢
        generalize x4.heap.size = g17 at BKg' hg17 hn12 hn13 ⊢
        clear x4
        go_loopw [99] (fun u wq => ∃ (i : Nat) (v : Value) (L : List (Bk × Bool)) (W : List (Int × Bk)) (ag : List Bool), i ≤ l1.length ∧ u = .int .i64 i ∧ L.length = 30 ∧ ag.length = 30 ∧ Aside0 (SA B wq p gl gm v L W) ∧ Aside0 (Below w.heap.size w wq) ∧ Aside0 (wq.heap[g12]? = some (.cells (wcells want) 53 (0, 0))) ∧ Aside0 (wq.heap[g13]? = some (.cells (ecells es) 54 (0, 0))) ∧ Aside0 (wq.heap[g17]? = some (.cells (bcells ag) 55 (0, 0))) ∧ Aside0 (Lasts L0 ag L W)) (fun u _ => ((l1.length : Int) - intOf u).toNat)
        case atStart => exact ⟨0, _, L0, [], ag0, by omega, rfl, hl2, ag0_len, HS', HB', BKw', BKe', BKg', ⟨Lasts.start L0 ag0⟩⟩
        case round =>
          clear HS' HB' BKw' BKe' BKg'
          obtain ⟨i, v, L, W, ag, hi, rfl, hLl, hal, HS, HB, BKw, BKe, BKg, HJ⟩ := hrel
          by_cases hlt : i < l1.length
          case pos =>
            obtain ⟨ad, A2, c2, A3, c3, hA, hk0, hk1, hk2, hk3, hc2, hCB, hc3, hCF⟩ := at_T34 hr1.out (i : Int) (by omega) (by omega)
            rw [Int.toNat_natCast] at hk0 hk1 hk2 hk3
            generalize rd_T34 l1 (i : Int) = o at hk0 hk1 hk2 hk3 hc2 hCB hc3 hCF
            obtain ⟨k, a, bs, fs⟩ := o
            simp only at hk0 hk1 hk2 hk3 hc2 hCB hc3 hCF
            subst hA
            have hAF := Aside0.mk (HS.out.arg hCF hBw)
            replace hk0 := pw_cell_below HB.out hk0
            replace hk1 := pw_cell_below HB.out hk1
            replace hk2 := pw_cell_below HB.out hk2
            replace hk3 := pw_cell_below HB.out hk3
            have CB0 := Aside0.mk hCB
            have CF0 := Aside0.mk hCF
            go_wp2_with ((with_reducible refine gate_store (t := 34) (p := 19) (v := .tmp 102) rfl ?_); refine Shut.out ?_)
            unfold Shut
            obtain ⟨hnb, hnk⟩ := newbk wr #[.int .i64 0, .int .i64 0, .slice none 0 0, .slice none 0 0] #[.int .i64 k, .int .i64 a, .slice A2 bs.length c2, .slice A3 fs.length c3] 34
            refine store_rowTo rfl 34 (.tmp 19) (.tmp 102) rfl rfl wr.heap.size #[.int .i64 k, .int .i64 a, .slice A2 bs.length c2, .slice A3 fs.length c3] rfl rfl 34 _ (blk_new wr _) (by kernel_rfl) rfl (op_all _ _ _ _ _ _ _ _) ?_
            have HS5 := Aside0.mk (HS.out.below hnb)
            have HB5 := Aside0.mk (below_step HB.out hnb)
            have BKw5 := Aside0.mk (blk_below BKw.out hnb)
            have BKe5 := Aside0.mk (blk_below BKe.out hnb)
            have BKg5 := Aside0.mk (blk_below BKg.out hnb)
            have BK7 := Aside0.mk hnk
            clear HS HB BKw BKe BKg hnb hnk hCB hCF hk0 hk1 hk2 hk3
            generalize (wr.alloc (.cells #[.int .i64 0, .int .i64 0, .slice none 0 0, .slice none 0 0] 34)).setRow wr.heap.size #[.int .i64 k, .int .i64 a, .slice A2 bs.length c2, .slice A3 fs.length c3] = w5 at HS5 HB5 BKw5 BKe5 BKg5 BK7 ⊢
            generalize wr.heap.size = g7 at BK7 ⊢
            have CB := Aside0.mk (Kd.C_below CB0.out HB5.out)
            have CF := Aside0.mk (Kd.C_below CF0.out HB5.out)
            have hj0 : w5.cell? ⟨g7, 0, none⟩ = some (.int .i64 k) := (blk_cell BK7.out 0).trans rfl
            have hj1 : w5.cell? ⟨g7, 1, none⟩ = some (.int .i64 a) := (blk_cell BK7.out 1).trans rfl
            have hj2 : w5.cell? ⟨g7, 2, none⟩ = some (.slice A2 bs.length c2) := (blk_cell BK7.out 2).trans rfl
            have hj3 : w5.cell? ⟨g7, 3, none⟩ = some (.slice A3 fs.length c3) := (blk_cell BK7.out 3).trans rfl
            go_wp2_with fail
            refine (b_do HS5.out HS5.out.base_le k a CB.out CF.out hAF.out).mono ?_
            rintro e w6 ⟨rfl, v', hs, hm⟩
            have HS := Aside0.mk hs
            have HB := Aside0.mk (hm.below HB5.out HB5.out.size (fun k hk => Nat.le_trans hBw (HS5.out.base hk)))
            have BKw := Aside0.mk (hm.blk BKw5.out (HS5.out.far BKw5.out (by decide)))
            have BKe := Aside0.mk (hm.blk BKe5.out (HS5.out.far BKe5.out (by decide)))
            have BKg := Aside0.mk (hm.blk BKg5.out (HS5.out.far BKg5.out (by decide)))
            have BK6 := Aside0.mk (hm.blk BK7.out (HS5.out.far BK7.out (by decide)))
            have hl3 : (doL L W k fs).length = 30 := by rw [doL_len, hLl]
            have hdr := doC_range (L := L) (W := W) (k := k) (a := a)
            have hst := Aside0.mk (HJ.out.step HS5.out.hW.2 k a bs fs)
            have hpt := Aside0.mk (fun (q : Nat) (hq : q < 30) => HJ.out.put q hal hq bs fs)
            clear hs hm HS5 HB5 BKw5 BKe5 BKg5 BK7 CB CF hj0 hj1 hj2 hj3 HJ hAF
            have hj0 : w6.cell? ⟨g7, 0, none⟩ = some (.int .i64 k) := (blk_cell BK6.out 0).trans rfl
            have hj1 : w6.cell? ⟨g7, 1, none⟩ = some (.int .i64 a) := (blk_cell BK6.out 1).trans rfl
            obtain ⟨dc, hdc⟩ : ∃ dc, dc = doC L W k a := ⟨_, rfl⟩
            rw [← hdc] at hdr ⊢
            by_cases hd : dc = 0
            case neg =>
              have e1 : (dc == 0) = false := by simpa using hd
              have HJ := Aside0.mk (hst.out (fun e => hd (hdc.trans e.2)))
              clear hdc hdr hst hpt
              go_wp2_with fail
              refine ⟨?_, ?measure⟩
              refine ⟨_, _, _, _, _, _, _, _, _, _, _, _, _, _, _, _, _, _, ?rel, rfl⟩
              case rel => exact ⟨i + 1, v', _, _, ag, by omega, by go_num, hl3, hal, HS, HB, BKw, BKe, BKg, HJ⟩
              case measure => simp [intOf]; omega
            by_cases h1 : k = 1
            case neg =>
              have e1 : (k == 1) = false := by simpa using h1
              have HJ := Aside0.mk (hst.out (fun e => h1 e.1))
              clear hdc hdr hst hpt
              subst hd
              go_wp2_with fail
              refine ⟨?_, ?measure⟩
              refine ⟨_, _, _, _, _, _, _, _, _, _, _, _, _, _, _, _, _, _, ?rel, rfl⟩
              case rel => exact ⟨i + 1, v', _, _, ag, by omega, by go_num, hl3, hal, HS, HB, BKw, BKe, BKg, HJ⟩
              case measure => simp [intOf]; omega
            have hin := hdr hd h1
            obtain ⟨q, rfl⟩ := Int.eq_ofNat_of_zero_le hin.1
            have hq30 : q < 30 := by omega
            have hq30i : (q : Int) < 30 := by omega
            subst h1
            have HJ := Aside0.mk (hpt.out q hq30 (hdc.symm.trans hd))
            clear hdc hdr hst hpt hin
            subst hd
            have kf := blk_frozen BKg.out q
            have kc := (blk_cell BKg.out q).trans (bcells_at ag q (by omega))
            go_wp2_with fail
            clear kf kc hj0 hj1
            have HS3 := Aside0.mk (HS.out.cell_far BKg.out (by decide) q (.bool true))
            have HB3 := Aside0.mk (HB.out.setCell (p := ⟨g17, q, none⟩) (show w.heap.size ≤ g17 by omega) (.bool true))
            have BKw3 := Aside0.mk ((Below.heap_setCell w6 ⟨g17, q, none⟩ (.bool true) g12 (show g12 ≠ g17 by omega)).trans BKw.out)
            have BKe3 := Aside0.mk ((Below.heap_setCell w6 ⟨g17, q, none⟩ (.bool true) g13 (show g13 ≠ g17 by omega)).trans BKe.out)
            have BKg3 := Aside0.mk (blk_put BKg.out q (.bool true) (bcells_set ag q true))
            clear HS HB BKw BKe BKg BK6
            refine ⟨?_, ?measure⟩
            refine ⟨_, _, _, _, _, _, _, _, _, _, _, _, _, _, _, _, _, _, ?rel, rfl⟩
            case rel => exact ⟨i + 1, v', _, _, ag.set q true, by omega, by go_num, hl3, by rw [List.length_set, hal], HS3, HB3, BKw3, BKe3, BKg3, HJ⟩
            case measure => simp [intOf]; omega
          go_wp2_with fail
          refine (b_Crash (c := 0) (l := []) HS.out nil_C (fun h => absurd h (by simp))).mono ?_
          rintro e x6 ⟨rfl, hs, hm⟩
          rw [setl_nil] at hs
          have HS6 := Aside0.mk hs
          have HB6 := Aside0.mk (hm.below HB.out HB.out.size (fun k hk => Nat.le_trans hBw (HS.out.base hk)))
          have BKw6 := Aside0.mk (hm.blk BKw.out (HS.out.far BKw.out (by decide)))
          have BKe6 := Aside0.mk (hm.blk BKe.out (HS.out.far BKe.out (by decide)))
          have BKg6 := Aside0.mk (hm.blk BKg.out (HS.out.far BKg.out (by decide)))
          clear hs hm HS HB BKw BKe BKg
          go_wp2_with fail
          go_loopw [118] (fun u wq => ∃ j : Nat, j ≤ 30 ∧ u = .int .i64 j ∧ Aside0 (SA B wq p gl gm (.slice none 0 0) L []) ∧ Aside0 (Below w.heap.size w wq) ∧ Aside0 (wq.heap[g12]? = some (.cells (wcells want) 53 (0, 0))) ∧ Aside0 (wq.heap[g13]? = some (.cells (ecells es) 54 (0, 0))) ∧ Aside0 (wq.heap[g17]? = some (.cells (bcells ag) 55 (0, 0)))) (fun u _ => (30 - intOf u).toNat)
          case atStart => exact ⟨0, by omega, rfl, HS6, HB6, BKw6, BKe6, BKg6⟩
          case round =>
            clear HS6 HB6 BKw6 BKe6 BKg6
            obtain ⟨j, hj, rfl, HS, HB, BKw, BKe, BKg⟩ := hrel
            by_cases hj30 : j < 30
            case neg =>
              go_wp2_with fail
              refine (b_Waiting HS.out).mono ?_
              rintro e x7 ⟨rfl, hb⟩
              have HB7 := Aside0.mk (below_step HB.out hb)
              clear hb HS HB BKw BKe BKg
              go_wp2_with fail
              go_ret
              exact ⟨rfl, HB7.out⟩
            obtain ⟨⟨b, c⟩, hb0⟩ : ∃ R, rd L [] (j : Int) = R := ⟨_, rfl⟩
            replace hb0 := Aside0.mk hb0
            have hj30i : (j : Int) < 30 := by omega
            go_wp2_with fail
            refine (l_Read HS.out (j : Int) hb0.out).mono ?_
            rintro e q4 ⟨rfl, hb⟩
            have HS4 := Aside0.mk (HS.out.below hb)
            have HB4 := Aside0.mk (below_step HB.out hb)
            have BKw4 := Aside0.mk (blk_below BKw.out hb)
            have BKe4 := Aside0.mk (blk_below BKe.out hb)
            have BKg4 := Aside0.mk (blk_below BKg.out hb)
            clear HS HB BKw BKe BKg hb
            go_wp2_with ((with_reducible refine gate_store (t := 45) (p := 21) (v := .tmp 125) rfl ?_); refine Shut.out ?_)
            unfold Shut
            obtain ⟨hnb, hnk⟩ := newbk q4 Bk.z.cs.toArray b.cs.toArray 45
            refine wpl_stbk 45 _ _ q4.heap.size b 45 Bk.z rfl rfl rfl rfl rfl (blk_new q4 _) bk_info ?_
            have HS := Aside0.mk (HS4.out.below hnb)
            have HB := Aside0.mk (below_step HB4.out hnb)
            have BKw := Aside0.mk (blk_below BKw4.out hnb)
            have BKe := Aside0.mk (blk_below BKe4.out hnb)
            have BKg := Aside0.mk (blk_below BKg4.out hnb)
            have BKa := Aside0.mk hnk
            clear HS4 HB4 BKw4 BKe4 BKg4 hnb hnk
            generalize hgen : (q4.alloc (.cells Bk.z.cs.toArray 45)).setRow q4.heap.size b.cs.toArray = q5 at HS HB BKw BKe BKg BKa
            change wpList _ _ _ _ _ ((q4.alloc (.cells Bk.z.cs.toArray 45)).setRow q4.heap.size b.cs.toArray)
            rw [hgen]
            clear hgen
            generalize q4.heap.size = g21 at BKa ⊢
            have hgj := bcells_at ag j (by omega)
            obtain ⟨gj, hgv⟩ : ∃ x, ag.getD j true = x := ⟨_, rfl⟩
            rw [hgv] at hgj
            replace hgj := Aside0.mk hgj
            cases gj
            case true =>
              clear hgv
              go_wp2_with fail
              have n_HB := Aside0.mk (below_step HB.out (below_drew (Below.refl _ _)))
              have n_HS := Aside0.mk (HS.out.below (below_drew (Below.refl _ _)))
              have n_BKw := Aside0.mk (blk_below BKw.out (below_drew (Below.refl _ _)))
              have n_BKe := Aside0.mk (blk_below BKe.out (below_drew (Below.refl _ _)))
              have n_BKg := Aside0.mk (blk_below BKg.out (below_drew (Below.refl _ _)))
              have n_BKa := Aside0.mk (blk_below BKa.out (below_drew (Below.refl _ _)))
              clear HB
              have HB := n_HB
              clear n_HB
              clear HS
              have HS := n_HS
              clear n_HS
              clear BKw
              have BKw := n_BKw
              clear n_BKw
              clear BKe
              have BKe := n_BKe
              clear n_BKe
              clear BKg
              have BKg := n_BKg
              clear n_BKg
              clear BKa
              have BKa := n_BKa
              clear n_BKa
              refine start_ (n := 18) (S := fun w' => w'.cell? ⟨g17, j, none⟩ = some (.bool true)) (ds := []) #[false, false, false, false, false, false, false, false, false, false, false, false, false, false, false, false, false, false] (by kernel_rfl) rfl rfl ((blk_cell BKg.out j).trans hgj.out) (fun hHeld => ?_)
              generalize q5.drew = q6 at HB HS BKw BKe BKg BKa hHeld ⊢
              refine pure_ (i := 0) (N := some 127) (v := ?_) (a' := ?_) #[true, false, false, false, false, false, false, false, false, false, false, false, false, false, false, false, false, false] rfl rfl (by kernel_rfl) (fun _ _ _ h => h) (Or.inl ⟨by rfl, ?_⟩) ?_ ?_
              rotate_left
              · intro w'
                go_simp
                with_reducible rfl
              rotate_left
              · simp only [Act.put, List.setIfInBounds_toArray, List.set_cons_zero, List.set_cons_succ, i64_w, i32_w]
                rfl
              refine pure_ (i := 1) (N := some 128) (v := ?_) (a' := ?_) #[true, true, false, false, false, false, false, false, false, false, false, false, false, false, false, false, false, false] rfl rfl (by kernel_rfl) (fun _ _ _ h => h) (Or.inl ⟨by rfl, ?_⟩) ?_ ?_
              rotate_left
              · intro w'
                go_simp
                with_reducible rfl
              rotate_left
              · simp only [Act.put, List.setIfInBounds_toArray, List.set_cons_zero, List.set_cons_succ, i64_w, i32_w]
                rfl
              refine take_ (i := 2) (N := some 129) (v := ?_) (a' := ?_) #[true, true, true, false, false, false, false, false, false, false, false, false, false, false, false, false, false, false] rfl rfl (by kernel_rfl) (fun _ _ _ h => h) (Or.inl ⟨by rfl, ?_⟩) hHeld ?_ ?_
              rotate_left
              · intro w' s0
                go_simp
                with_reducible rfl
              rotate_left
              · simp only [Act.put, List.setIfInBounds_toArray, List.set_cons_zero, List.set_cons_succ, i64_w, i32_w]
                rfl
              refine pure_ (i := 3) (N := some 130) (v := ?_) (a' := ?_) #[true, true, true, true, false, false, false, false, false, false, false, false, false, false, false, false, false, false] rfl rfl (by kernel_rfl) (fun _ _ _ h => h) (Or.inl ⟨by rfl, ?_⟩) ?_ ?_
              rotate_left
              · intro w'
                go_simp
                with_reducible rfl
              rotate_left
              · simp only [Act.put, List.setIfInBounds_toArray, List.set_cons_zero, List.set_cons_succ, i64_w, i32_w]
                rfl
              refine pure_ (i := 4) (N := some 131) (v := ?_) (a' := ?_) #[true, true, true, true, true, false, false, false, false, false, false, false, false, false, false, false, false, false] rfl rfl (by kernel_rfl) (fun _ _ _ h => h) (Or.inl ⟨by rfl, ?_⟩) ?_ ?_
              rotate_left
              · intro w'
                go_simp
                with_reducible rfl
              rotate_left
              · simp only [Act.put, List.setIfInBounds_toArray, List.set_cons_zero, List.set_cons_succ, i64_w, i32_w]
                rfl
              refine pure_ (i := 5) (N := some 132) (v := undef) (a' := ?_) #[true, true, true, true, true, true, false, false, false, false, false, false, false, false, false, false, false, false] rfl rfl (by kernel_rfl) (fun _ _ _ h => h) (Or.inr ⟨by rfl, rfl⟩) ?_ ?_
              rotate_left
              · simp only [Act.put, List.setIfInBounds_toArray, List.set_cons_zero, List.set_cons_succ, i64_w, i32_w]
                rfl
              refine pure_ (i := 6) (N := some 133) (v := undef) (a' := ?_) #[true, true, true, true, true, true, true, false, false, false, false, false, false, false, false, false, false, false] rfl rfl (by kernel_rfl) (fun _ _ _ h => h) (Or.inr ⟨by rfl, rfl⟩) ?_ ?_
              rotate_left
              · simp only [Act.put, List.setIfInBounds_toArray, List.set_cons_zero, List.set_cons_succ, i64_w, i32_w]
                rfl
              refine pure_ (i := 7) (N := some 134) (v := undef) (a' := ?_) #[true, true, true, true, true, true, true, true, false, false, false, false, false, false, false, false, false, false] rfl rfl (by kernel_rfl) (fun _ _ _ h => h) (Or.inr ⟨by rfl, rfl⟩) ?_ ?_
              rotate_left
              · simp only [Act.put, List.setIfInBounds_toArray, List.set_cons_zero, List.set_cons_succ, i64_w, i32_w]
                rfl
              refine pure_ (i := 8) (N := some 135) (v := undef) (a' := ?_) #[true, true, true, true, true, true, true, true, true, false, false, false, false, false, false, false, false, false] rfl rfl (by kernel_rfl) (fun _ _ _ h => h) (Or.inr ⟨by rfl, rfl⟩) ?_ ?_
              rotate_left
              · simp only [Act.put, List.setIfInBounds_toArray, List.set_cons_zero, List.set_cons_succ, i64_w, i32_w]
                rfl
              refine pure_ (i := 9) (N := some 136) (v := undef) (a' := ?_) #[true, true, true, true, true, true, true, true, true, true, false, false, false, false, false, false, false, false] rfl rfl (by kernel_rfl) (fun _ _ _ h => h) (Or.inr ⟨by rfl, rfl⟩) ?_ ?_
              rotate_left
              · simp only [Act.put, List.setIfInBounds_toArray, List.set_cons_zero, List.set_cons_succ, i64_w, i32_w]
                rfl
              refine pure_ (i := 10) (N := some 137) (v := undef) (a' := ?_) #[true, true, true, true, true, true, true, true, true, true, true, false, false, false, false, false, false, false] rfl rfl (by kernel_rfl) (fun _ _ _ h => h) (Or.inr ⟨by rfl, rfl⟩) ?_ ?_
              rotate_left
              · simp only [Act.put, List.setIfInBounds_toArray, List.set_cons_zero, List.set_cons_succ, i64_w, i32_w]
                rfl
              refine pure_ (i := 11) (N := some 138) (v := undef) (a' := ?_) #[true, true, true, true, true, true, true, true, true, true, true, true, false, false, false, false, false, false] rfl rfl (by kernel_rfl) (fun _ _ _ h => h) (Or.inr ⟨by rfl, rfl⟩) ?_ ?_
              rotate_left
              · simp only [Act.put, List.setIfInBounds_toArray, List.set_cons_zero, List.set_cons_succ, i64_w, i32_w]
                rfl
              refine pure_ (i := 12) (N := some 139) (v := undef) (a' := ?_) #[true, true, true, true, true, true, true, true, true, true, true, true, true, false, false, false, false, false] rfl rfl (by kernel_rfl) (fun _ _ _ h => h) (Or.inr ⟨by rfl, rfl⟩) ?_ ?_
              rotate_left
              · simp only [Act.put, List.setIfInBounds_toArray, List.set_cons_zero, List.set_cons_succ, i64_w, i32_w]
                rfl
              refine pure_ (i := 13) (N := some 140) (v := undef) (a' := ?_) #[true, true, true, true, true, true, true, true, true, true, true, true, true, true, false, false, false, false] rfl rfl (by kernel_rfl) (fun _ _ _ h => h) (Or.inr ⟨by rfl, rfl⟩) ?_ ?_
              rotate_left
              · simp only [Act.put, List.setIfInBounds_toArray, List.set_cons_zero, List.set_cons_succ, i64_w, i32_w]
                rfl
              refine pure_ (i := 14) (N := some 141) (v := undef) (a' := ?_) #[true, true, true, true, true, true, true, true, true, true, true, true, true, true, true, false, false, false] rfl rfl (by kernel_rfl) (fun _ _ _ h => h) (Or.inr ⟨by rfl, rfl⟩) ?_ ?_
              rotate_left
              · simp only [Act.put, List.setIfInBounds_toArray, List.set_cons_zero, List.set_cons_succ, i64_w, i32_w]
                rfl
              refine pure_ (i := 15) (N := some 142) (v := undef) (a' := ?_) #[true, true, true, true, true, true, true, true, true, true, true, true, true, true, true, true, false, false] rfl rfl (by kernel_rfl) (fun _ _ _ h => h) (Or.inr ⟨by rfl, rfl⟩) ?_ ?_
              rotate_left
              · simp only [Act.put, List.setIfInBounds_toArray, List.set_cons_zero, List.set_cons_succ, i64_w, i32_w]
                rfl
              refine pure_ (i := 16) (N := some 143) (v := undef) (a' := ?_) #[true, true, true, true, true, true, true, true, true, true, true, true, true, true, true, true, true, false] rfl rfl (by kernel_rfl) (fun _ _ _ h => h) (Or.inr ⟨by rfl, rfl⟩) ?_ ?_
              rotate_left
              · simp only [Act.put, List.setIfInBounds_toArray, List.set_cons_zero, List.set_cons_succ, i64_w, i32_w]
                rfl
              refine pure_ (i := 17) (N := some 144) (v := ?_) (a' := ?_) #[true, true, true, true, true, true, true, true, true, true, true, true, true, true, true, true, true, true] rfl rfl (by kernel_rfl) (fun _ _ _ h => h) (Or.inl ⟨by rfl, ?_⟩) ?_ ?_
              rotate_left
              · intro w'
                go_simp
                with_reducible rfl
              rotate_left
              · simp only [Act.put, List.setIfInBounds_toArray, List.set_cons_zero, List.set_cons_succ, i64_w, i32_w]
                rfl
              refine done_ (by kernel_rfl) ?_
              clear hHeld
              go_wp2_with fail
              go_roundw
              case rel => exact ⟨j + 1, by omega, by go_num, HS, HB, BKw, BKe, BKg⟩
              case measure => simp [intOf]; omega
            have hsame := rd_same j (HJ.out j hj30 hgv).1 (hLl.trans hl2.symm)
            have hwj := HRD.out j hj30
            rw [hsame.symm.trans hb0.out] at hwj
            obtain ⟨hwb, hwc⟩ := Prod.mk.inj hwj
            have hcw : ∀ q, q < 64 → (wcells want)[j * 64 + q]? = b.cs[q]? := fun q hq => by
              rw [wcells_at want j q (by omega) hq, hwb]
              simp [List.getD, hwl, hj30]
            have hce : (ecells es)[j]? = some (.int .i64 c) := by rw [ecells_at es j (by omega), hwc]
            replace hcw := Aside0.mk hcw
            replace hce := Aside0.mk hce
            clear hsame hwj hwb hwc hgv
            have heq : ∀ d W, (Op.equalIn (d + 2) 45 (.agg b.cs.toArray) (.agg b.cs.toArray)).run Try.prog W = .ok true W := fun d W => (bk_eq d b b W).trans (by simp)
            go_wp2_with fail
            have n_HB := Aside0.mk (below_step HB.out (below_drew (Below.refl _ _)))
            have n_HS := Aside0.mk (HS.out.below (below_drew (Below.refl _ _)))
            have n_BKw := Aside0.mk (blk_below BKw.out (below_drew (Below.refl _ _)))
            have n_BKe := Aside0.mk (blk_below BKe.out (below_drew (Below.refl _ _)))
            have n_BKg := Aside0.mk (blk_below BKg.out (below_drew (Below.refl _ _)))
            have n_BKa := Aside0.mk (blk_below BKa.out (below_drew (Below.refl _ _)))
            clear HB
            have HB := n_HB
            clear n_HB
            clear HS
            have HS := n_HS
            clear n_HS
            clear BKw
            have BKw := n_BKw
            clear n_BKw
            clear BKe
            have BKe := n_BKe
            clear n_BKe
            clear BKg
            have BKg := n_BKg
            clear n_BKg
            clear BKa
            have BKa := n_BKa
            clear n_BKa
            refine start_ (n := 18) (S := fun w' => w'.cell? ⟨g17, j, none⟩ = some (.bool false) ∧ w'.heap[g21]? = some (.cells b.cs.toArray 45 (0, 0)) ∧ w'.heap[g12]? = some (.cells (wcells want) 53 (0, 0)) ∧ w'.cell? ⟨g13, j, none⟩ = some (.int .i64 c)) (ds := []) #[false, false, false, false, false, false, false, false, false, false, false, false, false, false, false, false, false, false] (by kernel_rfl) rfl rfl ⟨(blk_cell BKg.out j).trans hgj.out, BKa.out, BKw.out, (blk_cell BKe.out j).trans hce.out⟩ (fun hHeld => ?_)
            generalize q5.drew = q6 at HB HS BKw BKe BKg BKa hHeld ⊢
            refine pure_ (i := 0) (N := some 127) (v := ?_) (a' := ?_) #[true, false, false, false, false, false, false, false, false, false, false, false, false, false, false, false, false, false] rfl rfl (by kernel_rfl) (fun _ _ _ h => h) (Or.inl ⟨by rfl, ?_⟩) ?_ ?_
            rotate_left
            · intro w'
              go_simp
              with_reducible rfl
            rotate_left
            · simp only [Act.put, List.setIfInBounds_toArray, List.set_cons_zero, List.set_cons_succ, i64_w, i32_w]
              rfl
            refine pure_ (i := 1) (N := some 128) (v := ?_) (a' := ?_) #[true, true, false, false, false, false, false, false, false, false, false, false, false, false, false, false, false, false] rfl rfl (by kernel_rfl) (fun _ _ _ h => h) (Or.inl ⟨by rfl, ?_⟩) ?_ ?_
            rotate_left
            · intro w'
              go_simp
              with_reducible rfl
            rotate_left
            · simp only [Act.put, List.setIfInBounds_toArray, List.set_cons_zero, List.set_cons_succ, i64_w, i32_w]
              rfl
            refine take_ (i := 2) (N := some 129) (v := ?_) (a' := ?_) #[true, true, true, false, false, false, false, false, false, false, false, false, false, false, false, false, false, false] rfl rfl (by kernel_rfl) (fun _ _ _ h => h) (Or.inl ⟨by rfl, ?_⟩) hHeld ?_ ?_
            rotate_left
            · rintro w' ⟨s0, s1, s2, s3⟩
              go_simp
              with_reducible rfl
            rotate_left
            · simp only [Act.put, List.setIfInBounds_toArray, List.set_cons_zero, List.set_cons_succ, i64_w, i32_w]
              rfl
            refine pure_ (i := 3) (N := some 130) (v := ?_) (a' := ?_) #[true, true, true, true, false, false, false, false, false, false, false, false, false, false, false, false, false, false] rfl rfl (by kernel_rfl) (fun _ _ _ h => h) (Or.inl ⟨by rfl, ?_⟩) ?_ ?_
            rotate_left
            · intro w'
              go_simp
              with_reducible rfl
            rotate_left
            · simp only [Act.put, List.setIfInBounds_toArray, List.set_cons_zero, List.set_cons_succ, i64_w, i32_w]
              rfl
            refine pure_ (i := 4) (N := some 131) (v := ?_) (a' := ?_) #[true, true, true, true, true, false, false, false, false, false, false, false, false, false, false, false, false, false] rfl rfl (by kernel_rfl) (fun _ _ _ h => h) (Or.inl ⟨by rfl, ?_⟩) ?_ ?_
            rotate_left
            · intro w'
              go_simp
              with_reducible rfl
            rotate_left
            · simp only [Act.put, List.setIfInBounds_toArray, List.set_cons_zero, List.set_cons_succ, i64_w, i32_w]
              rfl
            refine pure_ (i := 6) (N := some 133) (v := ?_) (a' := ?_) #[true, true, true, true, true, false, true, false, false, false, false, false, false, false, false, false, false, false] rfl rfl (by kernel_rfl) (fun _ _ _ h => h) (Or.inl ⟨by rfl, ?_⟩) ?_ ?_
            rotate_left
            · intro w'
              go_simp
              with_reducible rfl
            rotate_left
            · simp only [Act.put, List.setIfInBounds_toArray, List.set_cons_zero, List.set_cons_succ, i64_w, i32_w]
              rfl
            refine pure_ (i := 7) (N := some 134) (v := ?_) (a' := ?_) #[true, true, true, true, true, false, true, true, false, false, false, false, false, false, false, false, false, false] rfl rfl (by kernel_rfl) (fun _ _ _ h => h) (Or.inl ⟨by rfl, ?_⟩) ?_ ?_
            rotate_left
            · intro w'
              go_simp
              with_reducible rfl
            rotate_left
            · simp only [Act.put, List.setIfInBounds_toArray, List.set_cons_zero, List.set_cons_succ, i64_w, i32_w]
              rfl
            refine take_ (i := 5) (N := some 132) (v := ?_) (a' := ?_) #[true, true, true, true, true, true, true, true, false, false, false, false, false, false, false, false, false, false] rfl rfl (by kernel_rfl) (fun _ _ _ h => h) (Or.inl ⟨by rfl, ?_⟩) hHeld ?_ ?_
            rotate_left
            · rintro w' ⟨s0, s1, s2, s3⟩
              refine load_run 45 (.tmp 21) ?_ g21 ?_ 45 _ (0, 0) _ s1 bk_und rfl (by rw [bk_sz]; exact bk_info) <;> rfl
            rotate_left
            · simp only [Act.put, List.setIfInBounds_toArray, List.set_cons_zero, List.set_cons_succ, i64_w, i32_w]
              rfl
            refine take_ (i := 8) (N := some 135) (v := ?_) (a' := ?_) #[true, true, true, true, true, true, true, true, true, false, false, false, false, false, false, false, false, false] rfl rfl (by kernel_rfl) (fun _ _ _ h => h) (Or.inl ⟨by rfl, ?_⟩) hHeld ?_ ?_
            rotate_left
            · rintro w' ⟨s0, s1, s2, s3⟩
              refine load_run_at 45 (.tmp 134) ?_ ⟨g12, j * 64, none⟩ ?_ b.cs _ (row_at s2 hcw.out) bk_und rfl (by rw [b.len]; exact bk_info) <;> rfl
            rotate_left
            · simp only [Act.put, List.setIfInBounds_toArray, List.set_cons_zero, List.set_cons_succ, i64_w, i32_w]
              rfl
            refine pure_ (i := 9) (N := some 136) (v := ?_) (a' := ?_) #[true, true, true, true, true, true, true, true, true, true, false, false, false, false, false, false, false, false] rfl rfl (by kernel_rfl) (fun _ _ _ h => h) (Or.inl ⟨by rfl, ?_⟩) ?_ ?_
            rotate_left
            · intro w'
              go_simp
              with_reducible rfl
            rotate_left
            · simp only [Act.put, List.setIfInBounds_toArray, List.set_cons_zero, List.set_cons_succ, i64_w, i32_w]
              rfl
            refine pure_ (i := 10) (N := some 137) (v := ?_) (a' := ?_) #[true, true, true, true, true, true, true, true, true, true, true, false, false, false, false, false, false, false] rfl rfl (by kernel_rfl) (fun _ _ _ h => h) (Or.inl ⟨by rfl, ?_⟩) ?_ ?_
            rotate_left
            · intro w'
              go_simp
              with_reducible rfl
            rotate_left
            · simp only [Act.put, List.setIfInBounds_toArray, List.set_cons_zero, List.set_cons_succ, i64_w, i32_w]
              rfl
            refine pure_ (i := 11) (N := some 138) (v := ?_) (a' := ?_) #[true, true, true, true, true, true, true, true, true, true, true, true, false, false, false, false, false, false] rfl rfl (by kernel_rfl) (fun _ _ _ h => h) (Or.inl ⟨by rfl, ?_⟩) ?_ ?_
            rotate_left
            · intro w'
              go_simp
              with_reducible rfl
            rotate_left
            · simp only [Act.put, List.setIfInBounds_toArray, List.set_cons_zero, List.set_cons_succ, i64_w, i32_w]
              rfl
            refine pure_ (i := 12) (N := some 139) (v := ?_) (a' := ?_) #[true, true, true, true, true, true, true, true, true, true, true, true, true, false, false, false, false, false] rfl rfl (by kernel_rfl) (fun _ _ _ h => h) (Or.inl ⟨by rfl, ?_⟩) ?_ ?_
            rotate_left
            · intro w'
              go_simp
              with_reducible rfl
            rotate_left
            · simp only [Act.put, List.setIfInBounds_toArray, List.set_cons_zero, List.set_cons_succ, i64_w, i32_w]
              rfl
            refine pure_ (i := 13) (N := some 140) (v := ?_) (a' := ?_) #[true, true, true, true, true, true, true, true, true, true, true, true, true, true, false, false, false, false] rfl rfl (by kernel_rfl) (fun _ _ _ h => h) (Or.inl ⟨by rfl, ?_⟩) ?_ ?_
            rotate_left
            · intro w'
              go_simp
              with_reducible rfl
            rotate_left
            · simp only [Act.put, List.setIfInBounds_toArray, List.set_cons_zero, List.set_cons_succ, i64_w, i32_w]
              rfl
            refine take_ (i := 14) (N := some 141) (v := ?_) (a' := ?_) #[true, true, true, true, true, true, true, true, true, true, true, true, true, true, true, false, false, false] rfl rfl (by kernel_rfl) (fun _ _ _ h => h) (Or.inl ⟨by rfl, ?_⟩) hHeld ?_ ?_
            rotate_left
            · rintro w' ⟨s0, s1, s2, s3⟩
              go_simp
              with_reducible rfl
            rotate_left
            · simp only [Act.put, List.setIfInBounds_toArray, List.set_cons_zero, List.set_cons_succ, i64_w, i32_w]
              rfl
            refine pure_ (i := 15) (N := some 142) (v := ?_) (a' := ?_) #[true, true, true, true, true, true, true, true, true, true, true, true, true, true, true, true, false, false] rfl rfl (by kernel_rfl) (fun _ _ _ h => h) (Or.inl ⟨by rfl, ?_⟩) ?_ ?_
            rotate_left
            · intro w'
              go_simp
              with_reducible rfl
            rotate_left
            · simp only [Act.put, List.setIfInBounds_toArray, List.set_cons_zero, List.set_cons_succ, i64_w, i32_w]
              rfl
            refine pure_ (i := 16) (N := some 143) (v := ?_) (a' := ?_) #[true, true, true, true, true, true, true, true, true, true, true, true, true, true, true, true, true, false] rfl rfl (by kernel_rfl) (fun _ _ _ h => h) (Or.inl ⟨by rfl, ?_⟩) ?_ ?_
            rotate_left
            · intro w'
              go_simp
              with_reducible rfl
            rotate_left
            · simp only [Act.put, List.setIfInBounds_toArray, List.set_cons_zero, List.set_cons_succ, i64_w, i32_w]
              rfl
            refine pure_ (i := 17) (N := some 144) (v := ?_) (a' := ?_) #[true, true, true, true, true, true, true, true, true, true, true, true, true, true, true, true, true, true] rfl rfl (by kernel_rfl) (fun _ _ _ h => h) (Or.inl ⟨by rfl, ?_⟩) ?_ ?_
            rotate_left
            · intro w'
              go_simp
              with_reducible rfl
            rotate_left
            · simp only [Act.put, List.setIfInBounds_toArray, List.set_cons_zero, List.set_cons_succ, i64_w, i32_w]
              rfl
            refine done_ (by kernel_rfl) ?_
            clear hHeld
            go_wp2_with fail
            go_roundw
            case rel => exact ⟨j + 1, by omega, by go_num, HS, HB, BKw, BKe, BKg⟩
            case measure => simp [intOf]; omega
theorem lombardlaw19_BlockLasts.calls (A0 : Option Addr) (c0 : Nat) (l0 : List (S34)) (A1 : Option Addr) (c1 : Nat) (l1 : List (S34)) (r : Bool) (w : World) (hr0 : Kd.C k34 w A0 l0.length l0) (hc0 : l0.length ≤ c0) (hr1 : Kd.C k34 w A1 l1.length l1) (hc1 : l1.length ≤ c1) (h : lombardlaw19_BlockLasts.f l0 l1 = some r) :
    Calls Try.prog 4 #[.slice A0 l0.length c0, .slice A1 l1.length c1] w fun e w' => e = .returned (.bool r) ∧ Below w.heap.size w w' := by
  obtain rfl := Option.some.inj h
  exact lombardlaw19_BlockLasts.walk A0 c0 l0 A1 c1 l1 w hr0 hc0 hr1 hc1


end Go.Proofs.Ytpfkjjaohmdnjaa.Print
