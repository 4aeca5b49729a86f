-- written by this session's program wip/hybrid.py over the kit's printer, and by hand. Not trusted: Lean checks it.
import Derived.Test.YtpfkjjaohmdnjaaPrint0
import Derived.Test.YtpfkjjaohmdnjaaPrint2
import Derived.Test.YtpfkjjaohmdnjaaPrint3
namespace Go.Proofs.Ytpfkjjaohmdnjaa.Print
open Go.RowKit Go.Proofs.YtpfkjjaohmdnjaaW.PrintWords Go.Proofs.YtpfkjjaohmdnjaaW.PrintLast Go.Proofs.YtpfkjjaohmdnjaaW.PrintMore
attribute [local go_sem] max2_int min2_int max_two min_two max_three min_three max_four min_four   -- for this text's walks alone
set_option linter.unusedVariables false
set_option linter.unusedSimpArgs false

/-! ### lombardlaw19_BlockGoes: function 6 -/
def lombardlaw19_BlockGoes.f (l : List S34) : Option Bool := some true
theorem lombardlaw19_BlockGoes.great_ (l : List S34) (hl : l.length ≤ 9223372036854775807) : ∃ k r, lombardlaw19_great.f k l = some r := by
  have H : ∀ (n : Nat) (i : Nat), l.length - i + 1 ≤ n → i ≤ l.length → ∃ r, lombardlaw19_great.l0 n l l (l.length : Int) (i : Int) = some r := by
    intro n
    induction n with
    | zero => intro i h; omega
    | succ n ih =>
      intro i h hi
      rw [lombardlaw19_great.l0]
      by_cases hlt : i < l.length
      · rw [if_pos (by omega), if_pos (by omega), if_pos (by omega)]
        split
        · exact ⟨_, rfl⟩
        · split
          · exact ⟨_, rfl⟩
          · have e : wrap64 ((i : Int) + 1) = ((i + 1 : Nat) : Int) := by unfold wrap64; omega
            rw [e]
            exact ih (i + 1) (by omega) (by omega)
      · rw [if_neg (by omega)]
        exact ⟨_, rfl⟩
  obtain ⟨r, hr⟩ := H (l.length + 1) 0 (by omega) (by omega)
  exact ⟨l.length + 1, r, hr⟩
set_option maxHeartbeats 32000000 in
set_option maxRecDepth 100000 in
theorem lombardlaw19_BlockGoes.walk (A0 : Option Addr) (c0 : Nat) (l0 : List S34) (w : World) (hr0 : Kd.C k34 w A0 l0.length l0) (hc0 : l0.length ≤ c0) : Calls Try.prog 6 #[.slice A0 l0.length c0] w fun e w' => e = .returned (.bool true) ∧ Below w.heap.size w w' := by
  obtain ⟨kl0, rl0, hgl0⟩ := lombardlaw19_BlockGoes.great_ l0 hr0.2.1
  replace hgl0 := Aside0.mk hgl0
  replace hr0 := Aside0.mk hr0
  have hzw := fun W => wt_zero0 W
  go_enter Try.func6, Try.ntmps6
  go_wp2_with fail
  with_reducible refine (lombardlaw19_alive.calls true w rfl).mono ?_
  rintro e w1 ⟨rfl, hb⟩
  have HB := Aside0.mk hb
  clear hb
  go_wp2_with fail
  with_reducible refine (lombardlaw19_great.calls kl0 A0 c0 l0 rl0 w1 (Kd.C_below hr0.out HB.out) hc0 hgl0.out).mono ?_
  rintro e w2 ⟨rfl, hb⟩
  have HB' := Aside0.mk (below_step HB.out hb)
  clear hb HB
  have HB := HB'
  clear HB'
  cases rl0
  case true =>
    go_wp2_with fail
    go_ret
    exact ⟨rfl, HB.out⟩
  go_wp2_with fail
  refine (l_New 30 (by omega)).mono ?_
  rintro e w3 ⟨p, rfl, gl, gm, v, hs, hb⟩
  have hBw : w.heap.size ≤ w2.heap.size := HB.out.size
  have HB' := Aside0.mk (below_step HB.out hb)
  have HS := Aside0.mk hs
  clear hb hs HB
  generalize w2.heap.size = B at HS hBw
  go_wp2_with fail
  have HB := Aside0.mk (below_alloc HB'.out (.cells (wcells want0) 53))
  have HS' := Aside0.mk (HS.out.below (below_alloc (Below.refl w3.heap.size w3) (.cells (wcells want0) 53)))
  have BKw := Aside0.mk (blk_new w3 (.cells (wcells want0) 53))
  have hg5 : w.heap.size ≤ w3.heap.size := HB'.out.size
  clear HB' HS
  have HS := HS'
  clear HS'
  generalize w3.alloc (.cells (wcells want0) 53) = w4 at HB HS BKw ⊢
  generalize w3.heap.size = g5 at BKw hg5 ⊢
  have hl63 := hr0.out.2.1
  go_loopw [22] (fun u wr => ∃ (i : Nat) (v : Value) (L : List (Bk × Bool)) (W : List (Int × Bk)) (want : List Bk), i ≤ l0.length ∧ u = .int .i64 i ∧ want.length = 30 ∧ L.length = 30 ∧ Aside0 (SA B wr p gl gm v L W) ∧ Aside0 (Below w.heap.size w wr) ∧ Aside0 (wr.heap[g5]? = some (.cells (wcells want) 53 (0, 0))) ∧ Aside0 (∀ a : Nat, a < 30 → rd L [] a = (want.getD a Bk.z, 0))) (fun u _ => ((l0.length : Int) - intOf u).toNat)
  case atStart => exact ⟨0, v, zeros 30, [], want0, by omega, rfl, want0_len, zeros_len 30, HS, HB, BKw, ⟨fun a ha => by rw [want0_at]; exact rd_zeros 30 a ha⟩⟩
  case round =>
    obtain ⟨i, v, L, W, want, hi, rfl, hwl, hLl, HS, HB, BKw, HRD⟩ := hrel
    by_cases hlt : i < l0.length
    case neg =>
      go_wp2_with fail
      go_ret
      exact ⟨rfl, HB.out⟩
    obtain ⟨ad, A2, c2, A3, c3, hA, hk0, hk1, hk2, hk3, hc2, hCB, hc3, hCF⟩ := at_T34 hr0.out (i : Int) (by omega) (by omega)
    rw [Int.toNat_natCast] at hk0 hk1 hk2 hk3
    generalize rd_T34 l0 (i : Int) = o at hk0 hk1 hk2 hk3 hc2 hCB hc3 hCF
    obtain ⟨k, a, bs, fs⟩ := o
    simp only at hk0 hk1 hk2 hk3 hc2 hCB hc3 hCF
    subst hA
    have hAF := Aside0.mk (HS.out.arg hCF hBw)
    have CB0 := Aside0.mk hCB
    replace hk0 := pw_cell_below HB.out hk0
    replace hk1 := pw_cell_below HB.out hk1
    replace hk2 := pw_cell_below HB.out hk2
    replace hk3 := pw_cell_below HB.out hk3
    replace hCB := Kd.C_below hCB HB.out
    replace hCF := Kd.C_below hCF HB.out
    go_wp2_with ((with_reducible refine gate_store (t := 34) (p := 7) (v := .tmp 25) rfl ?_); refine Shut.out ?_)
    unfold Shut
    obtain ⟨hnb, hnk⟩ := newbk wr #[.int .i64 0, .int .i64 0, .slice none 0 0, .slice none 0 0] #[.int .i64 k, .int .i64 a, .slice A2 bs.length c2, .slice A3 fs.length c3] 34
    refine store_rowTo rfl 34 (.tmp 7) (.tmp 25) rfl rfl wr.heap.size #[.int .i64 k, .int .i64 a, .slice A2 bs.length c2, .slice A3 fs.length c3] rfl rfl 34 _ (blk_new wr _) (by kernel_rfl) rfl (op_all _ _ _ _ _ _ _ _) ?_
    have HS' := Aside0.mk (HS.out.below hnb)
    have HB' := Aside0.mk (below_step HB.out hnb)
    have BKw' := Aside0.mk (blk_below BKw.out hnb)
    have BK7 := Aside0.mk hnk
    have CB := Aside0.mk (Kd.C_below hCB hnb)
    have CF := Aside0.mk (Kd.C_below hCF hnb)
    clear HS HB BKw hnb hnk hCB hCF hk0 hk1 hk2 hk3
    have HS := HS'
    have HB := HB'
    have BKw := BKw'
    clear HS' HB' BKw'
    generalize (wr.alloc (.cells #[.int .i64 0, .int .i64 0, .slice none 0 0, .slice none 0 0] 34)).setRow wr.heap.size #[.int .i64 k, .int .i64 a, .slice A2 bs.length c2, .slice A3 fs.length c3] = w5 at HS HB BKw BK7 CB CF ⊢
    generalize wr.heap.size = g7 at BK7 ⊢
    have hj0 : w5.cell? ⟨g7, 0, none⟩ = some (.int .i64 k) := (blk_cell BK7.out 0).trans rfl
    have hj1 : w5.cell? ⟨g7, 1, none⟩ = some (.int .i64 a) := (blk_cell BK7.out 1).trans rfl
    have hj2 : w5.cell? ⟨g7, 2, none⟩ = some (.slice A2 bs.length c2) := (blk_cell BK7.out 2).trans rfl
    have hj3 : w5.cell? ⟨g7, 3, none⟩ = some (.slice A3 fs.length c3) := (blk_cell BK7.out 3).trans rfl
    by_cases h1 : k = 1
    case pos =>
      subst h1
      have e1 : ((1 : Int) == 1) = true := rfl
      go_wp2_with fail
      refine (b_do HS.out HS.out.base_le 1 a CB.out CF.out hAF.out).mono ?_
      rintro e w6 ⟨rfl, v2, hs, hm⟩
      rw [show doL L W 1 fs = L from rfl] at hs
      generalize doW L W 1 a bs = W2 at hs
      have HS6 := Aside0.mk hs
      have HB6 := Aside0.mk (hm.below HB.out HB.out.size (fun k hk => Nat.le_trans hBw (HS.out.base hk)))
      have BKw6 := Aside0.mk (hm.blk BKw.out (HS.out.far BKw.out (by decide)))
      clear hs hm HS HB BKw BK7 CB CF hj0 hj1 hj2 hj3 hAF
      have HS := HS6
      have HB := HB6
      have BKw := BKw6
      clear HS6 HB6 BKw6
      go_wp2_with fail
      go_roundw
      case rel => exact ⟨i + 1, v2, L, W2, want, by omega, by go_num, hwl, hLl, HS, HB, BKw, HRD⟩
      case measure => simp [intOf]; omega
    have e1 : (k == 1) = false := by simpa using h1
    by_cases h2 : k = 2
    case pos =>
      subst h2
      have e2 : ((2 : Int) == 2) = true := rfl
      have hn1 : ((2 : Int) == 1) = false := rfl
      clear e1
      go_wp2_with fail
      refine (b_do HS.out HS.out.base_le 2 a CB.out CF.out hAF.out).mono ?_
      rintro e w6 ⟨rfl, v2, hs, hm⟩
      rw [show doL L W 2 fs = setl (fun _ => 1) 0 W L from rfl, show doW L W 2 a bs = [] from rfl] at hs
      have hz : Aside0 (∀ j : Nat, j < 30 → (rd (setl (fun _ => 1) 0 W L) [] (j : Int)).2 = 0) := ⟨fun j hj => by rw [rd_sync W 0 L HS.out.hW.2]; exact rd_both (by rw [HRD.out j hj])⟩
      have hl2 : (setl (fun _ => 1) 0 W L).length = 30 := by rw [setl_len, hLl]
      generalize setl (fun _ => 1) 0 W L = L2 at hs hz hl2
      have HS6 := Aside0.mk hs
      have HB6 := Aside0.mk (hm.below HB.out HB.out.size (fun k hk => Nat.le_trans hBw (HS.out.base hk)))
      have BKw6 := Aside0.mk (hm.blk BKw.out (HS.out.far BKw.out (by decide)))
      clear hs hm HS HB BKw BK7 CB CF hj0 hj1 hj2 hj3 hAF
      have HS := HS6
      have HB := HB6
      have BKw := BKw6
      clear HS6 HB6 BKw6
      clear HRD
      go_wp2_with fail
      go_loopw [38] (fun u wq => ∃ (j : Nat) (want' : List Bk), j ≤ 30 ∧ u = .int .i64 j ∧ want'.length = 30 ∧ Aside0 (SA B wq p gl gm v2 L2 []) ∧ Aside0 (Below w.heap.size w wq) ∧ Aside0 (wq.heap[g5]? = some (.cells (wcells want') 53 (0, 0))) ∧ Aside0 (∀ a : Nat, a < j → rd L2 [] a = (want'.getD a Bk.z, 0))) (fun u _ => (30 - intOf u).toNat)
      case atStart => exact ⟨0, want, by omega, rfl, hwl, HS, HB, BKw, ⟨fun a ha => absurd ha (by omega)⟩⟩
      case round =>
        clear HS HB BKw
        obtain ⟨j, want', hj, rfl, hwl', HS, HB, BKw, HRD⟩ := hrel
        by_cases hj30 : j < 30
        · obtain ⟨b, hb0⟩ : ∃ b : Bk, rd L2 [] (j : Int) = (b, 0) := ⟨(rd L2 [] (j : Int)).1, Prod.ext rfl (hz.out j hj30)⟩
          have hb0 := Aside0.mk hb0
          have hj30i : (j : Int) < 30 := by omega
          have hjw : j < want'.length := by omega
          go_wp2_with fail
          refine (l_Read HS.out (j : Int) hb0.out).mono ?_
          rintro e q2 ⟨rfl, hb⟩
          have HS2 := Aside0.mk (HS.out.below hb)
          have HB2 := Aside0.mk (below_step HB.out hb)
          have BKw2 := Aside0.mk (blk_below BKw.out hb)
          clear HS HB BKw hb
          go_wp2_with ((with_reducible refine gate_store (t := 45) (p := 48) (v := .tmp 46) rfl ?_); refine wpl_skip rfl rfl (want_store 45 (.tmp 48) (.tmp 46) rfl rfl rfl BKw2.out hjw bk_info) ?_)
          have HS3 := Aside0.mk (HS2.out.row_far BKw2.out (by decide) (wcells (want'.set j b)))
          have HB3 := Aside0.mk (row_below (g := g5) HB2.out hg5 (wcells (want'.set j b)))
          have BKw3 := Aside0.mk (setRow_heap _ _ _ (wcells (want'.set j b)) _ _ BKw2.out)
          have HRD3 := Aside0.mk (last_next hj30 hwl' HRD.out hb0.out)
          clear HS2 HB2 BKw2 HRD
          go_roundw
          case rel => exact ⟨j + 1, want'.set j b, by omega, by go_num, by rw [List.length_set, hwl'], HS3, HB3, BKw3, HRD3⟩
          case measure => simp [intOf]; omega
        · obtain rfl : j = 30 := by omega
          go_wp2_with fail
          go_roundw
          case rel => exact ⟨i + 1, v2, L2, [], want', by omega, by go_num, hwl', hl2, HS, HB, BKw, HRD⟩
          case measure => simp [intOf]; omega
    have e2 : (k == 2) = false := by simpa using h2
    by_cases h3 : k = 3
    case neg =>
      have e3 : (k == 3) = false := by simpa using h3
      go_wp2_with fail
      go_roundw
      case rel => exact ⟨i + 1, v, L, W, want, by omega, by go_num, hwl, hLl, HS, HB, BKw, HRD⟩
      case measure => simp [intOf]; omega
    have e3 : (k == 3) = true := by simpa using h3
    clear h1 h2 h3
    go_wp2_with fail
    refine (b_Crash (c := 0) (l := []) HS.out nil_C (fun h => absurd h (by simp))).mono ?_
    rintro e w6 ⟨rfl, hs, hm⟩
    rw [setl_nil] at hs
    have HS6 := Aside0.mk hs
    have HB6 := Aside0.mk (hm.below HB.out HB.out.size (fun k hk => Nat.le_trans hBw (HS.out.base hk)))
    have BKw6 := Aside0.mk (hm.blk BKw.out (HS.out.far BKw.out (by decide)))
    clear hs hm HS HB BKw BK7 CB CF hj0 hj1 hj2 hj3 hAF
    have HS := HS6
    have HB := HB6
    have BKw := BKw6
    clear HS6 HB6 BKw6
    go_wp2_with fail
    go_loopw [54] (fun u wq => ∃ j : Nat, j ≤ 30 ∧ u = .int .i64 j ∧ Aside0 (SA B wq p gl gm (.slice none 0 0) L []) ∧ Aside0 (Below w.heap.size w wq) ∧ Aside0 (wq.heap[g5]? = some (.cells (wcells want) 53 (0, 0)))) (fun u _ => (30 - intOf u).toNat)
    case atStart => exact ⟨0, by omega, rfl, HS, HB, BKw⟩
    case round =>
      clear HS HB BKw
      obtain ⟨j, hj, rfl, HS, HB, BKw⟩ := hrel
      by_cases hj30 : j < 30
      · obtain ⟨b, hbw⟩ : ∃ b : Bk, want[j]'(by omega) = b := ⟨_, rfl⟩
        have hb0 : rd L [] (j : Int) = (b, 0) := by
          rw [← hbw, HRD.out j hj30]
          simp [List.getD, hwl, hj30]
        have hcw : ∀ q, q < 64 → (wcells want)[j * 64 + q]? = b.cs[q]? := fun q hq => by rw [wcells_at want j q (by omega) hq, hbw]
        replace hb0 := Aside0.mk hb0
        replace hcw := Aside0.mk hcw
        replace hbw := Aside0.mk hbw
        have hj30i : (j : Int) < 30 := by omega
        go_wp2_with fail
        refine (l_Read HS.out (j : Int) hb0.out).mono ?_
        rintro e q2 ⟨rfl, hb⟩
        have HS2 := Aside0.mk (HS.out.below hb)
        have HB2 := Aside0.mk (below_step HB.out hb)
        have BKw2 := Aside0.mk (blk_below BKw.out hb)
        clear HS HB BKw hb
        go_wp2_with ((with_reducible refine gate_store (t := 45) (p := 10) (v := .tmp 61) rfl ?_); refine Shut.out ?_)
        unfold Shut
        obtain ⟨hnb, hnk⟩ := newbk q2 Bk.z.cs.toArray b.cs.toArray 45
        refine wpl_stbk 45 _ _ q2.heap.size b 45 Bk.z rfl rfl rfl rfl rfl (blk_new q2 _) bk_info ?_
        have HB := Aside0.mk (below_step HB2.out hnb)
        have HS := Aside0.mk (HS2.out.below hnb)
        have BKw := Aside0.mk (blk_below BKw2.out hnb)
        have BKa := Aside0.mk hnk
        clear HS2 HB2 BKw2 hnb hnk
        generalize hgen : (q2.alloc (.cells Bk.z.cs.toArray 45)).setRow q2.heap.size b.cs.toArray = q3 at HS HB BKw BKa
        change wpList _ _ _ _ _ ((q2.alloc (.cells Bk.z.cs.toArray 45)).setRow q2.heap.size b.cs.toArray)
        rw [hgen]
        clear hgen
        generalize q2.heap.size = g10 at BKa ⊢
        have heq : ∀ d W, (Op.equalIn (d + 2) 45 (.agg b.cs.toArray) (.agg b.cs.toArray)).run Try.prog W = .ok true W := fun d W => (bk_eq d b b W).trans (by simp)
        go_wp2_with fail
        have n_HB := Aside0.mk (below_step HB.out (below_drew (Below.refl _ _)))
        have n_HS := Aside0.mk (HS.out.below (below_drew (Below.refl _ _)))
        have n_BKw := Aside0.mk (blk_below BKw.out (below_drew (Below.refl _ _)))
        have n_BKa := Aside0.mk (blk_below BKa.out (below_drew (Below.refl _ _)))
        clear HB
        have HB := n_HB
        clear n_HB
        clear HS
        have HS := n_HS
        clear n_HS
        clear BKw
        have BKw := n_BKw
        clear n_BKw
        clear BKa
        have BKa := n_BKa
        clear n_BKa
        refine start_ (n := 9) (S := fun w' => w'.heap[g10]? = some (.cells b.cs.toArray 45 (0, 0)) ∧ w'.heap[g5]? = some (.cells (wcells want) 53 (0, 0))) (ds := []) #[false, false, false, false, false, false, false, false, false] (by kernel_rfl) rfl rfl ⟨BKa.out, BKw.out⟩ (fun hHeld => ?_)
        generalize q3.drew = q4 at HB HS BKw BKa hHeld ⊢
        refine pure_ (i := 1) (N := some 64) (v := ?_) (a' := ?_) #[false, true, false, false, false, false, false, false, false] rfl rfl (by kernel_rfl) (fun _ _ _ h => h) (Or.inl ⟨by rfl, ?_⟩) ?_ ?_
        rotate_left
        · intro w'
          go_simp
          with_reducible rfl
        rotate_left
        · simp only [Act.put, List.setIfInBounds_toArray, List.set_cons_zero, List.set_cons_succ, i64_w, i32_w]
          rfl
        refine pure_ (i := 2) (N := some 65) (v := ?_) (a' := ?_) #[false, true, true, false, false, false, false, false, false] rfl rfl (by kernel_rfl) (fun _ _ _ h => h) (Or.inl ⟨by rfl, ?_⟩) ?_ ?_
        rotate_left
        · intro w'
          go_simp
          with_reducible rfl
        rotate_left
        · simp only [Act.put, List.setIfInBounds_toArray, List.set_cons_zero, List.set_cons_succ, i64_w, i32_w]
          rfl
        refine take_ (i := 0) (N := some 63) (v := ?_) (a' := ?_) #[true, true, true, false, false, false, false, false, false] rfl rfl (by kernel_rfl) (fun _ _ _ h => h) (Or.inl ⟨by rfl, ?_⟩) hHeld ?_ ?_
        rotate_left
        · rintro w' ⟨s0, s1⟩
          refine load_run 45 (.tmp 10) ?_ g10 ?_ 45 _ (0, 0) _ s0 bk_und rfl (by rw [bk_sz]; exact bk_info) <;> rfl
        rotate_left
        · simp only [Act.put, List.setIfInBounds_toArray, List.set_cons_zero, List.set_cons_succ, i64_w, i32_w]
          rfl
        refine take_ (i := 3) (N := some 66) (v := ?_) (a' := ?_) #[true, true, true, true, false, false, false, false, false] rfl rfl (by kernel_rfl) (fun _ _ _ h => h) (Or.inl ⟨by rfl, ?_⟩) hHeld ?_ ?_
        rotate_left
        · rintro w' ⟨s0, s1⟩
          refine load_run_at 45 (.tmp 65) ?_ ⟨g5, j * 64, none⟩ ?_ b.cs _ (row_at s1 hcw.out) bk_und rfl (by rw [b.len]; exact bk_info) <;> rfl
        rotate_left
        · simp only [Act.put, List.setIfInBounds_toArray, List.set_cons_zero, List.set_cons_succ, i64_w, i32_w]
          rfl
        refine pure_ (i := 4) (N := some 67) (v := ?_) (a' := ?_) #[true, true, true, true, true, false, false, false, false] rfl rfl (by kernel_rfl) (fun _ _ _ h => h) (Or.inl ⟨by rfl, ?_⟩) ?_ ?_
        rotate_left
        · intro w'
          go_simp
          with_reducible rfl
        rotate_left
        · simp only [Act.put, List.setIfInBounds_toArray, List.set_cons_zero, List.set_cons_succ, i64_w, i32_w]
          rfl
        refine pure_ (i := 5) (N := some 68) (v := ?_) (a' := ?_) #[true, true, true, true, true, true, false, false, false] rfl rfl (by kernel_rfl) (fun _ _ _ h => h) (Or.inl ⟨by rfl, ?_⟩) ?_ ?_
        rotate_left
        · intro w'
          go_simp
          with_reducible rfl
        rotate_left
        · simp only [Act.put, List.setIfInBounds_toArray, List.set_cons_zero, List.set_cons_succ, i64_w, i32_w]
          rfl
        refine pure_ (i := 6) (N := some 69) (v := ?_) (a' := ?_) #[true, true, true, true, true, true, true, false, false] rfl rfl (by kernel_rfl) (fun _ _ _ h => h) (Or.inl ⟨by rfl, ?_⟩) ?_ ?_
        rotate_left
        · intro w'
          go_simp
          with_reducible rfl
        rotate_left
        · simp only [Act.put, List.setIfInBounds_toArray, List.set_cons_zero, List.set_cons_succ, i64_w, i32_w]
          rfl
        refine pure_ (i := 7) (N := some 70) (v := ?_) (a' := ?_) #[true, true, true, true, true, true, true, true, false] rfl rfl (by kernel_rfl) (fun _ _ _ h => h) (Or.inl ⟨by rfl, ?_⟩) ?_ ?_
        rotate_left
        · intro w'
          go_simp
          with_reducible rfl
        rotate_left
        · simp only [Act.put, List.setIfInBounds_toArray, List.set_cons_zero, List.set_cons_succ, i64_w, i32_w]
          rfl
        refine pure_ (i := 8) (N := some 71) (v := ?_) (a' := ?_) #[true, true, true, true, true, true, true, true, true] rfl rfl (by kernel_rfl) (fun _ _ _ h => h) (Or.inl ⟨by rfl, ?_⟩) ?_ ?_
        rotate_left
        · intro w'
          go_simp
          with_reducible rfl
        rotate_left
        · simp only [Act.put, List.setIfInBounds_toArray, List.set_cons_zero, List.set_cons_succ, i64_w, i32_w]
          rfl
        refine done_ (by kernel_rfl) ?_
        clear hHeld
        go_wp2_with fail
        go_roundw
        case rel => exact ⟨j + 1, by omega, by go_num, HS, HB, BKw⟩
        case measure => simp [intOf]; omega
      · go_wp2_with fail
        go_roundw
        case rel => exact ⟨i + 1, _, L, [], want, by omega, by go_num, hwl, hLl, HS, HB, BKw, HRD⟩
        case measure => simp [intOf]; omega
theorem lombardlaw19_BlockGoes.calls (A0 : Option Addr) (c0 : Nat) (l0 : List (S34)) (r : Bool) (w : World) (hr0 : Kd.C k34 w A0 l0.length l0) (hc0 : l0.length ≤ c0) (h : lombardlaw19_BlockGoes.f l0 = some r) :
    Calls Try.prog 6 #[.slice A0 l0.length c0] w fun e w' => e = .returned (.bool r) ∧ Below w.heap.size w w' := by
  obtain rfl := Option.some.inj h
  exact lombardlaw19_BlockGoes.walk A0 c0 l0 w hr0 hc0


end Go.Proofs.Ytpfkjjaohmdnjaa.Print
