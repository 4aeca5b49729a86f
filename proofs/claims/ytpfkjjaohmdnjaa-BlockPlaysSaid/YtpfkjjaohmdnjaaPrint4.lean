-- written by this session's program wip/hybrid.py over the kit's printer, and by hand. Not trusted: Lean checks it.
import Derived.Test.YtpfkjjaohmdnjaaPrint0
import Derived.Test.YtpfkjjaohmdnjaaPrint2
import Derived.Test.YtpfkjjaohmdnjaaPrint3
namespace Go.Proofs.Ytpfkjjaohmdnjaa.Print
open Go.RowKit Go.Proofs.YtpfkjjaohmdnjaaW.PrintWords Go.Proofs.YtpfkjjaohmdnjaaW.PrintLast Go.Proofs.YtpfkjjaohmdnjaaW.PrintMore
attribute [local go_sem] max2_int min2_int max_two min_two max_three min_three max_four min_four   -- for this text's walks alone
set_option linter.unusedVariables false
set_option linter.unusedSimpArgs false

/-! ### lombardlaw19_BlockPlays: function 3 -/
def lombardlaw19_BlockPlays.f (n : Int) (l : List S34) : Option Bool := some true
theorem lombardlaw19_BlockPlays.great_ (l : List S34) (hl : l.length ≤ 9223372036854775807) : ∃ k r, lombardlaw19_great.f k l = some r := by
  have H : ∀ (n : Nat) (i : Nat), l.length - i + 1 ≤ n → i ≤ l.length → ∃ r, lombardlaw19_great.l0 n l l (l.length : Int) (i : Int) = some r := by
    intro n
    induction n with
    | zero => intro i h; omega
    | succ n ih =>
      intro i h hi
      rw [lombardlaw19_great.l0]
      by_cases hlt : i < l.length
      · rw [if_pos (by omega), if_pos (by omega), if_pos (by omega)]
        split
        · exact ⟨_, rfl⟩
        · split
          · exact ⟨_, rfl⟩
          · have e : wrap64 ((i : Int) + 1) = ((i + 1 : Nat) : Int) := by unfold wrap64; omega
            rw [e]
            exact ih (i + 1) (by omega) (by omega)
      · rw [if_neg (by omega)]
        exact ⟨_, rfl⟩
  obtain ⟨r, hr⟩ := H (l.length + 1) 0 (by omega) (by omega)
  exact ⟨l.length + 1, r, hr⟩
set_option maxHeartbeats 32000000 in
set_option maxRecDepth 100000 in
theorem lombardlaw19_BlockPlays.walk (nb : Int) (A0 : Option Addr) (c0 : Nat) (l0 : List S34) (w : World) (hr0 : Kd.C k34 w A0 l0.length l0) (hc0 : l0.length ≤ c0) : Calls Try.prog 3 #[.int .i64 nb, .slice A0 l0.length c0] w fun e w' => e = .returned (.bool true) ∧ Below w.heap.size w w' := by
  obtain ⟨kl0, rl0, hgl0⟩ := lombardlaw19_BlockPlays.great_ l0 hr0.2.1
  replace hgl0 := Aside0.mk hgl0
  replace hr0 := Aside0.mk hr0
  have hzw := fun W => wt_zero0 W
  go_enter Try.func3, Try.ntmps3
  go_wp2_with fail
  with_reducible refine (lombardlaw19_alive.calls true w rfl).mono ?_
  rintro e w1 ⟨rfl, hb⟩
  have HB := Aside0.mk hb
  clear hb
  go_wp2_with fail
  with_reducible refine (lombardlaw19_great.calls kl0 A0 c0 l0 rl0 w1 (Kd.C_below hr0.out HB.out) hc0 hgl0.out).mono ?_
  rintro e w2 ⟨rfl, hb⟩
  have HB' := Aside0.mk (below_step HB.out hb)
  clear hb HB
  have HB := HB'
  clear HB'
  cases rl0
  case true =>
    go_wp2_with fail
    go_ret
    exact ⟨rfl, HB.out⟩
  go_wp2_with fail
  clear hzw
  have hBw : w.heap.size ≤ w2.heap.size := HB.out.size
  by_cases hnb : 1 ≤ nb ∧ nb ≤ 4096
  case neg =>
    refine (b_New_bad nb hnb).mono ?_
    rintro e w3 ⟨rfl, hb⟩
    have HB' := Aside0.mk (below_step HB.out hb)
    clear hb HB
    go_wp2_with fail
    refine (r_New_bad nb hnb).mono ?_
    rintro e w4 ⟨rfl, hb⟩
    have HB := Aside0.mk (below_step HB'.out hb)
    clear hb HB'
    go_wp2_with fail
    go_ret
    exact ⟨rfl, HB.out⟩
  obtain ⟨n, rfl⟩ := Int.eq_ofNat_of_zero_le (show 0 ≤ nb by omega)
  have hn1 : 1 ≤ n := by omega
  have hn2 : n ≤ 4096 := by omega
  clear hnb
  refine (l_New n ⟨hn1, hn2⟩).mono ?_
  rintro e w3 ⟨p, rfl, gl, gm, v, hs, hb⟩
  have HB' := Aside0.mk (below_step HB.out hb)
  have HS := Aside0.mk hs
  clear hb hs HB
  generalize w2.heap.size = B at HS hBw
  go_wp2_with fail
  refine (lr_New n ⟨hn1, hn2⟩).mono ?_
  rintro e w4 ⟨pr, rfl, glr, vr, hs, hb⟩
  have HB := Aside0.mk (below_step HB'.out hb)
  have HR := Aside0.mk hs
  have HS' := Aside0.mk (HS.out.below hb)
  have hBr : w.heap.size ≤ w3.heap.size := HB'.out.size
  clear hb hs HB' HS
  have HS := HS'
  clear HS'
  generalize w3.heap.size = B2 at HR hBr
  go_wp2_with fail
  have hl63 := hr0.out.2.1
  go_loopw [48] (fun u wr => ∃ (i : Nat) (v vr : Value) (L : List (Bk × Bool)) (W : List (Int × Bk)), i ≤ l0.length ∧ u = .int .i64 i ∧ L.length = n ∧ Aside0 (SA B wr p gl gm v L W) ∧ Aside0 (RA B2 wr pr glr vr L W) ∧ Aside0 (Below w.heap.size w wr)) (fun u _ => ((l0.length : Int) - intOf u).toNat)
  case atStart => exact ⟨0, v, vr, zeros n, [], by omega, rfl, zeros_len n, HS, HR, HB⟩
  case round =>
    clear HS HR HB
    obtain ⟨i, v, vr, L, W, hi, rfl, hLl, HS, HR, HB⟩ := hrel
    by_cases hlt : i < l0.length
    case neg =>
      go_wp2_with fail
      generalize wr = x0 at HS HR HB ⊢
      clear wr
      go_loopw [13] (fun u wq => ∃ j : Nat, j ≤ 300 ∧ u = .int .i64 ((j : Int) - 1) ∧ Aside0 (Below x0.heap.size x0 wq)) (fun u _ => (300 - intOf u).toNat)
      case atStart => exact ⟨0, by omega, rfl, ⟨Below.refl _ _⟩⟩
      case round =>
        obtain ⟨j, hj, rfl, HQ⟩ := hrel
        have hc0 : wr.cell? ⟨pr, 0, none⟩ = some (.slice (some ⟨glr, 0, none⟩) L.length L.length) := (blk_cell (HR.out.below HQ.out).hp 0).trans rfl
        by_cases h200 : (n : Int) ≤ 200
        case pos =>
          by_cases h6 : (j : Int) - 1 ≤ (n : Int)
          case neg =>
            go_wp2_with fail
            go_ret
            exact ⟨rfl, below_step HB.out HQ.out⟩
          have hj200 : j ≤ 201 := by omega
          obtain ⟨⟨b, c⟩, hb0⟩ : ∃ R, rd L W ((j : Int) - 1) = R := ⟨_, rfl⟩
          have hb0 := Aside0.mk hb0
          go_wp2_with fail
          refine (l_Read (HS.out.below HQ.out) ((j : Int) - 1) hb0.out).mono ?_
          rintro e q1 ⟨rfl, hb⟩
          have HQ1 := Aside0.mk (below_step HQ.out hb)
          clear HQ hb hc0
          go_wp2_with ((with_reducible refine gate_store (t := 45) (p := 14) (v := .tmp 114) rfl ?_); refine Shut.out ?_)
          unfold Shut
          obtain ⟨hnb, hnk⟩ := newbk q1 Bk.z.cs.toArray b.cs.toArray 45
          refine wpl_stbk 45 _ _ q1.heap.size b 45 Bk.z rfl rfl rfl rfl rfl (blk_new q1 _) bk_info ?_
          have HQ2 := Aside0.mk (below_step HQ1.out hnb)
          have BKa := Aside0.mk hnk
          clear HQ1 hnb hnk
          generalize hgen : (q1.alloc (.cells Bk.z.cs.toArray 45)).setRow q1.heap.size b.cs.toArray = q2 at HQ2 BKa
          change wpList _ _ _ _ _ ((q1.alloc (.cells Bk.z.cs.toArray 45)).setRow q1.heap.size b.cs.toArray)
          rw [hgen]
          clear hgen
          generalize q1.heap.size = g14 at BKa ⊢
          go_wp2_with fail
          refine (lr_Read (HR.out.below HQ2.out) ((j : Int) - 1) hb0.out).mono ?_
          rintro e q3 ⟨rfl, hb⟩
          have HQ3 := Aside0.mk (below_step HQ2.out hb)
          have BKa3 := Aside0.mk (blk_below BKa.out hb)
          clear HQ2 hb BKa
          go_wp2_with ((with_reducible refine gate_store (t := 37) (p := 16) (v := .tmp 120) rfl ?_); refine Shut.out ?_)
          unfold Shut
          obtain ⟨hnb, hnk⟩ := newbk q3 Bk.z.cs.toArray b.cs.toArray 37
          refine wpl_stbk 37 _ _ q3.heap.size b 37 Bk.z rfl rfl rfl rfl rfl (blk_new q3 _) rbk_info ?_
          have HQ4 := Aside0.mk (below_step HQ3.out hnb)
          have BKa := Aside0.mk (blk_below BKa3.out hnb)
          have BKb := Aside0.mk hnk
          clear HQ3 BKa3 hnb hnk
          generalize hgen : (q3.alloc (.cells Bk.z.cs.toArray 37)).setRow q3.heap.size b.cs.toArray = q4 at HQ4 BKa BKb
          change wpList _ _ _ _ _ ((q3.alloc (.cells Bk.z.cs.toArray 37)).setRow q3.heap.size b.cs.toArray)
          rw [hgen]
          clear hgen
          generalize q3.heap.size = g16 at BKb ⊢
          have heq : ∀ d W, (Op.equalIn (d + 2) 37 (.agg b.cs.toArray) (.agg b.cs.toArray)).run Try.prog W = .ok true W := fun d W => (rbk_eq d b b W).trans (by simp)
          go_wp2_with (first | ((with_reducible refine gate_dst (N := 122) rfl ?_); refine wpList_load_row rfl 45 _ rfl g14 rfl 45 _ (0, 0) _ BKa.out bk_und rfl (by rw [bk_sz]; exact bk_info) ?_) | ((with_reducible refine gate_dst (N := 123) rfl ?_); refine wpList_load_row rfl 37 _ rfl g16 rfl 37 _ (0, 0) _ BKb.out rbk_und rfl (by rw [bk_sz]; exact rbk_info) ?_))
          go_roundw
          case rel => exact ⟨j + 1, by omega, by go_num, HQ4⟩
          case measure => simp [intOf]; omega
        case neg =>
          have h200' : (200 : Int) < (n : Int) := by omega
          by_cases h6 : (j : Int) - 1 ≤ 200
          case neg =>
            go_wp2_with fail
            go_ret
            exact ⟨rfl, below_step HB.out HQ.out⟩
          have hj200 : j ≤ 201 := by omega
          obtain ⟨⟨b, c⟩, hb0⟩ : ∃ R, rd L W ((j : Int) - 1) = R := ⟨_, rfl⟩
          have hb0 := Aside0.mk hb0
          go_wp2_with fail
          refine (l_Read (HS.out.below HQ.out) ((j : Int) - 1) hb0.out).mono ?_
          rintro e q1 ⟨rfl, hb⟩
          have HQ1 := Aside0.mk (below_step HQ.out hb)
          clear HQ hb hc0
          go_wp2_with ((with_reducible refine gate_store (t := 45) (p := 14) (v := .tmp 114) rfl ?_); refine Shut.out ?_)
          unfold Shut
          obtain ⟨hnb, hnk⟩ := newbk q1 Bk.z.cs.toArray b.cs.toArray 45
          refine wpl_stbk 45 _ _ q1.heap.size b 45 Bk.z rfl rfl rfl rfl rfl (blk_new q1 _) bk_info ?_
          have HQ2 := Aside0.mk (below_step HQ1.out hnb)
          have BKa := Aside0.mk hnk
          clear HQ1 hnb hnk
          generalize hgen : (q1.alloc (.cells Bk.z.cs.toArray 45)).setRow q1.heap.size b.cs.toArray = q2 at HQ2 BKa
          change wpList _ _ _ _ _ ((q1.alloc (.cells Bk.z.cs.toArray 45)).setRow q1.heap.size b.cs.toArray)
          rw [hgen]
          clear hgen
          generalize q1.heap.size = g14 at BKa ⊢
          go_wp2_with fail
          refine (lr_Read (HR.out.below HQ2.out) ((j : Int) - 1) hb0.out).mono ?_
          rintro e q3 ⟨rfl, hb⟩
          have HQ3 := Aside0.mk (below_step HQ2.out hb)
          have BKa3 := Aside0.mk (blk_below BKa.out hb)
          clear HQ2 hb BKa
          go_wp2_with ((with_reducible refine gate_store (t := 37) (p := 16) (v := .tmp 120) rfl ?_); refine Shut.out ?_)
          unfold Shut
          obtain ⟨hnb, hnk⟩ := newbk q3 Bk.z.cs.toArray b.cs.toArray 37
          refine wpl_stbk 37 _ _ q3.heap.size b 37 Bk.z rfl rfl rfl rfl rfl (blk_new q3 _) rbk_info ?_
          have HQ4 := Aside0.mk (below_step HQ3.out hnb)
          have BKa := Aside0.mk (blk_below BKa3.out hnb)
          have BKb := Aside0.mk hnk
          clear HQ3 BKa3 hnb hnk
          generalize hgen : (q3.alloc (.cells Bk.z.cs.toArray 37)).setRow q3.heap.size b.cs.toArray = q4 at HQ4 BKa BKb
          change wpList _ _ _ _ _ ((q3.alloc (.cells Bk.z.cs.toArray 37)).setRow q3.heap.size b.cs.toArray)
          rw [hgen]
          clear hgen
          generalize q3.heap.size = g16 at BKb ⊢
          have heq : ∀ d W, (Op.equalIn (d + 2) 37 (.agg b.cs.toArray) (.agg b.cs.toArray)).run Try.prog W = .ok true W := fun d W => (rbk_eq d b b W).trans (by simp)
          go_wp2_with (first | ((with_reducible refine gate_dst (N := 122) rfl ?_); refine wpList_load_row rfl 45 _ rfl g14 rfl 45 _ (0, 0) _ BKa.out bk_und rfl (by rw [bk_sz]; exact bk_info) ?_) | ((with_reducible refine gate_dst (N := 123) rfl ?_); refine wpList_load_row rfl 37 _ rfl g16 rfl 37 _ (0, 0) _ BKb.out rbk_und rfl (by rw [bk_sz]; exact rbk_info) ?_))
          go_roundw
          case rel => exact ⟨j + 1, by omega, by go_num, HQ4⟩
          case measure => simp [intOf]; omega
    obtain ⟨ad, A2, c2, A3, c3, hA, hk0, hk1, hk2, hk3, hc2, hCB, hc3, hCF⟩ := at_T34 hr0.out (i : Int) (by omega) (by omega)
    rw [Int.toNat_natCast] at hk0 hk1 hk2 hk3
    generalize rd_T34 l0 (i : Int) = o at hk0 hk1 hk2 hk3 hc2 hCB hc3 hCF
    obtain ⟨k, a, bs, fs⟩ := o
    simp only at hk0 hk1 hk2 hk3 hc2 hCB hc3 hCF
    subst hA
    have hAF := Aside0.mk (HS.out.arg hCF hBw)
    have hAR : Aside0 (∀ (v : Value) (L : List (Bk × Bool)) (W : List (Int × Bk)) (wx : World), RA B2 wx pr glr v L W → 0 < fs.length → ∀ ad, A3 = some ad → ¬ rfoot pr glr v ad.block) := ⟨fun v L W wx h => h.arg hCF hBr⟩
    replace hk0 := pw_cell_below HB.out hk0
    replace hk1 := pw_cell_below HB.out hk1
    replace hk2 := pw_cell_below HB.out hk2
    replace hk3 := pw_cell_below HB.out hk3
    have CB0 := Aside0.mk hCB
    have CF0 := Aside0.mk hCF
    go_wp2_with ((with_reducible refine gate_store (t := 34) (p := 10) (v := .tmp 51) rfl ?_); refine Shut.out ?_)
    unfold Shut
    obtain ⟨hnb, hnk⟩ := newbk wr #[.int .i64 0, .int .i64 0, .slice none 0 0, .slice none 0 0] #[.int .i64 k, .int .i64 a, .slice A2 bs.length c2, .slice A3 fs.length c3] 34
    refine store_rowTo rfl 34 (.tmp 10) (.tmp 51) rfl rfl wr.heap.size #[.int .i64 k, .int .i64 a, .slice A2 bs.length c2, .slice A3 fs.length c3] rfl rfl 34 _ (blk_new wr _) (by kernel_rfl) rfl (op_all _ _ _ _ _ _ _ _) ?_
    have HS5 := Aside0.mk (HS.out.below hnb)
    have HR5 := Aside0.mk (HR.out.below hnb)
    have HB5 := Aside0.mk (below_step HB.out hnb)
    have BK7 := Aside0.mk hnk
    clear HS HB HR hnb hnk hCB hCF hk0 hk1 hk2 hk3
    generalize (wr.alloc (.cells #[.int .i64 0, .int .i64 0, .slice none 0 0, .slice none 0 0] 34)).setRow wr.heap.size #[.int .i64 k, .int .i64 a, .slice A2 bs.length c2, .slice A3 fs.length c3] = w5 at HS5 HR5 HB5 BK7 ⊢
    generalize wr.heap.size = g7 at BK7 ⊢
    have CB := Aside0.mk (Kd.C_below CB0.out HB5.out)
    have CF := Aside0.mk (Kd.C_below CF0.out HB5.out)
    have hj0 : w5.cell? ⟨g7, 0, none⟩ = some (.int .i64 k) := (blk_cell BK7.out 0).trans rfl
    have hj1 : w5.cell? ⟨g7, 1, none⟩ = some (.int .i64 a) := (blk_cell BK7.out 1).trans rfl
    have hj2 : w5.cell? ⟨g7, 2, none⟩ = some (.slice A2 bs.length c2) := (blk_cell BK7.out 2).trans rfl
    have hj3 : w5.cell? ⟨g7, 3, none⟩ = some (.slice A3 fs.length c3) := (blk_cell BK7.out 3).trans rfl
    go_wp2_with fail
    refine (b_do HS5.out HS5.out.base_le k a CB.out CF.out hAF.out).mono ?_
    rintro e w6 ⟨rfl, v2, hs, hm⟩
    have HS := Aside0.mk hs
    have HR := Aside0.mk (HR5.out.mv HS5.out hm)
    have HB := Aside0.mk (hm.below HB5.out HB5.out.size (fun k hk => Nat.le_trans hBw (HS5.out.base hk)))
    have BK76 := Aside0.mk (hm.blk BK7.out (HS5.out.far BK7.out (by decide)))
    have CB6 := Aside0.mk (Kd.C_below CB0.out HB.out)
    have CF6 := Aside0.mk (Kd.C_below CF0.out HB.out)
    clear hs hm HS5 HR5 HB5 BK7 CB CF hj0 hj1 hj2 hj3 hAF
    have BK7 := BK76
    have CB := CB6
    have CF := CF6
    clear BK76 CB6 CF6 w5
    have hj0 : w6.cell? ⟨g7, 0, none⟩ = some (.int .i64 k) := (blk_cell BK7.out 0).trans rfl
    have hj3 : w6.cell? ⟨g7, 3, none⟩ = some (.slice A3 fs.length c3) := (blk_cell BK7.out 3).trans rfl
    by_cases h1 : k = 1
    case pos =>
      subst h1
      have e1 : ((1 : Int) == 1) = true := rfl
      rw [show doC L W 1 a = wrc L W a from rfl]
      have HS1 : Aside0 (SA B w6 p gl gm v2 L (wrW L W a (ofB bs))) := HS
      clear HS
      have HS := HS1
      clear HS1
      go_wp2_with fail
      have n_HB := Aside0.mk (below_step HB.out (below_drew (Below.refl _ _)))
      have n_HS := Aside0.mk (HS.out.below (below_drew (Below.refl _ _)))
      have n_HR := Aside0.mk (HR.out.below (below_drew (Below.refl _ _)))
      have n_BK7 := Aside0.mk (blk_below BK7.out (below_drew (Below.refl _ _)))
      have n_CB := Aside0.mk (Kd.C_below CB.out (below_drew (Below.refl _ _)))
      clear HB
      have HB := n_HB
      clear n_HB
      clear HS
      have HS := n_HS
      clear n_HS
      clear HR
      have HR := n_HR
      clear n_HR
      clear BK7
      have BK7 := n_BK7
      clear n_BK7
      clear CB
      have CB := n_CB
      clear n_CB
      refine start_ (n := 8) (S := fun w' => w'.cell? ⟨g7, 1, none⟩ = some (.int .i64 a) ∧ w'.cell? ⟨g7, 2, none⟩ = some (.slice A2 bs.length c2)) (ds := []) #[false, false, false, false, false, false, false, false] (by kernel_rfl) rfl rfl ⟨(blk_cell BK7.out 1).trans rfl, (blk_cell BK7.out 2).trans rfl⟩ (fun hHeld => ?_)
      generalize w6.drew = w7 at HB HS HR BK7 CB hHeld ⊢
      refine pure_ (i := 0) (N := some 59) (v := ?_) (a' := ?_) #[true, false, false, false, false, false, false, false] rfl rfl (by kernel_rfl) (fun _ _ _ h => h) (Or.inl ⟨by rfl, ?_⟩) ?_ ?_
      rotate_left
      · intro w'
        go_simp
        with_reducible rfl
      rotate_left
      · simp only [Act.put, List.setIfInBounds_toArray, List.set_cons_zero, List.set_cons_succ, i64_w, i32_w]
        rfl
      refine pure_ (i := 1) (N := some 60) (v := ?_) (a' := ?_) #[true, true, false, false, false, false, false, false] rfl rfl (by kernel_rfl) (fun _ _ _ h => h) (Or.inl ⟨by rfl, ?_⟩) ?_ ?_
      rotate_left
      · intro w'
        go_simp
        with_reducible rfl
      rotate_left
      · simp only [Act.put, List.setIfInBounds_toArray, List.set_cons_zero, List.set_cons_succ, i64_w, i32_w]
        rfl
      refine pure_ (i := 3) (N := some 62) (v := ?_) (a' := ?_) #[true, true, false, true, false, false, false, false] rfl rfl (by kernel_rfl) (fun _ _ _ h => h) (Or.inl ⟨by rfl, ?_⟩) ?_ ?_
      rotate_left
      · intro w'
        go_simp
        with_reducible rfl
      rotate_left
      · simp only [Act.put, List.setIfInBounds_toArray, List.set_cons_zero, List.set_cons_succ, i64_w, i32_w]
        rfl
      refine take_ (i := 2) (N := some 61) (v := ?_) (a' := ?_) #[true, true, true, true, false, false, false, false] rfl rfl (by kernel_rfl) (fun _ _ _ h => h) (Or.inl ⟨by rfl, ?_⟩) hHeld ?_ ?_
      rotate_left
      · rintro w' ⟨s0, s1⟩
        go_simp
        with_reducible rfl
      rotate_left
      · simp only [Act.put, List.setIfInBounds_toArray, List.set_cons_zero, List.set_cons_succ, i64_w, i32_w]
        rfl
      refine take_ (i := 4) (N := some 63) (v := ?_) (a' := ?_) #[true, true, true, true, true, false, false, false] rfl rfl (by kernel_rfl) (fun _ _ _ h => h) (Or.inl ⟨by rfl, ?_⟩) hHeld ?_ ?_
      rotate_left
      · rintro w' ⟨s0, s1⟩
        go_simp
        with_reducible rfl
      rotate_left
      · simp only [Act.put, List.setIfInBounds_toArray, List.set_cons_zero, List.set_cons_succ, i64_w, i32_w]
        rfl
      refine one_ (i := 5) (N := some 64) #[true, true, true, true, true, true, false, false] rfl rfl (by kernel_rfl) (by decide) (fun K hK => ?_)
      refine goes_ Try.func14 (by kernel_rfl) rfl #[.slice A2 bs.length c2] (by rfl) rfl rfl (by (try simp only [List.map_toArray, List.map_cons, List.map_nil]); first | done | rfl) ?_
      with_reducible refine (r_Of CB.out).mono ?_
      rintro e y1_ ⟨rfl, hb⟩
      refine ⟨_, rfl, ?_⟩
      have n_HB := Aside0.mk (below_step HB.out hb)
      have n_HS := Aside0.mk (HS.out.below hb)
      have n_HR := Aside0.mk (HR.out.below hb)
      have n_BK7 := Aside0.mk (blk_below BK7.out hb)
      have n_CB := Aside0.mk (Kd.C_below CB.out hb)
      clear HB
      have HB := n_HB
      clear n_HB
      clear HS
      have HS := n_HS
      clear n_HS
      clear HR
      have HR := n_HR
      clear n_HR
      clear BK7
      have BK7 := n_BK7
      clear n_BK7
      clear CB
      have CB := n_CB
      clear n_CB
      clear hb
      refine hK.out _ _ ⟨(blk_cell BK7.out 1).trans rfl, (blk_cell BK7.out 2).trans rfl⟩ (fun hHeld => ?_)
      clear hK K
      refine norm_ (a' := ?_) ?_ ?_
      rotate_left
      · show Act.put _ (some 64) _ = _
        simp only [Act.put, List.setIfInBounds_toArray, List.set_cons_zero, List.set_cons_succ, i64_w, i32_w]
        rfl
      refine one_ (i := 6) (N := some 65) #[true, true, true, true, true, true, true, false] rfl rfl (by kernel_rfl) (by decide) (fun K hK => ?_)
      refine goes_ Try.func13 (by kernel_rfl) rfl #[.pointer (some ⟨pr, 0, none⟩), .int .i64 a, .agg (ofB bs).cs.toArray] (by rfl) rfl rfl (by (try simp only [List.map_toArray, List.map_cons, List.map_nil]); first | done | rfl) ?_
      with_reducible refine (r_Write HR.out HR.out.base_le a (ofB bs)).mono ?_
      rintro e y2_ ⟨rfl, vr2, hra, hb⟩
      refine ⟨_, rfl, ?_⟩
      have m_HB := Aside0.mk (hb.below HB.out HB.out.size (fun k hk => Nat.le_trans hBr (HR.out.base hk)))
      have m_HS := Aside0.mk (HS.out.mv HR.out hb)
      have m_HR := Aside0.mk (hra)
      have m_BK7 := Aside0.mk (hb.blk BK7.out (HR.out.far BK7.out (by decide)))
      clear hb
      clear HB
      clear HS
      clear HR
      clear BK7
      clear CB
      have HB := m_HB
      clear m_HB
      have HS := m_HS
      clear m_HS
      have HR := m_HR
      clear m_HR
      have BK7 := m_BK7
      clear m_BK7
      clear hra
      refine hK.out _ _ ⟨(blk_cell BK7.out 1).trans rfl, (blk_cell BK7.out 2).trans rfl⟩ (fun hHeld => ?_)
      clear hK K
      refine norm_ (a' := ?_) ?_ ?_
      rotate_left
      · show Act.put _ (some 65) _ = _
        simp only [Act.put, List.setIfInBounds_toArray, List.set_cons_zero, List.set_cons_succ, i64_w, i32_w]
        rfl
      refine pure_ (i := 7) (N := some 12) (v := ?_) (a' := ?_) #[true, true, true, true, true, true, true, true] rfl rfl (by kernel_rfl) (fun _ _ _ h => h) (Or.inl ⟨by rfl, ?_⟩) ?_ ?_
      rotate_left
      · intro w'
        go_simp
        with_reducible rfl
      rotate_left
      · simp only [Act.put, List.setIfInBounds_toArray, List.set_cons_zero, List.set_cons_succ, i64_w, i32_w]
        rfl
      refine done_ (by kernel_rfl) ?_
      clear hHeld hj0 hj3 CF
      clear BK7
      have hl2 : L.length = n := hLl
      generalize wrc L W a = dc
      generalize wrW L W a (ofB bs) = W2 at HS HR
      obtain ⟨L2, hL2⟩ : ∃ L2, L2 = L := ⟨_, rfl⟩
      rw [← hL2] at HS HR hl2
      clear hL2
      obtain ⟨Ar, cr, hvr, hcr0, _⟩ := Kd.R_reads HR.out.hw
      rw [List.length_map] at hvr hcr0
      obtain ⟨vr2, hvr2⟩ : ∃ x : Value, x = vr2 := ⟨_, rfl⟩
      rw [← hvr2] at HR hvr
      clear hvr2
      have hlm : (L2.length : Int) ≤ 4096 := by have := HS.out.hL.2; omega
      have hwm : (W2.length : Int) ≤ 4096 := by have := HS.out.hW.1; omega
      go_wp2_with fail
      have n_HB := Aside0.mk (below_step HB.out (below_drew (Below.refl _ _)))
      have n_HS := Aside0.mk (HS.out.below (below_drew (Below.refl _ _)))
      have n_HR := Aside0.mk (HR.out.below (below_drew (Below.refl _ _)))
      clear HB
      have HB := n_HB
      clear n_HB
      clear HS
      have HS := n_HS
      clear n_HS
      clear HR
      have HR := n_HR
      clear n_HR
      refine start_ (n := 23) (S := fun w' => w'.cell? ⟨pr, 0, none⟩ = some (.slice (some ⟨glr, 0, none⟩) L2.length L2.length) ∧ w'.cell? ⟨pr, 1, none⟩ = some (.slice Ar W2.length cr)) (ds := []) #[false, false, false, false, false, false, false, false, false, false, false, false, false, false, false, false, false, false, false, false, false, false, false] (by kernel_rfl) rfl rfl ⟨(blk_cell HR.out.hp 0).trans rfl, (blk_cell HR.out.hp 1).trans (by rw [← hvr]; rfl)⟩ (fun hHeld => ?_)
      generalize y2_.drew = z1 at HB HS HR hHeld ⊢
      refine pure_ (i := 0) (N := some 76) (v := ?_) (a' := ?_) #[true, false, false, false, false, false, false, false, false, false, false, false, false, false, false, false, false, false, false, false, false, false, false] rfl rfl (by kernel_rfl) (fun _ _ _ h => h) (Or.inl ⟨by rfl, ?_⟩) ?_ ?_
      rotate_left
      · intro w'
        go_simp
        with_reducible rfl
      rotate_left
      · simp only [Act.put, List.setIfInBounds_toArray, List.set_cons_zero, List.set_cons_succ, i64_w, i32_w]
        rfl
      refine pure_ (i := 1) (N := some 77) (v := ?_) (a' := ?_) #[true, true, false, false, false, false, false, false, false, false, false, false, false, false, false, false, false, false, false, false, false, false, false] rfl rfl (by kernel_rfl) (fun _ _ _ h => h) (Or.inl ⟨by rfl, ?_⟩) ?_ ?_
      rotate_left
      · intro w'
        go_simp
        with_reducible rfl
      rotate_left
      · simp only [Act.put, List.setIfInBounds_toArray, List.set_cons_zero, List.set_cons_succ, i64_w, i32_w]
        rfl
      refine pure_ (i := 2) (N := some 78) (v := ?_) (a' := ?_) #[true, true, true, false, false, false, false, false, false, false, false, false, false, false, false, false, false, false, false, false, false, false, false] rfl rfl (by kernel_rfl) (fun _ _ _ h => h) (Or.inl ⟨by rfl, ?_⟩) ?_ ?_
      rotate_left
      · intro w'
        go_simp
        with_reducible rfl
      rotate_left
      · simp only [Act.put, List.setIfInBounds_toArray, List.set_cons_zero, List.set_cons_succ, i64_w, i32_w]
        rfl
      refine pure_ (i := 3) (N := some 79) (v := ?_) (a' := ?_) #[true, true, true, true, false, false, false, false, false, false, false, false, false, false, false, false, false, false, false, false, false, false, false] rfl rfl (by kernel_rfl) (fun _ _ _ h => h) (Or.inl ⟨by rfl, ?_⟩) ?_ ?_
      rotate_left
      · intro w'
        go_simp
        with_reducible rfl
      rotate_left
      · simp only [Act.put, List.setIfInBounds_toArray, List.set_cons_zero, List.set_cons_succ, i64_w, i32_w]
        rfl
      refine pure_ (i := 4) (N := some 80) (v := ?_) (a' := ?_) #[true, true, true, true, true, false, false, false, false, false, false, false, false, false, false, false, false, false, false, false, false, false, false] rfl rfl (by kernel_rfl) (fun _ _ _ h => h) (Or.inl ⟨by rfl, ?_⟩) ?_ ?_
      rotate_left
      · intro w'
        go_simp
        with_reducible rfl
      rotate_left
      · simp only [Act.put, List.setIfInBounds_toArray, List.set_cons_zero, List.set_cons_succ, i64_w, i32_w]
        rfl
      refine pure_ (i := 6) (N := some 82) (v := ?_) (a' := ?_) #[true, true, true, true, true, false, true, false, false, false, false, false, false, false, false, false, false, false, false, false, false, false, false] rfl rfl (by kernel_rfl) (fun _ _ _ h => h) (Or.inl ⟨by rfl, ?_⟩) ?_ ?_
      rotate_left
      · intro w'
        go_simp
        with_reducible rfl
      rotate_left
      · simp only [Act.put, List.setIfInBounds_toArray, List.set_cons_zero, List.set_cons_succ, i64_w, i32_w]
        rfl
      refine pure_ (i := 7) (N := some 83) (v := ?_) (a' := ?_) #[true, true, true, true, true, false, true, true, false, false, false, false, false, false, false, false, false, false, false, false, false, false, false] rfl rfl (by kernel_rfl) (fun _ _ _ h => h) (Or.inl ⟨by rfl, ?_⟩) ?_ ?_
      rotate_left
      · intro w'
        go_simp
        with_reducible rfl
      rotate_left
      · simp only [Act.put, List.setIfInBounds_toArray, List.set_cons_zero, List.set_cons_succ, i64_w, i32_w]
        rfl
      refine pure_ (i := 8) (N := some 84) (v := ?_) (a' := ?_) #[true, true, true, true, true, false, true, true, true, false, false, false, false, false, false, false, false, false, false, false, false, false, false] rfl rfl (by kernel_rfl) (fun _ _ _ h => h) (Or.inl ⟨by rfl, ?_⟩) ?_ ?_
      rotate_left
      · intro w'
        go_simp
        with_reducible rfl
      rotate_left
      · simp only [Act.put, List.setIfInBounds_toArray, List.set_cons_zero, List.set_cons_succ, i64_w, i32_w]
        rfl
      refine take_ (i := 9) (N := some 85) (v := ?_) (a' := ?_) #[true, true, true, true, true, false, true, true, true, true, false, false, false, false, false, false, false, false, false, false, false, false, false] rfl rfl (by kernel_rfl) (fun _ _ _ h => h) (Or.inl ⟨by rfl, ?_⟩) hHeld ?_ ?_
      rotate_left
      · rintro w' ⟨s0, s1⟩
        go_simp
        with_reducible rfl
      rotate_left
      · simp only [Act.put, List.setIfInBounds_toArray, List.set_cons_zero, List.set_cons_succ, i64_w, i32_w]
        rfl
      refine pure_ (i := 10) (N := some 86) (v := ?_) (a' := ?_) #[true, true, true, true, true, false, true, true, true, true, true, false, false, false, false, false, false, false, false, false, false, false, false] rfl rfl (by kernel_rfl) (fun _ _ _ h => h) (Or.inl ⟨by rfl, ?_⟩) ?_ ?_
      rotate_left
      · intro w'
        go_simp
        with_reducible rfl
      rotate_left
      · simp only [Act.put, List.setIfInBounds_toArray, List.set_cons_zero, List.set_cons_succ, i64_w, i32_w]
        rfl
      refine one_ (i := 5) (N := some 81) #[true, true, true, true, true, true, true, true, true, true, true, false, false, false, false, false, false, false, false, false, false, false, false] rfl rfl (by kernel_rfl) (by decide) (fun K hK => ?_)
      refine goes_ Try.func17 (by kernel_rfl) rfl #[.pointer (some ⟨p, 0, none⟩)] (by rfl) rfl rfl (by (try simp only [List.map_toArray, List.map_cons, List.map_nil]); first | done | rfl) ?_
      with_reducible refine (b_Waiting HS.out).mono ?_
      rintro e y3_ ⟨rfl, hb⟩
      refine ⟨_, rfl, ?_⟩
      have n_HB := Aside0.mk (below_step HB.out hb)
      have n_HS := Aside0.mk (HS.out.below hb)
      have n_HR := Aside0.mk (HR.out.below hb)
      clear HB
      have HB := n_HB
      clear n_HB
      clear HS
      have HS := n_HS
      clear n_HS
      clear HR
      have HR := n_HR
      clear n_HR
      clear hb
      refine hK.out _ _ ⟨(blk_cell HR.out.hp 0).trans rfl, (blk_cell HR.out.hp 1).trans (by rw [← hvr]; rfl)⟩ (fun hHeld => ?_)
      clear hK K
      refine norm_ (a' := ?_) ?_ ?_
      rotate_left
      · show Act.put _ (some 81) _ = _
        simp only [Act.put, List.setIfInBounds_toArray, List.set_cons_zero, List.set_cons_succ, i64_w, i32_w]
        rfl
      refine pure_ (i := 11) (N := some 87) (v := ?_) (a' := ?_) #[true, true, true, true, true, true, true, true, true, true, true, true, false, false, false, false, false, false, false, false, false, false, false] rfl rfl (by kernel_rfl) (fun _ _ _ h => h) (Or.inl ⟨by rfl, ?_⟩) ?_ ?_
      rotate_left
      · intro w'
        go_simp
        with_reducible rfl
      rotate_left
      · simp only [Act.put, List.setIfInBounds_toArray, List.set_cons_zero, List.set_cons_succ, i64_w, i32_w]
        rfl
      refine pure_ (i := 12) (N := some 88) (v := ?_) (a' := ?_) #[true, true, true, true, true, true, true, true, true, true, true, true, true, false, false, false, false, false, false, false, false, false, false] rfl rfl (by kernel_rfl) (fun _ _ _ h => h) (Or.inl ⟨by rfl, ?_⟩) ?_ ?_
      rotate_left
      · intro w'
        go_simp
        with_reducible rfl
      rotate_left
      · simp only [Act.put, List.setIfInBounds_toArray, List.set_cons_zero, List.set_cons_succ, i64_w, i32_w]
        rfl
      refine pure_ (i := 13) (N := some 89) (v := ?_) (a' := ?_) #[true, true, true, true, true, true, true, true, true, true, true, true, true, true, false, false, false, false, false, false, false, false, false] rfl rfl (by kernel_rfl) (fun _ _ _ h => h) (Or.inl ⟨by rfl, ?_⟩) ?_ ?_
      rotate_left
      · intro w'
        go_simp
        with_reducible rfl
      rotate_left
      · simp only [Act.put, List.setIfInBounds_toArray, List.set_cons_zero, List.set_cons_succ, i64_w, i32_w]
        rfl
      refine pure_ (i := 14) (N := some 90) (v := ?_) (a' := ?_) #[true, true, true, true, true, true, true, true, true, true, true, true, true, true, true, false, false, false, false, false, false, false, false] rfl rfl (by kernel_rfl) (fun _ _ _ h => h) (Or.inl ⟨by rfl, ?_⟩) ?_ ?_
      rotate_left
      · intro w'
        go_simp
        with_reducible rfl
      rotate_left
      · simp only [Act.put, List.setIfInBounds_toArray, List.set_cons_zero, List.set_cons_succ, i64_w, i32_w]
        rfl
      refine pure_ (i := 16) (N := some 92) (v := ?_) (a' := ?_) #[true, true, true, true, true, true, true, true, true, true, true, true, true, true, true, false, true, false, false, false, false, false, false] rfl rfl (by kernel_rfl) (fun _ _ _ h => h) (Or.inl ⟨by rfl, ?_⟩) ?_ ?_
      rotate_left
      · intro w'
        go_simp
        with_reducible rfl
      rotate_left
      · simp only [Act.put, List.setIfInBounds_toArray, List.set_cons_zero, List.set_cons_succ, i64_w, i32_w]
        rfl
      refine pure_ (i := 17) (N := some 93) (v := ?_) (a' := ?_) #[true, true, true, true, true, true, true, true, true, true, true, true, true, true, true, false, true, true, false, false, false, false, false] rfl rfl (by kernel_rfl) (fun _ _ _ h => h) (Or.inl ⟨by rfl, ?_⟩) ?_ ?_
      rotate_left
      · intro w'
        go_simp
        with_reducible rfl
      rotate_left
      · simp only [Act.put, List.setIfInBounds_toArray, List.set_cons_zero, List.set_cons_succ, i64_w, i32_w]
        rfl
      refine pure_ (i := 18) (N := some 94) (v := ?_) (a' := ?_) #[true, true, true, true, true, true, true, true, true, true, true, true, true, true, true, false, true, true, true, false, false, false, false] rfl rfl (by kernel_rfl) (fun _ _ _ h => h) (Or.inl ⟨by rfl, ?_⟩) ?_ ?_
      rotate_left
      · intro w'
        go_simp
        with_reducible rfl
      rotate_left
      · simp only [Act.put, List.setIfInBounds_toArray, List.set_cons_zero, List.set_cons_succ, i64_w, i32_w]
        rfl
      refine take_ (i := 19) (N := some 95) (v := ?_) (a' := ?_) #[true, true, true, true, true, true, true, true, true, true, true, true, true, true, true, false, true, true, true, true, false, false, false] rfl rfl (by kernel_rfl) (fun _ _ _ h => h) (Or.inl ⟨by rfl, ?_⟩) hHeld ?_ ?_
      rotate_left
      · rintro w' ⟨s0, s1⟩
        go_simp
        with_reducible rfl
      rotate_left
      · simp only [Act.put, List.setIfInBounds_toArray, List.set_cons_zero, List.set_cons_succ, i64_w, i32_w]
        rfl
      refine pure_ (i := 20) (N := some 96) (v := ?_) (a' := ?_) #[true, true, true, true, true, true, true, true, true, true, true, true, true, true, true, false, true, true, true, true, true, false, false] rfl rfl (by kernel_rfl) (fun _ _ _ h => h) (Or.inl ⟨by rfl, ?_⟩) ?_ ?_
      rotate_left
      · intro w'
        go_simp
        with_reducible rfl
      rotate_left
      · simp only [Act.put, List.setIfInBounds_toArray, List.set_cons_zero, List.set_cons_succ, i64_w, i32_w]
        rfl
      refine one_ (i := 15) (N := some 91) #[true, true, true, true, true, true, true, true, true, true, true, true, true, true, true, true, true, true, true, true, true, false, false] rfl rfl (by kernel_rfl) (by decide) (fun K hK => ?_)
      refine goes_ Try.func18 (by kernel_rfl) rfl #[.pointer (some ⟨p, 0, none⟩)] (by rfl) rfl rfl (by (try simp only [List.map_toArray, List.map_cons, List.map_nil]); first | done | rfl) ?_
      with_reducible refine (b_Size HS.out).mono ?_
      rintro e y4_ ⟨rfl, hb⟩
      refine ⟨_, rfl, ?_⟩
      have n_HB := Aside0.mk (below_step HB.out hb)
      have n_HS := Aside0.mk (HS.out.below hb)
      have n_HR := Aside0.mk (HR.out.below hb)
      clear HB
      have HB := n_HB
      clear n_HB
      clear HS
      have HS := n_HS
      clear n_HS
      clear HR
      have HR := n_HR
      clear n_HR
      clear hb
      refine hK.out _ _ ⟨(blk_cell HR.out.hp 0).trans rfl, (blk_cell HR.out.hp 1).trans (by rw [← hvr]; rfl)⟩ (fun hHeld => ?_)
      clear hK K
      refine norm_ (a' := ?_) ?_ ?_
      rotate_left
      · show Act.put _ (some 91) _ = _
        simp only [Act.put, List.setIfInBounds_toArray, List.set_cons_zero, List.set_cons_succ, i64_w, i32_w]
        rfl
      refine pure_ (i := 21) (N := some 97) (v := ?_) (a' := ?_) #[true, true, true, true, true, true, true, true, true, true, true, true, true, true, true, true, true, true, true, true, true, true, false] rfl rfl (by kernel_rfl) (fun _ _ _ h => h) (Or.inl ⟨by rfl, ?_⟩) ?_ ?_
      rotate_left
      · intro w'
        go_simp
        with_reducible rfl
      rotate_left
      · simp only [Act.put, List.setIfInBounds_toArray, List.set_cons_zero, List.set_cons_succ, i64_w, i32_w]
        rfl
      refine pure_ (i := 22) (N := some 98) (v := ?_) (a' := ?_) #[true, true, true, true, true, true, true, true, true, true, true, true, true, true, true, true, true, true, true, true, true, true, true] rfl rfl (by kernel_rfl) (fun _ _ _ h => h) (Or.inl ⟨by rfl, ?_⟩) ?_ ?_
      rotate_left
      · intro w'
        go_simp
        with_reducible rfl
      rotate_left
      · simp only [Act.put, List.setIfInBounds_toArray, List.set_cons_zero, List.set_cons_succ, i64_w, i32_w]
        rfl
      refine done_ (by kernel_rfl) ?_
      clear hHeld
      go_wp2_with fail
      go_roundw
      case rel => exact ⟨i + 1, v2, vr2, L2, W2, by omega, by go_num, hl2, HS, HR, HB⟩
      case measure => simp [intOf]; omega
    by_cases h2 : k = 2
    case pos =>
      subst h2
      skip
      have e1 : ((2 : Int) == 1) = false := rfl
      have e2 : ((2 : Int) == 2) = true := rfl
      rw [show doC L W 2 a = 0 from rfl]
      have HS1 : Aside0 (SA B w6 p gl gm v2 (setl (fun _ => 1) 0 W L) []) := HS
      clear HS
      have HS := HS1
      clear HS1
      go_wp2_with fail
      refine (r_Sync HR.out).mono ?_
      rintro e w7 ⟨rfl, hra, hm⟩
      have HS6 := Aside0.mk (HS.out.mv HR.out hm)
      have HB6 := Aside0.mk (hm.below HB.out HB.out.size (fun k hk => Nat.le_trans hBr (HR.out.base hk)))
      have HR6 := Aside0.mk hra
      have hl2 : (setl (fun _ => 1) 0 W L).length = n := by rw [setl_len, hLl]
      clear HS HB HR hm hra hj0 hj3 CF CB BK7
      have HS := HS6
      have HB := HB6
      have HR := HR6
      clear HS6 HB6 HR6
      generalize setl (fun _ => 1) 0 W L = L2 at HS HR hl2
      obtain ⟨W2, hW2⟩ : ∃ W2 : List (Int × Bk), W2 = [] := ⟨_, rfl⟩
      rw [← hW2] at HS HR
      clear hW2
      obtain ⟨Ar, cr, hvr, hcr0, _⟩ := Kd.R_reads HR.out.hw
      rw [List.length_map] at hvr hcr0
      obtain ⟨vr2, hvr2⟩ : ∃ x : Value, x = (.slice none 0 0) := ⟨_, rfl⟩
      rw [← hvr2] at HR hvr
      clear hvr2
      have hlm : (L2.length : Int) ≤ 4096 := by have := HS.out.hL.2; omega
      have hwm : (W2.length : Int) ≤ 4096 := by have := HS.out.hW.1; omega
      go_wp2_with fail
      have n_HB := Aside0.mk (below_step HB.out (below_drew (Below.refl _ _)))
      have n_HS := Aside0.mk (HS.out.below (below_drew (Below.refl _ _)))
      have n_HR := Aside0.mk (HR.out.below (below_drew (Below.refl _ _)))
      clear HB
      have HB := n_HB
      clear n_HB
      clear HS
      have HS := n_HS
      clear n_HS
      clear HR
      have HR := n_HR
      clear n_HR
      refine start_ (n := 23) (S := fun w' => w'.cell? ⟨pr, 0, none⟩ = some (.slice (some ⟨glr, 0, none⟩) L2.length L2.length) ∧ w'.cell? ⟨pr, 1, none⟩ = some (.slice Ar W2.length cr)) (ds := []) #[false, false, false, false, false, false, false, false, false, false, false, false, false, false, false, false, false, false, false, false, false, false, false] (by kernel_rfl) rfl rfl ⟨(blk_cell HR.out.hp 0).trans rfl, (blk_cell HR.out.hp 1).trans (by rw [← hvr]; rfl)⟩ (fun hHeld => ?_)
      generalize w7.drew = z1 at HB HS HR hHeld ⊢
      refine pure_ (i := 0) (N := some 76) (v := ?_) (a' := ?_) #[true, false, false, false, false, false, false, false, false, false, false, false, false, false, false, false, false, false, false, false, false, false, false] rfl rfl (by kernel_rfl) (fun _ _ _ h => h) (Or.inl ⟨by rfl, ?_⟩) ?_ ?_
      rotate_left
      · intro w'
        go_simp
        with_reducible rfl
      rotate_left
      · simp only [Act.put, List.setIfInBounds_toArray, List.set_cons_zero, List.set_cons_succ, i64_w, i32_w]
        rfl
      refine pure_ (i := 1) (N := some 77) (v := ?_) (a' := ?_) #[true, true, false, false, false, false, false, false, false, false, false, false, false, false, false, false, false, false, false, false, false, false, false] rfl rfl (by kernel_rfl) (fun _ _ _ h => h) (Or.inl ⟨by rfl, ?_⟩) ?_ ?_
      rotate_left
      · intro w'
        go_simp
        with_reducible rfl
      rotate_left
      · simp only [Act.put, List.setIfInBounds_toArray, List.set_cons_zero, List.set_cons_succ, i64_w, i32_w]
        rfl
      refine pure_ (i := 2) (N := some 78) (v := ?_) (a' := ?_) #[true, true, true, false, false, false, false, false, false, false, false, false, false, false, false, false, false, false, false, false, false, false, false] rfl rfl (by kernel_rfl) (fun _ _ _ h => h) (Or.inl ⟨by rfl, ?_⟩) ?_ ?_
      rotate_left
      · intro w'
        go_simp
        with_reducible rfl
      rotate_left
      · simp only [Act.put, List.setIfInBounds_toArray, List.set_cons_zero, List.set_cons_succ, i64_w, i32_w]
        rfl
      refine pure_ (i := 3) (N := some 79) (v := ?_) (a' := ?_) #[true, true, true, true, false, false, false, false, false, false, false, false, false, false, false, false, false, false, false, false, false, false, false] rfl rfl (by kernel_rfl) (fun _ _ _ h => h) (Or.inl ⟨by rfl, ?_⟩) ?_ ?_
      rotate_left
      · intro w'
        go_simp
        with_reducible rfl
      rotate_left
      · simp only [Act.put, List.setIfInBounds_toArray, List.set_cons_zero, List.set_cons_succ, i64_w, i32_w]
        rfl
      refine pure_ (i := 4) (N := some 80) (v := ?_) (a' := ?_) #[true, true, true, true, true, false, false, false, false, false, false, false, false, false, false, false, false, false, false, false, false, false, false] rfl rfl (by kernel_rfl) (fun _ _ _ h => h) (Or.inl ⟨by rfl, ?_⟩) ?_ ?_
      rotate_left
      · intro w'
        go_simp
        with_reducible rfl
      rotate_left
      · simp only [Act.put, List.setIfInBounds_toArray, List.set_cons_zero, List.set_cons_succ, i64_w, i32_w]
        rfl
      refine pure_ (i := 6) (N := some 82) (v := ?_) (a' := ?_) #[true, true, true, true, true, false, true, false, false, false, false, false, false, false, false, false, false, false, false, false, false, false, false] rfl rfl (by kernel_rfl) (fun _ _ _ h => h) (Or.inl ⟨by rfl, ?_⟩) ?_ ?_
      rotate_left
      · intro w'
        go_simp
        with_reducible rfl
      rotate_left
      · simp only [Act.put, List.setIfInBounds_toArray, List.set_cons_zero, List.set_cons_succ, i64_w, i32_w]
        rfl
      refine pure_ (i := 7) (N := some 83) (v := ?_) (a' := ?_) #[true, true, true, true, true, false, true, true, false, false, false, false, false, false, false, false, false, false, false, false, false, false, false] rfl rfl (by kernel_rfl) (fun _ _ _ h => h) (Or.inl ⟨by rfl, ?_⟩) ?_ ?_
      rotate_left
      · intro w'
        go_simp
        with_reducible rfl
      rotate_left
      · simp only [Act.put, List.setIfInBounds_toArray, List.set_cons_zero, List.set_cons_succ, i64_w, i32_w]
        rfl
      refine pure_ (i := 8) (N := some 84) (v := ?_) (a' := ?_) #[true, true, true, true, true, false, true, true, true, false, false, false, false, false, false, false, false, false, false, false, false, false, false] rfl rfl (by kernel_rfl) (fun _ _ _ h => h) (Or.inl ⟨by rfl, ?_⟩) ?_ ?_
      rotate_left
      · intro w'
        go_simp
        with_reducible rfl
      rotate_left
      · simp only [Act.put, List.setIfInBounds_toArray, List.set_cons_zero, List.set_cons_succ, i64_w, i32_w]
        rfl
      refine take_ (i := 9) (N := some 85) (v := ?_) (a' := ?_) #[true, true, true, true, true, false, true, true, true, true, false, false, false, false, false, false, false, false, false, false, false, false, false] rfl rfl (by kernel_rfl) (fun _ _ _ h => h) (Or.inl ⟨by rfl, ?_⟩) hHeld ?_ ?_
      rotate_left
      · rintro w' ⟨s0, s1⟩
        go_simp
        with_reducible rfl
      rotate_left
      · simp only [Act.put, List.setIfInBounds_toArray, List.set_cons_zero, List.set_cons_succ, i64_w, i32_w]
        rfl
      refine pure_ (i := 10) (N := some 86) (v := ?_) (a' := ?_) #[true, true, true, true, true, false, true, true, true, true, true, false, false, false, false, false, false, false, false, false, false, false, false] rfl rfl (by kernel_rfl) (fun _ _ _ h => h) (Or.inl ⟨by rfl, ?_⟩) ?_ ?_
      rotate_left
      · intro w'
        go_simp
        with_reducible rfl
      rotate_left
      · simp only [Act.put, List.setIfInBounds_toArray, List.set_cons_zero, List.set_cons_succ, i64_w, i32_w]
        rfl
      refine one_ (i := 5) (N := some 81) #[true, true, true, true, true, true, true, true, true, true, true, false, false, false, false, false, false, false, false, false, false, false, false] rfl rfl (by kernel_rfl) (by decide) (fun K hK => ?_)
      refine goes_ Try.func17 (by kernel_rfl) rfl #[.pointer (some ⟨p, 0, none⟩)] (by rfl) rfl rfl (by (try simp only [List.map_toArray, List.map_cons, List.map_nil]); first | done | rfl) ?_
      with_reducible refine (b_Waiting HS.out).mono ?_
      rintro e y5_ ⟨rfl, hb⟩
      refine ⟨_, rfl, ?_⟩
      have n_HB := Aside0.mk (below_step HB.out hb)
      have n_HS := Aside0.mk (HS.out.below hb)
      have n_HR := Aside0.mk (HR.out.below hb)
      clear HB
      have HB := n_HB
      clear n_HB
      clear HS
      have HS := n_HS
      clear n_HS
      clear HR
      have HR := n_HR
      clear n_HR
      clear hb
      refine hK.out _ _ ⟨(blk_cell HR.out.hp 0).trans rfl, (blk_cell HR.out.hp 1).trans (by rw [← hvr]; rfl)⟩ (fun hHeld => ?_)
      clear hK K
      refine norm_ (a' := ?_) ?_ ?_
      rotate_left
      · show Act.put _ (some 81) _ = _
        simp only [Act.put, List.setIfInBounds_toArray, List.set_cons_zero, List.set_cons_succ, i64_w, i32_w]
        rfl
      refine pure_ (i := 11) (N := some 87) (v := ?_) (a' := ?_) #[true, true, true, true, true, true, true, true, true, true, true, true, false, false, false, false, false, false, false, false, false, false, false] rfl rfl (by kernel_rfl) (fun _ _ _ h => h) (Or.inl ⟨by rfl, ?_⟩) ?_ ?_
      rotate_left
      · intro w'
        go_simp
        with_reducible rfl
      rotate_left
      · simp only [Act.put, List.setIfInBounds_toArray, List.set_cons_zero, List.set_cons_succ, i64_w, i32_w]
        rfl
      refine pure_ (i := 12) (N := some 88) (v := ?_) (a' := ?_) #[true, true, true, true, true, true, true, true, true, true, true, true, true, false, false, false, false, false, false, false, false, false, false] rfl rfl (by kernel_rfl) (fun _ _ _ h => h) (Or.inl ⟨by rfl, ?_⟩) ?_ ?_
      rotate_left
      · intro w'
        go_simp
        with_reducible rfl
      rotate_left
      · simp only [Act.put, List.setIfInBounds_toArray, List.set_cons_zero, List.set_cons_succ, i64_w, i32_w]
        rfl
      refine pure_ (i := 13) (N := some 89) (v := ?_) (a' := ?_) #[true, true, true, true, true, true, true, true, true, true, true, true, true, true, false, false, false, false, false, false, false, false, false] rfl rfl (by kernel_rfl) (fun _ _ _ h => h) (Or.inl ⟨by rfl, ?_⟩) ?_ ?_
      rotate_left
      · intro w'
        go_simp
        with_reducible rfl
      rotate_left
      · simp only [Act.put, List.setIfInBounds_toArray, List.set_cons_zero, List.set_cons_succ, i64_w, i32_w]
        rfl
      refine pure_ (i := 14) (N := some 90) (v := ?_) (a' := ?_) #[true, true, true, true, true, true, true, true, true, true, true, true, true, true, true, false, false, false, false, false, false, false, false] rfl rfl (by kernel_rfl) (fun _ _ _ h => h) (Or.inl ⟨by rfl, ?_⟩) ?_ ?_
      rotate_left
      · intro w'
        go_simp
        with_reducible rfl
      rotate_left
      · simp only [Act.put, List.setIfInBounds_toArray, List.set_cons_zero, List.set_cons_succ, i64_w, i32_w]
        rfl
      refine pure_ (i := 16) (N := some 92) (v := ?_) (a' := ?_) #[true, true, true, true, true, true, true, true, true, true, true, true, true, true, true, false, true, false, false, false, false, false, false] rfl rfl (by kernel_rfl) (fun _ _ _ h => h) (Or.inl ⟨by rfl, ?_⟩) ?_ ?_
      rotate_left
      · intro w'
        go_simp
        with_reducible rfl
      rotate_left
      · simp only [Act.put, List.setIfInBounds_toArray, List.set_cons_zero, List.set_cons_succ, i64_w, i32_w]
        rfl
      refine pure_ (i := 17) (N := some 93) (v := ?_) (a' := ?_) #[true, true, true, true, true, true, true, true, true, true, true, true, true, true, true, false, true, true, false, false, false, false, false] rfl rfl (by kernel_rfl) (fun _ _ _ h => h) (Or.inl ⟨by rfl, ?_⟩) ?_ ?_
      rotate_left
      · intro w'
        go_simp
        with_reducible rfl
      rotate_left
      · simp only [Act.put, List.setIfInBounds_toArray, List.set_cons_zero, List.set_cons_succ, i64_w, i32_w]
        rfl
      refine pure_ (i := 18) (N := some 94) (v := ?_) (a' := ?_) #[true, true, true, true, true, true, true, true, true, true, true, true, true, true, true, false, true, true, true, false, false, false, false] rfl rfl (by kernel_rfl) (fun _ _ _ h => h) (Or.inl ⟨by rfl, ?_⟩) ?_ ?_
      rotate_left
      · intro w'
        go_simp
        with_reducible rfl
      rotate_left
      · simp only [Act.put, List.setIfInBounds_toArray, List.set_cons_zero, List.set_cons_succ, i64_w, i32_w]
        rfl
      refine take_ (i := 19) (N := some 95) (v := ?_) (a' := ?_) #[true, true, true, true, true, true, true, true, true, true, true, true, true, true, true, false, true, true, true, true, false, false, false] rfl rfl (by kernel_rfl) (fun _ _ _ h => h) (Or.inl ⟨by rfl, ?_⟩) hHeld ?_ ?_
      rotate_left
      · rintro w' ⟨s0, s1⟩
        go_simp
        with_reducible rfl
      rotate_left
      · simp only [Act.put, List.setIfInBounds_toArray, List.set_cons_zero, List.set_cons_succ, i64_w, i32_w]
        rfl
      refine pure_ (i := 20) (N := some 96) (v := ?_) (a' := ?_) #[true, true, true, true, true, true, true, true, true, true, true, true, true, true, true, false, true, true, true, true, true, false, false] rfl rfl (by kernel_rfl) (fun _ _ _ h => h) (Or.inl ⟨by rfl, ?_⟩) ?_ ?_
      rotate_left
      · intro w'
        go_simp
        with_reducible rfl
      rotate_left
      · simp only [Act.put, List.setIfInBounds_toArray, List.set_cons_zero, List.set_cons_succ, i64_w, i32_w]
        rfl
      refine one_ (i := 15) (N := some 91) #[true, true, true, true, true, true, true, true, true, true, true, true, true, true, true, true, true, true, true, true, true, false, false] rfl rfl (by kernel_rfl) (by decide) (fun K hK => ?_)
      refine goes_ Try.func18 (by kernel_rfl) rfl #[.pointer (some ⟨p, 0, none⟩)] (by rfl) rfl rfl (by (try simp only [List.map_toArray, List.map_cons, List.map_nil]); first | done | rfl) ?_
      with_reducible refine (b_Size HS.out).mono ?_
      rintro e y6_ ⟨rfl, hb⟩
      refine ⟨_, rfl, ?_⟩
      have n_HB := Aside0.mk (below_step HB.out hb)
      have n_HS := Aside0.mk (HS.out.below hb)
      have n_HR := Aside0.mk (HR.out.below hb)
      clear HB
      have HB := n_HB
      clear n_HB
      clear HS
      have HS := n_HS
      clear n_HS
      clear HR
      have HR := n_HR
      clear n_HR
      clear hb
      refine hK.out _ _ ⟨(blk_cell HR.out.hp 0).trans rfl, (blk_cell HR.out.hp 1).trans (by rw [← hvr]; rfl)⟩ (fun hHeld => ?_)
      clear hK K
      refine norm_ (a' := ?_) ?_ ?_
      rotate_left
      · show Act.put _ (some 91) _ = _
        simp only [Act.put, List.setIfInBounds_toArray, List.set_cons_zero, List.set_cons_succ, i64_w, i32_w]
        rfl
      refine pure_ (i := 21) (N := some 97) (v := ?_) (a' := ?_) #[true, true, true, true, true, true, true, true, true, true, true, true, true, true, true, true, true, true, true, true, true, true, false] rfl rfl (by kernel_rfl) (fun _ _ _ h => h) (Or.inl ⟨by rfl, ?_⟩) ?_ ?_
      rotate_left
      · intro w'
        go_simp
        with_reducible rfl
      rotate_left
      · simp only [Act.put, List.setIfInBounds_toArray, List.set_cons_zero, List.set_cons_succ, i64_w, i32_w]
        rfl
      refine pure_ (i := 22) (N := some 98) (v := ?_) (a' := ?_) #[true, true, true, true, true, true, true, true, true, true, true, true, true, true, true, true, true, true, true, true, true, true, true] rfl rfl (by kernel_rfl) (fun _ _ _ h => h) (Or.inl ⟨by rfl, ?_⟩) ?_ ?_
      rotate_left
      · intro w'
        go_simp
        with_reducible rfl
      rotate_left
      · simp only [Act.put, List.setIfInBounds_toArray, List.set_cons_zero, List.set_cons_succ, i64_w, i32_w]
        rfl
      refine done_ (by kernel_rfl) ?_
      clear hHeld
      go_wp2_with fail
      go_roundw
      case rel => exact ⟨i + 1, v2, vr2, L2, W2, by omega, by go_num, hl2, HS, HR, HB⟩
      case measure => simp [intOf]; omega
    by_cases h3 : k = 3
    case pos =>
      subst h3
      have e2 : ((3 : Int) == 2) = false := rfl
      have e1 : ((3 : Int) == 1) = false := rfl
      have e3 : ((3 : Int) == 3) = true := rfl
      rw [show doC L W 3 a = 0 from rfl]
      have HS1 : Aside0 (SA B w6 p gl gm v2 (setl (fateOf fs) 0 W L) []) := HS
      clear HS
      have HS := HS1
      clear HS1
      go_wp2_with fail
      refine (r_Crash HR.out CF.out (hAR.out vr L W w6 HR.out)).mono ?_
      rintro e w7 ⟨rfl, hra, hm⟩
      have HS6 := Aside0.mk (HS.out.mv HR.out hm)
      have HB6 := Aside0.mk (hm.below HB.out HB.out.size (fun k hk => Nat.le_trans hBr (HR.out.base hk)))
      have HR6 := Aside0.mk hra
      have hl2 : (setl (fateOf fs) 0 W L).length = n := by rw [setl_len, hLl]
      clear HS HB HR hm hra hj0 hj3 CF CB BK7
      have HS := HS6
      have HB := HB6
      have HR := HR6
      clear HS6 HB6 HR6
      generalize setl (fateOf fs) 0 W L = L2 at HS HR hl2
      obtain ⟨W2, hW2⟩ : ∃ W2 : List (Int × Bk), W2 = [] := ⟨_, rfl⟩
      rw [← hW2] at HS HR
      clear hW2
      obtain ⟨Ar, cr, hvr, hcr0, _⟩ := Kd.R_reads HR.out.hw
      rw [List.length_map] at hvr hcr0
      obtain ⟨vr2, hvr2⟩ : ∃ x : Value, x = (.slice none 0 0) := ⟨_, rfl⟩
      rw [← hvr2] at HR hvr
      clear hvr2
      have hlm : (L2.length : Int) ≤ 4096 := by have := HS.out.hL.2; omega
      have hwm : (W2.length : Int) ≤ 4096 := by have := HS.out.hW.1; omega
      go_wp2_with fail
      have n_HB := Aside0.mk (below_step HB.out (below_drew (Below.refl _ _)))
      have n_HS := Aside0.mk (HS.out.below (below_drew (Below.refl _ _)))
      have n_HR := Aside0.mk (HR.out.below (below_drew (Below.refl _ _)))
      clear HB
      have HB := n_HB
      clear n_HB
      clear HS
      have HS := n_HS
      clear n_HS
      clear HR
      have HR := n_HR
      clear n_HR
      refine start_ (n := 23) (S := fun w' => w'.cell? ⟨pr, 0, none⟩ = some (.slice (some ⟨glr, 0, none⟩) L2.length L2.length) ∧ w'.cell? ⟨pr, 1, none⟩ = some (.slice Ar W2.length cr)) (ds := []) #[false, false, false, false, false, false, false, false, false, false, false, false, false, false, false, false, false, false, false, false, false, false, false] (by kernel_rfl) rfl rfl ⟨(blk_cell HR.out.hp 0).trans rfl, (blk_cell HR.out.hp 1).trans (by rw [← hvr]; rfl)⟩ (fun hHeld => ?_)
      generalize w7.drew = z1 at HB HS HR hHeld ⊢
      refine pure_ (i := 0) (N := some 76) (v := ?_) (a' := ?_) #[true, false, false, false, false, false, false, false, false, false, false, false, false, false, false, false, false, false, false, false, false, false, false] rfl rfl (by kernel_rfl) (fun _ _ _ h => h) (Or.inl ⟨by rfl, ?_⟩) ?_ ?_
      rotate_left
      · intro w'
        go_simp
        with_reducible rfl
      rotate_left
      · simp only [Act.put, List.setIfInBounds_toArray, List.set_cons_zero, List.set_cons_succ, i64_w, i32_w]
        rfl
      refine pure_ (i := 1) (N := some 77) (v := ?_) (a' := ?_) #[true, true, false, false, false, false, false, false, false, false, false, false, false, false, false, false, false, false, false, false, false, false, false] rfl rfl (by kernel_rfl) (fun _ _ _ h => h) (Or.inl ⟨by rfl, ?_⟩) ?_ ?_
      rotate_left
      · intro w'
        go_simp
        with_reducible rfl
      rotate_left
      · simp only [Act.put, List.setIfInBounds_toArray, List.set_cons_zero, List.set_cons_succ, i64_w, i32_w]
        rfl
      refine pure_ (i := 2) (N := some 78) (v := ?_) (a' := ?_) #[true, true, true, false, false, false, false, false, false, false, false, false, false, false, false, false, false, false, false, false, false, false, false] rfl rfl (by kernel_rfl) (fun _ _ _ h => h) (Or.inl ⟨by rfl, ?_⟩) ?_ ?_
      rotate_left
      · intro w'
        go_simp
        with_reducible rfl
      rotate_left
      · simp only [Act.put, List.setIfInBounds_toArray, List.set_cons_zero, List.set_cons_succ, i64_w, i32_w]
        rfl
      refine pure_ (i := 3) (N := some 79) (v := ?_) (a' := ?_) #[true, true, true, true, false, false, false, false, false, false, false, false, false, false, false, false, false, false, false, false, false, false, false] rfl rfl (by kernel_rfl) (fun _ _ _ h => h) (Or.inl ⟨by rfl, ?_⟩) ?_ ?_
      rotate_left
      · intro w'
        go_simp
        with_reducible rfl
      rotate_left
      · simp only [Act.put, List.setIfInBounds_toArray, List.set_cons_zero, List.set_cons_succ, i64_w, i32_w]
        rfl
      refine pure_ (i := 4) (N := some 80) (v := ?_) (a' := ?_) #[true, true, true, true, true, false, false, false, false, false, false, false, false, false, false, false, false, false, false, false, false, false, false] rfl rfl (by kernel_rfl) (fun _ _ _ h => h) (Or.inl ⟨by rfl, ?_⟩) ?_ ?_
      rotate_left
      · intro w'
        go_simp
        with_reducible rfl
      rotate_left
      · simp only [Act.put, List.setIfInBounds_toArray, List.set_cons_zero, List.set_cons_succ, i64_w, i32_w]
        rfl
      refine pure_ (i := 6) (N := some 82) (v := ?_) (a' := ?_) #[true, true, true, true, true, false, true, false, false, false, false, false, false, false, false, false, false, false, false, false, false, false, false] rfl rfl (by kernel_rfl) (fun _ _ _ h => h) (Or.inl ⟨by rfl, ?_⟩) ?_ ?_
      rotate_left
      · intro w'
        go_simp
        with_reducible rfl
      rotate_left
      · simp only [Act.put, List.setIfInBounds_toArray, List.set_cons_zero, List.set_cons_succ, i64_w, i32_w]
        rfl
      refine pure_ (i := 7) (N := some 83) (v := ?_) (a' := ?_) #[true, true, true, true, true, false, true, true, false, false, false, false, false, false, false, false, false, false, false, false, false, false, false] rfl rfl (by kernel_rfl) (fun _ _ _ h => h) (Or.inl ⟨by rfl, ?_⟩) ?_ ?_
      rotate_left
      · intro w'
        go_simp
        with_reducible rfl
      rotate_left
      · simp only [Act.put, List.setIfInBounds_toArray, List.set_cons_zero, List.set_cons_succ, i64_w, i32_w]
        rfl
      refine pure_ (i := 8) (N := some 84) (v := ?_) (a' := ?_) #[true, true, true, true, true, false, true, true, true, false, false, false, false, false, false, false, false, false, false, false, false, false, false] rfl rfl (by kernel_rfl) (fun _ _ _ h => h) (Or.inl ⟨by rfl, ?_⟩) ?_ ?_
      rotate_left
      · intro w'
        go_simp
        with_reducible rfl
      rotate_left
      · simp only [Act.put, List.setIfInBounds_toArray, List.set_cons_zero, List.set_cons_succ, i64_w, i32_w]
        rfl
      refine take_ (i := 9) (N := some 85) (v := ?_) (a' := ?_) #[true, true, true, true, true, false, true, true, true, true, false, false, false, false, false, false, false, false, false, false, false, false, false] rfl rfl (by kernel_rfl) (fun _ _ _ h => h) (Or.inl ⟨by rfl, ?_⟩) hHeld ?_ ?_
      rotate_left
      · rintro w' ⟨s0, s1⟩
        go_simp
        with_reducible rfl
      rotate_left
      · simp only [Act.put, List.setIfInBounds_toArray, List.set_cons_zero, List.set_cons_succ, i64_w, i32_w]
        rfl
      refine pure_ (i := 10) (N := some 86) (v := ?_) (a' := ?_) #[true, true, true, true, true, false, true, true, true, true, true, false, false, false, false, false, false, false, false, false, false, false, false] rfl rfl (by kernel_rfl) (fun _ _ _ h => h) (Or.inl ⟨by rfl, ?_⟩) ?_ ?_
      rotate_left
      · intro w'
        go_simp
        with_reducible rfl
      rotate_left
      · simp only [Act.put, List.setIfInBounds_toArray, List.set_cons_zero, List.set_cons_succ, i64_w, i32_w]
        rfl
      refine one_ (i := 5) (N := some 81) #[true, true, true, true, true, true, true, true, true, true, true, false, false, false, false, false, false, false, false, false, false, false, false] rfl rfl (by kernel_rfl) (by decide) (fun K hK => ?_)
      refine goes_ Try.func17 (by kernel_rfl) rfl #[.pointer (some ⟨p, 0, none⟩)] (by rfl) rfl rfl (by (try simp only [List.map_toArray, List.map_cons, List.map_nil]); first | done | rfl) ?_
      with_reducible refine (b_Waiting HS.out).mono ?_
      rintro e y7_ ⟨rfl, hb⟩
      refine ⟨_, rfl, ?_⟩
      have n_HB := Aside0.mk (below_step HB.out hb)
      have n_HS := Aside0.mk (HS.out.below hb)
      have n_HR := Aside0.mk (HR.out.below hb)
      clear HB
      have HB := n_HB
      clear n_HB
      clear HS
      have HS := n_HS
      clear n_HS
      clear HR
      have HR := n_HR
      clear n_HR
      clear hb
      refine hK.out _ _ ⟨(blk_cell HR.out.hp 0).trans rfl, (blk_cell HR.out.hp 1).trans (by rw [← hvr]; rfl)⟩ (fun hHeld => ?_)
      clear hK K
      refine norm_ (a' := ?_) ?_ ?_
      rotate_left
      · show Act.put _ (some 81) _ = _
        simp only [Act.put, List.setIfInBounds_toArray, List.set_cons_zero, List.set_cons_succ, i64_w, i32_w]
        rfl
      refine pure_ (i := 11) (N := some 87) (v := ?_) (a' := ?_) #[true, true, true, true, true, true, true, true, true, true, true, true, false, false, false, false, false, false, false, false, false, false, false] rfl rfl (by kernel_rfl) (fun _ _ _ h => h) (Or.inl ⟨by rfl, ?_⟩) ?_ ?_
      rotate_left
      · intro w'
        go_simp
        with_reducible rfl
      rotate_left
      · simp only [Act.put, List.setIfInBounds_toArray, List.set_cons_zero, List.set_cons_succ, i64_w, i32_w]
        rfl
      refine pure_ (i := 12) (N := some 88) (v := ?_) (a' := ?_) #[true, true, true, true, true, true, true, true, true, true, true, true, true, false, false, false, false, false, false, false, false, false, false] rfl rfl (by kernel_rfl) (fun _ _ _ h => h) (Or.inl ⟨by rfl, ?_⟩) ?_ ?_
      rotate_left
      · intro w'
        go_simp
        with_reducible rfl
      rotate_left
      · simp only [Act.put, List.setIfInBounds_toArray, List.set_cons_zero, List.set_cons_succ, i64_w, i32_w]
        rfl
      refine pure_ (i := 13) (N := some 89) (v := ?_) (a' := ?_) #[true, true, true, true, true, true, true, true, true, true, true, true, true, true, false, false, false, false, false, false, false, false, false] rfl rfl (by kernel_rfl) (fun _ _ _ h => h) (Or.inl ⟨by rfl, ?_⟩) ?_ ?_
      rotate_left
      · intro w'
        go_simp
        with_reducible rfl
      rotate_left
      · simp only [Act.put, List.setIfInBounds_toArray, List.set_cons_zero, List.set_cons_succ, i64_w, i32_w]
        rfl
      refine pure_ (i := 14) (N := some 90) (v := ?_) (a' := ?_) #[true, true, true, true, true, true, true, true, true, true, true, true, true, true, true, false, false, false, false, false, false, false, false] rfl rfl (by kernel_rfl) (fun _ _ _ h => h) (Or.inl ⟨by rfl, ?_⟩) ?_ ?_
      rotate_left
      · intro w'
        go_simp
        with_reducible rfl
      rotate_left
      · simp only [Act.put, List.setIfInBounds_toArray, List.set_cons_zero, List.set_cons_succ, i64_w, i32_w]
        rfl
      refine pure_ (i := 16) (N := some 92) (v := ?_) (a' := ?_) #[true, true, true, true, true, true, true, true, true, true, true, true, true, true, true, false, true, false, false, false, false, false, false] rfl rfl (by kernel_rfl) (fun _ _ _ h => h) (Or.inl ⟨by rfl, ?_⟩) ?_ ?_
      rotate_left
      · intro w'
        go_simp
        with_reducible rfl
      rotate_left
      · simp only [Act.put, List.setIfInBounds_toArray, List.set_cons_zero, List.set_cons_succ, i64_w, i32_w]
        rfl
      refine pure_ (i := 17) (N := some 93) (v := ?_) (a' := ?_) #[true, true, true, true, true, true, true, true, true, true, true, true, true, true, true, false, true, true, false, false, false, false, false] rfl rfl (by kernel_rfl) (fun _ _ _ h => h) (Or.inl ⟨by rfl, ?_⟩) ?_ ?_
      rotate_left
      · intro w'
        go_simp
        with_reducible rfl
      rotate_left
      · simp only [Act.put, List.setIfInBounds_toArray, List.set_cons_zero, List.set_cons_succ, i64_w, i32_w]
        rfl
      refine pure_ (i := 18) (N := some 94) (v := ?_) (a' := ?_) #[true, true, true, true, true, true, true, true, true, true, true, true, true, true, true, false, true, true, true, false, false, false, false] rfl rfl (by kernel_rfl) (fun _ _ _ h => h) (Or.inl ⟨by rfl, ?_⟩) ?_ ?_
      rotate_left
      · intro w'
        go_simp
        with_reducible rfl
      rotate_left
      · simp only [Act.put, List.setIfInBounds_toArray, List.set_cons_zero, List.set_cons_succ, i64_w, i32_w]
        rfl
      refine take_ (i := 19) (N := some 95) (v := ?_) (a' := ?_) #[true, true, true, true, true, true, true, true, true, true, true, true, true, true, true, false, true, true, true, true, false, false, false] rfl rfl (by kernel_rfl) (fun _ _ _ h => h) (Or.inl ⟨by rfl, ?_⟩) hHeld ?_ ?_
      rotate_left
      · rintro w' ⟨s0, s1⟩
        go_simp
        with_reducible rfl
      rotate_left
      · simp only [Act.put, List.setIfInBounds_toArray, List.set_cons_zero, List.set_cons_succ, i64_w, i32_w]
        rfl
      refine pure_ (i := 20) (N := some 96) (v := ?_) (a' := ?_) #[true, true, true, true, true, true, true, true, true, true, true, true, true, true, true, false, true, true, true, true, true, false, false] rfl rfl (by kernel_rfl) (fun _ _ _ h => h) (Or.inl ⟨by rfl, ?_⟩) ?_ ?_
      rotate_left
      · intro w'
        go_simp
        with_reducible rfl
      rotate_left
      · simp only [Act.put, List.setIfInBounds_toArray, List.set_cons_zero, List.set_cons_succ, i64_w, i32_w]
        rfl
      refine one_ (i := 15) (N := some 91) #[true, true, true, true, true, true, true, true, true, true, true, true, true, true, true, true, true, true, true, true, true, false, false] rfl rfl (by kernel_rfl) (by decide) (fun K hK => ?_)
      refine goes_ Try.func18 (by kernel_rfl) rfl #[.pointer (some ⟨p, 0, none⟩)] (by rfl) rfl rfl (by (try simp only [List.map_toArray, List.map_cons, List.map_nil]); first | done | rfl) ?_
      with_reducible refine (b_Size HS.out).mono ?_
      rintro e y8_ ⟨rfl, hb⟩
      refine ⟨_, rfl, ?_⟩
      have n_HB := Aside0.mk (below_step HB.out hb)
      have n_HS := Aside0.mk (HS.out.below hb)
      have n_HR := Aside0.mk (HR.out.below hb)
      clear HB
      have HB := n_HB
      clear n_HB
      clear HS
      have HS := n_HS
      clear n_HS
      clear HR
      have HR := n_HR
      clear n_HR
      clear hb
      refine hK.out _ _ ⟨(blk_cell HR.out.hp 0).trans rfl, (blk_cell HR.out.hp 1).trans (by rw [← hvr]; rfl)⟩ (fun hHeld => ?_)
      clear hK K
      refine norm_ (a' := ?_) ?_ ?_
      rotate_left
      · show Act.put _ (some 91) _ = _
        simp only [Act.put, List.setIfInBounds_toArray, List.set_cons_zero, List.set_cons_succ, i64_w, i32_w]
        rfl
      refine pure_ (i := 21) (N := some 97) (v := ?_) (a' := ?_) #[true, true, true, true, true, true, true, true, true, true, true, true, true, true, true, true, true, true, true, true, true, true, false] rfl rfl (by kernel_rfl) (fun _ _ _ h => h) (Or.inl ⟨by rfl, ?_⟩) ?_ ?_
      rotate_left
      · intro w'
        go_simp
        with_reducible rfl
      rotate_left
      · simp only [Act.put, List.setIfInBounds_toArray, List.set_cons_zero, List.set_cons_succ, i64_w, i32_w]
        rfl
      refine pure_ (i := 22) (N := some 98) (v := ?_) (a' := ?_) #[true, true, true, true, true, true, true, true, true, true, true, true, true, true, true, true, true, true, true, true, true, true, true] rfl rfl (by kernel_rfl) (fun _ _ _ h => h) (Or.inl ⟨by rfl, ?_⟩) ?_ ?_
      rotate_left
      · intro w'
        go_simp
        with_reducible rfl
      rotate_left
      · simp only [Act.put, List.setIfInBounds_toArray, List.set_cons_zero, List.set_cons_succ, i64_w, i32_w]
        rfl
      refine done_ (by kernel_rfl) ?_
      clear hHeld
      go_wp2_with fail
      go_roundw
      case rel => exact ⟨i + 1, v2, vr2, L2, W2, by omega, by go_num, hl2, HS, HR, HB⟩
      case measure => simp [intOf]; omega
    have e1 : (k == 1) = false := by simpa using h1
    have e2 : (k == 2) = false := by simpa using h2
    have e3 : (k == 3) = false := by simpa using h3
    rw [show doC L W k a = 0 by rw [doC, if_neg h1]]
    rw [show doL L W k fs = L by rw [doL, if_neg h2, if_neg h3], show doW L W k a bs = W by rw [doW, if_neg h1, if_neg h2, if_neg h3]] at HS
    clear h1 h2 h3 CF CB BK7 hj3
    obtain ⟨L2, hL2⟩ : ∃ L2, L2 = L := ⟨_, rfl⟩
    obtain ⟨W2, hW2⟩ : ∃ W2, W2 = W := ⟨_, rfl⟩
    have hl2 : L2.length = n := by rw [hL2, hLl]
    rw [← hL2, ← hW2] at HS HR
    clear hL2 hW2
    obtain ⟨Ar, cr, hvr, hcr0, _⟩ := Kd.R_reads HR.out.hw
    rw [List.length_map] at hvr hcr0
    obtain ⟨vr2, hvr2⟩ : ∃ x : Value, x = vr := ⟨_, rfl⟩
    rw [← hvr2] at HR hvr
    clear hvr2
    have hlm : (L2.length : Int) ≤ 4096 := by have := HS.out.hL.2; omega
    have hwm : (W2.length : Int) ≤ 4096 := by have := HS.out.hW.1; omega
    go_wp2_with fail
    have n_HB := Aside0.mk (below_step HB.out (below_drew (Below.refl _ _)))
    have n_HS := Aside0.mk (HS.out.below (below_drew (Below.refl _ _)))
    have n_HR := Aside0.mk (HR.out.below (below_drew (Below.refl _ _)))
    clear HB
    have HB := n_HB
    clear n_HB
    clear HS
    have HS := n_HS
    clear n_HS
    clear HR
    have HR := n_HR
    clear n_HR
    refine start_ (n := 23) (S := fun w' => w'.cell? ⟨pr, 0, none⟩ = some (.slice (some ⟨glr, 0, none⟩) L2.length L2.length) ∧ w'.cell? ⟨pr, 1, none⟩ = some (.slice Ar W2.length cr)) (ds := []) #[false, false, false, false, false, false, false, false, false, false, false, false, false, false, false, false, false, false, false, false, false, false, false] (by kernel_rfl) rfl rfl ⟨(blk_cell HR.out.hp 0).trans rfl, (blk_cell HR.out.hp 1).trans (by rw [← hvr]; rfl)⟩ (fun hHeld => ?_)
    generalize w6.drew = z1 at HB HS HR hHeld ⊢
    refine pure_ (i := 0) (N := some 76) (v := ?_) (a' := ?_) #[true, false, false, false, false, false, false, false, false, false, false, false, false, false, false, false, false, false, false, false, false, false, false] rfl rfl (by kernel_rfl) (fun _ _ _ h => h) (Or.inl ⟨by rfl, ?_⟩) ?_ ?_
    rotate_left
    · intro w'
      go_simp
      with_reducible rfl
    rotate_left
    · simp only [Act.put, List.setIfInBounds_toArray, List.set_cons_zero, List.set_cons_succ, i64_w, i32_w]
      rfl
    refine pure_ (i := 1) (N := some 77) (v := ?_) (a' := ?_) #[true, true, false, false, false, false, false, false, false, false, false, false, false, false, false, false, false, false, false, false, false, false, false] rfl rfl (by kernel_rfl) (fun _ _ _ h => h) (Or.inl ⟨by rfl, ?_⟩) ?_ ?_
    rotate_left
    · intro w'
      go_simp
      with_reducible rfl
    rotate_left
    · simp only [Act.put, List.setIfInBounds_toArray, List.set_cons_zero, List.set_cons_succ, i64_w, i32_w]
      rfl
    refine pure_ (i := 2) (N := some 78) (v := ?_) (a' := ?_) #[true, true, true, false, false, false, false, false, false, false, false, false, false, false, false, false, false, false, false, false, false, false, false] rfl rfl (by kernel_rfl) (fun _ _ _ h => h) (Or.inl ⟨by rfl, ?_⟩) ?_ ?_
    rotate_left
    · intro w'
      go_simp
      with_reducible rfl
    rotate_left
    · simp only [Act.put, List.setIfInBounds_toArray, List.set_cons_zero, List.set_cons_succ, i64_w, i32_w]
      rfl
    refine pure_ (i := 3) (N := some 79) (v := ?_) (a' := ?_) #[true, true, true, true, false, false, false, false, false, false, false, false, false, false, false, false, false, false, false, false, false, false, false] rfl rfl (by kernel_rfl) (fun _ _ _ h => h) (Or.inl ⟨by rfl, ?_⟩) ?_ ?_
    rotate_left
    · intro w'
      go_simp
      with_reducible rfl
    rotate_left
    · simp only [Act.put, List.setIfInBounds_toArray, List.set_cons_zero, List.set_cons_succ, i64_w, i32_w]
      rfl
    refine pure_ (i := 4) (N := some 80) (v := ?_) (a' := ?_) #[true, true, true, true, true, false, false, false, false, false, false, false, false, false, false, false, false, false, false, false, false, false, false] rfl rfl (by kernel_rfl) (fun _ _ _ h => h) (Or.inl ⟨by rfl, ?_⟩) ?_ ?_
    rotate_left
    · intro w'
      go_simp
      with_reducible rfl
    rotate_left
    · simp only [Act.put, List.setIfInBounds_toArray, List.set_cons_zero, List.set_cons_succ, i64_w, i32_w]
      rfl
    refine pure_ (i := 6) (N := some 82) (v := ?_) (a' := ?_) #[true, true, true, true, true, false, true, false, false, false, false, false, false, false, false, false, false, false, false, false, false, false, false] rfl rfl (by kernel_rfl) (fun _ _ _ h => h) (Or.inl ⟨by rfl, ?_⟩) ?_ ?_
    rotate_left
    · intro w'
      go_simp
      with_reducible rfl
    rotate_left
    · simp only [Act.put, List.setIfInBounds_toArray, List.set_cons_zero, List.set_cons_succ, i64_w, i32_w]
      rfl
    refine pure_ (i := 7) (N := some 83) (v := ?_) (a' := ?_) #[true, true, true, true, true, false, true, true, false, false, false, false, false, false, false, false, false, false, false, false, false, false, false] rfl rfl (by kernel_rfl) (fun _ _ _ h => h) (Or.inl ⟨by rfl, ?_⟩) ?_ ?_
    rotate_left
    · intro w'
      go_simp
      with_reducible rfl
    rotate_left
    · simp only [Act.put, List.setIfInBounds_toArray, List.set_cons_zero, List.set_cons_succ, i64_w, i32_w]
      rfl
    refine pure_ (i := 8) (N := some 84) (v := ?_) (a' := ?_) #[true, true, true, true, true, false, true, true, true, false, false, false, false, false, false, false, false, false, false, false, false, false, false] rfl rfl (by kernel_rfl) (fun _ _ _ h => h) (Or.inl ⟨by rfl, ?_⟩) ?_ ?_
    rotate_left
    · intro w'
      go_simp
      with_reducible rfl
    rotate_left
    · simp only [Act.put, List.setIfInBounds_toArray, List.set_cons_zero, List.set_cons_succ, i64_w, i32_w]
      rfl
    refine take_ (i := 9) (N := some 85) (v := ?_) (a' := ?_) #[true, true, true, true, true, false, true, true, true, true, false, false, false, false, false, false, false, false, false, false, false, false, false] rfl rfl (by kernel_rfl) (fun _ _ _ h => h) (Or.inl ⟨by rfl, ?_⟩) hHeld ?_ ?_
    rotate_left
    · rintro w' ⟨s0, s1⟩
      go_simp
      with_reducible rfl
    rotate_left
    · simp only [Act.put, List.setIfInBounds_toArray, List.set_cons_zero, List.set_cons_succ, i64_w, i32_w]
      rfl
    refine pure_ (i := 10) (N := some 86) (v := ?_) (a' := ?_) #[true, true, true, true, true, false, true, true, true, true, true, false, false, false, false, false, false, false, false, false, false, false, false] rfl rfl (by kernel_rfl) (fun _ _ _ h => h) (Or.inl ⟨by rfl, ?_⟩) ?_ ?_
    rotate_left
    · intro w'
      go_simp
      with_reducible rfl
    rotate_left
    · simp only [Act.put, List.setIfInBounds_toArray, List.set_cons_zero, List.set_cons_succ, i64_w, i32_w]
      rfl
    refine one_ (i := 5) (N := some 81) #[true, true, true, true, true, true, true, true, true, true, true, false, false, false, false, false, false, false, false, false, false, false, false] rfl rfl (by kernel_rfl) (by decide) (fun K hK => ?_)
    refine goes_ Try.func17 (by kernel_rfl) rfl #[.pointer (some ⟨p, 0, none⟩)] (by rfl) rfl rfl (by (try simp only [List.map_toArray, List.map_cons, List.map_nil]); first | done | rfl) ?_
    with_reducible refine (b_Waiting HS.out).mono ?_
    rintro e y9_ ⟨rfl, hb⟩
    refine ⟨_, rfl, ?_⟩
    have n_HB := Aside0.mk (below_step HB.out hb)
    have n_HS := Aside0.mk (HS.out.below hb)
    have n_HR := Aside0.mk (HR.out.below hb)
    clear HB
    have HB := n_HB
    clear n_HB
    clear HS
    have HS := n_HS
    clear n_HS
    clear HR
    have HR := n_HR
    clear n_HR
    clear hb
    refine hK.out _ _ ⟨(blk_cell HR.out.hp 0).trans rfl, (blk_cell HR.out.hp 1).trans (by rw [← hvr]; rfl)⟩ (fun hHeld => ?_)
    clear hK K
    refine norm_ (a' := ?_) ?_ ?_
    rotate_left
    · show Act.put _ (some 81) _ = _
      simp only [Act.put, List.setIfInBounds_toArray, List.set_cons_zero, List.set_cons_succ, i64_w, i32_w]
      rfl
    refine pure_ (i := 11) (N := some 87) (v := ?_) (a' := ?_) #[true, true, true, true, true, true, true, true, true, true, true, true, false, false, false, false, false, false, false, false, false, false, false] rfl rfl (by kernel_rfl) (fun _ _ _ h => h) (Or.inl ⟨by rfl, ?_⟩) ?_ ?_
    rotate_left
    · intro w'
      go_simp
      with_reducible rfl
    rotate_left
    · simp only [Act.put, List.setIfInBounds_toArray, List.set_cons_zero, List.set_cons_succ, i64_w, i32_w]
      rfl
    refine pure_ (i := 12) (N := some 88) (v := ?_) (a' := ?_) #[true, true, true, true, true, true, true, true, true, true, true, true, true, false, false, false, false, false, false, false, false, false, false] rfl rfl (by kernel_rfl) (fun _ _ _ h => h) (Or.inl ⟨by rfl, ?_⟩) ?_ ?_
    rotate_left
    · intro w'
      go_simp
      with_reducible rfl
    rotate_left
    · simp only [Act.put, List.setIfInBounds_toArray, List.set_cons_zero, List.set_cons_succ, i64_w, i32_w]
      rfl
    refine pure_ (i := 13) (N := some 89) (v := ?_) (a' := ?_) #[true, true, true, true, true, true, true, true, true, true, true, true, true, true, false, false, false, false, false, false, false, false, false] rfl rfl (by kernel_rfl) (fun _ _ _ h => h) (Or.inl ⟨by rfl, ?_⟩) ?_ ?_
    rotate_left
    · intro w'
      go_simp
      with_reducible rfl
    rotate_left
    · simp only [Act.put, List.setIfInBounds_toArray, List.set_cons_zero, List.set_cons_succ, i64_w, i32_w]
      rfl
    refine pure_ (i := 14) (N := some 90) (v := ?_) (a' := ?_) #[true, true, true, true, true, true, true, true, true, true, true, true, true, true, true, false, false, false, false, false, false, false, false] rfl rfl (by kernel_rfl) (fun _ _ _ h => h) (Or.inl ⟨by rfl, ?_⟩) ?_ ?_
    rotate_left
    · intro w'
      go_simp
      with_reducible rfl
    rotate_left
    · simp only [Act.put, List.setIfInBounds_toArray, List.set_cons_zero, List.set_cons_succ, i64_w, i32_w]
      rfl
    refine pure_ (i := 16) (N := some 92) (v := ?_) (a' := ?_) #[true, true, true, true, true, true, true, true, true, true, true, true, true, true, true, false, true, false, false, false, false, false, false] rfl rfl (by kernel_rfl) (fun _ _ _ h => h) (Or.inl ⟨by rfl, ?_⟩) ?_ ?_
    rotate_left
    · intro w'
      go_simp
      with_reducible rfl
    rotate_left
    · simp only [Act.put, List.setIfInBounds_toArray, List.set_cons_zero, List.set_cons_succ, i64_w, i32_w]
      rfl
    refine pure_ (i := 17) (N := some 93) (v := ?_) (a' := ?_) #[true, true, true, true, true, true, true, true, true, true, true, true, true, true, true, false, true, true, false, false, false, false, false] rfl rfl (by kernel_rfl) (fun _ _ _ h => h) (Or.inl ⟨by rfl, ?_⟩) ?_ ?_
    rotate_left
    · intro w'
      go_simp
      with_reducible rfl
    rotate_left
    · simp only [Act.put, List.setIfInBounds_toArray, List.set_cons_zero, List.set_cons_succ, i64_w, i32_w]
      rfl
    refine pure_ (i := 18) (N := some 94) (v := ?_) (a' := ?_) #[true, true, true, true, true, true, true, true, true, true, true, true, true, true, true, false, true, true, true, false, false, false, false] rfl rfl (by kernel_rfl) (fun _ _ _ h => h) (Or.inl ⟨by rfl, ?_⟩) ?_ ?_
    rotate_left
    · intro w'
      go_simp
      with_reducible rfl
    rotate_left
    · simp only [Act.put, List.setIfInBounds_toArray, List.set_cons_zero, List.set_cons_succ, i64_w, i32_w]
      rfl
    refine take_ (i := 19) (N := some 95) (v := ?_) (a' := ?_) #[true, true, true, true, true, true, true, true, true, true, true, true, true, true, true, false, true, true, true, true, false, false, false] rfl rfl (by kernel_rfl) (fun _ _ _ h => h) (Or.inl ⟨by rfl, ?_⟩) hHeld ?_ ?_
    rotate_left
    · rintro w' ⟨s0, s1⟩
      go_simp
      with_reducible rfl
    rotate_left
    · simp only [Act.put, List.setIfInBounds_toArray, List.set_cons_zero, List.set_cons_succ, i64_w, i32_w]
      rfl
    refine pure_ (i := 20) (N := some 96) (v := ?_) (a' := ?_) #[true, true, true, true, true, true, true, true, true, true, true, true, true, true, true, false, true, true, true, true, true, false, false] rfl rfl (by kernel_rfl) (fun _ _ _ h => h) (Or.inl ⟨by rfl, ?_⟩) ?_ ?_
    rotate_left
    · intro w'
      go_simp
      with_reducible rfl
    rotate_left
    · simp only [Act.put, List.setIfInBounds_toArray, List.set_cons_zero, List.set_cons_succ, i64_w, i32_w]
      rfl
    refine one_ (i := 15) (N := some 91) #[true, true, true, true, true, true, true, true, true, true, true, true, true, true, true, true, true, true, true, true, true, false, false] rfl rfl (by kernel_rfl) (by decide) (fun K hK => ?_)
    refine goes_ Try.func18 (by kernel_rfl) rfl #[.pointer (some ⟨p, 0, none⟩)] (by rfl) rfl rfl (by (try simp only [List.map_toArray, List.map_cons, List.map_nil]); first | done | rfl) ?_
    with_reducible refine (b_Size HS.out).mono ?_
    rintro e y10_ ⟨rfl, hb⟩
    refine ⟨_, rfl, ?_⟩
    have n_HB := Aside0.mk (below_step HB.out hb)
    have n_HS := Aside0.mk (HS.out.below hb)
    have n_HR := Aside0.mk (HR.out.below hb)
    clear HB
    have HB := n_HB
    clear n_HB
    clear HS
    have HS := n_HS
    clear n_HS
    clear HR
    have HR := n_HR
    clear n_HR
    clear hb
    refine hK.out _ _ ⟨(blk_cell HR.out.hp 0).trans rfl, (blk_cell HR.out.hp 1).trans (by rw [← hvr]; rfl)⟩ (fun hHeld => ?_)
    clear hK K
    refine norm_ (a' := ?_) ?_ ?_
    rotate_left
    · show Act.put _ (some 91) _ = _
      simp only [Act.put, List.setIfInBounds_toArray, List.set_cons_zero, List.set_cons_succ, i64_w, i32_w]
      rfl
    refine pure_ (i := 21) (N := some 97) (v := ?_) (a' := ?_) #[true, true, true, true, true, true, true, true, true, true, true, true, true, true, true, true, true, true, true, true, true, true, false] rfl rfl (by kernel_rfl) (fun _ _ _ h => h) (Or.inl ⟨by rfl, ?_⟩) ?_ ?_
    rotate_left
    · intro w'
      go_simp
      with_reducible rfl
    rotate_left
    · simp only [Act.put, List.setIfInBounds_toArray, List.set_cons_zero, List.set_cons_succ, i64_w, i32_w]
      rfl
    refine pure_ (i := 22) (N := some 98) (v := ?_) (a' := ?_) #[true, true, true, true, true, true, true, true, true, true, true, true, true, true, true, true, true, true, true, true, true, true, true] rfl rfl (by kernel_rfl) (fun _ _ _ h => h) (Or.inl ⟨by rfl, ?_⟩) ?_ ?_
    rotate_left
    · intro w'
      go_simp
      with_reducible rfl
    rotate_left
    · simp only [Act.put, List.setIfInBounds_toArray, List.set_cons_zero, List.set_cons_succ, i64_w, i32_w]
      rfl
    refine done_ (by kernel_rfl) ?_
    clear hHeld
    go_wp2_with fail
    go_roundw
    case rel => exact ⟨i + 1, v2, vr2, L2, W2, by omega, by go_num, hl2, HS, HR, HB⟩
    case measure => simp [intOf]; omega
theorem lombardlaw19_BlockPlays.calls (a0 : Int) (A1 : Option Addr) (c1 : Nat) (l1 : List (S34)) (r : Bool) (w : World) (hr1 : Kd.C k34 w A1 l1.length l1) (hc1 : l1.length ≤ c1) (h : lombardlaw19_BlockPlays.f a0 l1 = some r) :
    Calls Try.prog 3 #[.int .i64 a0, .slice A1 l1.length c1] w fun e w' => e = .returned (.bool r) ∧ Below w.heap.size w w' := by
  obtain rfl := Option.some.inj h
  exact lombardlaw19_BlockPlays.walk a0 A1 c1 l1 w hr1 hc1


end Go.Proofs.Ytpfkjjaohmdnjaa.Print
