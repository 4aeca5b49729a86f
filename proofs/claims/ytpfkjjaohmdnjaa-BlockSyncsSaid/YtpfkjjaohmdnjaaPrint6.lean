-- written by this session's program wip/hybrid.py over the kit's printer, and by hand. Not trusted: Lean checks it.
import Derived.Test.YtpfkjjaohmdnjaaPrint0
import Derived.Test.YtpfkjjaohmdnjaaPrint2
import Derived.Test.YtpfkjjaohmdnjaaPrint3
namespace Go.Proofs.Ytpfkjjaohmdnjaa.Print
open Go.RowKit Go.Proofs.YtpfkjjaohmdnjaaW.PrintWords Go.Proofs.YtpfkjjaohmdnjaaW.PrintLast Go.Proofs.YtpfkjjaohmdnjaaW.PrintMore
attribute [local go_sem] max2_int min2_int max_two min_two max_three min_three max_four min_four   -- for this text's walks alone
set_option linter.unusedVariables false
set_option linter.unusedSimpArgs false

/-! ### lombardlaw19_BlockSyncs: function 7 -/
def lombardlaw19_BlockSyncs.f (l : List S34) : Option Bool := some true
theorem lombardlaw19_BlockSyncs.great_ (l : List S34) (hl : l.length ≤ 9223372036854775807) : ∃ k r, lombardlaw19_great.f k l = some r := by
  have H : ∀ (n : Nat) (i : Nat), l.length - i + 1 ≤ n → i ≤ l.length → ∃ r, lombardlaw19_great.l0 n l l (l.length : Int) (i : Int) = some r := by
    intro n
    induction n with
    | zero => intro i h; omega
    | succ n ih =>
      intro i h hi
      rw [lombardlaw19_great.l0]
      by_cases hlt : i < l.length
      · rw [if_pos (by omega), if_pos (by omega), if_pos (by omega)]
        split
        · exact ⟨_, rfl⟩
        · split
          · exact ⟨_, rfl⟩
          · have e : wrap64 ((i : Int) + 1) = ((i + 1 : Nat) : Int) := by unfold wrap64; omega
            rw [e]
            exact ih (i + 1) (by omega) (by omega)
      · rw [if_neg (by omega)]
        exact ⟨_, rfl⟩
  obtain ⟨r, hr⟩ := H (l.length + 1) 0 (by omega) (by omega)
  exact ⟨l.length + 1, r, hr⟩
set_option maxHeartbeats 32000000 in
set_option maxRecDepth 100000 in
theorem lombardlaw19_BlockSyncs.walk (A0 : Option Addr) (c0 : Nat) (l0 : List S34) (w : World) (hr0 : Kd.C k34 w A0 l0.length l0) (hc0 : l0.length ≤ c0) : Calls Try.prog 7 #[.slice A0 l0.length c0] w fun e w' => e = .returned (.bool true) ∧ Below w.heap.size w w' := by
  obtain ⟨kl0, rl0, hgl0⟩ := lombardlaw19_BlockSyncs.great_ l0 hr0.2.1
  replace hgl0 := Aside0.mk hgl0
  replace hr0 := Aside0.mk hr0
  have hzw := fun W => wt_zero0 W
  go_enter Try.func7, Try.ntmps7
  go_wp2_with fail
  with_reducible refine (lombardlaw19_alive.calls true w rfl).mono ?_
  rintro e w1 ⟨rfl, hb⟩
  have HB := Aside0.mk hb
  clear hb
  go_wp2_with fail
  with_reducible refine (lombardlaw19_great.calls kl0 A0 c0 l0 rl0 w1 (Kd.C_below hr0.out HB.out) hc0 hgl0.out).mono ?_
  rintro e w2 ⟨rfl, hb⟩
  have HB' := Aside0.mk (below_step HB.out hb)
  clear hb HB
  have HB := HB'
  clear HB'
  cases rl0
  case true =>
    go_wp2_with fail
    go_ret
    exact ⟨rfl, HB.out⟩
  go_wp2_with fail
  refine (l_New 30 (by omega)).mono ?_
  rintro e w3 ⟨p, rfl, gl, gm, v, hs, hb⟩
  have hBw : w.heap.size ≤ w2.heap.size := HB.out.size
  have HB' := Aside0.mk (below_step HB.out hb)
  have HS := Aside0.mk hs
  clear hb hs HB
  generalize w2.heap.size = B at HS hBw
  go_wp2_with fail
  have HB := Aside0.mk (below_alloc HB'.out (.cells (wcells want0) 53))
  have HS' := Aside0.mk (HS.out.below (below_alloc (Below.refl w3.heap.size w3) (.cells (wcells want0) 53)))
  have BKw := Aside0.mk (blk_new w3 (.cells (wcells want0) 53))
  have hg5 : w.heap.size ≤ w3.heap.size := HB'.out.size
  clear HB' HS
  have HS := HS'
  clear HS'
  generalize w3.alloc (.cells (wcells want0) 53) = w4 at HB HS BKw ⊢
  generalize w3.heap.size = g5 at BKw hg5 ⊢
  have hl63 := hr0.out.2.1
  go_loopw [22] (fun u wr => ∃ (i : Nat) (v : Value) (L : List (Bk × Bool)) (W : List (Int × Bk)) (want : List Bk), i ≤ l0.length ∧ u = .int .i64 i ∧ want.length = 30 ∧ L.length = 30 ∧ Aside0 (SA B wr p gl gm v L W) ∧ Aside0 (Below w.heap.size w wr) ∧ Aside0 (wr.heap[g5]? = some (.cells (wcells want) 53 (0, 0))) ∧ Aside0 (∀ a : Nat, a < 30 → rd L W a = (want.getD a Bk.z, 0)) ∧ W = []) (fun u _ => ((l0.length : Int) - intOf u).toNat)
  case atStart => exact ⟨0, v, zeros 30, [], want0, by omega, rfl, want0_len, zeros_len 30, HS, HB, BKw, ⟨fun a ha => by rw [want0_at]; exact rd_zeros 30 a ha⟩, rfl⟩
  case round =>
    obtain ⟨i, v, L, W, want, hi, rfl, hwl, hLl, HS, HB, BKw, HRD, hWe⟩ := hrel
    by_cases hlt : i < l0.length
    case neg =>
      subst hWe
      go_wp2_with fail
      refine (b_Waiting HS.out).mono ?_
      rintro e w5 ⟨rfl, hb⟩
      have HB' := Aside0.mk (below_step HB.out hb)
      clear hb HB HS BKw
      go_wp2_with fail
      go_ret
      exact ⟨rfl, HB'.out⟩
    obtain ⟨ad, A2, c2, A3, c3, hA, hk0, hk1, hk2, hk3, hc2, hCB, hc3, hCF⟩ := at_T34 hr0.out (i : Int) (by omega) (by omega)
    rw [Int.toNat_natCast] at hk0 hk1 hk2 hk3
    generalize rd_T34 l0 (i : Int) = o at hk0 hk1 hk2 hk3 hc2 hCB hc3 hCF
    obtain ⟨k, a, bs, fs⟩ := o
    simp only at hk0 hk1 hk2 hk3 hc2 hCB hc3 hCF
    subst hA
    have hAF := Aside0.mk (HS.out.arg hCF hBw)
    have CB0 := Aside0.mk hCB
    replace hk0 := pw_cell_below HB.out hk0
    replace hk1 := pw_cell_below HB.out hk1
    replace hk2 := pw_cell_below HB.out hk2
    replace hk3 := pw_cell_below HB.out hk3
    replace hCB := Kd.C_below hCB HB.out
    replace hCF := Kd.C_below hCF HB.out
    go_wp2_with ((with_reducible refine gate_store (t := 34) (p := 7) (v := .tmp 25) rfl ?_); refine Shut.out ?_)
    unfold Shut
    obtain ⟨hnb, hnk⟩ := newbk wr #[.int .i64 0, .int .i64 0, .slice none 0 0, .slice none 0 0] #[.int .i64 k, .int .i64 a, .slice A2 bs.length c2, .slice A3 fs.length c3] 34
    refine store_rowTo rfl 34 (.tmp 7) (.tmp 25) rfl rfl wr.heap.size #[.int .i64 k, .int .i64 a, .slice A2 bs.length c2, .slice A3 fs.length c3] rfl rfl 34 _ (blk_new wr _) (by kernel_rfl) rfl (op_all _ _ _ _ _ _ _ _) ?_
    have HS' := Aside0.mk (HS.out.below hnb)
    have HB' := Aside0.mk (below_step HB.out hnb)
    have BKw' := Aside0.mk (blk_below BKw.out hnb)
    have BK7 := Aside0.mk hnk
    have CB := Aside0.mk (Kd.C_below hCB hnb)
    have CF := Aside0.mk (Kd.C_below hCF hnb)
    clear HS HB BKw hnb hnk hCB hCF hk0 hk1 hk2 hk3
    have HS := HS'
    have HB := HB'
    have BKw := BKw'
    clear HS' HB' BKw'
    generalize (wr.alloc (.cells #[.int .i64 0, .int .i64 0, .slice none 0 0, .slice none 0 0] 34)).setRow wr.heap.size #[.int .i64 k, .int .i64 a, .slice A2 bs.length c2, .slice A3 fs.length c3] = w5 at HS HB BKw BK7 CB CF ⊢
    generalize wr.heap.size = g7 at BK7 ⊢
    have hj0 : w5.cell? ⟨g7, 0, none⟩ = some (.int .i64 k) := (blk_cell BK7.out 0).trans rfl
    have hj1 : w5.cell? ⟨g7, 1, none⟩ = some (.int .i64 a) := (blk_cell BK7.out 1).trans rfl
    have hj2 : w5.cell? ⟨g7, 2, none⟩ = some (.slice A2 bs.length c2) := (blk_cell BK7.out 2).trans rfl
    have hj3 : w5.cell? ⟨g7, 3, none⟩ = some (.slice A3 fs.length c3) := (blk_cell BK7.out 3).trans rfl
    subst hWe
    by_cases h1 : k = 1
    case pos =>
      subst h1
      have e1 : ((1 : Int) == 1) = true := rfl
      have h3 : (1 : Int) ≠ 3 := by decide
      go_wp2_with fail
      refine (b_do HS.out HS.out.base_le 1 a CB.out CF.out hAF.out).mono ?_
      rintro e w6 ⟨rfl, v2, hs, hm⟩
      have hW1 : (doW L [] 1 a bs).length ≤ 1 := by
        rw [doW, if_pos rfl, wrW]
        split <;> simp
      obtain ⟨L2, hL2⟩ : ∃ L2, L2 = doL L [] 1 fs := ⟨_, rfl⟩
      obtain ⟨W2, hW2⟩ : ∃ W2, W2 = doW L [] 1 a bs := ⟨_, rfl⟩
      have hnx := rd_do HS.out.hW.2 (a := a) (bs := bs) (fs := fs) h3
      have hl2 : L2.length = 30 := by rw [hL2, doL_len, hLl]
      have hdr := doC_range (L := L) (W := []) (k := 1) (a := a)
      rw [← hW2] at hW1
      rw [← hL2, ← hW2] at hs hnx
      clear hL2 hW2
      obtain ⟨dc, hdc⟩ : ∃ dc, dc = doC L [] 1 a := ⟨_, rfl⟩
      rw [← hdc] at hnx hdr ⊢
      clear hdc
      have hnx := Aside0.mk hnx
      have HS6 := Aside0.mk hs
      have HB6 := Aside0.mk (hm.below HB.out HB.out.size (fun k hk => Nat.le_trans hBw (HS.out.base hk)))
      have BKw6 := Aside0.mk (hm.blk BKw.out (HS.out.far BKw.out (by decide)))
      have BK76 := Aside0.mk (hm.blk BK7.out (HS.out.far BK7.out (by decide)))
      have CB6 := Aside0.mk (Kd.C_below CB0.out HB6.out)
      clear hs hm HS HB BKw BK7 CB CF hj0 hj1 hj2 hj3 hAF
      have HS := HS6
      have HB := HB6
      have BKw := BKw6
      have BK7 := BK76
      have CB := CB6
      have hLl := hl2
      clear HS6 HB6 BKw6 BK76 CB6 w5
      have hW1i : (W2.length : Int) ≤ 1 := by omega
      by_cases hd : dc = 0
      case neg =>
        have e2 : (dc == 0) = false := by simpa using hd
        have HRD : Aside0 (∀ a : Nat, a < 30 → rd L2 W2 a = (want.getD a Bk.z, 0)) := ⟨fun j hj => by rw [hnx.out, if_neg (fun e => hd e.2.1)]; exact HRD.out j hj⟩
        go_wp2_with fail
        refine (b_Waiting HS.out).mono ?_
        rintro e x1 ⟨rfl, hb⟩
        have HS6 := Aside0.mk (HS.out.below hb)
        have HB6 := Aside0.mk (below_step HB.out hb)
        have BKw6 := Aside0.mk (blk_below BKw.out hb)
        clear HS HB BKw hb
        go_wp2_with fail
        refine (b_Sync HS6.out).mono ?_
        rintro e x2 ⟨rfl, hs, hm⟩
        have HRD' : Aside0 (∀ a : Nat, a < 30 → rd (setl (fun _ => 1) 0 W2 L2) [] a = (want.getD a Bk.z, 0)) := ⟨fun j hj => (rd_sync W2 0 L2 HS6.out.hW.2 j).trans (HRD.out j hj)⟩
        have hl3 : (setl (fun _ => 1) 0 W2 L2).length = 30 := by rw [setl_len, hLl]
        have HS := Aside0.mk hs
        have HB := Aside0.mk (hm.below HB6.out HB6.out.size (fun k hk => Nat.le_trans hBw (HS6.out.base hk)))
        have BKw := Aside0.mk (hm.blk BKw6.out (HS6.out.far BKw6.out (by decide)))
        clear hs hm HS6 HB6 BKw6 HRD hLl
        have HRD := HRD'
        have hLl := hl3
        clear HRD' hl3
        generalize setl (fun _ => 1) 0 W2 L2 = L3 at HS HRD hLl
        have HIX := fun W j hj => run_index_w W want hwl j hj
        have HRD := HRD
        go_wp2_with ((with_reducible refine gate_dst (N := 54) rfl ?_); refine wpl_value rfl (load_run 53 (.tmp 5) rfl g5 rfl 53 _ (0, 0) _ BKw.out wt_und rfl (by rw [wcells_size, hwl]; exact wt_info)) ?_)
        go_loopw [55] (fun u wq => ∃ j : Nat, j ≤ 30 ∧ u = .int .i64 j ∧ Aside0 (Below x2.heap.size x2 wq)) (fun u _ => (30 - intOf u).toNat)
        case atStart => exact ⟨0, by omega, rfl, ⟨Below.refl _ _⟩⟩
        case round =>
          obtain ⟨j, hj, rfl, HQ⟩ := hrel
          by_cases hj30 : j < 30
          · have hix := fun W => HIX W j hj30
            obtain ⟨b, hbw⟩ : ∃ b : Bk, want[j]'(by omega) = b := ⟨_, rfl⟩
            have hrd : rd (L3) ([]) (j : Int) = (b, 0) := by
              have h := HRD.out j hj30
              rw [← hbw, h]
              simp [List.getD, hwl, hj30]
            rw [hbw] at hix
            have hrd := Aside0.mk hrd
            go_wp2_with ((with_reducible refine gate_store (t := 45) (p := 9) (v := .tmp 58) rfl ?_); refine Shut.out ?_)
            unfold Shut
            obtain ⟨hnb, hnk⟩ := newbk wr Bk.z.cs.toArray b.cs.toArray 45
            refine wpl_stbk 45 _ _ wr.heap.size b 45 Bk.z rfl rfl rfl rfl rfl (blk_new wr _) bk_info ?_
            have HQ1 := Aside0.mk (below_step HQ.out hnb)
            have BK9 := Aside0.mk hnk
            clear HQ hnb hnk
            generalize hgen : (wr.alloc (.cells Bk.z.cs.toArray 45)).setRow wr.heap.size b.cs.toArray = q1 at HQ1 BK9
            change wpList _ _ _ _ _ ((wr.alloc (.cells Bk.z.cs.toArray 45)).setRow wr.heap.size b.cs.toArray)
            rw [hgen]
            clear hgen
            generalize wr.heap.size = g9 at BK9 ⊢
            go_wp2_with fail
            refine (l_Read (HS.out.below HQ1.out) (j : Int) hrd.out).mono ?_
            rintro e q2 ⟨rfl, hb⟩
            have HQ2 := Aside0.mk (below_step HQ1.out hb)
            have BK9' := Aside0.mk (blk_below BK9.out hb)
            clear HQ1 BK9 hb
            go_wp2_with ((with_reducible refine gate_store (t := 45) (p := 10) (v := .tmp 63) rfl ?_); refine Shut.out ?_)
            unfold Shut
            obtain ⟨hnb, hnk⟩ := newbk q2 Bk.z.cs.toArray b.cs.toArray 45
            refine wpl_stbk 45 _ _ q2.heap.size b 45 Bk.z rfl rfl rfl rfl rfl (blk_new q2 _) bk_info ?_
            have HQ3 := Aside0.mk (below_step HQ2.out hnb)
            have BK9 := Aside0.mk (blk_below BK9'.out hnb)
            have BKa := Aside0.mk hnk
            clear HQ2 BK9' hnb hnk
            generalize hgen : (q2.alloc (.cells Bk.z.cs.toArray 45)).setRow q2.heap.size b.cs.toArray = q3 at HQ3 BK9 BKa
            change wpList _ _ _ _ _ ((q2.alloc (.cells Bk.z.cs.toArray 45)).setRow q2.heap.size b.cs.toArray)
            rw [hgen]
            clear hgen
            generalize q2.heap.size = g10 at BKa ⊢
            have heq : ∀ d W, (Op.equalIn (d + 2) 45 (.agg b.cs.toArray) (.agg b.cs.toArray)).run Try.prog W = .ok true W := fun d W => (bk_eq d b b W).trans (by simp)
            go_wp2_with (first | ((with_reducible refine gate_dst (N := 65) rfl ?_); refine wpList_load_row rfl 45 _ rfl g10 rfl 45 _ (0, 0) _ BKa.out bk_und rfl (by rw [bk_sz]; exact bk_info) ?_) | ((with_reducible refine gate_dst (N := 66) rfl ?_); refine wpList_load_row rfl 45 _ rfl g9 rfl 45 _ (0, 0) _ BK9.out bk_und rfl (by rw [bk_sz]; exact bk_info) ?_))
            go_roundw
            case rel => exact ⟨j + 1, by omega, by go_num, HQ3⟩
            case measure => simp [intOf]; omega
          · go_wp2_with fail
            have HB' := Aside0.mk (below_step HB.out HQ.out)
            have HS' := Aside0.mk (HS.out.below HQ.out)
            have BKw' := Aside0.mk (blk_below BKw.out HQ.out)
            go_roundw
            case rel => exact ⟨i + 1, _, L3, [], want, by omega, by go_num, hwl, hLl, HS', HB', BKw', HRD, rfl⟩
            case measure => simp [intOf]; omega
      have hin := hdr hd rfl
      subst hd
      obtain ⟨q, rfl⟩ := Int.eq_ofNat_of_zero_le hin.1
      have hq30 : q < 30 := by omega
      have hqw : q < want.length := by omega
      have hq30i : (q : Int) < 30 := by omega
      have HRD : Aside0 (∀ a : Nat, a < 30 → rd L2 W2 a = ((want.set q (ofB bs)).getD a Bk.z, 0)) := ⟨want_next hqw hwl HRD.out (fun j => by rw [hnx.out]; by_cases e : j = (q : Int) <;> simp [e])⟩
      clear hnx hdr
      go_wp2_with fail
      have n_HB := Aside0.mk (below_step HB.out (below_drew (Below.refl _ _)))
      have n_HS := Aside0.mk (HS.out.below (below_drew (Below.refl _ _)))
      have n_BKw := Aside0.mk (blk_below BKw.out (below_drew (Below.refl _ _)))
      have n_BK7 := Aside0.mk (blk_below BK7.out (below_drew (Below.refl _ _)))
      have n_CB := Aside0.mk (Kd.C_below CB.out (below_drew (Below.refl _ _)))
      clear HB
      have HB := n_HB
      clear n_HB
      clear HS
      have HS := n_HS
      clear n_HS
      clear BKw
      have BKw := n_BKw
      clear n_BKw
      clear BK7
      have BK7 := n_BK7
      clear n_BK7
      clear CB
      have CB := n_CB
      clear n_CB
      refine start_ (n := 7) (S := fun w' => w'.cell? ⟨g7, 1, none⟩ = some (.int .i64 (q : Int)) ∧ w'.cell? ⟨g7, 2, none⟩ = some (.slice A2 bs.length c2)) (ds := [6]) #[false, false, false, false, false, false, false] (by kernel_rfl) rfl rfl ⟨(blk_cell BK7.out 1).trans rfl, (blk_cell BK7.out 2).trans rfl⟩ (fun hHeld => ?_)
      generalize w6.drew = w7 at HB HS BKw BK7 CB hHeld ⊢
      refine pure_ (i := 0) (N := some 34) (v := ?_) (a' := ?_) #[true, false, false, false, false, false, false] rfl rfl (by kernel_rfl) (fun _ _ _ h => h) (Or.inl ⟨by rfl, ?_⟩) ?_ ?_
      rotate_left
      · intro w'
        go_simp
        with_reducible rfl
      rotate_left
      · simp only [Act.put, List.setIfInBounds_toArray, List.set_cons_zero, List.set_cons_succ, i64_w, i32_w]
        rfl
      refine pure_ (i := 2) (N := some 36) (v := ?_) (a' := ?_) #[true, false, true, false, false, false, false] rfl rfl (by kernel_rfl) (fun _ _ _ h => h) (Or.inl ⟨by rfl, ?_⟩) ?_ ?_
      rotate_left
      · intro w'
        go_simp
        with_reducible rfl
      rotate_left
      · simp only [Act.put, List.setIfInBounds_toArray, List.set_cons_zero, List.set_cons_succ, i64_w, i32_w]
        rfl
      refine take_ (i := 1) (N := some 35) (v := ?_) (a' := ?_) #[true, true, true, false, false, false, false] rfl rfl (by kernel_rfl) (fun _ _ _ h => h) (Or.inl ⟨by rfl, ?_⟩) hHeld ?_ ?_
      rotate_left
      · rintro w' ⟨s0, s1⟩
        go_simp
        with_reducible rfl
      rotate_left
      · simp only [Act.put, List.setIfInBounds_toArray, List.set_cons_zero, List.set_cons_succ, i64_w, i32_w]
        rfl
      refine take_ (i := 3) (N := some 37) (v := ?_) (a' := ?_) #[true, true, true, true, false, false, false] rfl rfl (by kernel_rfl) (fun _ _ _ h => h) (Or.inl ⟨by rfl, ?_⟩) hHeld ?_ ?_
      rotate_left
      · rintro w' ⟨s0, s1⟩
        go_simp
        with_reducible rfl
      rotate_left
      · simp only [Act.put, List.setIfInBounds_toArray, List.set_cons_zero, List.set_cons_succ, i64_w, i32_w]
        rfl
      refine one_ (i := 4) (N := some 38) #[true, true, true, true, true, false, false] rfl rfl (by kernel_rfl) (by decide) (fun K hK => ?_)
      refine goes_ Try.func14 (by kernel_rfl) rfl #[.slice A2 bs.length c2] (by rfl) rfl rfl (by (try simp only [List.map_toArray, List.map_cons, List.map_nil]); first | done | rfl) ?_
      with_reducible refine (r_Of CB.out).mono ?_
      rintro e y2_ ⟨rfl, hb⟩
      refine ⟨_, rfl, ?_⟩
      have n_HB := Aside0.mk (below_step HB.out hb)
      have n_HS := Aside0.mk (HS.out.below hb)
      have n_BKw := Aside0.mk (blk_below BKw.out hb)
      have n_BK7 := Aside0.mk (blk_below BK7.out hb)
      have n_CB := Aside0.mk (Kd.C_below CB.out hb)
      clear HB
      have HB := n_HB
      clear n_HB
      clear HS
      have HS := n_HS
      clear n_HS
      clear BKw
      have BKw := n_BKw
      clear n_BKw
      clear BK7
      have BK7 := n_BK7
      clear n_BK7
      clear CB
      have CB := n_CB
      clear n_CB
      clear hb
      refine hK.out _ _ ⟨(blk_cell BK7.out 1).trans rfl, (blk_cell BK7.out 2).trans rfl⟩ (fun hHeld => ?_)
      clear hK K
      refine norm_ (a' := ?_) ?_ ?_
      rotate_left
      · show Act.put _ (some 38) _ = _
        simp only [Act.put, List.setIfInBounds_toArray, List.set_cons_zero, List.set_cons_succ, i64_w, i32_w]
        rfl
      refine pure_ (i := 5) (N := some 39) (v := ?_) (a' := ?_) #[true, true, true, true, true, true, false] rfl rfl (by kernel_rfl) (fun _ _ _ h => h) (Or.inl ⟨by rfl, ?_⟩) ?_ ?_
      rotate_left
      · intro w'
        go_simp
        with_reducible rfl
      rotate_left
      · simp only [Act.put, List.setIfInBounds_toArray, List.set_cons_zero, List.set_cons_succ, i64_w, i32_w]
        rfl
      refine last_ (i := 6) (N := none) #[true, true, true, true, true, true, true] rfl rfl (by kernel_rfl) (by decide) (fun K hK => ?_)
      refine skip_ (w1 := y2_.setRow g5 (wcells (want.set q (ofB bs)))) (by rfl) rfl (want_store 45 _ _ rfl rfl rfl BKw.out hqw bk_info) ?_
      have n_HB := Aside0.mk (row_below (g := g5) HB.out hg5 (wcells (want.set q (ofB bs))))
      have n_HS := Aside0.mk (HS.out.row_far BKw.out (by decide) (wcells (want.set q (ofB bs))))
      have n_BKw := Aside0.mk (setRow_heap _ _ _ (wcells (want.set q (ofB bs))) _ _ BKw.out)
      clear HB HS BKw BK7 CB
      have HB := n_HB
      have HS := n_HS
      have BKw := n_BKw
      clear n_HB n_HS n_BKw
      refine hK.out _ _ ?_
      clear hK K
      refine done_ (by kernel_rfl) ?_
      generalize y2_.setRow g5 (wcells (want.set q (ofB bs))) = w8 at HB HS BKw ⊢
      obtain ⟨want2, hw2⟩ : ∃ want2, want2 = want.set q (ofB bs) := ⟨_, rfl⟩
      have hwl2 : want2.length = 30 := by rw [hw2, List.length_set, hwl]
      rw [← hw2] at HRD BKw
      clear hw2 hwl hqw hq30 hq30i hin
      have hwl := hwl2
      clear hwl2
      go_wp2_with fail
      refine (b_Waiting HS.out).mono ?_
      rintro e x1 ⟨rfl, hb⟩
      have HS6 := Aside0.mk (HS.out.below hb)
      have HB6 := Aside0.mk (below_step HB.out hb)
      have BKw6 := Aside0.mk (blk_below BKw.out hb)
      clear HS HB BKw hb
      go_wp2_with fail
      refine (b_Sync HS6.out).mono ?_
      rintro e x2 ⟨rfl, hs, hm⟩
      have HRD' : Aside0 (∀ a : Nat, a < 30 → rd (setl (fun _ => 1) 0 W2 L2) [] a = (want2.getD a Bk.z, 0)) := ⟨fun j hj => (rd_sync W2 0 L2 HS6.out.hW.2 j).trans (HRD.out j hj)⟩
      have hl3 : (setl (fun _ => 1) 0 W2 L2).length = 30 := by rw [setl_len, hLl]
      have HS := Aside0.mk hs
      have HB := Aside0.mk (hm.below HB6.out HB6.out.size (fun k hk => Nat.le_trans hBw (HS6.out.base hk)))
      have BKw := Aside0.mk (hm.blk BKw6.out (HS6.out.far BKw6.out (by decide)))
      clear hs hm HS6 HB6 BKw6 HRD hLl
      have HRD := HRD'
      have hLl := hl3
      clear HRD' hl3
      generalize setl (fun _ => 1) 0 W2 L2 = L3 at HS HRD hLl
      have HIX := fun W j hj => run_index_w W want2 hwl j hj
      have HRD := HRD
      go_wp2_with ((with_reducible refine gate_dst (N := 54) rfl ?_); refine wpl_value rfl (load_run 53 (.tmp 5) rfl g5 rfl 53 _ (0, 0) _ BKw.out wt_und rfl (by rw [wcells_size, hwl]; exact wt_info)) ?_)
      go_loopw [55] (fun u wq => ∃ j : Nat, j ≤ 30 ∧ u = .int .i64 j ∧ Aside0 (Below x2.heap.size x2 wq)) (fun u _ => (30 - intOf u).toNat)
      case atStart => exact ⟨0, by omega, rfl, ⟨Below.refl _ _⟩⟩
      case round =>
        obtain ⟨j, hj, rfl, HQ⟩ := hrel
        by_cases hj30 : j < 30
        · have hix := fun W => HIX W j hj30
          obtain ⟨b, hbw⟩ : ∃ b : Bk, want2[j]'(by omega) = b := ⟨_, rfl⟩
          have hrd : rd (L3) ([]) (j : Int) = (b, 0) := by
            have h := HRD.out j hj30
            rw [← hbw, h]
            simp [List.getD, hwl, hj30]
          rw [hbw] at hix
          have hrd := Aside0.mk hrd
          go_wp2_with ((with_reducible refine gate_store (t := 45) (p := 9) (v := .tmp 58) rfl ?_); refine Shut.out ?_)
          unfold Shut
          obtain ⟨hnb, hnk⟩ := newbk wr Bk.z.cs.toArray b.cs.toArray 45
          refine wpl_stbk 45 _ _ wr.heap.size b 45 Bk.z rfl rfl rfl rfl rfl (blk_new wr _) bk_info ?_
          have HQ1 := Aside0.mk (below_step HQ.out hnb)
          have BK9 := Aside0.mk hnk
          clear HQ hnb hnk
          generalize hgen : (wr.alloc (.cells Bk.z.cs.toArray 45)).setRow wr.heap.size b.cs.toArray = q1 at HQ1 BK9
          change wpList _ _ _ _ _ ((wr.alloc (.cells Bk.z.cs.toArray 45)).setRow wr.heap.size b.cs.toArray)
          rw [hgen]
          clear hgen
          generalize wr.heap.size = g9 at BK9 ⊢
          go_wp2_with fail
          refine (l_Read (HS.out.below HQ1.out) (j : Int) hrd.out).mono ?_
          rintro e q2 ⟨rfl, hb⟩
          have HQ2 := Aside0.mk (below_step HQ1.out hb)
          have BK9' := Aside0.mk (blk_below BK9.out hb)
          clear HQ1 BK9 hb
          go_wp2_with ((with_reducible refine gate_store (t := 45) (p := 10) (v := .tmp 63) rfl ?_); refine Shut.out ?_)
          unfold Shut
          obtain ⟨hnb, hnk⟩ := newbk q2 Bk.z.cs.toArray b.cs.toArray 45
          refine wpl_stbk 45 _ _ q2.heap.size b 45 Bk.z rfl rfl rfl rfl rfl (blk_new q2 _) bk_info ?_
          have HQ3 := Aside0.mk (below_step HQ2.out hnb)
          have BK9 := Aside0.mk (blk_below BK9'.out hnb)
          have BKa := Aside0.mk hnk
          clear HQ2 BK9' hnb hnk
          generalize hgen : (q2.alloc (.cells Bk.z.cs.toArray 45)).setRow q2.heap.size b.cs.toArray = q3 at HQ3 BK9 BKa
          change wpList _ _ _ _ _ ((q2.alloc (.cells Bk.z.cs.toArray 45)).setRow q2.heap.size b.cs.toArray)
          rw [hgen]
          clear hgen
          generalize q2.heap.size = g10 at BKa ⊢
          have heq : ∀ d W, (Op.equalIn (d + 2) 45 (.agg b.cs.toArray) (.agg b.cs.toArray)).run Try.prog W = .ok true W := fun d W => (bk_eq d b b W).trans (by simp)
          go_wp2_with (first | ((with_reducible refine gate_dst (N := 65) rfl ?_); refine wpList_load_row rfl 45 _ rfl g10 rfl 45 _ (0, 0) _ BKa.out bk_und rfl (by rw [bk_sz]; exact bk_info) ?_) | ((with_reducible refine gate_dst (N := 66) rfl ?_); refine wpList_load_row rfl 45 _ rfl g9 rfl 45 _ (0, 0) _ BK9.out bk_und rfl (by rw [bk_sz]; exact bk_info) ?_))
          go_roundw
          case rel => exact ⟨j + 1, by omega, by go_num, HQ3⟩
          case measure => simp [intOf]; omega
        · go_wp2_with fail
          have HB' := Aside0.mk (below_step HB.out HQ.out)
          have HS' := Aside0.mk (HS.out.below HQ.out)
          have BKw' := Aside0.mk (blk_below BKw.out HQ.out)
          go_roundw
          case rel => exact ⟨i + 1, _, L3, [], want2, by omega, by go_num, hwl, hLl, HS', HB', BKw', HRD, rfl⟩
          case measure => simp [intOf]; omega
    have e1 : (k == 1) = false := by simpa using h1
    by_cases h3 : k = 3
    case pos =>
      have e3 : (k == 3) = true := by simpa using h3
      go_wp2_with fail
      refine (b_Crash HS.out CF.out hAF.out).mono ?_
      rintro e w6 ⟨rfl, hs, hm⟩
      rw [setl] at hs
      have HS6 := Aside0.mk hs
      have HB6 := Aside0.mk (hm.below HB.out HB.out.size (fun k hk => Nat.le_trans hBw (HS.out.base hk)))
      have BKw6 := Aside0.mk (hm.blk BKw.out (HS.out.far BKw.out (by decide)))
      clear hs hm HS HB BKw BK7 CB CF hj0 hj1 hj2 hj3 hAF
      have HS := HS6
      have HB := HB6
      have BKw := BKw6
      clear HS6 HB6 BKw6 w5
      have HIX := fun W j hj => run_index_w W want hwl j hj
      have HRD := HRD
      go_wp2_with ((with_reducible refine gate_dst (N := 54) rfl ?_); refine wpl_value rfl (load_run 53 (.tmp 5) rfl g5 rfl 53 _ (0, 0) _ BKw.out wt_und rfl (by rw [wcells_size, hwl]; exact wt_info)) ?_)
      go_loopw [55] (fun u wq => ∃ j : Nat, j ≤ 30 ∧ u = .int .i64 j ∧ Aside0 (Below w6.heap.size w6 wq)) (fun u _ => (30 - intOf u).toNat)
      case atStart => exact ⟨0, by omega, rfl, ⟨Below.refl _ _⟩⟩
      case round =>
        obtain ⟨j, hj, rfl, HQ⟩ := hrel
        by_cases hj30 : j < 30
        · have hix := fun W => HIX W j hj30
          obtain ⟨b, hbw⟩ : ∃ b : Bk, want[j]'(by omega) = b := ⟨_, rfl⟩
          have hrd : rd (L) ([]) (j : Int) = (b, 0) := by
            have h := HRD.out j hj30
            rw [← hbw, h]
            simp [List.getD, hwl, hj30]
          rw [hbw] at hix
          have hrd := Aside0.mk hrd
          go_wp2_with ((with_reducible refine gate_store (t := 45) (p := 9) (v := .tmp 58) rfl ?_); refine Shut.out ?_)
          unfold Shut
          obtain ⟨hnb, hnk⟩ := newbk wr Bk.z.cs.toArray b.cs.toArray 45
          refine wpl_stbk 45 _ _ wr.heap.size b 45 Bk.z rfl rfl rfl rfl rfl (blk_new wr _) bk_info ?_
          have HQ1 := Aside0.mk (below_step HQ.out hnb)
          have BK9 := Aside0.mk hnk
          clear HQ hnb hnk
          generalize hgen : (wr.alloc (.cells Bk.z.cs.toArray 45)).setRow wr.heap.size b.cs.toArray = q1 at HQ1 BK9
          change wpList _ _ _ _ _ ((wr.alloc (.cells Bk.z.cs.toArray 45)).setRow wr.heap.size b.cs.toArray)
          rw [hgen]
          clear hgen
          generalize wr.heap.size = g9 at BK9 ⊢
          go_wp2_with fail
          refine (l_Read (HS.out.below HQ1.out) (j : Int) hrd.out).mono ?_
          rintro e q2 ⟨rfl, hb⟩
          have HQ2 := Aside0.mk (below_step HQ1.out hb)
          have BK9' := Aside0.mk (blk_below BK9.out hb)
          clear HQ1 BK9 hb
          go_wp2_with ((with_reducible refine gate_store (t := 45) (p := 10) (v := .tmp 63) rfl ?_); refine Shut.out ?_)
          unfold Shut
          obtain ⟨hnb, hnk⟩ := newbk q2 Bk.z.cs.toArray b.cs.toArray 45
          refine wpl_stbk 45 _ _ q2.heap.size b 45 Bk.z rfl rfl rfl rfl rfl (blk_new q2 _) bk_info ?_
          have HQ3 := Aside0.mk (below_step HQ2.out hnb)
          have BK9 := Aside0.mk (blk_below BK9'.out hnb)
          have BKa := Aside0.mk hnk
          clear HQ2 BK9' hnb hnk
          generalize hgen : (q2.alloc (.cells Bk.z.cs.toArray 45)).setRow q2.heap.size b.cs.toArray = q3 at HQ3 BK9 BKa
          change wpList _ _ _ _ _ ((q2.alloc (.cells Bk.z.cs.toArray 45)).setRow q2.heap.size b.cs.toArray)
          rw [hgen]
          clear hgen
          generalize q2.heap.size = g10 at BKa ⊢
          have heq : ∀ d W, (Op.equalIn (d + 2) 45 (.agg b.cs.toArray) (.agg b.cs.toArray)).run Try.prog W = .ok true W := fun d W => (bk_eq d b b W).trans (by simp)
          go_wp2_with (first | ((with_reducible refine gate_dst (N := 65) rfl ?_); refine wpList_load_row rfl 45 _ rfl g10 rfl 45 _ (0, 0) _ BKa.out bk_und rfl (by rw [bk_sz]; exact bk_info) ?_) | ((with_reducible refine gate_dst (N := 66) rfl ?_); refine wpList_load_row rfl 45 _ rfl g9 rfl 45 _ (0, 0) _ BK9.out bk_und rfl (by rw [bk_sz]; exact bk_info) ?_))
          go_roundw
          case rel => exact ⟨j + 1, by omega, by go_num, HQ3⟩
          case measure => simp [intOf]; omega
        · go_wp2_with fail
          have HB' := Aside0.mk (below_step HB.out HQ.out)
          have HS' := Aside0.mk (HS.out.below HQ.out)
          have BKw' := Aside0.mk (blk_below BKw.out HQ.out)
          go_roundw
          case rel => exact ⟨i + 1, _, L, [], want, by omega, by go_num, hwl, hLl, HS', HB', BKw', HRD, rfl⟩
          case measure => simp [intOf]; omega
    have e3 : (k == 3) = false := by simpa using h3
    have HIX := fun W j hj => run_index_w W want hwl j hj
    have HRD := HRD
    go_wp2_with ((with_reducible refine gate_dst (N := 54) rfl ?_); refine wpl_value rfl (load_run 53 (.tmp 5) rfl g5 rfl 53 _ (0, 0) _ BKw.out wt_und rfl (by rw [wcells_size, hwl]; exact wt_info)) ?_)
    go_loopw [55] (fun u wq => ∃ j : Nat, j ≤ 30 ∧ u = .int .i64 j ∧ Aside0 (Below w5.heap.size w5 wq)) (fun u _ => (30 - intOf u).toNat)
    case atStart => exact ⟨0, by omega, rfl, ⟨Below.refl _ _⟩⟩
    case round =>
      obtain ⟨j, hj, rfl, HQ⟩ := hrel
      by_cases hj30 : j < 30
      · have hix := fun W => HIX W j hj30
        obtain ⟨b, hbw⟩ : ∃ b : Bk, want[j]'(by omega) = b := ⟨_, rfl⟩
        have hrd : rd (L) ([]) (j : Int) = (b, 0) := by
          have h := HRD.out j hj30
          rw [← hbw, h]
          simp [List.getD, hwl, hj30]
        rw [hbw] at hix
        have hrd := Aside0.mk hrd
        go_wp2_with ((with_reducible refine gate_store (t := 45) (p := 9) (v := .tmp 58) rfl ?_); refine Shut.out ?_)
        unfold Shut
        obtain ⟨hnb, hnk⟩ := newbk wr Bk.z.cs.toArray b.cs.toArray 45
        refine wpl_stbk 45 _ _ wr.heap.size b 45 Bk.z rfl rfl rfl rfl rfl (blk_new wr _) bk_info ?_
        have HQ1 := Aside0.mk (below_step HQ.out hnb)
        have BK9 := Aside0.mk hnk
        clear HQ hnb hnk
        generalize hgen : (wr.alloc (.cells Bk.z.cs.toArray 45)).setRow wr.heap.size b.cs.toArray = q1 at HQ1 BK9
        change wpList _ _ _ _ _ ((wr.alloc (.cells Bk.z.cs.toArray 45)).setRow wr.heap.size b.cs.toArray)
        rw [hgen]
        clear hgen
        generalize wr.heap.size = g9 at BK9 ⊢
        go_wp2_with fail
        refine (l_Read (HS.out.below HQ1.out) (j : Int) hrd.out).mono ?_
        rintro e q2 ⟨rfl, hb⟩
        have HQ2 := Aside0.mk (below_step HQ1.out hb)
        have BK9' := Aside0.mk (blk_below BK9.out hb)
        clear HQ1 BK9 hb
        go_wp2_with ((with_reducible refine gate_store (t := 45) (p := 10) (v := .tmp 63) rfl ?_); refine Shut.out ?_)
        unfold Shut
        obtain ⟨hnb, hnk⟩ := newbk q2 Bk.z.cs.toArray b.cs.toArray 45
        refine wpl_stbk 45 _ _ q2.heap.size b 45 Bk.z rfl rfl rfl rfl rfl (blk_new q2 _) bk_info ?_
        have HQ3 := Aside0.mk (below_step HQ2.out hnb)
        have BK9 := Aside0.mk (blk_below BK9'.out hnb)
        have BKa := Aside0.mk hnk
        clear HQ2 BK9' hnb hnk
        generalize hgen : (q2.alloc (.cells Bk.z.cs.toArray 45)).setRow q2.heap.size b.cs.toArray = q3 at HQ3 BK9 BKa
        change wpList _ _ _ _ _ ((q2.alloc (.cells Bk.z.cs.toArray 45)).setRow q2.heap.size b.cs.toArray)
        rw [hgen]
        clear hgen
        generalize q2.heap.size = g10 at BKa ⊢
        have heq : ∀ d W, (Op.equalIn (d + 2) 45 (.agg b.cs.toArray) (.agg b.cs.toArray)).run Try.prog W = .ok true W := fun d W => (bk_eq d b b W).trans (by simp)
        go_wp2_with (first | ((with_reducible refine gate_dst (N := 65) rfl ?_); refine wpList_load_row rfl 45 _ rfl g10 rfl 45 _ (0, 0) _ BKa.out bk_und rfl (by rw [bk_sz]; exact bk_info) ?_) | ((with_reducible refine gate_dst (N := 66) rfl ?_); refine wpList_load_row rfl 45 _ rfl g9 rfl 45 _ (0, 0) _ BK9.out bk_und rfl (by rw [bk_sz]; exact bk_info) ?_))
        go_roundw
        case rel => exact ⟨j + 1, by omega, by go_num, HQ3⟩
        case measure => simp [intOf]; omega
      · go_wp2_with fail
        have HB' := Aside0.mk (below_step HB.out HQ.out)
        have HS' := Aside0.mk (HS.out.below HQ.out)
        have BKw' := Aside0.mk (blk_below BKw.out HQ.out)
        go_roundw
        case rel => exact ⟨i + 1, _, L, [], want, by omega, by go_num, hwl, hLl, HS', HB', BKw', HRD, rfl⟩
        case measure => simp [intOf]; omega
theorem lombardlaw19_BlockSyncs.calls (A0 : Option Addr) (c0 : Nat) (l0 : List (S34)) (r : Bool) (w : World) (hr0 : Kd.C k34 w A0 l0.length l0) (hc0 : l0.length ≤ c0) (h : lombardlaw19_BlockSyncs.f l0 = some r) :
    Calls Try.prog 7 #[.slice A0 l0.length c0] w fun e w' => e = .returned (.bool r) ∧ Below w.heap.size w w' := by
  obtain rfl := Option.some.inj h
  exact lombardlaw19_BlockSyncs.walk A0 c0 l0 w hr0 hc0


end Go.Proofs.Ytpfkjjaohmdnjaa.Print
