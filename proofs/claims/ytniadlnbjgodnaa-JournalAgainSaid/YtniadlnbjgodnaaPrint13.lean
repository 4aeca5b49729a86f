-- written by this session's program wip/hybrid.py over the kit's printer, and by hand. Not trusted: Lean checks it.
import Derived.Test.YtniadlnbjgodnaaPrint0
import Derived.Test.YtniadlnbjgodnaaPrint3
namespace Go.Proofs.Ytniadlnbjgodnaa.Print
open Go.RowKit Go.Proofs.YtniadlnbjgodnaaW.PrintWords Go.Proofs.YtniadlnbjgodnaaW.PrintLast Go.Proofs.YtniadlnbjgodnaaW.PrintMore
attribute [local go_sem] max2_int min2_int max_two min_two max_three min_three max_four min_four   -- for this text's walks alone
set_option linter.unusedVariables false
set_option linter.unusedSimpArgs false

/-! ### lombardlaw20_JournalAgain: function 7 -/
def lombardlaw20_JournalAgain.f (l : List S40) : Option Bool := if l.all (fun o => o.f2.all (fun x => decide (0 ≤ x ∧ x < 256))) = true then some true else none
theorem lombardlaw20_JournalAgain.great_ (l : List S40) (hl : l.length ≤ 9223372036854775807) : ∃ k r, lombardlaw20_great.f k l = some r := by
  have H : ∀ (n : Nat) (i : Nat) (s : Int), l.length - i + 1 ≤ n → i ≤ l.length → ∃ r, lombardlaw20_great.l0 n l s l (l.length : Int) (i : Int) = some r := by
    intro n
    induction n with
    | zero => intro i s h; omega
    | succ n ih =>
      intro i s h hi
      rw [lombardlaw20_great.l0]
      by_cases hlt : i < l.length
      · rw [if_pos (by omega), if_pos (by omega), if_pos (by omega)]
        split
        · exact ⟨_, rfl⟩
        · split
          · exact ⟨_, rfl⟩
          · have e : wrap64 ((i : Int) + 1) = ((i + 1 : Nat) : Int) := by unfold wrap64; omega
            rw [e]
            exact ih (i + 1) _ (by omega) (by omega)
      · rw [if_neg (by omega)]
        split <;> exact ⟨_, rfl⟩
  obtain ⟨r, hr⟩ := H (l.length + 1) 0 0 (by omega) (by omega)
  exact ⟨l.length + 1, r, hr⟩
theorem lombardlaw20_JournalAgain.op_all (k a : Int) (A2 A3 : Option Addr) (n2 c2 n3 c3 : Nat) : (#[Value.int .i64 k, .int .i64 a, .slice A2 n2 c2, .slice A3 n3 c3] : Array Value).all (·.oneCell') = true := by kernel_rfl
theorem lombardlaw20_JournalAgain.same {w : World} {A0 A1 : Option Addr} {c0 c1 : Nat} {a : List (List Int)} (h0 : Kd.C (Kd.slice 5 (Kd.int .u8)) w A0 a.length a) (h1 : Kd.C (Kd.slice 5 (Kd.int .u8)) w A1 a.length a) : Calls Try.prog 24 #[.slice A0 a.length c0, .slice A1 a.length c1] w fun e w' => e = .returned (.bool true) ∧ Below w.heap.size w w' := by
  have := k_Same (c0 := c0) (c1 := c1) h0 h1
  rwa [decide_eq_true rfl] at this
set_option maxHeartbeats 32000000 in
set_option maxRecDepth 100000 in
theorem lombardlaw20_JournalAgain.walk (A0 : Option Addr) (c0 : Nat) (l0 : List S40) (w : World) (hr0 : Kd.C k40 w A0 l0.length l0) (hc0 : l0.length ≤ c0) (hby : ∀ o ∈ l0, ∀ x ∈ o.f2, 0 ≤ x ∧ x < 256) : Calls Try.prog 7 #[.slice A0 l0.length c0] w fun e w' => e = .returned (.bool true) ∧ Below w.heap.size w w' := by
  obtain ⟨kl0, rl0, hgl0⟩ := lombardlaw20_JournalAgain.great_ l0 hr0.2.1
  replace hgl0 := Aside0.mk hgl0
  have HR0 := Aside0.mk hr0
  have hl63 := hr0.2.1
  replace hby := Aside0.mk hby
  clear hr0
  go_enter Try.func7, Try.ntmps7
  go_wp2_with fail
  refine j_alive.mono ?_
  rintro e w1 ⟨rfl, hb⟩
  have HB := Aside0.mk hb
  clear hb
  go_wp2_with fail
  with_reducible refine (lombardlaw20_great.calls kl0 A0 c0 l0 rl0 w1 (Kd.C_below HR0.out HB.out) hc0 hgl0.out).mono ?_
  rintro e w2 ⟨rfl, hb⟩
  have HB' := Aside0.mk (below_step HB.out hb)
  clear hb HB
  have HB := HB'
  clear HB' hgl0
  cases rl0
  case true =>
    go_wp2_with fail
    go_ret
    exact ⟨rfl, HB.out⟩
  go_wp2_with fail
  refine (C_new HB.out 300 (by omega)).mono ?_
  rintro e w3 ⟨p, rfl, gl, gm, v, hs, _⟩
  have HS := Aside0.mk hs
  clear hs HB
  go_wp2_with fail
  refine (C_openG HS.out (okS_zeros 300) (GJ.new 300 (by omega))).mono ?_
  rintro e w4 ⟨pj, lv, v1, rfl, hl, _, _, _⟩
  have HL := Aside0.mk hl
  clear hl HS
  go_wp2_with fail
  go_loopw [5, 28] (fun x y wr => ∃ (i pj : Nat) (lv v : Value) (L : List (Bk × Bool)) (W : List (Int × Bk)) (rs : List (List Int)), i ≤ l0.length ∧ x = .pointer (some ⟨pj, 0, none⟩) ∧ y = .int .i64 i ∧ Aside0 (LS w wr p gl gm v L W pj lv rs) ∧ Aside0 (GJ L W rs) ∧ Aside0 (okS L W)) (fun _ y _ => l0.length - (intOf y).toNat)
  case atStart => exact ⟨0, pj, lv, v1, zeros 300, [], [], Nat.zero_le _, rfl, rfl, HL, ⟨GJ.new 300 (by omega)⟩, ⟨okS_zeros 300⟩⟩
  case round =>
    clear HL
    obtain ⟨i, pj, lv, v, L, W, rs, hi, rfl, rfl, HL, HG, HO⟩ := hrel
    by_cases hlt : i < l0.length
    case neg =>
      go_wp2_with fail
      go_ret
      exact ⟨rfl, HL.out.s.b⟩
    obtain ⟨ad, A2, c2, A3, c3, hA, hk0, hk1, hk2, hk3, hc2, hCB, hc3, hCF⟩ := at_T40 HR0.out (i : Int) (by omega) (by omega)
    have hbx := hby.out (rd_T40 l0 (i : Int)) (by unfold rd_T40; rw [Int.toNat_natCast]; simp [List.getD, hlt])
    rw [Int.toNat_natCast] at hk0 hk1 hk2 hk3
    generalize rd_T40 l0 (i : Int) = o at hk0 hk1 hk2 hk3 hc2 hCB hc3 hCF hbx
    obtain ⟨k, a, bs, fs⟩ := o
    simp only at hk0 hk1 hk2 hk3 hc2 hCB hc3 hCF hbx
    subst hA
    have CB0 := Aside0.mk hCB
    have CF0 := Aside0.mk hCF
    replace hbx := Aside0.mk hbx
    have HBr := HL.out.s.b
    replace hk0 := pw_cell_below HBr hk0
    replace hk1 := pw_cell_below HBr hk1
    replace hk2 := pw_cell_below HBr hk2
    replace hk3 := pw_cell_below HBr hk3
    clear hCB hCF
    go_wp2_with ((with_reducible refine gate_store (t := 40) (p := 8) (v := .tmp 31) rfl ?_); refine Shut.out ?_)
    unfold Shut
    obtain ⟨hnb, hnk⟩ := newbk wr #[.int .i64 0, .int .i64 0, .slice none 0 0, .slice none 0 0] #[.int .i64 k, .int .i64 a, .slice A2 bs.length c2, .slice A3 fs.length c3] 40
    refine store_rowTo rfl 40 (.tmp 8) (.tmp 31) rfl rfl wr.heap.size #[.int .i64 k, .int .i64 a, .slice A2 bs.length c2, .slice A3 fs.length c3] rfl rfl 40 _ (blk_new wr _) (by kernel_rfl) rfl (lombardlaw20_JournalAgain.op_all _ _ _ _ _ _ _ _) ?_
    have HL5 := Aside0.mk (HL.out.below hnb)
    have BKo := Aside0.mk hnk
    clear HL hnb hnk hk0 hk1 hk2 hk3 HBr
    generalize (wr.alloc (.cells #[.int .i64 0, .int .i64 0, .slice none 0 0, .slice none 0 0] 40)).setRow wr.heap.size #[.int .i64 k, .int .i64 a, .slice A2 bs.length c2, .slice A3 fs.length c3] = w5 at HL5 BKo ⊢
    generalize wr.heap.size = go at BKo ⊢
    have hj0 : w5.cell? ⟨go, 0, none⟩ = some (.int .i64 k) := (blk_cell BKo.out 0).trans rfl
    have hj1 : w5.cell? ⟨go, 1, none⟩ = some (.int .i64 a) := (blk_cell BKo.out 1).trans rfl
    have hj2 : w5.cell? ⟨go, 2, none⟩ = some (.slice A2 bs.length c2) := (blk_cell BKo.out 2).trans rfl
    have hj3 : w5.cell? ⟨go, 3, none⟩ = some (.slice A3 fs.length c3) := (blk_cell BKo.out 3).trans rfl
    by_cases h1 : k = 1
    case pos =>
      subst h1
      have e1 : ((1 : Int) == 1) = true := rfl
      go_wp2_with fail
      refine (C_app HL5.out HG.out (Kd.C_below CB0.out HL5.out.s.b) hc2 (HL5.out.s.arg CB0.out)).mono ?_
      rintro e w6 ⟨rfl, v6, lv6, hl, hm⟩
      have HL6 := Aside0.mk hl
      have BK6 := Aside0.mk (hm.blk BKo.out (HL5.out.far BKo.out (by decide)))
      have HGx := Aside0.mk (HG.out.app hbx.out)
      have HOx := Aside0.mk (okS_app HG.out HO.out hbx.out)
      clear hl hm HL5 BKo hj0 hj1 hj2 hj3 HG HO
      have hj1 : w6.cell? ⟨go, 1, none⟩ = some (.int .i64 a) := (blk_cell BK6.out 1).trans rfl
      generalize apW L W rs bs = W6 at HL6 HGx HOx
      generalize apR L rs bs = rs6 at HL6 HGx HOx
      by_cases hc : apC L rs bs = 0
      case neg =>
        have hc1 : (apC L rs bs == 0) = false := by simpa using hc
        generalize apC L rs bs = er at hc1 ⊢
        clear hc hj1
        have HLx := HL6
        clear HL6 BK6
        go_wp2_with fail
        refine (C_openG HLx.out.s HOx.out HGx.out).mono ?_
        rintro e q1 ⟨pk, lk, vk, rfl, hl, hm, _, _⟩
        obtain ⟨hoj, hor⟩ := HLx.out.mv hm
        have HK := Aside0.mk hl
        have OJ := Aside0.mk hoj
        have OR := Aside0.mk hor
        clear hl hm hoj hor HLx
        have hok := HGx.out.hr
        have hln := HGx.out.len
        replace hok := Aside0.mk hok
        go_wp2_with fail
        refine (C_records HK.out.j HK.out.r hok.out hln).mono ?_
        rintro e q2 ⟨Ak, ck, rfl, hR, hb⟩
        have HK2 := Aside0.mk (HK.out.below hb)
        have OJ2 := Aside0.mk (OJ.out.below hb)
        have OR2 := Aside0.mk (Kd.R_below OR.out hb)
        have RK2 := Aside0.mk hR
        clear hR hb HK OJ OR
        go_wp2_with fail
        refine (C_records OJ2.out OR2.out hok.out hln).mono ?_
        rintro e q3 ⟨Aj, cj, rfl, hR, hb⟩
        have HK3 := Aside0.mk (HK2.out.below hb)
        have OJ3 := Aside0.mk (OJ2.out.below hb)
        have RK3 := Aside0.mk (Kd.R_below RK2.out hb)
        have RJ3 := Aside0.mk hR
        clear hR hb HK2 OJ2 OR2 RK2
        go_wp2_with fail
        refine (lombardlaw20_JournalAgain.same (Kd.R_reads' RK3.out).2.2 (Kd.R_reads' RJ3.out).2.2).mono ?_
        rintro e q4 ⟨rfl, hb⟩
        have HK4 := Aside0.mk (HK3.out.below hb)
        have OJ4 := Aside0.mk (OJ3.out.below hb)
        clear hb HK3 OJ3 RK3 RJ3
        go_wp2_with fail
        refine (j_Used HK4.out.j).mono ?_
        rintro e q5 ⟨rfl, hb⟩
        have HK5 := Aside0.mk (HK4.out.below hb)
        have OJ5 := Aside0.mk (OJ4.out.below hb)
        clear hb HK4 OJ4
        go_wp2_with fail
        refine (j_Used OJ5.out).mono ?_
        rintro e q6 ⟨rfl, hb⟩
        have HK6 := Aside0.mk (HK5.out.below hb)
        clear hb HK5 OJ5
        have eu : ∀ n : Int, (n != n) = false := fun n => by simp
        go_wp2_with fail
        go_roundw
        case rel => exact ⟨i + 1, pk, lk, vk, _, _, _, by omega, rfl, by go_num, HK6, HGx, HOx⟩
        case measure => simp [intOf]; omega
      rw [hc]
      have hc1 : ((0 : Int) == 0) = true := rfl
      clear hc
      by_cases ha : a.tmod 2 = 0
      case neg =>
        have ha1 : (a.tmod 2 == 0) = false := by simpa using ha
        clear ha
        have HLx := HL6
        clear HL6 BK6
        go_wp2_with fail
        refine (C_openG HLx.out.s HOx.out HGx.out).mono ?_
        rintro e q1 ⟨pk, lk, vk, rfl, hl, hm, _, _⟩
        obtain ⟨hoj, hor⟩ := HLx.out.mv hm
        have HK := Aside0.mk hl
        have OJ := Aside0.mk hoj
        have OR := Aside0.mk hor
        clear hl hm hoj hor HLx
        have hok := HGx.out.hr
        have hln := HGx.out.len
        replace hok := Aside0.mk hok
        go_wp2_with fail
        refine (C_records HK.out.j HK.out.r hok.out hln).mono ?_
        rintro e q2 ⟨Ak, ck, rfl, hR, hb⟩
        have HK2 := Aside0.mk (HK.out.below hb)
        have OJ2 := Aside0.mk (OJ.out.below hb)
        have OR2 := Aside0.mk (Kd.R_below OR.out hb)
        have RK2 := Aside0.mk hR
        clear hR hb HK OJ OR
        go_wp2_with fail
        refine (C_records OJ2.out OR2.out hok.out hln).mono ?_
        rintro e q3 ⟨Aj, cj, rfl, hR, hb⟩
        have HK3 := Aside0.mk (HK2.out.below hb)
        have OJ3 := Aside0.mk (OJ2.out.below hb)
        have RK3 := Aside0.mk (Kd.R_below RK2.out hb)
        have RJ3 := Aside0.mk hR
        clear hR hb HK2 OJ2 OR2 RK2
        go_wp2_with fail
        refine (lombardlaw20_JournalAgain.same (Kd.R_reads' RK3.out).2.2 (Kd.R_reads' RJ3.out).2.2).mono ?_
        rintro e q4 ⟨rfl, hb⟩
        have HK4 := Aside0.mk (HK3.out.below hb)
        have OJ4 := Aside0.mk (OJ3.out.below hb)
        clear hb HK3 OJ3 RK3 RJ3
        go_wp2_with fail
        refine (j_Used HK4.out.j).mono ?_
        rintro e q5 ⟨rfl, hb⟩
        have HK5 := Aside0.mk (HK4.out.below hb)
        have OJ5 := Aside0.mk (OJ4.out.below hb)
        clear hb HK4 OJ4
        go_wp2_with fail
        refine (j_Used OJ5.out).mono ?_
        rintro e q6 ⟨rfl, hb⟩
        have HK6 := Aside0.mk (HK5.out.below hb)
        clear hb HK5 OJ5
        have eu : ∀ n : Int, (n != n) = false := fun n => by simp
        go_wp2_with fail
        go_roundw
        case rel => exact ⟨i + 1, pk, lk, vk, _, _, _, by omega, rfl, by go_num, HK6, HGx, HOx⟩
        case measure => simp [intOf]; omega
      have ha1 : (a.tmod 2 == 0) = true := by simpa using ha
      clear ha
      go_wp2_with fail
      refine (C_sync HL6.out).mono ?_
      rintro e w7 ⟨rfl, hl, _⟩
      have HLx := Aside0.mk hl
      have HGy := Aside0.mk HGx.out.sync
      have HOy := Aside0.mk (okS_setl (fun _ => 1) W6 0 L HOx.out)
      clear hl HL6 BK6 HGx HOx hj1
      have HGx := HGy
      have HOx := HOy
      clear HGy HOy
      go_wp2_with fail
      refine (C_openG HLx.out.s HOx.out HGx.out).mono ?_
      rintro e q1 ⟨pk, lk, vk, rfl, hl, hm, _, _⟩
      obtain ⟨hoj, hor⟩ := HLx.out.mv hm
      have HK := Aside0.mk hl
      have OJ := Aside0.mk hoj
      have OR := Aside0.mk hor
      clear hl hm hoj hor HLx
      have hok := HGx.out.hr
      have hln := HGx.out.len
      replace hok := Aside0.mk hok
      go_wp2_with fail
      refine (C_records HK.out.j HK.out.r hok.out hln).mono ?_
      rintro e q2 ⟨Ak, ck, rfl, hR, hb⟩
      have HK2 := Aside0.mk (HK.out.below hb)
      have OJ2 := Aside0.mk (OJ.out.below hb)
      have OR2 := Aside0.mk (Kd.R_below OR.out hb)
      have RK2 := Aside0.mk hR
      clear hR hb HK OJ OR
      go_wp2_with fail
      refine (C_records OJ2.out OR2.out hok.out hln).mono ?_
      rintro e q3 ⟨Aj, cj, rfl, hR, hb⟩
      have HK3 := Aside0.mk (HK2.out.below hb)
      have OJ3 := Aside0.mk (OJ2.out.below hb)
      have RK3 := Aside0.mk (Kd.R_below RK2.out hb)
      have RJ3 := Aside0.mk hR
      clear hR hb HK2 OJ2 OR2 RK2
      go_wp2_with fail
      refine (lombardlaw20_JournalAgain.same (Kd.R_reads' RK3.out).2.2 (Kd.R_reads' RJ3.out).2.2).mono ?_
      rintro e q4 ⟨rfl, hb⟩
      have HK4 := Aside0.mk (HK3.out.below hb)
      have OJ4 := Aside0.mk (OJ3.out.below hb)
      clear hb HK3 OJ3 RK3 RJ3
      go_wp2_with fail
      refine (j_Used HK4.out.j).mono ?_
      rintro e q5 ⟨rfl, hb⟩
      have HK5 := Aside0.mk (HK4.out.below hb)
      have OJ5 := Aside0.mk (OJ4.out.below hb)
      clear hb HK4 OJ4
      go_wp2_with fail
      refine (j_Used OJ5.out).mono ?_
      rintro e q6 ⟨rfl, hb⟩
      have HK6 := Aside0.mk (HK5.out.below hb)
      clear hb HK5 OJ5
      have eu : ∀ n : Int, (n != n) = false := fun n => by simp
      go_wp2_with fail
      go_roundw
      case rel => exact ⟨i + 1, pk, lk, vk, _, _, _, by omega, rfl, by go_num, HK6, HGx, HOx⟩
      case measure => simp [intOf]; omega
    have e1 : (k == 1) = false := by simpa using h1
    by_cases h3 : k = 3
    case pos =>
      subst h3
      have e3 : ((3 : Int) == 3) = true := rfl
      clear h1
      go_wp2_with fail
      refine (C_sync HL5.out).mono ?_
      rintro e w6 ⟨rfl, hl, hm⟩
      have HL6 := Aside0.mk hl
      have BK6 := Aside0.mk (hm.blk BKo.out (HL5.out.s.s.far BKo.out (by decide)))
      have HG6 := Aside0.mk HG.out.sync
      have HO6 := Aside0.mk (okS_setl (fun _ => 1) W 0 L HO.out)
      clear hl hm HL5 BKo hj0 hj1 hj2 hj3 HG HO
      generalize setl (fun _ => 1) 0 W L = L6 at HL6 HG6 HO6
      have hj3 : w6.cell? ⟨go, 3, none⟩ = some (.slice A3 fs.length c3) := (blk_cell BK6.out 3).trans rfl
      go_wp2_with fail
      refine (C_crash HL6.out.s (Kd.C_below CF0.out HL6.out.s.b) (HL6.out.s.arg CF0.out)).mono ?_
      rintro e w7 ⟨rfl, hs, hm⟩
      obtain ⟨hoj, hor⟩ := HL6.out.mv hm
      have HLx := Aside0.mk (show LS w w7 p gl gm (.slice none 0 0) L6 [] pj lv rs from ⟨hs, hoj, hor, HL6.out.p⟩)
      have HGx := HG6
      have HOx := HO6
      clear hs hm hoj hor HL6 BK6 HG6 HO6 hj3
      go_wp2_with fail
      refine (C_openG HLx.out.s HOx.out HGx.out).mono ?_
      rintro e q1 ⟨pk, lk, vk, rfl, hl, hm, _, _⟩
      obtain ⟨hoj, hor⟩ := HLx.out.mv hm
      have HK := Aside0.mk hl
      have OJ := Aside0.mk hoj
      have OR := Aside0.mk hor
      clear hl hm hoj hor HLx
      have hok := HGx.out.hr
      have hln := HGx.out.len
      replace hok := Aside0.mk hok
      go_wp2_with fail
      refine (C_records HK.out.j HK.out.r hok.out hln).mono ?_
      rintro e q2 ⟨Ak, ck, rfl, hR, hb⟩
      have HK2 := Aside0.mk (HK.out.below hb)
      have OJ2 := Aside0.mk (OJ.out.below hb)
      have OR2 := Aside0.mk (Kd.R_below OR.out hb)
      have RK2 := Aside0.mk hR
      clear hR hb HK OJ OR
      go_wp2_with fail
      refine (C_records OJ2.out OR2.out hok.out hln).mono ?_
      rintro e q3 ⟨Aj, cj, rfl, hR, hb⟩
      have HK3 := Aside0.mk (HK2.out.below hb)
      have OJ3 := Aside0.mk (OJ2.out.below hb)
      have RK3 := Aside0.mk (Kd.R_below RK2.out hb)
      have RJ3 := Aside0.mk hR
      clear hR hb HK2 OJ2 OR2 RK2
      go_wp2_with fail
      refine (lombardlaw20_JournalAgain.same (Kd.R_reads' RK3.out).2.2 (Kd.R_reads' RJ3.out).2.2).mono ?_
      rintro e q4 ⟨rfl, hb⟩
      have HK4 := Aside0.mk (HK3.out.below hb)
      have OJ4 := Aside0.mk (OJ3.out.below hb)
      clear hb HK3 OJ3 RK3 RJ3
      go_wp2_with fail
      refine (j_Used HK4.out.j).mono ?_
      rintro e q5 ⟨rfl, hb⟩
      have HK5 := Aside0.mk (HK4.out.below hb)
      have OJ5 := Aside0.mk (OJ4.out.below hb)
      clear hb HK4 OJ4
      go_wp2_with fail
      refine (j_Used OJ5.out).mono ?_
      rintro e q6 ⟨rfl, hb⟩
      have HK6 := Aside0.mk (HK5.out.below hb)
      clear hb HK5 OJ5
      have eu : ∀ n : Int, (n != n) = false := fun n => by simp
      go_wp2_with fail
      go_roundw
      case rel => exact ⟨i + 1, pk, lk, vk, _, _, _, by omega, rfl, by go_num, HK6, HGx, HOx⟩
      case measure => simp [intOf]; omega
    have e3 : (k == 3) = false := by simpa using h3
    have HLx := HL5
    have HGx := HG
    have HOx := HO
    clear HL5 BKo hj1 hj2 hj3 HG HO h1 h3
    go_wp2_with fail
    refine (C_openG HLx.out.s HOx.out HGx.out).mono ?_
    rintro e q1 ⟨pk, lk, vk, rfl, hl, hm, _, _⟩
    obtain ⟨hoj, hor⟩ := HLx.out.mv hm
    have HK := Aside0.mk hl
    have OJ := Aside0.mk hoj
    have OR := Aside0.mk hor
    clear hl hm hoj hor HLx
    have hok := HGx.out.hr
    have hln := HGx.out.len
    replace hok := Aside0.mk hok
    go_wp2_with fail
    refine (C_records HK.out.j HK.out.r hok.out hln).mono ?_
    rintro e q2 ⟨Ak, ck, rfl, hR, hb⟩
    have HK2 := Aside0.mk (HK.out.below hb)
    have OJ2 := Aside0.mk (OJ.out.below hb)
    have OR2 := Aside0.mk (Kd.R_below OR.out hb)
    have RK2 := Aside0.mk hR
    clear hR hb HK OJ OR
    go_wp2_with fail
    refine (C_records OJ2.out OR2.out hok.out hln).mono ?_
    rintro e q3 ⟨Aj, cj, rfl, hR, hb⟩
    have HK3 := Aside0.mk (HK2.out.below hb)
    have OJ3 := Aside0.mk (OJ2.out.below hb)
    have RK3 := Aside0.mk (Kd.R_below RK2.out hb)
    have RJ3 := Aside0.mk hR
    clear hR hb HK2 OJ2 OR2 RK2
    go_wp2_with fail
    refine (lombardlaw20_JournalAgain.same (Kd.R_reads' RK3.out).2.2 (Kd.R_reads' RJ3.out).2.2).mono ?_
    rintro e q4 ⟨rfl, hb⟩
    have HK4 := Aside0.mk (HK3.out.below hb)
    have OJ4 := Aside0.mk (OJ3.out.below hb)
    clear hb HK3 OJ3 RK3 RJ3
    go_wp2_with fail
    refine (j_Used HK4.out.j).mono ?_
    rintro e q5 ⟨rfl, hb⟩
    have HK5 := Aside0.mk (HK4.out.below hb)
    have OJ5 := Aside0.mk (OJ4.out.below hb)
    clear hb HK4 OJ4
    go_wp2_with fail
    refine (j_Used OJ5.out).mono ?_
    rintro e q6 ⟨rfl, hb⟩
    have HK6 := Aside0.mk (HK5.out.below hb)
    clear hb HK5 OJ5
    have eu : ∀ n : Int, (n != n) = false := fun n => by simp
    go_wp2_with fail
    go_roundw
    case rel => exact ⟨i + 1, pk, lk, vk, _, _, _, by omega, rfl, by go_num, HK6, HGx, HOx⟩
    case measure => simp [intOf]; omega
theorem lombardlaw20_JournalAgain.calls (A0 : Option Addr) (c0 : Nat) (l0 : List (S40)) (r : Bool) (w : World) (hr0 : Kd.C k40 w A0 l0.length l0) (hc0 : l0.length ≤ c0) (h : lombardlaw20_JournalAgain.f l0 = some r) :
    Calls Try.prog 7 #[.slice A0 l0.length c0] w fun e w' => e = .returned (.bool r) ∧ Below w.heap.size w w' := by
  unfold lombardlaw20_JournalAgain.f at h
  by_cases hc : l0.all (fun o => o.f2.all (fun x => decide (0 ≤ x ∧ x < 256))) = true
  · rw [if_pos hc] at h
    obtain rfl := Option.some.inj h
    refine lombardlaw20_JournalAgain.walk _ _ _ _ hr0 hc0 (fun o ho x hx => ?_)
    have := List.all_eq_true.1 (List.all_eq_true.1 hc o ho) x hx
    exact of_decide_eq_true this
  · rw [if_neg hc] at h
    cases h


end Go.Proofs.Ytniadlnbjgodnaa.Print
