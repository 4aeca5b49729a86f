-- written by this session's program wip/hybrid.py over the kit's printer, and by hand. Not trusted: Lean checks it.
import Derived.Test.YtniadlnbjgodnaaPrint0
import Derived.Test.YtniadlnbjgodnaaPrint3
namespace Go.Proofs.Ytniadlnbjgodnaa.Print
open Go.RowKit Go.Proofs.YtniadlnbjgodnaaW.PrintWords Go.Proofs.YtniadlnbjgodnaaW.PrintLast Go.Proofs.YtniadlnbjgodnaaW.PrintMore
attribute [local go_sem] max2_int min2_int max_two min_two max_three min_three max_four min_four   -- for this text's walks alone
set_option linter.unusedVariables false
set_option linter.unusedSimpArgs false

/-! ### lombardlaw20_JournalCrashes: function 4 -/
def lombardlaw20_JournalCrashes.f (l : List S40) : Option Bool := if l.all (fun o => o.f2.all (fun x => decide (0 ≤ x ∧ x < 256))) = true then some true else none
theorem lombardlaw20_JournalCrashes.great_ (l : List S40) (hl : l.length ≤ 9223372036854775807) : ∃ k r, lombardlaw20_great.f k l = some r := by
  have H : ∀ (n : Nat) (i : Nat) (s : Int), l.length - i + 1 ≤ n → i ≤ l.length → ∃ r, lombardlaw20_great.l0 n l s l (l.length : Int) (i : Int) = some r := by
    intro n
    induction n with
    | zero => intro i s h; omega
    | succ n ih =>
      intro i s h hi
      rw [lombardlaw20_great.l0]
      by_cases hlt : i < l.length
      · rw [if_pos (by omega), if_pos (by omega), if_pos (by omega)]
        split
        · exact ⟨_, rfl⟩
        · split
          · exact ⟨_, rfl⟩
          · have e : wrap64 ((i : Int) + 1) = ((i + 1 : Nat) : Int) := by unfold wrap64; omega
            rw [e]
            exact ih (i + 1) _ (by omega) (by omega)
      · rw [if_neg (by omega)]
        split <;> exact ⟨_, rfl⟩
  obtain ⟨r, hr⟩ := H (l.length + 1) 0 0 (by omega) (by omega)
  exact ⟨l.length + 1, r, hr⟩
theorem lombardlaw20_JournalCrashes.op_all (k a : Int) (A2 A3 : Option Addr) (n2 c2 n3 c3 : Nat) : (#[Value.int .i64 k, .int .i64 a, .slice A2 n2 c2, .slice A3 n3 c3] : Array Value).all (·.oneCell') = true := by kernel_rfl
theorem lombardlaw20_JournalCrashes.same {w : World} {A0 A1 : Option Addr} {c0 c1 : Nat} {a : List (List Int)} (h0 : Kd.C (Kd.slice 5 (Kd.int .u8)) w A0 a.length a) (h1 : Kd.C (Kd.slice 5 (Kd.int .u8)) w A1 a.length a) : Calls Try.prog 24 #[.slice A0 a.length c0, .slice A1 a.length c1] w fun e w' => e = .returned (.bool true) ∧ Below w.heap.size w w' := by
  have := k_Same (c0 := c0) (c1 := c1) h0 h1
  rwa [decide_eq_true rfl] at this
set_option maxHeartbeats 32000000 in
set_option maxRecDepth 100000 in
theorem lombardlaw20_JournalCrashes.walk (A0 : Option Addr) (c0 : Nat) (l0 : List S40) (w : World) (hr0 : Kd.C k40 w A0 l0.length l0) (hc0 : l0.length ≤ c0) (hby : ∀ o ∈ l0, ∀ x ∈ o.f2, 0 ≤ x ∧ x < 256) : Calls Try.prog 4 #[.slice A0 l0.length c0] w fun e w' => e = .returned (.bool true) ∧ Below w.heap.size w w' := by
  obtain ⟨kl0, rl0, hgl0⟩ := lombardlaw20_JournalCrashes.great_ l0 hr0.2.1
  replace hgl0 := Aside0.mk hgl0
  have HR0 := Aside0.mk hr0
  have hl63 := hr0.2.1
  replace hby := Aside0.mk hby
  clear hr0
  go_enter Try.func4, Try.ntmps4
  go_wp2_with fail
  refine j_alive.mono ?_
  rintro e w1 ⟨rfl, hb⟩
  have HB := Aside0.mk hb
  clear hb
  go_wp2_with fail
  with_reducible refine (lombardlaw20_great.calls kl0 A0 c0 l0 rl0 w1 (Kd.C_below HR0.out HB.out) hc0 hgl0.out).mono ?_
  rintro e w2 ⟨rfl, hb⟩
  have HB' := Aside0.mk (below_step HB.out hb)
  clear hb HB
  have HB := HB'
  clear HB' hgl0
  cases rl0
  case true =>
    go_wp2_with fail
    go_ret
    exact ⟨rfl, HB.out⟩
  go_wp2_with fail
  refine (C_new HB.out 300 (by omega)).mono ?_
  rintro e w3 ⟨p, rfl, gl, gm, v, hs, _⟩
  have HS := Aside0.mk hs
  clear hs HB
  go_wp2_with fail
  refine (C_openG HS.out (okS_zeros 300) (GJ.new 300 (by omega))).mono ?_
  rintro e w4 ⟨pj, lv, v1, rfl, hl, _, _, _⟩
  have HL := Aside0.mk hl
  clear hl HS
  go_wp2_with fail
  go_loopw [5, 7, 8, 34] (fun x z s y wr => ∃ (i pj ks c : Nat) (lv v : Value) (L : List (Bk × Bool)) (W : List (Int × Bk)) (rs : List (List Int)) (A : Option Addr) (cs : List Value), i ≤ l0.length ∧ x = .pointer (some ⟨pj, 0, none⟩) ∧ z = .slice A rs.length c ∧ s = .int .i64 ks ∧ y = .int .i64 i ∧ Aside0 (LS w wr p gl gm v L W pj lv rs) ∧ Aside0 (CJ L W rs ks) ∧ Aside0 (okS L W) ∧ Aside0 (AR w wr A c rs cs) ∧ Aside0 (FA (fun k => foot p gl gm v k ∨ jf pj lv k) A)) (fun _ _ _ y _ => l0.length - (intOf y).toNat)
  case atStart => exact ⟨0, pj, 0, 0, lv, v1, zeros 300, [], [], none, [], Nat.zero_le _, rfl, rfl, rfl, rfl, HL, ⟨CJ.new 300 (by omega)⟩, ⟨okS_zeros 300⟩, ⟨AR.nil _ _⟩, ⟨FA.nil _⟩⟩
  case round =>
    clear HL
    obtain ⟨i, pj, ks, c, lv, v, L, W, rs, A, cs, hi, rfl, rfl, rfl, rfl, HL, HG, HO, HA, HF⟩ := hrel
    by_cases hlt : i < l0.length
    case neg =>
      go_wp2_with fail
      go_ret
      exact ⟨rfl, HL.out.s.b⟩
    have hln := HG.out.g.len
    have hi1 : i + 1 ≤ l0.length := by omega
    obtain ⟨ad, A2, c2, A3, c3, hA, hk0, hk1, hk2, hk3, hc2, hCB, hc3, hCF⟩ := at_T40 HR0.out (i : Int) (by omega) (by omega)
    have hbx := hby.out (rd_T40 l0 (i : Int)) (by unfold rd_T40; rw [Int.toNat_natCast]; simp [List.getD, hlt])
    rw [Int.toNat_natCast] at hk0 hk1 hk2 hk3
    generalize rd_T40 l0 (i : Int) = o at hk0 hk1 hk2 hk3 hc2 hCB hc3 hCF hbx
    obtain ⟨k, a, bs, fs⟩ := o
    simp only at hk0 hk1 hk2 hk3 hc2 hCB hc3 hCF hbx
    subst hA
    have CB0 := Aside0.mk hCB
    have CF0 := Aside0.mk hCF
    replace hbx := Aside0.mk hbx
    have HBr := HL.out.s.b
    replace hk0 := pw_cell_below HBr hk0
    replace hk1 := pw_cell_below HBr hk1
    replace hk2 := pw_cell_below HBr hk2
    replace hk3 := pw_cell_below HBr hk3
    clear hCB hCF
    go_wp2_with ((with_reducible refine gate_store (t := 40) (p := 10) (v := .tmp 37) rfl ?_); refine Shut.out ?_)
    unfold Shut
    obtain ⟨hnb, hnk⟩ := newbk wr #[.int .i64 0, .int .i64 0, .slice none 0 0, .slice none 0 0] #[.int .i64 k, .int .i64 a, .slice A2 bs.length c2, .slice A3 fs.length c3] 40
    refine store_rowTo rfl 40 (.tmp 10) (.tmp 37) rfl rfl wr.heap.size #[.int .i64 k, .int .i64 a, .slice A2 bs.length c2, .slice A3 fs.length c3] rfl rfl 40 _ (blk_new wr _) (by kernel_rfl) rfl (lombardlaw20_JournalCrashes.op_all _ _ _ _ _ _ _ _) ?_
    have HL5 := Aside0.mk (HL.out.below hnb)
    have HA5 := Aside0.mk (HA.out.below hnb)
    have BKo := Aside0.mk hnk
    clear HL HA hnb hnk hk0 hk1 hk2 hk3 HBr
    generalize (wr.alloc (.cells #[.int .i64 0, .int .i64 0, .slice none 0 0, .slice none 0 0] 40)).setRow wr.heap.size #[.int .i64 k, .int .i64 a, .slice A2 bs.length c2, .slice A3 fs.length c3] = w5 at HL5 BKo HA5 ⊢
    generalize wr.heap.size = go at BKo ⊢
    have hj0 : w5.cell? ⟨go, 0, none⟩ = some (.int .i64 k) := (blk_cell BKo.out 0).trans rfl
    have hj1 : w5.cell? ⟨go, 1, none⟩ = some (.int .i64 a) := (blk_cell BKo.out 1).trans rfl
    have hj2 : w5.cell? ⟨go, 2, none⟩ = some (.slice A2 bs.length c2) := (blk_cell BKo.out 2).trans rfl
    have hj3 : w5.cell? ⟨go, 3, none⟩ = some (.slice A3 fs.length c3) := (blk_cell BKo.out 3).trans rfl
    by_cases h1 : k = 1
    case pos =>
      subst h1
      have e1 : ((1 : Int) == 1) = true := rfl
      go_wp2_with fail
      refine (C_app HL5.out HG.out.g (Kd.C_below CB0.out HL5.out.s.b) hc2 (HL5.out.s.arg CB0.out)).mono ?_
      rintro e w6 ⟨rfl, v6, lv6, hl, hm⟩
      have HL6 := Aside0.mk hl
      have BK6 := Aside0.mk (hm.blk BKo.out (op_far HL5.out BKo.out))
      obtain ⟨ha6, hf6⟩ := HA5.out.step HF.out hm
      have HA6 := Aside0.mk ha6
      have HF6 := Aside0.mk hf6
      have HG6 := Aside0.mk (HG.out.app hbx.out)
      have HO6 := Aside0.mk (okS_app HG.out.g HO.out hbx.out)
      clear hl hm ha6 hf6 HL5 BKo hj0 hj1 hj2 hj3 HG HO HA5 HF
      have hj2 : w6.cell? ⟨go, 2, none⟩ = some (.slice A2 bs.length c2) := (blk_cell BK6.out 2).trans rfl
      rcases apC_cases L rs bs with hc | hc
      case inl =>
        rw [apR_yes hc] at HL6 HG6
        rw [hc]
        generalize apW L W rs bs = W6 at HL6 HG6 HO6
        clear hc
        have hc1 : ((0 : Int) == 0) = true := rfl
        go_wp2_with ((with_reducible refine gate_builtin (b := .append) (xs := #[.tmp 48, .tmp 51]) rfl ?_); refine Shut.out ?_)
        unfold Shut
        change wpList _ _ _ _ _ (w6.alloc (.cells [Value.slice A2 bs.length c2].toArray 38))
        refine HA6.out.append HL6.out.s.b.size (by omega) hc2 CB0.out rfl (.tmp 48) (.tmp 51) rfl rfl rfl ?_
        intro A' c' cs' w7 ha hk7 hsz7 ho7 ht7 hp7 hat7
        generalize rs ++ [bs] = rs6 at ha HG6 HL6 ⊢
        have HLx := Aside0.mk (HL6.out.other HA6.out HF6.out hk7 hsz7 ho7 ht7 hp7)
        have HFx := Aside0.mk (HL6.out.newF HF6.out hat7)
        have HAx := Aside0.mk ha
        have HGx := HG6
        have HOx := HO6
        clear ha hk7 hsz7 ho7 ht7 hp7 hat7 HL6 HA6 HF6 HG6 HO6 BK6 hj2
        go_wp2_with fail
        refine (C_records HLx.out.j HLx.out.r HGx.out.g.hr HGx.out.g.len).mono ?_
        rintro e q1 ⟨Ar, cr, rfl, hR, hb⟩
        have HK1 := Aside0.mk (HLx.out.below hb)
        have HA1 := Aside0.mk (HAx.out.below hb)
        have RR1 := Aside0.mk hR
        clear hR hb HLx HAx
        go_wp2_with fail
        refine (lombardlaw20_JournalCrashes.same (Kd.R_reads' RR1.out).2.2 (HA1.out.C HK1.out.s.b)).mono ?_
        rintro e q2 ⟨rfl, hb⟩
        have HK2 := Aside0.mk (HK1.out.below hb)
        have HA2 := Aside0.mk (HA1.out.below hb)
        clear hb HK1 HA1 RR1
        go_wp2_with fail
        go_roundw
        case rel => exact ⟨i + 1, pj, ks, c', lv6, v6, L, W6, rs6, A', cs', hi1, rfl, rfl, rfl, by go_num, HK2, HGx, HOx, HA2, HFx⟩
        case measure => simp [intOf]; omega
      have hne : apC L rs bs ≠ 0 := by omega
      rw [apR_no hne] at HL6 HG6
      rw [apW_no hne] at HL6 HG6 HO6
      clear hne
      have HLx := HL6
      have HAx := HA6
      have HFx := HF6
      have HGx := HG6
      have HOx := HO6
      clear HL6 HA6 HF6 HG6 HO6 hj2 BK6
      rcases hc with hc | hc
      · rw [hc]
        go_wp2_with fail
        refine (C_records HLx.out.j HLx.out.r HGx.out.g.hr HGx.out.g.len).mono ?_
        rintro e q1 ⟨Ar, cr, rfl, hR, hb⟩
        have HK1 := Aside0.mk (HLx.out.below hb)
        have HA1 := Aside0.mk (HAx.out.below hb)
        have RR1 := Aside0.mk hR
        clear hR hb HLx HAx
        go_wp2_with fail
        refine (lombardlaw20_JournalCrashes.same (Kd.R_reads' RR1.out).2.2 (HA1.out.C HK1.out.s.b)).mono ?_
        rintro e q2 ⟨rfl, hb⟩
        have HK2 := Aside0.mk (HK1.out.below hb)
        have HA2 := Aside0.mk (HA1.out.below hb)
        clear hb HK1 HA1 RR1
        go_wp2_with fail
        go_roundw
        case rel => exact ⟨i + 1, pj, ks, c, lv6, v6, L, W, rs, A, cs, hi1, rfl, rfl, rfl, by go_num, HK2, HGx, HOx, HA2, HFx⟩
        case measure => simp [intOf]; omega
      · rw [hc]
        go_wp2_with fail
        refine (C_records HLx.out.j HLx.out.r HGx.out.g.hr HGx.out.g.len).mono ?_
        rintro e q1 ⟨Ar, cr, rfl, hR, hb⟩
        have HK1 := Aside0.mk (HLx.out.below hb)
        have HA1 := Aside0.mk (HAx.out.below hb)
        have RR1 := Aside0.mk hR
        clear hR hb HLx HAx
        go_wp2_with fail
        refine (lombardlaw20_JournalCrashes.same (Kd.R_reads' RR1.out).2.2 (HA1.out.C HK1.out.s.b)).mono ?_
        rintro e q2 ⟨rfl, hb⟩
        have HK2 := Aside0.mk (HK1.out.below hb)
        have HA2 := Aside0.mk (HA1.out.below hb)
        clear hb HK1 HA1 RR1
        go_wp2_with fail
        go_roundw
        case rel => exact ⟨i + 1, pj, ks, c, lv6, v6, L, W, rs, A, cs, hi1, rfl, rfl, rfl, by go_num, HK2, HGx, HOx, HA2, HFx⟩
        case measure => simp [intOf]; omega
    have e1 : (k == 1) = false := by simpa using h1
    by_cases h2 : k = 2
    case pos =>
      subst h2
      have e2 : ((2 : Int) == 2) = true := rfl
      clear h1
      go_wp2_with fail
      refine (C_sync HL5.out).mono ?_
      rintro e w6 ⟨rfl, hl, hm⟩
      obtain ⟨ha6, hf6⟩ := HA5.out.step HF.out (hm.wide (jf pj lv))
      have HLx := Aside0.mk hl
      have HAx := Aside0.mk ha6
      have HFx := Aside0.mk hf6
      have HGx := Aside0.mk (CJ.of HG.out.g.sync)
      have HOx := Aside0.mk (okS_setl (fun _ => 1) W 0 L HO.out)
      clear hl hm ha6 hf6 HL5 BKo hj0 hj1 hj2 hj3 HG HO HA5 HF
      go_wp2_with fail
      refine (C_records HLx.out.j HLx.out.r HGx.out.g.hr HGx.out.g.len).mono ?_
      rintro e q1 ⟨Ar, cr, rfl, hR, hb⟩
      have HK1 := Aside0.mk (HLx.out.below hb)
      have HA1 := Aside0.mk (HAx.out.below hb)
      have RR1 := Aside0.mk hR
      clear hR hb HLx HAx
      go_wp2_with fail
      refine (lombardlaw20_JournalCrashes.same (Kd.R_reads' RR1.out).2.2 (HA1.out.C HK1.out.s.b)).mono ?_
      rintro e q2 ⟨rfl, hb⟩
      have HK2 := Aside0.mk (HK1.out.below hb)
      have HA2 := Aside0.mk (HA1.out.below hb)
      clear hb HK1 HA1 RR1
      go_wp2_with fail
      go_roundw
      case rel => exact ⟨i + 1, pj, rs.length, c, lv, .slice none 0 0, setl (fun _ => 1) 0 W L, [], rs, A, cs, hi1, rfl, rfl, rfl, by go_num, HK2, HGx, HOx, HA2, HFx⟩
      case measure => simp [intOf]; omega
    have e2 : (k == 2) = false := by simpa using h2
    by_cases h3 : k = 3
    case pos =>
      subst h3
      have e3 : ((3 : Int) == 3) = true := rfl
      clear h1 h2
      obtain ⟨i2, L2, hki, hi2, hrec, hwip, hg2, hlen2, hok2⟩ := HG.out.crash HO.out (fateOf fs)
      have hokc := Aside0.mk (okS_setl (fateOf fs) W 0 L HO.out)
      have HG2 := Aside0.mk hg2
      have HO2 := Aside0.mk hok2
      replace hrec := Aside0.mk hrec
      replace hwip := Aside0.mk hwip
      clear hg2 hok2 hlen2 HG HO
      go_wp2_with fail
      refine (C_crash HL5.out.s (Kd.C_below CF0.out HL5.out.s.b) (HL5.out.s.arg CF0.out)).mono ?_
      rintro e w6 ⟨rfl, hs, hm⟩
      obtain ⟨ha6, hf6⟩ := HA5.out.step HF.out.left hm
      have HS6 := Aside0.mk hs
      have HA6 := Aside0.mk ha6
      have HF6 := Aside0.mk hf6
      clear hs hm ha6 hf6 HL5 HA5 HF BKo hj0 hj1 hj2 hj3
      go_wp2_with fail
      refine (C_open HS6.out hokc.out hrec.out hwip.out).mono ?_
      rintro e w7 ⟨pk, lk, v7, rfl, hl, hm, _, _⟩
      obtain ⟨ha7, hf7⟩ := HA6.out.step HF6.out hm
      have HL7 := Aside0.mk hl
      have HA7 := Aside0.mk ha7
      have HF7 := Aside0.mk hf7
      clear hl hm ha7 hf7 HS6 HA6 HF6 hokc hrec hwip
      obtain ⟨rs2, hrs2⟩ : ∃ rs2, rs2 = rs.take i2 := ⟨_, rfl⟩
      have hl2 : rs2.length = i2 := by rw [hrs2, List.length_take]; omega
      rw [← hrs2] at HL7 HG2
      subst hl2
      replace hrs2 := Aside0.mk hrs2
      have hok := HG2.out.hr
      have hln2 := HG2.out.len
      replace hok := Aside0.mk hok
      go_wp2_with fail
      refine (C_records HL7.out.j HL7.out.r hok.out hln2).mono ?_
      rintro e w8 ⟨Ak, ck, rfl, hR, hb⟩
      have HL8 := Aside0.mk (HL7.out.below hb)
      have HA8 := Aside0.mk (HA7.out.below hb)
      have RK8 := Aside0.mk hR
      clear hR hb HL7 HA7
      have hcl := HA8.out.hc
      have hsl := fun W => lb_cut (A := A) hi2 hcl W
      have g1 : ¬ (rs2.length : Int) < (ks : Int) := by omega
      have g2 : ¬ (rs.length : Int) < (rs2.length : Int) := by omega
      have hcut := HA8.out.cut rs2.length hi2
      rw [← hrs2.out] at hcut
      have HC8 := Aside0.mk (hcut.C HL8.out.s.b)
      clear hcut
      go_wp2_with fail
      refine (lombardlaw20_JournalCrashes.same (Kd.R_reads' RK8.out).2.2 HC8.out).mono ?_
      rintro e w9 ⟨rfl, hb⟩
      have HL9 := Aside0.mk (HL8.out.below hb)
      have HA9 := Aside0.mk (HA8.out.below hb)
      have RK9 := Aside0.mk (show RB w9 w7.heap.size (fun k => w7.heap.size ≤ k) (.slice Ak rs2.length ck) rs2 from Kd.R_below RK8.out hb)
      clear hb HL8 HA8 RK8 HC8 hsl g1 g2
      go_wp2_with fail
      refine (C_openG HL9.out.s HO2.out HG2.out).mono ?_
      rintro e x1 ⟨pm, lm, vm, rfl, hl, hm, _, _⟩
      obtain ⟨ha1, hf1⟩ := HA9.out.step HF7.out.left hm
      have HM1 := Aside0.mk hl
      have HA1 := Aside0.mk ha1
      have HF1 := Aside0.mk hf1
      have JK1 := Aside0.mk (HL9.out.mv hm).1
      have RK1 := Aside0.mk (RB.mv RK9.out hm HL9.out.s.s.rb)
      clear hl hm ha1 hf1 HL9 HA9 HF7 RK9
      go_wp2_with fail
      refine (C_records HM1.out.j HM1.out.r hok.out hln2).mono ?_
      rintro e x2 ⟨Am, cm, rfl, hR, hb⟩
      have HM2 := Aside0.mk (HM1.out.below hb)
      have HA2 := Aside0.mk (HA1.out.below hb)
      have JK2 := Aside0.mk (JK1.out.below hb)
      have RK2 := Aside0.mk (show RB x2 w7.heap.size (fun k => w7.heap.size ≤ k) (.slice Ak rs2.length ck) rs2 from Kd.R_below RK1.out hb)
      have RM2 := Aside0.mk hR
      clear hR hb HM1 HA1 JK1 RK1
      go_wp2_with fail
      refine (lombardlaw20_JournalCrashes.same (Kd.R_reads' RM2.out).2.2 (Kd.R_reads' RK2.out).2.2).mono ?_
      rintro e x3 ⟨rfl, hb⟩
      have HM3 := Aside0.mk (HM2.out.below hb)
      have HA3 := Aside0.mk (HA2.out.below hb)
      have JK3 := Aside0.mk (JK2.out.below hb)
      clear hb HM2 HA2 JK2 RK2 RM2
      go_wp2_with fail
      refine (j_Used HM3.out.j).mono ?_
      rintro e x4 ⟨rfl, hb⟩
      have HM4 := Aside0.mk (HM3.out.below hb)
      have HA4 := Aside0.mk (HA3.out.below hb)
      have JK4 := Aside0.mk (JK3.out.below hb)
      clear hb HM3 HA3 JK3
      go_wp2_with fail
      refine (j_Used JK4.out).mono ?_
      rintro e x5 ⟨rfl, hb⟩
      have HM5 := Aside0.mk (HM4.out.below hb)
      have HA5 := Aside0.mk (HA4.out.below hb)
      clear hb HM4 HA4 JK4
      have eu : ∀ n : Int, (n != n) = false := fun n => by simp
      go_wp2_with fail
      refine (b_Waiting HM5.out.s.s).mono ?_
      rintro e x6 ⟨rfl, hb⟩
      have HM6 := Aside0.mk (HM5.out.below hb)
      have HA6 := Aside0.mk (HA5.out.below hb)
      clear hb HM5 HA5
      have hcut := HA6.out.cut rs2.length hi2
      rw [← hrs2.out] at hcut
      have HC6 := Aside0.mk hcut
      clear hcut HA6
      have hsl := fun W => lb_cut3 (A := A) hi2 hcl W
      go_wp2_with fail
      have n_HM6 := Aside0.mk (HM6.out.below (below_drew (Below.refl _ _)))
      have n_HC6 := Aside0.mk (HC6.out.below (below_drew (Below.refl _ _)))
      clear HM6
      have HM6 := n_HM6
      clear n_HM6
      clear HC6
      have HC6 := n_HC6
      clear n_HC6
      refine start_ (n := 12) (S := fun w' => True) (ds := []) #[false, false, false, false, false, false, false, false, false, false, false, false] (by kernel_rfl) rfl rfl trivial (fun hHeld => ?_)
      generalize x6.drew = x7 at HM6 HC6 hHeld ⊢
      refine pure_ (i := 0) (N := some 127) (v := ?_) (a' := ?_) #[true, false, false, false, false, false, false, false, false, false, false, false] rfl rfl (by kernel_rfl) (fun _ _ _ h => h) (Or.inl ⟨by rfl, ?_⟩) ?_ ?_
      rotate_left
      · intro w'
        go_simp
        with_reducible rfl
      rotate_left
      · simp only [Act.put, List.setIfInBounds_toArray, List.set_cons_zero, List.set_cons_succ, i64_w, i32_w]
        rfl
      refine pure_ (i := 1) (N := some 128) (v := ?_) (a' := ?_) #[true, true, false, false, false, false, false, false, false, false, false, false] rfl rfl (by kernel_rfl) (fun _ _ _ h => h) (Or.inl ⟨by rfl, ?_⟩) ?_ ?_
      rotate_left
      · intro w'
        go_simp
        with_reducible rfl
      rotate_left
      · simp only [Act.put, List.setIfInBounds_toArray, List.set_cons_zero, List.set_cons_succ, i64_w, i32_w]
        rfl
      refine pure_ (i := 2) (N := some 129) (v := ?_) (a' := ?_) #[true, true, true, false, false, false, false, false, false, false, false, false] rfl rfl (by kernel_rfl) (fun _ _ _ h => h) (Or.inl ⟨by rfl, ?_⟩) ?_ ?_
      rotate_left
      · intro w'
        go_simp
        with_reducible rfl
      rotate_left
      · simp only [Act.put, List.setIfInBounds_toArray, List.set_cons_zero, List.set_cons_succ, i64_w, i32_w]
        rfl
      refine pure_ (i := 3) (N := some 130) (v := ?_) (a' := ?_) #[true, true, true, true, false, false, false, false, false, false, false, false] rfl rfl (by kernel_rfl) (fun _ _ _ h => h) (Or.inl ⟨by rfl, ?_⟩) ?_ ?_
      rotate_left
      · intro w'
        go_simp
        with_reducible rfl
      rotate_left
      · simp only [Act.put, List.setIfInBounds_toArray, List.set_cons_zero, List.set_cons_succ, i64_w, i32_w]
        rfl
      refine pure_ (i := 4) (N := some 131) (v := ?_) (a' := ?_) #[true, true, true, true, true, false, false, false, false, false, false, false] rfl rfl (by kernel_rfl) (fun _ _ _ h => h) (Or.inl ⟨by rfl, ?_⟩) ?_ ?_
      rotate_left
      · intro w'
        go_simp
        with_reducible rfl
      rotate_left
      · simp only [Act.put, List.setIfInBounds_toArray, List.set_cons_zero, List.set_cons_succ, i64_w, i32_w]
        rfl
      refine pure_ (i := 5) (N := some 132) (v := ?_) (a' := ?_) #[true, true, true, true, true, true, false, false, false, false, false, false] rfl rfl (by kernel_rfl) (fun _ _ _ h => h) (Or.inl ⟨by rfl, ?_⟩) ?_ ?_
      rotate_left
      · intro w'
        go_simp
        with_reducible rfl
      rotate_left
      · simp only [Act.put, List.setIfInBounds_toArray, List.set_cons_zero, List.set_cons_succ, i64_w, i32_w]
        rfl
      refine pure_ (i := 6) (N := some 133) (v := ?_) (a' := ?_) #[true, true, true, true, true, true, true, false, false, false, false, false] rfl rfl (by kernel_rfl) (fun _ _ _ h => h) (Or.inl ⟨by rfl, ?_⟩) ?_ ?_
      rotate_left
      · intro w'
        go_simp
        with_reducible rfl
      rotate_left
      · simp only [Act.put, List.setIfInBounds_toArray, List.set_cons_zero, List.set_cons_succ, i64_w, i32_w]
        rfl
      refine pure_ (i := 7) (N := some 134) (v := ?_) (a' := ?_) #[true, true, true, true, true, true, true, true, false, false, false, false] rfl rfl (by kernel_rfl) (fun _ _ _ h => h) (Or.inl ⟨by rfl, ?_⟩) ?_ ?_
      rotate_left
      · intro w'
        go_simp
        with_reducible rfl
      rotate_left
      · simp only [Act.put, List.setIfInBounds_toArray, List.set_cons_zero, List.set_cons_succ, i64_w, i32_w]
        rfl
      refine pure_ (i := 8) (N := some 135) (v := ?_) (a' := ?_) #[true, true, true, true, true, true, true, true, true, false, false, false] rfl rfl (by kernel_rfl) (fun _ _ _ h => h) (Or.inl ⟨by rfl, ?_⟩) ?_ ?_
      rotate_left
      · intro w'
        go_simp
        with_reducible rfl
      rotate_left
      · simp only [Act.put, List.setIfInBounds_toArray, List.set_cons_zero, List.set_cons_succ, i64_w, i32_w]
        rfl
      refine pure_ (i := 9) (N := some 5) (v := ?_) (a' := ?_) #[true, true, true, true, true, true, true, true, true, true, false, false] rfl rfl (by kernel_rfl) (fun _ _ _ h => h) (Or.inl ⟨by rfl, ?_⟩) ?_ ?_
      rotate_left
      · intro w'
        go_simp
        with_reducible rfl
      rotate_left
      · simp only [Act.put, List.setIfInBounds_toArray, List.set_cons_zero, List.set_cons_succ, i64_w, i32_w]
        rfl
      refine pure_ (i := 10) (N := some 7) (v := ?_) (a' := ?_) #[true, true, true, true, true, true, true, true, true, true, true, false] rfl rfl (by kernel_rfl) (fun _ _ _ h => h) (Or.inl ⟨by rfl, ?_⟩) ?_ ?_
      rotate_left
      · intro w'
        go_simp
        with_reducible rfl
      rotate_left
      · simp only [Act.put, List.setIfInBounds_toArray, List.set_cons_zero, List.set_cons_succ, i64_w, i32_w]
        rfl
      refine pure_ (i := 11) (N := some 8) (v := ?_) (a' := ?_) #[true, true, true, true, true, true, true, true, true, true, true, true] rfl rfl (by kernel_rfl) (fun _ _ _ h => h) (Or.inl ⟨by rfl, ?_⟩) ?_ ?_
      rotate_left
      · intro w'
        go_simp
        with_reducible rfl
      rotate_left
      · simp only [Act.put, List.setIfInBounds_toArray, List.set_cons_zero, List.set_cons_succ, i64_w, i32_w]
        rfl
      refine done_ (by kernel_rfl) ?_
      clear hHeld hsl
      have HLx := HM6
      have HAx := HC6
      have HFx := HF1
      have HGx := Aside0.mk (CJ.of HG2.out)
      have HOx := HO2
      clear HM6 HC6 HF1 HG2 HO2
      go_wp2_with fail
      refine (C_records HLx.out.j HLx.out.r HGx.out.g.hr HGx.out.g.len).mono ?_
      rintro e q1 ⟨Ar, cr, rfl, hR, hb⟩
      have HK1 := Aside0.mk (HLx.out.below hb)
      have HA1 := Aside0.mk (HAx.out.below hb)
      have RR1 := Aside0.mk hR
      clear hR hb HLx HAx
      go_wp2_with fail
      refine (lombardlaw20_JournalCrashes.same (Kd.R_reads' RR1.out).2.2 (HA1.out.C HK1.out.s.b)).mono ?_
      rintro e q2 ⟨rfl, hb⟩
      have HK2 := Aside0.mk (HK1.out.below hb)
      have HA2 := Aside0.mk (HA1.out.below hb)
      clear hb HK1 HA1 RR1
      go_wp2_with fail
      go_roundw
      case rel => exact ⟨i + 1, pm, rs2.length, rs2.length, lm, vm, L2, [], rs2, A, cs.take rs2.length, hi1, rfl, rfl, rfl, by go_num, HK2, HGx, HOx, HA2, HFx⟩
      case measure => simp [intOf]; omega
    have e3 : (k == 3) = false := by simpa using h3
    have HLx := HL5
    have HAx := HA5
    have HFx := HF
    have HGx := HG
    have HOx := HO
    clear HL5 HA5 HF BKo hj1 hj2 hj3 HG HO h1 h2 h3
    go_wp2_with fail
    refine (C_records HLx.out.j HLx.out.r HGx.out.g.hr HGx.out.g.len).mono ?_
    rintro e q1 ⟨Ar, cr, rfl, hR, hb⟩
    have HK1 := Aside0.mk (HLx.out.below hb)
    have HA1 := Aside0.mk (HAx.out.below hb)
    have RR1 := Aside0.mk hR
    clear hR hb HLx HAx
    go_wp2_with fail
    refine (lombardlaw20_JournalCrashes.same (Kd.R_reads' RR1.out).2.2 (HA1.out.C HK1.out.s.b)).mono ?_
    rintro e q2 ⟨rfl, hb⟩
    have HK2 := Aside0.mk (HK1.out.below hb)
    have HA2 := Aside0.mk (HA1.out.below hb)
    clear hb HK1 HA1 RR1
    go_wp2_with fail
    go_roundw
    case rel => exact ⟨i + 1, pj, ks, c, lv, v, L, W, rs, A, cs, hi1, rfl, rfl, rfl, by go_num, HK2, HGx, HOx, HA2, HFx⟩
    case measure => simp [intOf]; omega
theorem lombardlaw20_JournalCrashes.calls (A0 : Option Addr) (c0 : Nat) (l0 : List (S40)) (r : Bool) (w : World) (hr0 : Kd.C k40 w A0 l0.length l0) (hc0 : l0.length ≤ c0) (h : lombardlaw20_JournalCrashes.f l0 = some r) :
    Calls Try.prog 4 #[.slice A0 l0.length c0] w fun e w' => e = .returned (.bool r) ∧ Below w.heap.size w w' := by
  unfold lombardlaw20_JournalCrashes.f at h
  by_cases hc : l0.all (fun o => o.f2.all (fun x => decide (0 ≤ x ∧ x < 256))) = true
  · rw [if_pos hc] at h
    obtain rfl := Option.some.inj h
    refine lombardlaw20_JournalCrashes.walk _ _ _ _ hr0 hc0 (fun o ho x hx => ?_)
    have := List.all_eq_true.1 (List.all_eq_true.1 hc o ho) x hx
    exact of_decide_eq_true this
  · rw [if_neg hc] at h
    cases h


end Go.Proofs.Ytniadlnbjgodnaa.Print
