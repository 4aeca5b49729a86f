-- written by this session's program wip/hybrid.py over the kit's printer, and by hand. Not trusted: Lean checks it.
import Derived.Test.YtniadlnbjgodnaaPrint0
namespace Go.Proofs.Ytniadlnbjgodnaa.Print
open Go.RowKit Go.Proofs.YtniadlnbjgodnaaW.PrintWords Go.Proofs.YtniadlnbjgodnaaW.PrintLast Go.Proofs.YtniadlnbjgodnaaW.PrintMore
attribute [local go_sem] max2_int min2_int max_two min_two max_three min_three max_four min_four   -- for this text's walks alone
set_option linter.unusedVariables false
set_option linter.unusedSimpArgs false

/-! ### lombardlaw20_JournalFits: function 6 -/
def lombardlaw20_JournalFits.f (a0 : Int) (l : List Int) : Option Bool := if (decide (0 ≤ a0 ∧ a0 < 256) && l.all (fun x => decide (0 ≤ x ∧ x < 65536))) = true then some true else none
set_option maxHeartbeats 32000000 in
set_option maxRecDepth 100000 in
theorem lombardlaw20_JournalFits.walk (A : Option Addr) (c : Nat) (bl : Nat) (l : List Int) (w : World) (hr : Kd.C (Kd.int .u16) w A l.length l) (hc : l.length ≤ c) (hbl : bl < 256) (hl : ∀ x ∈ l, 0 ≤ x ∧ x < 65536) :
    Calls Try.prog 6 #[.int .u8 bl, .slice A l.length c] w fun e w' => e = .returned (.bool true) ∧ Below w.heap.size w w' := by
  have RA0 := Aside0.mk hr
  have hl63 := hr.2.1
  replace hl := Aside0.mk hl
  clear hr
  go_enter Try.func6, Try.ntmps6
  go_wp2_with fail
  refine j_alive.mono ?_
  rintro e w1 ⟨rfl, hb⟩
  have HB := Aside0.mk hb
  clear hb
  by_cases h1 : 60 < l.length
  case pos =>
    have h1i : (60 : Int) < (l.length : Int) := by omega
    go_wp2_with fail
    go_ret
    exact ⟨rfl, HB.out⟩
  have h1i : ¬ (60 : Int) < (l.length : Int) := by omega
  have CN := C_new HB.out (bl + 1) (by omega)
  rw [show ((bl + 1 : Nat) : Int) = (bl : Int) + 1 from rfl] at CN
  obtain ⟨n, hn⟩ : ∃ n, n = bl + 1 := ⟨_, rfl⟩
  rw [← hn] at CN
  replace CN := Aside0.mk CN
  have hn1 : 1 ≤ n ∧ n ≤ 4096 := by omega
  clear hn
  go_wp2_with fail
  refine CN.out.mono ?_
  rintro e w2 ⟨p, rfl, gl, gm, v, hs, _⟩
  have HS := Aside0.mk hs
  clear hs HB CN
  go_wp2_with fail
  refine (C_openG HS.out (okS_zeros n) (GJ.new n hn1)).mono ?_
  rintro e w3 ⟨pj, lv, v1, rfl, hl3, _, _, _⟩
  have HL := Aside0.mk hl3
  have HG := Aside0.mk (GJ.new n hn1)
  clear hl3 HS
  go_wp2_with fail
  go_loopw [39] (fun y wr => ∃ (i : Nat) (v lv : Value) (W : List (Int × Bk)) (rs : List (List Int)), i ≤ l.length ∧ y = .int .i64 i ∧ Aside0 (LS w wr p gl gm v (zeros n) W pj lv rs) ∧ Aside0 (GJ (zeros n) W rs)) (fun y _ => l.length - (intOf y).toNat)
  case atStart => exact ⟨0, v1, lv, [], [], Nat.zero_le _, rfl, HL, HG⟩
  case round =>
    clear HL HG
    obtain ⟨i, v, lv, W, rs, hi, rfl, HL, HG⟩ := hrel
    by_cases hlt : i < l.length
    case neg =>
      have hUL := HG.out.hu
      rw [zeros_len] at hUL
      have CF1 := Aside0.mk (j_Fits HL.out.s.s HL.out.j HG.out.hu (-1))
      rw [fits_neg] at CF1
      go_wp2_with fail
      refine CF1.out.mono ?_
      rintro e w4 ⟨rfl, hb⟩
      have HL4 := Aside0.mk (HL.out.below hb)
      clear hb HL CF1
      have CF1 := Aside0.mk (j_Fits HL4.out.s.s HL4.out.j HG.out.hu 13516)
      rw [fits_big] at CF1
      go_wp2_with fail
      refine CF1.out.mono ?_
      rintro e w5 ⟨rfl, hb⟩
      have HL5 := Aside0.mk (HL4.out.below hb)
      clear hb HL4 CF1
      have CU := Aside0.mk (j_Used HL5.out.j)
      generalize usum rs = U at CU hUL
      go_wp2_with fail
      refine CU.out.mono ?_
      rintro e w6 ⟨rfl, hb⟩
      have HL6 := Aside0.mk (HL5.out.below hb)
      clear hb HL5 CU
      have CZ := Aside0.mk (b_Size HL6.out.s.s)
      rw [zeros_len] at CZ
      go_wp2_with fail
      refine CZ.out.mono ?_
      rintro e w7 ⟨rfl, hb⟩
      have HB7 := Aside0.mk (HL6.out.below hb).s.b
      clear hb HL6 CZ
      have hle : (U : Int) ≤ (n : Int) := by omega
      go_wp2_with fail
      go_ret
      exact ⟨rfl, HB7.out⟩
    obtain ⟨ad, hA, hx⟩ := u16_at (Kd.C_below RA0.out HL.out.s.b) i hlt
    obtain ⟨xn, hxn⟩ := Int.eq_ofNat_of_zero_le (hl.out _ (List.getElem_mem hlt)).1
    have hx16 := (hl.out _ (List.getElem_mem hlt)).2
    rw [hxn] at hx hx16
    have hx16 : xn < 65536 := by omega
    clear hxn
    obtain ⟨m, hm⟩ : ∃ m, m = xn % 14000 := ⟨_, rfl⟩
    have hm14 : m < 14000 := by omega
    have hrem : (xn : Int).tmod 14000 = (m : Int) := by rw [hm]; rfl
    have hrem2 : (xn : Int) % 14000 = (m : Int) := by rw [hm]; rfl
    clear hm
    have hmk := mk_run m (by omega)
    have hi60 : i < 60 := by omega
    subst hA
    go_wp2_with fail
    have hRb := mk_R wr m (by omega)
    have hb2 := below_alloc (Below.refl wr.heap.size wr) (.cells (madeCells #[.int .u8 0] m) 5)
    have hsz2 : wr.heap.size < (wr.alloc (.cells (madeCells #[.int .u8 0] m) 5)).heap.size := blk_lt (blk_new wr _)
    generalize wr.alloc (.cells (madeCells #[.int .u8 0] m) 5) = w2 at hRb hb2 hsz2 ⊢
    obtain ⟨gb, hgb⟩ : ∃ gb, gb = wr.heap.size := ⟨_, rfl⟩
    have Hb2 := Aside0.mk hb2
    have Hge := Aside0.mk (Nat.le_of_eq hgb.symm)
    rw [← hgb] at hRb hsz2 ⊢
    rw [← fil_zero m (i : Int)] at hRb
    have HRb := Aside0.mk hRb
    have Hsz2 := Aside0.mk hsz2
    clear hRb hb2 hsz2 hgb hmk hrem hrem2 hx hx16
    go_loopw [51] (fun z wq => ∃ k, k ≤ m ∧ z = .int .i64 k ∧ Aside0 (Kd.R (Kd.int .u8) 5 wq gb (fun _ => True) (.slice (some ⟨gb, 0, none⟩) m m) (fil m k i)) ∧ Aside0 (Below wr.heap.size wr wq) ∧ Aside0 (gb < wq.heap.size)) (fun z _ => m - (intOf z).toNat)
    case atStart => exact ⟨0, Nat.zero_le _, rfl, HRb, Hb2, Hsz2⟩
    case round =>
      clear HRb Hb2 Hsz2
      obtain ⟨k, hk, rfl, HRb, Hb2, Hsz2⟩ := hrel
      by_cases hkm : k < m
      case pos =>
        obtain ⟨y0, hcell, hfr⟩ := fil_cell HRb.out hkm
        go_wp2_with fail
        go_roundw
        case rel => exact ⟨k + 1, hkm, by go_num, ⟨fil_put HRb.out hkm⟩, ⟨Hb2.out.setCell Hge.out _⟩, ⟨by have := Hsz2.out; simpa [World.setCell] using this⟩⟩
        case measure => simp [intOf]; omega
      obtain rfl : k = m := by omega
      rw [fil_all] at HRb
      obtain ⟨bs, hbs⟩ : ∃ bs, bs = List.replicate k (i : Int) := ⟨_, rfl⟩
      have hlen : bs.length = k := by rw [hbs]; exact List.length_replicate
      have hbb : ∀ x ∈ bs, 0 ≤ x ∧ x < 256 := fun x hx => by rw [hbs] at hx; have := List.eq_of_mem_replicate hx; omega
      have hb0 : 0 < k → bs[0]? = some (i : Int) := fun h => by rw [hbs, List.getElem?_replicate, if_pos h]
      rw [← hbs] at HRb
      replace hb0 := Aside0.mk hb0
      clear hbs
      have HL3 := Aside0.mk (HL.out.below Hb2.out)
      have hG2 := HG.out.app hbb
      clear hbb
      have CF := Aside0.mk (j_Fits HL3.out.s.s HL3.out.j HG.out.hu (bs.length : Int))
      rw [fits_apC, hlen] at CF
      obtain ⟨cd, hcd⟩ : ∃ cd, cd = apC (zeros n) rs bs := ⟨_, rfl⟩
      obtain ⟨W2, hW2⟩ : ∃ W2, W2 = apW (zeros n) W rs bs := ⟨_, rfl⟩
      obtain ⟨rs2, hrs2⟩ : ∃ rs2, rs2 = apR (zeros n) rs bs := ⟨_, rfl⟩
      obtain ⟨q, hq⟩ : ∃ q, q = rs.length := ⟨_, rfl⟩
      obtain ⟨U, hU⟩ : ∃ U, U = usum rs := ⟨_, rfl⟩
      have hcs : (cd = 0 ∧ (q < rs2.length ∧ rs2[q]? = some bs)) ∨ ((cd = 2 ∨ cd = 10) ∧ rs2 = rs ∧ W2 = W) := by
        by_cases h : apC (zeros n) rs bs = 0
        · left
          rw [hcd, hrs2, apR_yes h, hq]
          exact ⟨h, by simp, by simp⟩
        · right
          rw [hcd, hrs2, hW2, apR_no h, apW_no h]
          exact ⟨(apC_cases (zeros n) rs bs).resolve_left h, rfl, rfl⟩
      rw [← hcd] at CF
      rw [← hW2, ← hrs2] at hG2
      have HG7 := Aside0.mk hG2
      clear hG2
      replace hcs := Aside0.mk hcs
      replace hcd := Aside0.mk hcd
      replace hW2 := Aside0.mk hW2
      replace hrs2 := Aside0.mk hrs2
      replace hq := Aside0.mk hq
      replace hU := Aside0.mk hU
      replace hlen := Aside0.mk hlen
      go_wp2_with fail
      refine CF.out.mono ?_
      rintro e w4 ⟨rfl, hb⟩
      have HQ := Aside0.mk hb
      clear hb CF
      have HL4 := Aside0.mk (HL3.out.below HQ.out)
      have CR := Aside0.mk (C_records HL4.out.j HL4.out.r HG.out.hr HG.out.len)
      rw [← hq.out] at CR
      go_wp2_with fail
      refine CR.out.mono ?_
      rintro e w5 ⟨A5, c5, rfl, _, hb⟩
      have HQ5 := Aside0.mk (below_step HQ.out hb)
      clear hb HQ CR HL4
      have HL5 := Aside0.mk (HL3.out.below HQ5.out)
      have CU := Aside0.mk (j_Used HL5.out.j)
      rw [← hU.out] at CU
      go_wp2_with fail
      refine CU.out.mono ?_
      rintro e w6 ⟨rfl, hb⟩
      have HQ6 := Aside0.mk (below_step HQ5.out hb)
      clear hb HQ5 CU HL5
      have HR6 := Aside0.mk (Kd.R_below HRb.out HQ6.out)
      have CA := Aside0.mk (C_app2 (c := k) HL.out HG.out (below_step Hb2.out HQ6.out) Hge.out (Nat.lt_of_lt_of_le Hsz2.out HQ6.out.size) (Kd.R_reads' HR6.out).2.2 (Nat.le_of_eq hlen.out))
      rw [← hcd.out, ← hW2.out, ← hrs2.out, hlen.out] at CA
      clear HQ6 HRb HL3
      go_wp2_with fail
      refine CA.out.mono ?_
      rintro e w7 ⟨rfl, v7, lv7, hl7, hgb7, hall⟩
      have HL7 := Aside0.mk hl7
      have HA7 := Aside0.mk hall
      have Hgb7 := Aside0.mk hgb7
      clear hl7 hall hgb7 CA HL hcd hW2 hrs2
      rcases hcs.out with ⟨h0, hq2, hrq⟩ | ⟨h210, er, ew⟩
      case inr =>
        rw [er, ew] at HL7
        clear hcs er ew HA7 Hgb7 HR6 HG7
        rcases h210 with h2 | h2
        case inl =>
          subst h2
          go_wp2_with fail
          refine (C_records HL7.out.j HL7.out.r HG.out.hr HG.out.len).mono ?_
          rintro e w8 ⟨A8, c8, rfl, _, hb⟩
          have HL8 := Aside0.mk (HL7.out.below hb)
          clear hb HL7
          have CU := Aside0.mk (j_Used HL8.out.j)
          rw [← hU.out] at CU
          rw [← hq.out]
          go_wp2_with fail
          refine CU.out.mono ?_
          rintro e w9 ⟨rfl, hb⟩
          have HL9 := Aside0.mk (HL8.out.below hb)
          clear hb HL8 CU
          go_wp2_with fail
          go_roundw
          case rel => exact ⟨i + 1, v7, lv7, W, rs, hlt, by go_num, HL9, HG⟩
          case measure => simp [intOf]; omega
        case inr =>
          subst h2
          go_wp2_with fail
          refine (C_records HL7.out.j HL7.out.r HG.out.hr HG.out.len).mono ?_
          rintro e w8 ⟨A8, c8, rfl, _, hb⟩
          have HL8 := Aside0.mk (HL7.out.below hb)
          clear hb HL7
          have CU := Aside0.mk (j_Used HL8.out.j)
          rw [← hU.out] at CU
          rw [← hq.out]
          go_wp2_with fail
          refine CU.out.mono ?_
          rintro e w9 ⟨rfl, hb⟩
          have HL9 := Aside0.mk (HL8.out.below hb)
          clear hb HL8 CU
          go_wp2_with fail
          go_roundw
          case rel => exact ⟨i + 1, v7, lv7, W, rs, hlt, by go_num, HL9, HG⟩
          case measure => simp [intOf]; omega
      subst h0
      replace hrq := Aside0.mk hrq
      clear hcs hU
      by_cases hk0 : 0 < k
      case neg =>
        obtain rfl : k = 0 := by omega
        go_wp2_with fail
        go_roundw
        case rel => exact ⟨i + 1, v7, lv7, W2, rs2, hlt, by go_num, HL7, HG7⟩
        case measure => simp [intOf]; omega
      obtain ⟨hc7, hf7⟩ := row0 HR6.out (hb0.out hk0) Hgb7.out
      clear HL7 HR6 Hgb7
      go_wp2_with fail
      refine (C_records (HA7.out _).j (HA7.out _).r HG7.out.hr HG7.out.len).mono ?_
      rintro e w8 ⟨A8, c8, rfl, hR, hb⟩
      obtain ⟨g8, c8', g9, c9, e8, hx8, hB8, hx9, hf9⟩ := rec_at hR hrq.out (hb0.out hk0)
      cases e8
      rw [hlen.out] at hx8
      have HL8 := Aside0.mk (fun u => (HA7.out _).below (hb.setCell (p := ⟨g9, 0, none⟩) hB8 u))
      clear hR hb hB8 HA7 hc7 hf7
      go_wp2_with fail
      refine (C_records (HL8.out _).j (HL8.out _).r HG7.out.hr HG7.out.len).mono ?_
      rintro e w9 ⟨A10, c10, rfl, hR, hb⟩
      obtain ⟨g10, c10', g11, c11, e10, hx10, _, hx11, _⟩ := rec_at hR hrq.out (hb0.out hk0)
      cases e10
      rw [hlen.out] at hx10
      have HL9 := Aside0.mk ((HL8.out _).below hb)
      clear hR hb HL8 hx8 hx9 hf9
      go_wp2_with fail
      go_roundw
      case rel => exact ⟨i + 1, v7, lv7, W2, rs2, hlt, by go_num, HL9, HG7⟩
      case measure => simp [intOf]; omega

theorem lombardlaw20_JournalFits.calls (a0 : Int) (A1 : Option Addr) (c1 : Nat) (l1 : List Int) (r : Bool) (w : World) (hr1 : Kd.C (Kd.int .u16) w A1 l1.length l1) (hc1 : l1.length ≤ c1) (h : lombardlaw20_JournalFits.f a0 l1 = some r) :
    Calls Try.prog 6 #[.int .u8 a0, .slice A1 l1.length c1] w fun e w' => e = .returned (.bool r) ∧ Below w.heap.size w w' := by
  unfold lombardlaw20_JournalFits.f at h
  by_cases hc : (decide (0 ≤ a0 ∧ a0 < 256) && l1.all (fun x => decide (0 ≤ x ∧ x < 65536))) = true
  · rw [if_pos hc] at h
    obtain rfl := Option.some.inj h
    simp only [Bool.and_eq_true] at hc
    have h3 := of_decide_eq_true hc.1
    obtain ⟨b, rfl⟩ := Int.eq_ofNat_of_zero_le h3.1
    exact lombardlaw20_JournalFits.walk _ _ b _ _ hr1 hc1 (by omega) (fun x hx => of_decide_eq_true (List.all_eq_true.1 hc.2 x hx))
  · rw [if_neg hc] at h
    cases h


end Go.Proofs.Ytniadlnbjgodnaa.Print
