-- written by this session's program wip/hybrid.py over the kit's printer, and by hand. Not trusted: Lean checks it.
import Derived.Test.YtniadlnbjgodnaaPrint0
namespace Go.Proofs.Ytniadlnbjgodnaa.Print
open Go.RowKit Go.Proofs.YtniadlnbjgodnaaW.PrintWords Go.Proofs.YtniadlnbjgodnaaW.PrintLast Go.Proofs.YtniadlnbjgodnaaW.PrintMore
attribute [local go_sem] max2_int min2_int max_two min_two max_three min_three max_four min_four   -- for this text's walks alone
set_option linter.unusedVariables false
set_option linter.unusedSimpArgs false

/-! ### lombardlaw20_JournalParts: function 5 -/
def lombardlaw20_JournalParts.f (a b : List Int) (at_ : Int) (fate : Bool) : Option Bool := if (a.all (fun x => decide (0 ≤ x ∧ x < 256)) && (b.all (fun x => decide (0 ≤ x ∧ x < 256)) && decide (0 ≤ at_ ∧ at_ < 256))) = true then some true else none
theorem lombardlaw20_JournalParts.pnm (n : Nat) (h : n ≤ 3000) : (if (1 : Int) < ((n : Int) + 52) / 53 then ((n : Int) + 52) / 53 else 1) = (pn n : Int) := by unfold pn; split <;> omega
theorem lombardlaw20_JournalParts.by_all (x : Int) : ([Value.int .u8 x].toArray).all (·.oneCell') = true := by kernel_rfl
set_option maxHeartbeats 32000000 in
set_option maxRecDepth 100000 in
theorem lombardlaw20_JournalParts.walk (Aa Ab : Option Addr) (ca cb : Nat) (a b : List Int) (at_ : Nat) (fate : Bool) (w : World) (hra : Kd.C (Kd.int .u8) w Aa a.length a) (hca : a.length ≤ ca) (hrb : Kd.C (Kd.int .u8) w Ab b.length b) (hcb : b.length ≤ cb) (hat : at_ < 256) (hba : ∀ x ∈ a, 0 ≤ x ∧ x < 256) (hbb : ∀ x ∈ b, 0 ≤ x ∧ x < 256) :
    Calls Try.prog 5 #[.agg #[.slice Aa a.length ca, .slice Ab b.length cb, .int .u8 at_, .bool fate]] w fun e w' => e = .returned (.bool true) ∧ Below w.heap.size w w' := by
  have RA0 := Aside0.mk hra
  have RB0 := Aside0.mk hrb
  have hla := hra.2.1
  have hlb := hrb.2.1
  replace hba := Aside0.mk hba
  replace hbb := Aside0.mk hbb
  have hb0 := below_alloc (Below.refl w.heap.size w) (.cells #[.slice Aa a.length ca, .slice Ab b.length cb, .int .u8 at_, .bool fate] 66)
  have hk0 := blk_new w (.cells #[.slice Aa a.length ca, .slice Ab b.length cb, .int .u8 at_, .bool fate] 66)
  clear hra hrb
  go_enter Try.func5, Try.ntmps5
  go_wp2_with fail
  generalize w.alloc (.cells #[.slice Aa a.length ca, .slice Ab b.length cb, .int .u8 at_, .bool fate] 66) = w1 at hb0 hk0 ⊢
  generalize w.heap.size = g1 at hk0 ⊢
  refine j_alive.mono ?_
  rintro e w2 ⟨rfl, hb⟩
  have HB := Aside0.mk (below_step hb0 hb)
  have BK1 := Aside0.mk (blk_below hk0 hb)
  clear hb hb0 hk0
  go_wp2_with fail
  have n_HB := Aside0.mk (below_step HB.out (below_drew (Below.refl _ _)))
  have n_BK1 := Aside0.mk (blk_below BK1.out (below_drew (Below.refl _ _)))
  clear HB
  have HB := n_HB
  clear n_HB
  clear BK1
  have BK1 := n_BK1
  clear n_BK1
  refine start_ (n := 12) (S := fun w' => w'.cell? ⟨g1, 0, none⟩ = some (.slice Aa a.length ca) ∧ w'.cell? ⟨g1, 1, none⟩ = some (.slice Ab b.length cb) ∧ w'.cell? ⟨g1, 2, none⟩ = some (.int .u8 at_) ∧ w'.cell? ⟨g1, 3, none⟩ = some (.bool fate)) (ds := []) #[false, false, false, false, false, false, false, false, false, false, false, false] (by kernel_rfl) rfl rfl ⟨(blk_cell BK1.out 0).trans rfl, (blk_cell BK1.out 1).trans rfl, (blk_cell BK1.out 2).trans rfl, (blk_cell BK1.out 3).trans rfl⟩ (fun hHeld => ?_)
  generalize w2.drew = w3 at HB BK1 hHeld ⊢
  refine pure_ (i := 0) (N := some 20) (v := ?_) (a' := ?_) #[true, false, false, false, false, false, false, false, false, false, false, false] rfl rfl (by kernel_rfl) (fun _ _ _ h => h) (Or.inl ⟨by rfl, ?_⟩) ?_ ?_
  rotate_left
  · intro w'
    go_simp
    with_reducible rfl
  rotate_left
  · simp only [Act.put, List.setIfInBounds_toArray, List.set_cons_zero, List.set_cons_succ, i64_w, i32_w]
    rfl
  refine pure_ (i := 2) (N := some 22) (v := ?_) (a' := ?_) #[true, false, true, false, false, false, false, false, false, false, false, false] rfl rfl (by kernel_rfl) (fun _ _ _ h => h) (Or.inl ⟨by rfl, ?_⟩) ?_ ?_
  rotate_left
  · intro w'
    go_simp
    with_reducible rfl
  rotate_left
  · simp only [Act.put, List.setIfInBounds_toArray, List.set_cons_zero, List.set_cons_succ, i64_w, i32_w]
    rfl
  refine pure_ (i := 4) (N := some 24) (v := ?_) (a' := ?_) #[true, false, true, false, true, false, false, false, false, false, false, false] rfl rfl (by kernel_rfl) (fun _ _ _ h => h) (Or.inl ⟨by rfl, ?_⟩) ?_ ?_
  rotate_left
  · intro w'
    go_simp
    with_reducible rfl
  rotate_left
  · simp only [Act.put, List.setIfInBounds_toArray, List.set_cons_zero, List.set_cons_succ, i64_w, i32_w]
    rfl
  refine pure_ (i := 6) (N := some 26) (v := ?_) (a' := ?_) #[true, false, true, false, true, false, true, false, false, false, false, false] rfl rfl (by kernel_rfl) (fun _ _ _ h => h) (Or.inl ⟨by rfl, ?_⟩) ?_ ?_
  rotate_left
  · intro w'
    go_simp
    with_reducible rfl
  rotate_left
  · simp only [Act.put, List.setIfInBounds_toArray, List.set_cons_zero, List.set_cons_succ, i64_w, i32_w]
    rfl
  refine take_ (i := 1) (N := some 21) (v := ?_) (a' := ?_) #[true, true, true, false, true, false, true, false, false, false, false, false] rfl rfl (by kernel_rfl) (fun _ _ _ h => h) (Or.inl ⟨by rfl, ?_⟩) hHeld ?_ ?_
  rotate_left
  · rintro w' ⟨s0, s1, s2, s3⟩
    go_simp
    with_reducible rfl
  rotate_left
  · simp only [Act.put, List.setIfInBounds_toArray, List.set_cons_zero, List.set_cons_succ, i64_w, i32_w]
    rfl
  refine pure_ (i := 8) (N := some 3) (v := ?_) (a' := ?_) #[true, true, true, false, true, false, true, false, true, false, false, false] rfl rfl (by kernel_rfl) (fun _ _ _ h => h) (Or.inl ⟨by rfl, ?_⟩) ?_ ?_
  rotate_left
  · intro w'
    go_simp
    with_reducible rfl
  rotate_left
  · simp only [Act.put, List.setIfInBounds_toArray, List.set_cons_zero, List.set_cons_succ, i64_w, i32_w]
    rfl
  refine take_ (i := 3) (N := some 23) (v := ?_) (a' := ?_) #[true, true, true, true, true, false, true, false, true, false, false, false] rfl rfl (by kernel_rfl) (fun _ _ _ h => h) (Or.inl ⟨by rfl, ?_⟩) hHeld ?_ ?_
  rotate_left
  · rintro w' ⟨s0, s1, s2, s3⟩
    go_simp
    with_reducible rfl
  rotate_left
  · simp only [Act.put, List.setIfInBounds_toArray, List.set_cons_zero, List.set_cons_succ, i64_w, i32_w]
    rfl
  refine pure_ (i := 9) (N := some 4) (v := ?_) (a' := ?_) #[true, true, true, true, true, false, true, false, true, true, false, false] rfl rfl (by kernel_rfl) (fun _ _ _ h => h) (Or.inl ⟨by rfl, ?_⟩) ?_ ?_
  rotate_left
  · intro w'
    go_simp
    with_reducible rfl
  rotate_left
  · simp only [Act.put, List.setIfInBounds_toArray, List.set_cons_zero, List.set_cons_succ, i64_w, i32_w]
    rfl
  refine take_ (i := 5) (N := some 25) (v := ?_) (a' := ?_) #[true, true, true, true, true, true, true, false, true, true, false, false] rfl rfl (by kernel_rfl) (fun _ _ _ h => h) (Or.inl ⟨by rfl, ?_⟩) hHeld ?_ ?_
  rotate_left
  · rintro w' ⟨s0, s1, s2, s3⟩
    go_simp
    with_reducible rfl
  rotate_left
  · simp only [Act.put, List.setIfInBounds_toArray, List.set_cons_zero, List.set_cons_succ, i64_w, i32_w]
    rfl
  refine pure_ (i := 10) (N := some 5) (v := ?_) (a' := ?_) #[true, true, true, true, true, true, true, false, true, true, true, false] rfl rfl (by kernel_rfl) (fun _ _ _ h => h) (Or.inl ⟨by rfl, ?_⟩) ?_ ?_
  rotate_left
  · intro w'
    go_simp
    with_reducible rfl
  rotate_left
  · simp only [Act.put, List.setIfInBounds_toArray, List.set_cons_zero, List.set_cons_succ, i64_w, i32_w]
    rfl
  refine take_ (i := 7) (N := some 27) (v := ?_) (a' := ?_) #[true, true, true, true, true, true, true, true, true, true, true, false] rfl rfl (by kernel_rfl) (fun _ _ _ h => h) (Or.inl ⟨by rfl, ?_⟩) hHeld ?_ ?_
  rotate_left
  · rintro w' ⟨s0, s1, s2, s3⟩
    go_simp
    with_reducible rfl
  rotate_left
  · simp only [Act.put, List.setIfInBounds_toArray, List.set_cons_zero, List.set_cons_succ, i64_w, i32_w]
    rfl
  refine pure_ (i := 11) (N := some 6) (v := ?_) (a' := ?_) #[true, true, true, true, true, true, true, true, true, true, true, true] rfl rfl (by kernel_rfl) (fun _ _ _ h => h) (Or.inl ⟨by rfl, ?_⟩) ?_ ?_
  rotate_left
  · intro w'
    go_simp
    with_reducible rfl
  rotate_left
  · simp only [Act.put, List.setIfInBounds_toArray, List.set_cons_zero, List.set_cons_succ, i64_w, i32_w]
    rfl
  refine done_ (by kernel_rfl) ?_
  clear hHeld BK1
  by_cases h1 : 3000 < a.length
  case pos =>
    have h1i : (3000 : Int) < (a.length : Int) := by omega
    go_wp2_with fail
    go_ret
    exact ⟨rfl, HB.out⟩
  have h1i : ¬ (3000 : Int) < (a.length : Int) := by omega
  by_cases h2 : 3000 < b.length
  case pos =>
    have h2i : (3000 : Int) < (b.length : Int) := by omega
    go_wp2_with fail
    go_ret
    exact ⟨rfl, HB.out⟩
  have h2i : ¬ (3000 : Int) < (b.length : Int) := by omega
  have hpa : pn a.length ≤ 57 := pn_le (by omega) (by omega)
  have hpb : pn b.length ≤ 57 := pn_le (by omega) (by omega)
  have hoa : okR a := ⟨hba.out, by omega⟩
  have hob : okR b := ⟨hbb.out, by omega⟩
  have u0 : usum ([] : List (List Int)) = 0 := rfl
  have ua : usum [a] = pn a.length := by simp [usum]
  have uab : usum [a, b] = pn a.length + pn b.length := by simp [usum]
  have k1 : apC (zeros 200) [] a = 0 := ap_new (by omega) (by omega) (by omega)
  have k2 : apC (zeros 200) [a] b = 0 := ap_new (by omega) (by omega) (by omega)
  have r1 : apR (zeros 200) [] a = [a] := apR_yes k1
  have r2 : apR (zeros 200) [a] b = [a, b] := apR_yes k2
  obtain ⟨W1, hW1⟩ : ∃ W1, W1 = apW (zeros 200) [] [] a := ⟨_, rfl⟩
  obtain ⟨W2, hW2⟩ : ∃ W2, W2 = apW (zeros 200) W1 [a] b := ⟨_, rfl⟩
  have hG1 : GJ (zeros 200) W1 [a] := by have := (GJ.new 200 (by omega)).app hba.out; rw [r1, ← hW1] at this; exact this
  have hWr : W2 = (List.range (usum [a, b])).map (fun (i : Nat) => ((i : Int), fB [a, b] i)) := by
    have e1 : W1 = (List.range (pn a.length)).map (fun (i : Nat) => ((i : Int), fB [a, b] i)) := by
      rw [hW1]
      unfold apW
      rw [if_pos k1, u0]
      have := wrL_range 0 1 a (fB [a, b]) (pn a.length) (fun q hq => by
        have := fB_rec (rs := [a, b]) (k := 0) (q := q) (by simp) (by simpa using hq)
        simpa [usum] using this)
      rw [Nat.zero_add] at this
      simpa using this
    rw [hW2]
    unfold apW
    rw [if_pos k2, ua, e1, uab]
    exact wrL_range (pn a.length) 2 b (fB [a, b]) (pn b.length) (fun q hq => by
      have := fB_rec (rs := [a, b]) (k := 1) (q := q) (by simp) (by simpa using hq)
      simpa [usum] using this)
  have hO2 : okS (zeros 200) W2 := by rw [hW2]; exact okS_app hG1 (by rw [hW1]; exact okS_app (GJ.new 200 (by omega)) (okS_zeros 200) hba.out) hbb.out
  replace hWr := Aside0.mk hWr
  replace hO2 := Aside0.mk hO2
  replace hG1 := Aside0.mk hG1
  go_wp2_with fail
  refine (C_new HB.out 200 (by omega)).mono ?_
  rintro e w4 ⟨p, rfl, gl, gm, v, hs, _⟩
  have HS := Aside0.mk hs
  clear hs HB
  go_wp2_with fail
  refine (C_openG HS.out (okS_zeros 200) (GJ.new 200 (by omega))).mono ?_
  rintro e w5 ⟨pj, lv, v1, rfl, hl, _, _, _⟩
  have HL := Aside0.mk hl
  clear hl HS
  have CA := Aside0.mk (C_app HL.out (GJ.new 200 (by omega)) (Kd.C_below RA0.out HL.out.s.b) hca (HL.out.s.arg RA0.out))
  rw [k1, r1, ← hW1] at CA
  go_wp2_with fail
  refine CA.out.mono ?_
  rintro e w6 ⟨rfl, v6, lv6, hl, _⟩
  have HL6 := Aside0.mk hl
  clear hl HL CA
  have CA := Aside0.mk (C_app HL6.out hG1.out (Kd.C_below RB0.out HL6.out.s.b) hcb (HL6.out.s.arg RB0.out))
  rw [k2, r2, ← hW2] at CA
  go_wp2_with fail
  refine CA.out.mono ?_
  rintro e w7 ⟨rfl, v7, lv7, hl, _⟩
  have HL7 := Aside0.mk hl
  clear hl HL6 CA hG1 hW1 hW2 k1 k2 r1 r2
  have hma := lombardlaw20_JournalParts.pnm a.length (by omega)
  have hmb := lombardlaw20_JournalParts.pnm b.length (by omega)
  obtain ⟨U, hU⟩ : ∃ U, U = pn a.length + pn b.length := ⟨_, rfl⟩
  have hUu : usum [a, b] = U := by rw [uab, hU]
  have hU1 : 1 ≤ U ∧ U ≤ 200 := by have := pn_pos a.length; omega
  have hUn : pn a.length ≤ U := by omega
  have e1 : ((U : Int) != (pn a.length : Int) + (pn b.length : Int)) = false := by simp; omega
  have HU := Aside0.mk (j_Used HL7.out.j)
  rw [hUu] at HU
  clear u0 ua uab hU
  replace hUu := Aside0.mk hUu
  go_wp2_with fail
  refine HU.out.mono ?_
  rintro e w8 ⟨rfl, hb⟩
  have HL8 := Aside0.mk (HL7.out.below hb)
  clear hb HL7 HU
  have HU := Aside0.mk (j_Used HL8.out.j)
  rw [hUu.out] at HU
  go_wp2_with fail
  clear e1 hma hmb
  refine HU.out.mono ?_
  rintro e w9 ⟨rfl, hb⟩
  have HL9 := Aside0.mk (HL8.out.below hb)
  clear hb HL8 HU
  have HU := Aside0.mk (j_Used HL9.out.j)
  rw [hUu.out] at HU
  obtain ⟨k, hk⟩ : ∃ k, k = at_ % U := ⟨_, rfl⟩
  have hkU : k < U := by rw [hk]; exact Nat.mod_lt _ (by omega)
  have hrem : (at_ : Int).tmod (U : Int) = (k : Int) := by rw [hk]; rfl
  have hrem2 : (at_ : Int) % (U : Int) = (k : Int) := by rw [hk]; rfl
  have hUne : ¬ (U : Int) = 0 := by omega
  have hUbe : ((U : Int) == 0) = false := by simp; omega
  clear hk
  go_wp2_with fail
  refine HU.out.mono ?_
  rintro e w10 ⟨rfl, hb⟩
  have HS := Aside0.mk (HL9.out.below hb).s
  clear hb HL9 HU hrem hrem2 hUne hUbe
  obtain ⟨x, hx⟩ : ∃ x : Int, x = if fate = true then 2 else 0 := ⟨_, rfl⟩
  have hx02 : x = 0 ∨ x = 2 := by rw [hx]; split <;> simp
  go_wp2_with fail
  go_loopw [13, 81] (fun z y wr => ∃ (i : Nat), i ≤ U ∧ y = .int .i64 i ∧ Aside0 (Kd.R (Kd.int .u8) 5 wr w.heap.size (fun _ => True) z (oneF k x i)) ∧ Aside0 (SS w wr p gl gm v7 (zeros 200) W2)) (fun _ y _ => U - (intOf y).toNat)
  case atStart => exact ⟨0, Nat.zero_le _, rfl, ⟨Kd.R_nil _ _ _ _ _⟩, HS⟩
  case round =>
    clear HS
    obtain ⟨i, hi, rfl, HR, HS⟩ := hrel
    by_cases hlt : i < U
    case pos =>
      obtain ⟨A3, c3, hv3⟩ := Kd.R_slice HR.out
      subst hv3
      rw [oneF_len] at HR ⊢
      
      by_cases hik : i = k
      case pos =>
        have e1 : ((i : Int) == (k : Int)) = true := by rw [hik]; exact beq_self_eq_true _
        cases fate
        case true =>
          have hy : (2 : Int) = if i = k then x else 1 := by rw [if_pos hik, hx]; rfl
          clear hik hx hx02
          replace hy := Aside0.mk hy
          go_wp2_with ((with_reducible refine gate_builtin (b := .append) (xs := #[.tmp 88, .tmp 90]) rfl ?_); refine Shut.out ?_)
          unfold Shut
          change wpList _ _ _ _ _ (wr.alloc (.cells [Value.int .u8 2].toArray 5))
          refine Kd.R_append (w0 := w) (Kd.int .u8) w.heap.size rfl (.tmp 88) (.tmp 90) 38 5 (.int .u8 0) 1 rfl by_und' u_info rfl (by show 0 < 1; omega) (by omega) (.slice A3 i c3) (oneF k x i) 2 [Value.int .u8 2] (fun _ => True) (fun k => some k ≠ (Value.slice A3 i c3).ownBlock) rfl rfl rfl (fun k hk => ⟨trivial, hk⟩) (fun _ _ => trivial) HR.out HS.out.b HS.out.b.size (by rw [oneF_len]; omega) ?_
          intro v9 w11 hR hb hg hat
          have HS9 := Aside0.mk (HS.out.grownU HR.out hg)
          have HR9 := Aside0.mk (show Kd.R (Kd.int .u8) 5 w11 w.heap.size (fun _ => True) v9 (oneF k x (i + 1)) by rw [oneF_snoc, ← hy.out]; exact hR)
          clear hR hb hg hat HS HR
          go_wp2_with fail
          go_roundw
          case rel => exact ⟨i + 1, hlt, by go_num, HR9, HS9⟩
          case measure => simp [intOf]; omega
        have hy : (0 : Int) = if i = k then x else 1 := by rw [if_pos hik, hx]; rfl
        clear hik hx hx02
        replace hy := Aside0.mk hy
        go_wp2_with ((with_reducible refine gate_builtin (b := .append) (xs := #[.tmp 88, .tmp 90]) rfl ?_); refine Shut.out ?_)
        unfold Shut
        change wpList _ _ _ _ _ (wr.alloc (.cells [Value.int .u8 0].toArray 5))
        refine Kd.R_append (w0 := w) (Kd.int .u8) w.heap.size rfl (.tmp 88) (.tmp 90) 38 5 (.int .u8 0) 1 rfl by_und' u_info rfl (by show 0 < 1; omega) (by omega) (.slice A3 i c3) (oneF k x i) 0 [Value.int .u8 0] (fun _ => True) (fun k => some k ≠ (Value.slice A3 i c3).ownBlock) rfl rfl rfl (fun k hk => ⟨trivial, hk⟩) (fun _ _ => trivial) HR.out HS.out.b HS.out.b.size (by rw [oneF_len]; omega) ?_
        intro v9 w11 hR hb hg hat
        have HS9 := Aside0.mk (HS.out.grownU HR.out hg)
        have HR9 := Aside0.mk (show Kd.R (Kd.int .u8) 5 w11 w.heap.size (fun _ => True) v9 (oneF k x (i + 1)) by rw [oneF_snoc, ← hy.out]; exact hR)
        clear hR hb hg hat HS HR
        go_wp2_with fail
        go_roundw
        case rel => exact ⟨i + 1, hlt, by go_num, HR9, HS9⟩
        case measure => simp [intOf]; omega
      have e1 : ((i : Int) == (k : Int)) = false := beq_eq_false_iff_ne.2 (fun h => hik (Int.ofNat.inj h))
      have hy : (1 : Int) = if i = k then x else 1 := by rw [if_neg hik]
      clear hik hx hx02
      replace hy := Aside0.mk hy
      go_wp2_with ((with_reducible refine gate_builtin (b := .append) (xs := #[.tmp 88, .tmp 90]) rfl ?_); refine Shut.out ?_)
      unfold Shut
      change wpList _ _ _ _ _ (wr.alloc (.cells [Value.int .u8 1].toArray 5))
      refine Kd.R_append (w0 := w) (Kd.int .u8) w.heap.size rfl (.tmp 88) (.tmp 90) 38 5 (.int .u8 0) 1 rfl by_und' u_info rfl (by show 0 < 1; omega) (by omega) (.slice A3 i c3) (oneF k x i) 1 [Value.int .u8 1] (fun _ => True) (fun k => some k ≠ (Value.slice A3 i c3).ownBlock) rfl rfl rfl (fun k hk => ⟨trivial, hk⟩) (fun _ _ => trivial) HR.out HS.out.b HS.out.b.size (by rw [oneF_len]; omega) ?_
      intro v9 w11 hR hb hg hat
      have HS9 := Aside0.mk (HS.out.grownU HR.out hg)
      have HR9 := Aside0.mk (show Kd.R (Kd.int .u8) 5 w11 w.heap.size (fun _ => True) v9 (oneF k x (i + 1)) by rw [oneF_snoc, ← hy.out]; exact hR)
      clear hR hb hg hat HS HR
      go_wp2_with fail
      go_roundw
      case rel => exact ⟨i + 1, hlt, by go_num, HR9, HS9⟩
      case measure => simp [intOf]; omega
    obtain rfl : i = U := by omega
    obtain ⟨A3, c3, hv3⟩ := Kd.R_slice HR.out
    subst hv3
    have HC := Aside0.mk (Kd.R_reads' HR.out).2.2
    have hfar : 0 < (oneF k x i).length → ∀ ad, A3 = some ad → ¬ foot p gl gm v7 ad.block := fun _ ad e => HS.out.farU HR.out (by rw [e]; rfl)
    have CR := Aside0.mk (C_crash (c := c3) HS.out HC.out hfar)
    clear hfar HC HR
    rw [oneF_len] at CR ⊢
    go_wp2_with fail
    refine CR.out.mono ?_
    rintro e w12 ⟨rfl, hs, _⟩
    have HS12 := Aside0.mk hs
    clear hs CR HS
    obtain ⟨L2, hrec, hwip⟩ := parts_crash hoa hob (n := 200) (by rw [hUu.out]; omega) (k := k) (by rw [hUu.out]; exact hkU) hx02 hWr.out
    rw [hUu.out] at hrec hwip
    replace hrec := Aside0.mk hrec
    replace hwip := Aside0.mk hwip
    have hok12 := Aside0.mk (okS_setl (fateOf (oneF k x i)) W2 0 (zeros 200) hO2.out)
    go_wp2_with fail
    refine (C_open HS12.out hok12.out hrec.out hwip.out).mono ?_
    rintro e w13 ⟨pk, lk, vk, rfl, hl, _, _, _⟩
    have HL := Aside0.mk hl
    clear hl HS12 hrec hwip hok12
    by_cases hkn : k < pn a.length
    case pos =>
      have g1 : (k : Int) < (pn a.length : Int) := by omega
      rw [if_pos hkn] at HL
      go_wp2_with fail
      refine (C_records HL.out.j HL.out.r (fun r h => by simp at h) (by simp)).mono ?_
      rintro e w14 ⟨A9, c9, rfl, _, hb⟩
      have HL14 := Aside0.mk (HL.out.below hb)
      clear hb HL
      go_wp2_with fail
      refine (j_Used HL14.out.j).mono ?_
      rintro e w15 ⟨rfl, hb⟩
      have HB15 := Aside0.mk (HL14.out.below hb).s.b
      clear hb HL14
      have eu : ((usum ([] : List (List Int)) : Nat) : Int) = 0 := rfl
      rw [eu]
      go_wp2_with fail
      go_ret
      exact ⟨rfl, HB15.out⟩
    have g1 : ¬ (k : Int) < (pn a.length : Int) := by omega
    rw [if_neg hkn] at HL
    go_wp2_with fail
    refine (C_records HL.out.j HL.out.r (fun r h => by rw [List.mem_singleton.1 h]; exact hoa) (by simp)).mono ?_
    rintro e w14 ⟨A9, c9, rfl, _, hb⟩
    have HL14 := Aside0.mk (HL.out.below hb)
    clear hb HL
    go_wp2_with fail
    refine (C_records HL14.out.j HL14.out.r (fun r h => by rw [List.mem_singleton.1 h]; exact hoa) (by simp)).mono ?_
    rintro e w15 ⟨A10, c10, rfl, hR, hb⟩
    have HL15 := Aside0.mk (HL14.out.below hb)
    clear hb HL14
    obtain ⟨ad, A11, c11, hA, hx11, hc11, hC11⟩ := jat (Kd.R_reads' hR).2.2 0 (by simp)
    have hx11 : w15.cell? (ad.add 0) = some (.slice A11 a.length c11) := hx11
    have hx12 : w15.cell? ad = some (.slice A11 a.length c11) := by rw [← hx11]; simp [Addr.add]
    have hC11 : Kd.C (Kd.int .u8) w15 A11 a.length a := hC11
    subst hA
    have HC11 := Aside0.mk hC11
    have hBA := Aside0.mk (k_Bytes (c0 := c11) (c1 := ca) HC11.out (Kd.C_below RA0.out HL15.out.s.b))
    rw [decide_eq_true rfl] at hBA
    clear hR hC11 hc11 HC11
    go_wp2_with fail
    refine hBA.out.mono ?_
    rintro e w16 ⟨rfl, hb⟩
    have HL16 := Aside0.mk (HL15.out.below hb)
    clear hb HL15 hBA hx11 hx12
    go_wp2_with fail
    refine (j_Used HL16.out.j).mono ?_
    rintro e w17 ⟨rfl, hb⟩
    have HB17 := Aside0.mk (HL16.out.below hb).s.b
    clear hb HL16
    have eu : ((usum [a] : Nat) : Int) = (pn a.length : Int) := by simp [usum]
    rw [eu]
    have ee : ((pn a.length : Int) == (pn a.length : Int)) = true := by simp
    go_wp2_with fail
    go_ret
    exact ⟨rfl, HB17.out⟩
theorem lombardlaw20_JournalParts.calls (A0_0 : Option Addr) (c0_0 : Nat) (l0_0 : List Int) (A0_1 : Option Addr) (c0_1 : Nat) (l0_1 : List Int) (a0_2 : Int) (a0_3 : Bool) (r : Bool) (w : World) (hr0_0 : Kd.C (Kd.int .u8) w A0_0 l0_0.length l0_0) (hc0_0 : l0_0.length ≤ c0_0) (hr0_1 : Kd.C (Kd.int .u8) w A0_1 l0_1.length l0_1) (hc0_1 : l0_1.length ≤ c0_1) (h : lombardlaw20_JournalParts.f l0_0 l0_1 a0_2 a0_3 = some r) :
    Calls Try.prog 5 #[.agg #[.slice A0_0 l0_0.length c0_0, .slice A0_1 l0_1.length c0_1, .int .u8 a0_2, .bool a0_3]] w fun e w' => e = .returned (.bool r) ∧ Below w.heap.size w w' := by
  unfold lombardlaw20_JournalParts.f at h
  by_cases hc : (l0_0.all (fun x => decide (0 ≤ x ∧ x < 256)) && (l0_1.all (fun x => decide (0 ≤ x ∧ x < 256)) && decide (0 ≤ a0_2 ∧ a0_2 < 256))) = true
  · rw [if_pos hc] at h
    obtain rfl := Option.some.inj h
    simp only [Bool.and_eq_true] at hc
    have h3 := of_decide_eq_true hc.2.2
    obtain ⟨m, rfl⟩ := Int.eq_ofNat_of_zero_le h3.1
    exact lombardlaw20_JournalParts.walk _ _ _ _ _ _ m _ _ hr0_0 hc0_0 hr0_1 hc0_1 (by omega) (fun x hx => of_decide_eq_true (List.all_eq_true.1 hc.1 x hx)) (fun x hx => of_decide_eq_true (List.all_eq_true.1 hc.2.1 x hx))
  · rw [if_neg hc] at h
    cases h


end Go.Proofs.Ytniadlnbjgodnaa.Print
