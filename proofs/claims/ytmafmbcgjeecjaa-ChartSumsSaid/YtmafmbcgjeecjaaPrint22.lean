-- written by this session's program wip/hybrid.py over the kit's printer, and by hand. Not trusted: Lean checks it.
import Derived.Test.YtmafmbcgjeecjaaPrint0
import Derived.Test.YtmafmbcgjeecjaaPrint5
import Derived.Test.YtmafmbcgjeecjaaPrint9
import Derived.Test.YtmafmbcgjeecjaaPrint16
import Derived.Test.YtmafmbcgjeecjaaPrint18
namespace Go.Proofs.Ytmafmbcgjeecjaa.Print
open Go.RowKit Go.Proofs.YtmafmbcgjeecjaaW.PrintWords Go.Proofs.YtmafmbcgjeecjaaW.PrintLast Go.Proofs.YtmafmbcgjeecjaaW.PrintMore
attribute [local go_sem] max2_int min2_int max_two min_two max_three min_three max_four min_four   -- for this text's walks alone
set_option linter.unusedVariables false
set_option linter.unusedSimpArgs false

/-! ### lombardlaw17_ChartSums: function 7 -/
mutual
def lombardlaw17_ChartSums.j0 : Nat → List (S48) → Int → List (S45) → Int → Bool → Option (Bool)
  | 0, _, _, _, _, _ => none
  | k + 1, x0, x5, x6, x7, x61 => if x61 = true then (some false) else (if x7 = 0 then ((chart_Net.f x6).bind fun bt267 => (if bt267.2 = 0 then ((lombardlaw17_From.f k bt267.1).bind fun t271 => ((lombardlaw17_From.f k x6).bind fun t274 => ((lombardref17_Same.f k t271 t274).bind fun t277 => (lombardlaw17_ChartSums.j1 k x0 x5 x6 (!t277))))) else (lombardlaw17_ChartSums.j1 k x0 x5 x6 true))) else (some ((x6.length : Int) == 0)))
def lombardlaw17_ChartSums.j1 : Nat → List (S48) → Int → List (S45) → Bool → Option (Bool)
  | 0, _, _, _, _ => none
  | k + 1, x0, x5, x6, x81 => if x81 = true then (some false) else (if 0 ≤ x5 then (if x5 ≤ (x0.length : Int) then ((lombardlaw17_To.f k (x0.take (x5 : Int).toNat)).bind fun t282 => ((chart_Net.f t282).bind fun bt285 => ((lombardlaw17_To.f k (x0.drop (x5 : Int).toNat)).bind fun t293 => ((chart_Net.f t293).bind fun bt296 => (if bt285.2 = 0 then (lombardlaw17_ChartSums.j2 k x0 x6 bt285.1 bt296.1 (bt296.2 == 0)) else (lombardlaw17_ChartSums.j2 k x0 x6 bt285.1 bt296.1 false)))))) else (none)) else (none))
def lombardlaw17_ChartSums.j2 : Nat → List (S48) → List (S45) → List (S45) → List (S45) → Bool → Option (Bool)
  | 0, _, _, _, _, _ => none
  | k + 1, x0, x6, x12, x14, x103 => if x103 = true then (if x12.length + x14.length < 8796093022208 then ((chart_Net.f (x12 ++ x14)).bind fun bt303 => (if bt303.2 = 0 then ((lombardlaw17_From.f k bt303.1).bind fun t307 => ((lombardlaw17_From.f k x6).bind fun t310 => ((lombardref17_Same.f k t307 t310).bind fun t313 => (if t313 = true then (lombardlaw17_ChartSums.j3 k x0 x6) else (some false))))) else (some false))) else (none)) else (lombardlaw17_ChartSums.j3 k x0 x6)
def lombardlaw17_ChartSums.j3 : Nat → List (S48) → List (S45) → Option (Bool)
  | 0, _, _ => none
  | k + 1, x0, x6 => (lombardlaw17_To.f k x0).bind fun t314 => ((chart_Check.f k t314).bind fun t317 => (if t317 = 0 then (lombardlaw17_ChartSums.l0 k 0 x6 (x6.length : Int) 0) else (some true)))
def lombardlaw17_ChartSums.l0 : Nat → Int → List (S45) → Int → Int → Option (Bool)
  | 0, _, _, _, _ => none
  | k + 1, x18, x125, x126, x127 => if x127 < x126 then (if 0 ≤ x127 then (if x127 < (x125.length : Int) then (lombardlaw17_ChartSums.l0 k (wrap64 (x18 + ((rd_T45 x125 x127).f1))) x125 x126 (wrap64 (x127 + 1))) else (none)) else (none)) else (some (x18 == 0))
end
def lombardlaw17_ChartSums.f (k : Nat) (l0 : List (S48)) (a1 : Int) : Option (Bool) := (lombardlaw17_alive.f k).bind fun t231 => (if t231 = true then (if (l0.length : Int) > 200 then (some true) else (if (wrap64 ((l0.length : Int) + 1)) = 0 then (none) else ((lombardlaw17_To.f k l0).bind fun t232 => ((chart_Net.f t232).bind fun bt235 => (if 0 ≤ (Int.tmod (wrap64 (a1)) (wrap64 ((l0.length : Int) + 1))) then (if (Int.tmod (wrap64 (a1)) (wrap64 ((l0.length : Int) + 1))) ≤ (l0.length : Int) then ((lombardlaw17_To.f k (l0.drop ((Int.tmod (wrap64 (a1)) (wrap64 ((l0.length : Int) + 1))) : Int).toNat)).bind fun t243 => ((lombardlaw17_To.f k (l0.take ((Int.tmod (wrap64 (a1)) (wrap64 ((l0.length : Int) + 1))) : Int).toNat)).bind fun t250 => (if t243.length + t250.length < 8796093022208 then ((chart_Net.f (t243 ++ t250)).bind fun bt256 => (if bt235.2 = bt256.2 then ((lombardlaw17_From.f k bt235.1).bind fun t260 => ((lombardlaw17_From.f k bt256.1).bind fun t263 => ((lombardref17_Same.f k t260 t263).bind fun t266 => (lombardlaw17_ChartSums.j0 k l0 (Int.tmod (wrap64 (a1)) (wrap64 ((l0.length : Int) + 1))) bt235.1 bt235.2 (!t266))))) else (lombardlaw17_ChartSums.j0 k l0 (Int.tmod (wrap64 (a1)) (wrap64 ((l0.length : Int) + 1))) bt235.1 bt235.2 true))) else (none)))) else (none)) else (none)))))) else (some false))
theorem lombardlaw17_ChartSums.mono_l : ∀ k, (∀ y0 y1 y2 y3 y4, LeO (lombardlaw17_ChartSums.j0 k y0 y1 y2 y3 y4) (lombardlaw17_ChartSums.j0 (k + 1) y0 y1 y2 y3 y4)) ∧ (∀ y0 y1 y2 y3, LeO (lombardlaw17_ChartSums.j1 k y0 y1 y2 y3) (lombardlaw17_ChartSums.j1 (k + 1) y0 y1 y2 y3)) ∧ (∀ y0 y1 y2 y3 y4, LeO (lombardlaw17_ChartSums.j2 k y0 y1 y2 y3 y4) (lombardlaw17_ChartSums.j2 (k + 1) y0 y1 y2 y3 y4)) ∧ (∀ y0 y1, LeO (lombardlaw17_ChartSums.j3 k y0 y1) (lombardlaw17_ChartSums.j3 (k + 1) y0 y1)) ∧ (∀ y0 y1 y2 y3, LeO (lombardlaw17_ChartSums.l0 k y0 y1 y2 y3) (lombardlaw17_ChartSums.l0 (k + 1) y0 y1 y2 y3))
  | 0 => ⟨fun _ _ _ _ _ r h => by simp [lombardlaw17_ChartSums.j0] at h, fun _ _ _ _ r h => by simp [lombardlaw17_ChartSums.j1] at h, fun _ _ _ _ _ r h => by simp [lombardlaw17_ChartSums.j2] at h, fun _ _ r h => by simp [lombardlaw17_ChartSums.j3] at h, fun _ _ _ _ r h => by simp [lombardlaw17_ChartSums.l0] at h⟩
  | k + 1 => by
    obtain ⟨ih0, ih1, ih2, ih3, ih4⟩ := lombardlaw17_ChartSums.mono_l k
    refine ⟨?_, ?_, ?_, ?_, ?_⟩
    · intro y0 y1 y2 y3 y4
      unfold lombardlaw17_ChartSums.j0
      repeat' first
      | (with_reducible exact ih0 _ _ _ _ _)
      | (with_reducible exact ih1 _ _ _ _)
      | (with_reducible exact ih2 _ _ _ _ _)
      | (with_reducible exact ih3 _ _)
      | (with_reducible exact ih4 _ _ _ _)
      | (with_reducible exact chart_Check.mono _ _)
      | (with_reducible exact lombardlaw17_From.mono _ _)
      | (with_reducible exact lombardlaw17_To.mono _ _)
      | (with_reducible exact lombardlaw17_alive.mono _)
      | (with_reducible exact lombardref17_Same.mono _ _ _)
      | (with_reducible exact LeO.refl _)
      | (with_reducible exact LeO.none _)
      | (with_reducible refine LeO.ite ?_ ?_)
      | (with_reducible refine LeO.bind ?_ (fun _ => ?_))
      | exact ih0 _ _ _ _ _
      | exact ih1 _ _ _ _
      | exact ih2 _ _ _ _ _
      | exact ih3 _ _
      | exact ih4 _ _ _ _
      | exact chart_Check.mono _ _
      | exact lombardlaw17_From.mono _ _
      | exact lombardlaw17_To.mono _ _
      | exact lombardlaw17_alive.mono _
      | exact lombardref17_Same.mono _ _ _
      | exact LeO.none _
      | refine LeO.ite ?_ ?_
      | refine LeO.bind ?_ (fun _ => ?_)
    · intro y0 y1 y2 y3
      unfold lombardlaw17_ChartSums.j1
      repeat' first
      | (with_reducible exact ih0 _ _ _ _ _)
      | (with_reducible exact ih1 _ _ _ _)
      | (with_reducible exact ih2 _ _ _ _ _)
      | (with_reducible exact ih3 _ _)
      | (with_reducible exact ih4 _ _ _ _)
      | (with_reducible exact chart_Check.mono _ _)
      | (with_reducible exact lombardlaw17_From.mono _ _)
      | (with_reducible exact lombardlaw17_To.mono _ _)
      | (with_reducible exact lombardlaw17_alive.mono _)
      | (with_reducible exact lombardref17_Same.mono _ _ _)
      | (with_reducible exact LeO.refl _)
      | (with_reducible exact LeO.none _)
      | (with_reducible refine LeO.ite ?_ ?_)
      | (with_reducible refine LeO.bind ?_ (fun _ => ?_))
      | exact ih0 _ _ _ _ _
      | exact ih1 _ _ _ _
      | exact ih2 _ _ _ _ _
      | exact ih3 _ _
      | exact ih4 _ _ _ _
      | exact chart_Check.mono _ _
      | exact lombardlaw17_From.mono _ _
      | exact lombardlaw17_To.mono _ _
      | exact lombardlaw17_alive.mono _
      | exact lombardref17_Same.mono _ _ _
      | exact LeO.none _
      | refine LeO.ite ?_ ?_
      | refine LeO.bind ?_ (fun _ => ?_)
    · intro y0 y1 y2 y3 y4
      unfold lombardlaw17_ChartSums.j2
      repeat' first
      | (with_reducible exact ih0 _ _ _ _ _)
      | (with_reducible exact ih1 _ _ _ _)
      | (with_reducible exact ih2 _ _ _ _ _)
      | (with_reducible exact ih3 _ _)
      | (with_reducible exact ih4 _ _ _ _)
      | (with_reducible exact chart_Check.mono _ _)
      | (with_reducible exact lombardlaw17_From.mono _ _)
      | (with_reducible exact lombardlaw17_To.mono _ _)
      | (with_reducible exact lombardlaw17_alive.mono _)
      | (with_reducible exact lombardref17_Same.mono _ _ _)
      | (with_reducible exact LeO.refl _)
      | (with_reducible exact LeO.none _)
      | (with_reducible refine LeO.ite ?_ ?_)
      | (with_reducible refine LeO.bind ?_ (fun _ => ?_))
      | exact ih0 _ _ _ _ _
      | exact ih1 _ _ _ _
      | exact ih2 _ _ _ _ _
      | exact ih3 _ _
      | exact ih4 _ _ _ _
      | exact chart_Check.mono _ _
      | exact lombardlaw17_From.mono _ _
      | exact lombardlaw17_To.mono _ _
      | exact lombardlaw17_alive.mono _
      | exact lombardref17_Same.mono _ _ _
      | exact LeO.none _
      | refine LeO.ite ?_ ?_
      | refine LeO.bind ?_ (fun _ => ?_)
    · intro y0 y1
      unfold lombardlaw17_ChartSums.j3
      repeat' first
      | (with_reducible exact ih0 _ _ _ _ _)
      | (with_reducible exact ih1 _ _ _ _)
      | (with_reducible exact ih2 _ _ _ _ _)
      | (with_reducible exact ih3 _ _)
      | (with_reducible exact ih4 _ _ _ _)
      | (with_reducible exact chart_Check.mono _ _)
      | (with_reducible exact lombardlaw17_From.mono _ _)
      | (with_reducible exact lombardlaw17_To.mono _ _)
      | (with_reducible exact lombardlaw17_alive.mono _)
      | (with_reducible exact lombardref17_Same.mono _ _ _)
      | (with_reducible exact LeO.refl _)
      | (with_reducible exact LeO.none _)
      | (with_reducible refine LeO.ite ?_ ?_)
      | (with_reducible refine LeO.bind ?_ (fun _ => ?_))
      | exact ih0 _ _ _ _ _
      | exact ih1 _ _ _ _
      | exact ih2 _ _ _ _ _
      | exact ih3 _ _
      | exact ih4 _ _ _ _
      | exact chart_Check.mono _ _
      | exact lombardlaw17_From.mono _ _
      | exact lombardlaw17_To.mono _ _
      | exact lombardlaw17_alive.mono _
      | exact lombardref17_Same.mono _ _ _
      | exact LeO.none _
      | refine LeO.ite ?_ ?_
      | refine LeO.bind ?_ (fun _ => ?_)
    · intro y0 y1 y2 y3
      unfold lombardlaw17_ChartSums.l0
      repeat' first
      | (with_reducible exact ih0 _ _ _ _ _)
      | (with_reducible exact ih1 _ _ _ _)
      | (with_reducible exact ih2 _ _ _ _ _)
      | (with_reducible exact ih3 _ _)
      | (with_reducible exact ih4 _ _ _ _)
      | (with_reducible exact chart_Check.mono _ _)
      | (with_reducible exact lombardlaw17_From.mono _ _)
      | (with_reducible exact lombardlaw17_To.mono _ _)
      | (with_reducible exact lombardlaw17_alive.mono _)
      | (with_reducible exact lombardref17_Same.mono _ _ _)
      | (with_reducible exact LeO.refl _)
      | (with_reducible exact LeO.none _)
      | (with_reducible refine LeO.ite ?_ ?_)
      | (with_reducible refine LeO.bind ?_ (fun _ => ?_))
      | exact ih0 _ _ _ _ _
      | exact ih1 _ _ _ _
      | exact ih2 _ _ _ _ _
      | exact ih3 _ _
      | exact ih4 _ _ _ _
      | exact chart_Check.mono _ _
      | exact lombardlaw17_From.mono _ _
      | exact lombardlaw17_To.mono _ _
      | exact lombardlaw17_alive.mono _
      | exact lombardref17_Same.mono _ _ _
      | exact LeO.none _
      | refine LeO.ite ?_ ?_
      | refine LeO.bind ?_ (fun _ => ?_)
theorem lombardlaw17_ChartSums.mono : ∀ a0 a1 k, LeO (lombardlaw17_ChartSums.f k a0 a1) (lombardlaw17_ChartSums.f (k + 1) a0 a1) := by
  intro a0 a1 k
  obtain ⟨ih0, ih1, ih2, ih3, ih4⟩ := lombardlaw17_ChartSums.mono_l k
  unfold lombardlaw17_ChartSums.f
  repeat' first
      | (with_reducible exact ih0 _ _ _ _ _)
      | (with_reducible exact ih1 _ _ _ _)
      | (with_reducible exact ih2 _ _ _ _ _)
      | (with_reducible exact ih3 _ _)
      | (with_reducible exact ih4 _ _ _ _)
      | (with_reducible exact chart_Check.mono _ _)
      | (with_reducible exact lombardlaw17_From.mono _ _)
      | (with_reducible exact lombardlaw17_To.mono _ _)
      | (with_reducible exact lombardlaw17_alive.mono _)
      | (with_reducible exact lombardref17_Same.mono _ _ _)
      | (with_reducible exact LeO.refl _)
      | (with_reducible exact LeO.none _)
      | (with_reducible refine LeO.ite ?_ ?_)
      | (with_reducible refine LeO.bind ?_ (fun _ => ?_))
      | exact ih0 _ _ _ _ _
      | exact ih1 _ _ _ _
      | exact ih2 _ _ _ _ _
      | exact ih3 _ _
      | exact ih4 _ _ _ _
      | exact chart_Check.mono _ _
      | exact lombardlaw17_From.mono _ _
      | exact lombardlaw17_To.mono _ _
      | exact lombardlaw17_alive.mono _
      | exact lombardref17_Same.mono _ _ _
      | exact LeO.none _
      | refine LeO.ite ?_ ?_
      | refine LeO.bind ?_ (fun _ => ?_)
def lombardlaw17_ChartSums.T7 : Bool × List (List Nat × List Nat) := (true, [([], []), ([], []), ([0, 1], [0, 1]), ([2], [2]), ([], []), ([], []), ([4, 5], [4, 5]), ([6, 3], [6]), ([3, 7, 7], [3, 7]), ([8, 8], [8]), ([9], [9]), ([10], [10]), ([10], [10]), ([11, 9, 0, 1, 2, 3, 4, 5, 6, 7, 8, 9, 10, 11], [11]), ([12, 13, 0, 1, 2, 3, 4, 5, 6, 7, 8, 9, 10, 11, 12, 13], [12])])
def lombardlaw17_ChartSums.B7 : List Nat := [0, 0, 3, 7, 0, 0, 48, 127, 255, 511, 1023, 2047, 2047, 4095, 16383]
theorem lombardlaw17_ChartSums.tab7 : rtab .any (opsOf Try.f7 7) = lombardlaw17_ChartSums.T7 := by kernel_rfl
theorem lombardlaw17_ChartSums.bits7 : waitsOk lombardlaw17_ChartSums.T7.2 lombardlaw17_ChartSums.B7 = true := by kernel_rfl
set_option maxHeartbeats 8000000 in
set_option maxRecDepth 100000 in
theorem lombardlaw17_ChartSums.calls (k : Nat) (A0 : Option Addr) (c0 : Nat) (l0 : List (S48)) (a1 : Int) (r : Bool) (w : World) (hr0 : Kd.C k48 w A0 l0.length l0) (hc0 : l0.length ≤ c0) (h : lombardlaw17_ChartSums.f k l0 a1 = some r) :
    Calls Try.prog 7 #[.slice A0 l0.length c0, .int .u8 a1] w fun e w' => e = .returned (.bool r) ∧ Below w.heap.size w w' := by
  have hu45 := Try.underlying45
  have HR0 := Aside0.mk hr0
  have HC0 := Aside0.mk hc0
  clear hr0 hc0
  have HB := Aside0.mk (Below.refl w.heap.size w)
  have H : ((lombardlaw17_alive.f k).bind fun t231 => (if t231 = true then (if (l0.length : Int) > 200 then (some true) else (if (wrap64 ((l0.length : Int) + 1)) = 0 then (none) else ((lombardlaw17_To.f k l0).bind fun t232 => ((chart_Net.f t232).bind fun bt235 => (if 0 ≤ (Int.tmod (wrap64 (a1)) (wrap64 ((l0.length : Int) + 1))) then (if (Int.tmod (wrap64 (a1)) (wrap64 ((l0.length : Int) + 1))) ≤ (l0.length : Int) then ((lombardlaw17_To.f k (l0.drop ((Int.tmod (wrap64 (a1)) (wrap64 ((l0.length : Int) + 1))) : Int).toNat)).bind fun t243 => ((lombardlaw17_To.f k (l0.take ((Int.tmod (wrap64 (a1)) (wrap64 ((l0.length : Int) + 1))) : Int).toNat)).bind fun t250 => (if t243.length + t250.length < 8796093022208 then ((chart_Net.f (t243 ++ t250)).bind fun bt256 => (if bt235.2 = bt256.2 then ((lombardlaw17_From.f k bt235.1).bind fun t260 => ((lombardlaw17_From.f k bt256.1).bind fun t263 => ((lombardref17_Same.f k t260 t263).bind fun t266 => (lombardlaw17_ChartSums.j0 k l0 (Int.tmod (wrap64 (a1)) (wrap64 ((l0.length : Int) + 1))) bt235.1 bt235.2 (!t266))))) else (lombardlaw17_ChartSums.j0 k l0 (Int.tmod (wrap64 (a1)) (wrap64 ((l0.length : Int) + 1))) bt235.1 bt235.2 true))) else (none)))) else (none)) else (none)))))) else (some false))) = some r := h
  clear h
  replace H := Option.bind_eq_some_iff.mp H
  obtain ⟨t231, A30, H⟩ := H
  replace H : (if t231 = true then (if (l0.length : Int) > 200 then (some true) else (if (wrap64 ((l0.length : Int) + 1)) = 0 then (none) else ((lombardlaw17_To.f k l0).bind fun t232 => ((chart_Net.f t232).bind fun bt235 => (if 0 ≤ (Int.tmod (wrap64 (a1)) (wrap64 ((l0.length : Int) + 1))) then (if (Int.tmod (wrap64 (a1)) (wrap64 ((l0.length : Int) + 1))) ≤ (l0.length : Int) then ((lombardlaw17_To.f k (l0.drop ((Int.tmod (wrap64 (a1)) (wrap64 ((l0.length : Int) + 1))) : Int).toNat)).bind fun t243 => ((lombardlaw17_To.f k (l0.take ((Int.tmod (wrap64 (a1)) (wrap64 ((l0.length : Int) + 1))) : Int).toNat)).bind fun t250 => (if t243.length + t250.length < 8796093022208 then ((chart_Net.f (t243 ++ t250)).bind fun bt256 => (if bt235.2 = bt256.2 then ((lombardlaw17_From.f k bt235.1).bind fun t260 => ((lombardlaw17_From.f k bt256.1).bind fun t263 => ((lombardref17_Same.f k t260 t263).bind fun t266 => (lombardlaw17_ChartSums.j0 k l0 (Int.tmod (wrap64 (a1)) (wrap64 ((l0.length : Int) + 1))) bt235.1 bt235.2 (!t266))))) else (lombardlaw17_ChartSums.j0 k l0 (Int.tmod (wrap64 (a1)) (wrap64 ((l0.length : Int) + 1))) bt235.1 bt235.2 true))) else (none)))) else (none)) else (none)))))) else (some false)) = some r := H
  have A3 := Aside0.mk A30
  clear A30
  by_cases c4 : t231 = true
  · subst c4
    have H1 : (if (l0.length : Int) > 200 then (some true) else (if (wrap64 ((l0.length : Int) + 1)) = 0 then (none) else ((lombardlaw17_To.f k l0).bind fun t232 => ((chart_Net.f t232).bind fun bt235 => (if 0 ≤ (Int.tmod (wrap64 (a1)) (wrap64 ((l0.length : Int) + 1))) then (if (Int.tmod (wrap64 (a1)) (wrap64 ((l0.length : Int) + 1))) ≤ (l0.length : Int) then ((lombardlaw17_To.f k (l0.drop ((Int.tmod (wrap64 (a1)) (wrap64 ((l0.length : Int) + 1))) : Int).toNat)).bind fun t243 => ((lombardlaw17_To.f k (l0.take ((Int.tmod (wrap64 (a1)) (wrap64 ((l0.length : Int) + 1))) : Int).toNat)).bind fun t250 => (if t243.length + t250.length < 8796093022208 then ((chart_Net.f (t243 ++ t250)).bind fun bt256 => (if bt235.2 = bt256.2 then ((lombardlaw17_From.f k bt235.1).bind fun t260 => ((lombardlaw17_From.f k bt256.1).bind fun t263 => ((lombardref17_Same.f k t260 t263).bind fun t266 => (lombardlaw17_ChartSums.j0 k l0 (Int.tmod (wrap64 (a1)) (wrap64 ((l0.length : Int) + 1))) bt235.1 bt235.2 (!t266))))) else (lombardlaw17_ChartSums.j0 k l0 (Int.tmod (wrap64 (a1)) (wrap64 ((l0.length : Int) + 1))) bt235.1 bt235.2 true))) else (none)))) else (none)) else (none)))))) = some r := by rw [if_pos rfl] at H; exact H
    clear H
    have H := H1
    clear H1
    by_cases c5 : (l0.length : Int) > 200
    · rw [if_pos c5] at H
      have c5b0 : decide (200 < (l0.length : Int)) = true := decide_eq_true c5
      have c5b1 : decide (200 < l0.length) = true := decide_eq_true (by omega)
      clear c5
      obtain rfl := Option.some.inj H
      go_enter Try.func7, Try.ntmps7
      go_wp2_with (first | ((with_reducible refine gate_callee (f := 8) rfl ?_); refine goesL_ (some 21) rfl rfl Try.func8 (by kernel_rfl) rfl #[] rfl (by (try simp only [List.map_toArray, List.map_cons, List.map_nil]); first | done | rfl | (simp only [List.length_drop, List.length_take]; rfl)) ?_; (with_reducible refine (lombardlaw17_alive.calls k  true _ A3.out).mono ?_); rintro e w6 ⟨rfl, hb⟩; refine ⟨_, rfl, ?_⟩; have n0_ := Aside0.mk (below_step (by repeat (first | (with_reducible first | exact HB.out | apply below_alloc | apply pw_below_drewN | apply below_drew1) | exact HB.out)) hb); clear HB; have HB := n0_; clear n0_; (try clear hb); (try clear hb2); (try clear hk); (try clear hi)))
      go_ret
      exact ⟨by first | rfl | (simp [errW_none, errW_some] <;> rfl) | (simp [*, errW_none, errW_some] <;> rfl), by repeat (first | (with_reducible first | exact HB.out | apply below_alloc | apply pw_below_drewN | apply below_drew1) | exact HB.out)⟩
    · rw [if_neg c5] at H
      have c5b0 : decide (200 < (l0.length : Int)) = false := decide_eq_false c5
      have c5b1 : decide (200 < l0.length) = false := decide_eq_false (by omega)
      clear c5
      by_cases c7 : (wrap64 ((l0.length : Int) + 1)) = 0
      · rw [if_pos c7] at H
        exact absurd H (by simp)
      · rw [if_neg c7] at H
        have c7b0 : ((wrap64 ((l0.length : Int) + 1)) == 0) = false := beq_eq_false_iff_ne.mpr c7
        have c7b1 : ((wrap64 ((l0.length : Int) + 1)) != 0) = true := bne_iff_ne.mpr c7
        replace H := Option.bind_eq_some_iff.mp H
        obtain ⟨t232, A80, H⟩ := H
        replace H : ((chart_Net.f t232).bind fun bt235 => (if 0 ≤ (Int.tmod (wrap64 (a1)) (wrap64 ((l0.length : Int) + 1))) then (if (Int.tmod (wrap64 (a1)) (wrap64 ((l0.length : Int) + 1))) ≤ (l0.length : Int) then ((lombardlaw17_To.f k (l0.drop ((Int.tmod (wrap64 (a1)) (wrap64 ((l0.length : Int) + 1))) : Int).toNat)).bind fun t243 => ((lombardlaw17_To.f k (l0.take ((Int.tmod (wrap64 (a1)) (wrap64 ((l0.length : Int) + 1))) : Int).toNat)).bind fun t250 => (if t243.length + t250.length < 8796093022208 then ((chart_Net.f (t243 ++ t250)).bind fun bt256 => (if bt235.2 = bt256.2 then ((lombardlaw17_From.f k bt235.1).bind fun t260 => ((lombardlaw17_From.f k bt256.1).bind fun t263 => ((lombardref17_Same.f k t260 t263).bind fun t266 => (lombardlaw17_ChartSums.j0 k l0 (Int.tmod (wrap64 (a1)) (wrap64 ((l0.length : Int) + 1))) bt235.1 bt235.2 (!t266))))) else (lombardlaw17_ChartSums.j0 k l0 (Int.tmod (wrap64 (a1)) (wrap64 ((l0.length : Int) + 1))) bt235.1 bt235.2 true))) else (none)))) else (none)) else (none))) = some r := H
        have A8 := Aside0.mk A80
        clear A80
        replace H := Option.bind_eq_some_iff.mp H
        obtain ⟨⟨t235, t236⟩, A90, H⟩ := H
        replace H : (if 0 ≤ (Int.tmod (wrap64 (a1)) (wrap64 ((l0.length : Int) + 1))) then (if (Int.tmod (wrap64 (a1)) (wrap64 ((l0.length : Int) + 1))) ≤ (l0.length : Int) then ((lombardlaw17_To.f k (l0.drop ((Int.tmod (wrap64 (a1)) (wrap64 ((l0.length : Int) + 1))) : Int).toNat)).bind fun t243 => ((lombardlaw17_To.f k (l0.take ((Int.tmod (wrap64 (a1)) (wrap64 ((l0.length : Int) + 1))) : Int).toNat)).bind fun t250 => (if t243.length + t250.length < 8796093022208 then ((chart_Net.f (t243 ++ t250)).bind fun bt256 => (if t236 = bt256.2 then ((lombardlaw17_From.f k t235).bind fun t260 => ((lombardlaw17_From.f k bt256.1).bind fun t263 => ((lombardref17_Same.f k t260 t263).bind fun t266 => (lombardlaw17_ChartSums.j0 k l0 (Int.tmod (wrap64 (a1)) (wrap64 ((l0.length : Int) + 1))) t235 t236 (!t266))))) else (lombardlaw17_ChartSums.j0 k l0 (Int.tmod (wrap64 (a1)) (wrap64 ((l0.length : Int) + 1))) t235 t236 true))) else (none)))) else (none)) else (none)) = some r := H
        have A9 := Aside0.mk A90
        clear A90
        obtain ⟨ji10, hji10⟩ : ∃ j_ : Int, (Int.tmod (wrap64 (a1)) (wrap64 ((l0.length : Int) + 1))) = j_ := ⟨_, rfl⟩
        replace H : (if 0 ≤ (ji10) then (if (ji10) ≤ (l0.length : Int) then ((lombardlaw17_To.f k (l0.drop ((ji10) : Int).toNat)).bind fun t243 => ((lombardlaw17_To.f k (l0.take ((ji10) : Int).toNat)).bind fun t250 => (if t243.length + t250.length < 8796093022208 then ((chart_Net.f (t243 ++ t250)).bind fun bt256 => (if t236 = bt256.2 then ((lombardlaw17_From.f k t235).bind fun t260 => ((lombardlaw17_From.f k bt256.1).bind fun t263 => ((lombardref17_Same.f k t260 t263).bind fun t266 => (lombardlaw17_ChartSums.j0 k l0 ji10 t235 t236 (!t266))))) else (lombardlaw17_ChartSums.j0 k l0 ji10 t235 t236 true))) else (none)))) else (none)) else (none)) = some r := by first | (rw [hji10] at H; exact H) | (simp only [hji10] at H ⊢; exact H)
        (try rw [hji10] at A3)
        (try rw [hji10] at A8)
        (try rw [hji10] at A9)
        by_cases c11 : 0 ≤ (ji10)
        · rw [if_pos c11] at H
          have c11b0 := eq_true c11
          have c11b1 : decide (0 ≤ (ji10)) = true := decide_eq_true c11
          clear c11
          by_cases c12 : (ji10) ≤ (l0.length : Int)
          · rw [if_pos c12] at H
            have c12b0 := eq_true c12
            have c12b1 : decide ((ji10) ≤ (l0.length : Int)) = true := decide_eq_true c12
            clear c12
            obtain ⟨y239, hy239⟩ : ∃ y_ : List (S48), y_ = (l0.drop ((ji10) : Int).toNat) := ⟨_, rfl⟩
            replace H : ((lombardlaw17_To.f k y239).bind fun t243 => ((lombardlaw17_To.f k (l0.take ((ji10) : Int).toNat)).bind fun t250 => (if t243.length + t250.length < 8796093022208 then ((chart_Net.f (t243 ++ t250)).bind fun bt256 => (if t236 = bt256.2 then ((lombardlaw17_From.f k t235).bind fun t260 => ((lombardlaw17_From.f k bt256.1).bind fun t263 => ((lombardref17_Same.f k t260 t263).bind fun t266 => (lombardlaw17_ChartSums.j0 k l0 ji10 t235 t236 (!t266))))) else (lombardlaw17_ChartSums.j0 k l0 ji10 t235 t236 true))) else (none)))) = some r := by first | (rw [hy239]; with_reducible exact H) | (have H2_ := (Option.bind_some _ _).symm.trans H; rw [hy239]; with_reducible exact H2_) | (have H2_ := (Option.bind_some _ _).symm.trans H; with_reducible exact H2_) | with_reducible exact H | (rw [hy239]; exact H) | exact H
            have Ny239 := Aside0.mk hy239
            clear hy239
            replace H := Option.bind_eq_some_iff.mp H
            obtain ⟨t243, A130, H⟩ := H
            replace H : ((lombardlaw17_To.f k (l0.take ((ji10) : Int).toNat)).bind fun t250 => (if t243.length + t250.length < 8796093022208 then ((chart_Net.f (t243 ++ t250)).bind fun bt256 => (if t236 = bt256.2 then ((lombardlaw17_From.f k t235).bind fun t260 => ((lombardlaw17_From.f k bt256.1).bind fun t263 => ((lombardref17_Same.f k t260 t263).bind fun t266 => (lombardlaw17_ChartSums.j0 k l0 ji10 t235 t236 (!t266))))) else (lombardlaw17_ChartSums.j0 k l0 ji10 t235 t236 true))) else (none))) = some r := H
            have A13 := Aside0.mk A130
            clear A130
            have c14b0 := eq_true (of_decide_eq_true (by first | (with_reducible assumption) | assumption) : 0 ≤ (ji10))
            have c15b0 := eq_true (of_decide_eq_true (by first | (with_reducible assumption) | assumption) : (ji10) ≤ (l0.length : Int))
            obtain ⟨y246, hy246⟩ : ∃ y_ : List (S48), y_ = (l0.take ((ji10) : Int).toNat) := ⟨_, rfl⟩
            replace H : ((lombardlaw17_To.f k y246).bind fun t250 => (if t243.length + t250.length < 8796093022208 then ((chart_Net.f (t243 ++ t250)).bind fun bt256 => (if t236 = bt256.2 then ((lombardlaw17_From.f k t235).bind fun t260 => ((lombardlaw17_From.f k bt256.1).bind fun t263 => ((lombardref17_Same.f k t260 t263).bind fun t266 => (lombardlaw17_ChartSums.j0 k l0 ji10 t235 t236 (!t266))))) else (lombardlaw17_ChartSums.j0 k l0 ji10 t235 t236 true))) else (none))) = some r := by first | (rw [hy246]; with_reducible exact H) | (have H2_ := (Option.bind_some _ _).symm.trans H; rw [hy246]; with_reducible exact H2_) | (have H2_ := (Option.bind_some _ _).symm.trans H; with_reducible exact H2_) | with_reducible exact H | (rw [hy246]; exact H) | exact H
            have Ny246 := Aside0.mk hy246
            clear hy246
            replace H := Option.bind_eq_some_iff.mp H
            obtain ⟨t250, A160, H⟩ := H
            replace H : (if t243.length + t250.length < 8796093022208 then ((chart_Net.f (t243 ++ t250)).bind fun bt256 => (if t236 = bt256.2 then ((lombardlaw17_From.f k t235).bind fun t260 => ((lombardlaw17_From.f k bt256.1).bind fun t263 => ((lombardref17_Same.f k t260 t263).bind fun t266 => (lombardlaw17_ChartSums.j0 k l0 ji10 t235 t236 (!t266))))) else (lombardlaw17_ChartSums.j0 k l0 ji10 t235 t236 true))) else (none)) = some r := H
            have A16 := Aside0.mk A160
            clear A160
            by_cases c17 : t243.length + t250.length < 8796093022208
            · rw [if_pos c17] at H
              have LMc17 := Aside0.mk c17
              clear c17
              obtain ⟨y253, hy253⟩ : ∃ y_ : List (S45), y_ = (t243 ++ t250) := ⟨_, rfl⟩
              replace H : ((chart_Net.f y253).bind fun bt256 => (if t236 = bt256.2 then ((lombardlaw17_From.f k t235).bind fun t260 => ((lombardlaw17_From.f k bt256.1).bind fun t263 => ((lombardref17_Same.f k t260 t263).bind fun t266 => (lombardlaw17_ChartSums.j0 k l0 ji10 t235 t236 (!t266))))) else (lombardlaw17_ChartSums.j0 k l0 ji10 t235 t236 true))) = some r := by first | (rw [hy253]; with_reducible exact H) | (have H2_ := (Option.bind_some _ _).symm.trans H; rw [hy253]; with_reducible exact H2_) | (have H2_ := (Option.bind_some _ _).symm.trans H; with_reducible exact H2_) | with_reducible exact H | (rw [hy253]; exact H) | exact H
              have Ny253 := Aside0.mk hy253
              clear hy253
              replace H := Option.bind_eq_some_iff.mp H
              obtain ⟨⟨t256, t257⟩, A180, H⟩ := H
              replace H : (if t236 = t257 then ((lombardlaw17_From.f k t235).bind fun t260 => ((lombardlaw17_From.f k t256).bind fun t263 => ((lombardref17_Same.f k t260 t263).bind fun t266 => (lombardlaw17_ChartSums.j0 k l0 ji10 t235 t236 (!t266))))) else (lombardlaw17_ChartSums.j0 k l0 ji10 t235 t236 true)) = some r := H
              have A18 := Aside0.mk A180
              clear A180
              have HC19 := Aside0.mk H
              clear H
              go_enter Try.func7, Try.ntmps7
              try go_wp2_with (first | ((with_reducible refine gate_callee (f := 8) rfl ?_); refine goesL_ (some 21) rfl rfl Try.func8 (by kernel_rfl) rfl #[] rfl (by (try simp only [List.map_toArray, List.map_cons, List.map_nil]); first | done | rfl | (simp only [List.length_drop, List.length_take]; rfl)) ?_; (with_reducible refine (lombardlaw17_alive.calls k  true _ A3.out).mono ?_); rintro e w20 ⟨rfl, hb⟩; refine ⟨_, rfl, ?_⟩; have n0_ := Aside0.mk (below_step (by repeat (first | (with_reducible first | exact HB.out | apply below_alloc | apply pw_below_drewN | apply below_drew1) | exact HB.out)) hb); clear HB; have HB := n0_; clear n0_; (try clear hb); (try clear hb2); (try clear hk); (try clear hi)) | ((with_reducible refine gate_callee (f := 17) rfl ?_); refine goesL_ (some 34) rfl rfl Try.func17 (by kernel_rfl) rfl #[.slice A0 l0.length c0] rfl (by (try simp only [List.map_toArray, List.map_cons, List.map_nil]); first | done | rfl | (simp only [List.length_drop, List.length_take]; rfl)) ?_; (with_reducible refine (lombardlaw17_To.calls k _ _ l0 t232 _ ?side1 ?side2 A8.out).mono ?_); (case side1 => repeat (first | exact (Kd.C_below HR0.out HB.out) | (with_reducible refine Kd.C_alloc ?_ _) | (with_reducible refine Kd.C_drewN ?_ _) | (with_reducible refine Kd.C_drew ?_))); (case side2 => exact HC0.out); rintro e w21 ⟨v233, rfl, ho0, hb⟩; refine ⟨_, rfl, ?_⟩; have n0_ := Aside0.mk (Kd.R_lower ho0 (below_size (by repeat (first | (with_reducible first | exact HB.out | apply below_alloc | apply pw_below_drewN | apply below_drew1) | exact HB.out)))); have n1_ := Aside0.mk (below_step (by repeat (first | (with_reducible first | exact HB.out | apply below_alloc | apply pw_below_drewN | apply below_drew1) | exact HB.out)) hb); clear HB; have HO234 := n0_; have HB := n1_; clear n0_ n1_; (try clear hb); (try clear hb2); (try clear hk); (try clear hi); (try clear ho0); obtain ⟨Ao22, co22, eo22⟩ := Kd.R_slice HO234.out; subst eo22) | ((with_reducible refine gate_callee (f := 18) rfl ?_); refine goesL_ (some 35) rfl rfl Try.func18 (by kernel_rfl) rfl #[.slice Ao22 t232.length co22] rfl (by (try simp only [List.map_toArray, List.map_cons, List.map_nil]); first | done | rfl | (simp only [List.length_drop, List.length_take]; rfl)) ?_; (with_reducible refine (chart_Net.calls _ _ t232 t235 t236 _ ?side1 ?side2 A9.out).mono ?_); (case side1 => repeat (first | exact (Kd.R_reads' HO234.out).2.2 | (with_reducible refine Kd.C_alloc ?_ _) | (with_reducible refine Kd.C_drewN ?_ _) | (with_reducible refine Kd.C_drew ?_))); (case side2 => exact (Kd.R_reads' HO234.out).2.1); rintro e w23 ⟨v237, rfl, ho0, hb⟩; refine ⟨_, rfl, ?_⟩; have n0_ := Aside0.mk (Kd.R_elder' (by (with_reducible repeat (first | apply Kd.R_alloc | apply Kd.R_drewN | apply Kd.R_drew)); exact HO234.out) (Kd.R_base ho0) hb); have n1_ := Aside0.mk (Kd.R_lower (Kd.R_new' ho0 (Kd.R_lt (by (with_reducible repeat (first | apply Kd.R_alloc | apply Kd.R_drewN | apply Kd.R_drew)); exact HO234.out))) (below_size (by repeat (first | (with_reducible first | exact HB.out | apply below_alloc | apply pw_below_drewN | apply below_drew1) | exact HB.out)))); have n2_ := Aside0.mk (below_step (by repeat (first | (with_reducible first | exact HB.out | apply below_alloc | apply pw_below_drewN | apply below_drew1) | exact HB.out)) hb); clear HO234; clear HB; have HO234 := n0_; have HO238 := n1_; have HB := n2_; clear n0_ n1_ n2_; (try clear hb); (try clear hb2); (try clear hk); (try clear hi); (try clear ho0)))
              have n0_ := Aside0.mk (Kd.R_drew HO234.out)
              have n1_ := Aside0.mk (Kd.R_drew HO238.out)
              have n2_ := Aside0.mk (below_drew1 HB.out)
              clear HO234
              clear HO238
              clear HB
              have HO234 := n0_
              have HO238 := n1_
              have HB := n2_
              clear n0_ n1_ n2_
              have q25 : ((ji10) : Int) ≤ ((l0.length : Int) : Int) := of_decide_eq_true (by first | (with_reducible assumption) | assumption)
              obtain ⟨i025, hi025, _, hsz25, _⟩ := info_parts info48
              have hroom25 : l0.length ≤ c0 := HC0.out
              have hC25 : Kd.C k48 _ A0 l0.length l0 := HR0.out
              have q025 : (0 : Int) ≤ ((ji10) : Int) := of_decide_eq_true (by first | (with_reducible assumption) | assumption)
              have hcut25 := cut_from (P := Try.prog) 29 48 .i64 Try.underlying29 hi025 2 hsz25 A0 l0.length c0 (ji10) q025 q25
              have hr25 := Kd.C_drop (m := ((ji10) : Int).toNat) (c := c0) hC25 (by omega) hroom25
              obtain ⟨A25, hA25⟩ : ∃ A1, A1 = (if c0 = ((ji10) : Int).toNat then A0 else (A0 : Option Addr).map (·.add (((ji10) : Int).toNat * 2))) := ⟨_, rfl⟩
              obtain ⟨c25, hc25⟩ : ∃ c1, c1 = c0 - ((ji10) : Int).toNat := ⟨_, rfl⟩
              have hy25 : y239.length = l0.length - ((ji10) : Int).toNat := (by rw [Ny239.out, List.length_drop] <;> omega)
              rw [show (l0).drop ((ji10) : Int).toNat = y239 from Ny239.out.symm] at hr25
              replace hr25 : Kd.C k48 _ A25 y239.length y239 := (by rw [hA25]; exact hr25)
              rw [← hy25, ← hA25, ← hc25] at hcut25
              have HR242 := Aside0.mk hr25
              have HC242 := Aside0.mk (show y239.length ≤ c25 from by rw [hy25, hc25]; exact Nat.sub_le_sub_right hroom25 _)
              clear hr25 hC25 hroom25 hi025 hsz25 hc25
              have KY25 := Aside0.mk hy25
              have KA25 := Aside0.mk hA25
              clear hy25 hA25
              replace q25 := eq_true q25
              have q26 : ((ji10) : Int) ≤ ((l0.length : Int) : Int) := of_decide_eq_true (by first | (with_reducible assumption) | assumption)
              obtain ⟨i026, hi026, _, hsz26, _⟩ := info_parts info48
              have hroom26 : l0.length ≤ c0 := HC0.out
              have hC26 : Kd.C k48 _ A0 l0.length l0 := HR0.out
              have hcut26 := cut_to (P := Try.prog) 29 48 .i64 Try.underlying29 hi026 A0 l0.length c0 (ji10) (of_decide_eq_true (by first | (with_reducible assumption) | assumption)) q26 hroom26
              have hr26 := Kd.C_take (m := ((ji10) : Int).toNat) hC26 (by omega)
              have hy26 : y246.length = ((ji10) : Int).toNat := (by rw [Ny246.out, List.length_take]; omega)
              rw [← Ny246.out] at hr26
              rw [← hy26] at hcut26
              have HR249 := Aside0.mk hr26
              have HC249 := Aside0.mk (show y246.length ≤ c0 from by omega)
              clear hr26 hC26 hroom26 hi026 hsz26
              have KY26 := Aside0.mk hy26
              clear hy26
              replace q26 := eq_true q26
              refine start_ (n := 15) (S := fun w' => True) (ds := []) #[false, false, false, false, false, false, false, false, false, false, false, false, false, false, false] (by kernel_rfl) rfl rfl trivial (fun hHeld => ?_); refine with_tabW lombardlaw17_ChartSums.tab7 lombardlaw17_ChartSums.bits7 (fun HT_ HW_ => ?_)
              generalize w23.drew = w24 at HO234 HO238 HB HR242 HR249 hHeld ⊢
              refine pure_ (i := 0) (N := some 39) (v := ?_) (a' := ?_) #[true, false, false, false, false, false, false, false, false, false, false, false, false, false, false] rfl rfl (any_of HT_.out (by kernel_rfl)) (fun _ _ _ h => h) (Or.inl ⟨by rfl, ?_⟩) ?_ ?_
              rotate_left
              · intro w'
                go_simp
                with_reducible rfl
              rotate_left
              · simp only [Act.put, List.setIfInBounds_toArray, List.set_cons_zero, List.set_cons_succ, i64_w, i32_w]
                rfl
              refine pure_ (i := 1) (N := some 40) (v := ?_) (a' := ?_) #[true, true, false, false, false, false, false, false, false, false, false, false, false, false, false] rfl rfl (any_of HT_.out (by kernel_rfl)) (fun _ _ _ h => h) (Or.inl ⟨by rfl, ?_⟩) ?_ ?_
              rotate_left
              · intro w'
                go_simp
                with_reducible rfl
              rotate_left
              · simp only [Act.put, List.setIfInBounds_toArray, List.set_cons_zero, List.set_cons_succ, i64_w, i32_w]
                rfl
              refine pure_ (i := 2) (N := some 41) (v := ?_) (a' := ?_) #[true, true, true, false, false, false, false, false, false, false, false, false, false, false, false] rfl rfl (any_of HT_.out (by kernel_rfl)) (fun _ _ _ h => h) (Or.inl ⟨by rfl, ?_⟩) ?_ ?_
              rotate_left
              · intro w'
                go_simp
                with_reducible rfl
              rotate_left
              · simp only [Act.put, List.setIfInBounds_toArray, List.set_cons_zero, List.set_cons_succ, i64_w, i32_w]
                rfl
              refine pure_ (i := 4) (N := some 43) (v := ?_) (a' := ?_) #[true, true, true, false, true, false, false, false, false, false, false, false, false, false, false] rfl rfl (any_of HT_.out (by kernel_rfl)) (fun _ _ _ h => h) (Or.inl ⟨by rfl, ?_⟩) ?_ ?_
              rotate_left
              · intro w'
                go_simp
                with_reducible rfl
              rotate_left
              · simp only [Act.put, List.setIfInBounds_toArray, List.set_cons_zero, List.set_cons_succ, i64_w, i32_w]
                rfl
              refine pure_ (i := 5) (N := some 44) (v := ?_) (a' := ?_) #[true, true, true, false, true, true, false, false, false, false, false, false, false, false, false] rfl rfl (any_of HT_.out (by kernel_rfl)) (fun _ _ _ h => h) (Or.inl ⟨by rfl, ?_⟩) ?_ ?_
              rotate_left
              · intro w'
                go_simp
                with_reducible rfl
              rotate_left
              · simp only [Act.put, List.setIfInBounds_toArray, List.set_cons_zero, List.set_cons_succ, i64_w, i32_w]
                rfl
              refine pure_ (i := 6) (N := some 45) (v := ?_) (a' := ?_) #[true, true, true, false, true, true, true, false, false, false, false, false, false, false, false] rfl rfl (any_of HT_.out (by kernel_rfl)) (fun _ _ _ h => h) (Or.inl ⟨by rfl, ?_⟩) ?_ ?_
              rotate_left
              · intro w'
                go_simp
                with_reducible rfl
              rotate_left
              · simp only [Act.put, List.setIfInBounds_toArray, List.set_cons_zero, List.set_cons_succ, i64_w, i32_w]
                rfl
              refine one_ (i := 3) (N := some 42) #[true, true, true, true, true, true, true, false, false, false, false, false, false, false, false] rfl rfl (one_of HT_.out (by kernel_rfl)) (by decide) (fun K hK => ?_)
              refine goes_ Try.func17 (by kernel_rfl) rfl #[.slice A25 y239.length c25] (by rfl) rfl rfl (by (try simp only [List.map_toArray, List.map_cons, List.map_nil]); first | done | rfl | (simp only [List.length_drop, List.length_take]; rfl)) ?_
              with_reducible refine (lombardlaw17_To.calls k _ _ y239 t243 _ ?side1 ?side2 A13.out).mono ?_
              (case side1 => repeat (first | exact (Kd.C_below HR242.out HB.out) | (with_reducible refine Kd.C_alloc ?_ _) | (with_reducible refine Kd.C_drewN ?_ _) | (with_reducible refine Kd.C_drew ?_)))
              (case side2 => exact HC242.out)
              rintro e w27 ⟨v244, rfl, ho0, hb⟩
              refine ⟨_, rfl, ?_⟩
              have n0_ := Aside0.mk (Kd.R_elder' (by (with_reducible repeat (first | apply Kd.R_alloc | apply Kd.R_drewN | apply Kd.R_drew)); exact HO234.out) (Kd.R_base ho0) hb)
              have n1_ := Aside0.mk (Kd.R_elder' (by (with_reducible repeat (first | apply Kd.R_alloc | apply Kd.R_drewN | apply Kd.R_drew)); exact HO238.out) (Kd.R_base ho0) hb)
              have n2_ := Aside0.mk (Kd.R_lower (Kd.R_new' (Kd.R_new' ho0 (Kd.R_lt (by (with_reducible repeat (first | apply Kd.R_alloc | apply Kd.R_drewN | apply Kd.R_drew)); exact HO234.out))) (Kd.R_lt (by (with_reducible repeat (first | apply Kd.R_alloc | apply Kd.R_drewN | apply Kd.R_drew)); exact HO238.out))) (below_size (by repeat (first | (with_reducible first | exact HB.out | apply below_alloc | apply pw_below_drewN | apply below_drew1) | exact HB.out))))
              have n3_ := Aside0.mk (below_step (by repeat (first | (with_reducible first | exact HB.out | apply below_alloc | apply pw_below_drewN | apply below_drew1) | exact HB.out)) hb)
              clear HO234
              clear HO238
              clear HB
              have HO234 := n0_
              have HO238 := n1_
              have HO245 := n2_
              have HB := n3_
              clear n0_ n1_ n2_ n3_
              (try clear hb)
              (try clear hb2)
              (try clear hk)
              (try clear hi)
              (try clear ho0)
              refine hK.out _ _ trivial (fun hHeld => ?_)
              clear hK K
              refine norm_ (a' := ?_) ?_ ?_
              rotate_left
              · show Act.put _ (some 42) _ = _
                simp only [Act.put, List.setIfInBounds_toArray, List.set_cons_zero, List.set_cons_succ, i64_w, i32_w]
                rfl
              refine one_ (i := 7) (N := some 46) #[true, true, true, true, true, true, true, true, false, false, false, false, false, false, false] rfl rfl (one_of HT_.out (by kernel_rfl)) (by decide) (fun K hK => ?_)
              refine goes_ Try.func17 (by kernel_rfl) rfl #[.slice A0 y246.length c0] (by rfl) rfl rfl (by (try simp only [List.map_toArray, List.map_cons, List.map_nil]); first | done | rfl | (simp only [List.length_drop, List.length_take]; rfl)) ?_
              with_reducible refine (lombardlaw17_To.calls k _ _ y246 t250 _ ?side1 ?side2 A16.out).mono ?_
              (case side1 => repeat (first | exact (Kd.C_below HR249.out HB.out) | (with_reducible refine Kd.C_alloc ?_ _) | (with_reducible refine Kd.C_drewN ?_ _) | (with_reducible refine Kd.C_drew ?_)))
              (case side2 => exact HC249.out)
              rintro e w28 ⟨v251, rfl, ho0, hb⟩
              refine ⟨_, rfl, ?_⟩
              have n0_ := Aside0.mk (Kd.R_elder' (by (with_reducible repeat (first | apply Kd.R_alloc | apply Kd.R_drewN | apply Kd.R_drew)); exact HO234.out) (Kd.R_base ho0) hb)
              have n1_ := Aside0.mk (Kd.R_elder' (by (with_reducible repeat (first | apply Kd.R_alloc | apply Kd.R_drewN | apply Kd.R_drew)); exact HO238.out) (Kd.R_base ho0) hb)
              have n2_ := Aside0.mk (Kd.R_elder' (by (with_reducible repeat (first | apply Kd.R_alloc | apply Kd.R_drewN | apply Kd.R_drew)); exact HO245.out) (Kd.R_base ho0) hb)
              have n3_ := Aside0.mk (Kd.R_lower (Kd.R_new' (Kd.R_new' (Kd.R_new' ho0 (Kd.R_lt (by (with_reducible repeat (first | apply Kd.R_alloc | apply Kd.R_drewN | apply Kd.R_drew)); exact HO234.out))) (Kd.R_lt (by (with_reducible repeat (first | apply Kd.R_alloc | apply Kd.R_drewN | apply Kd.R_drew)); exact HO238.out))) (Kd.R_lt (by (with_reducible repeat (first | apply Kd.R_alloc | apply Kd.R_drewN | apply Kd.R_drew)); exact HO245.out))) (below_size (by repeat (first | (with_reducible first | exact HB.out | apply below_alloc | apply pw_below_drewN | apply below_drew1) | exact HB.out))))
              have n4_ := Aside0.mk (below_step (by repeat (first | (with_reducible first | exact HB.out | apply below_alloc | apply pw_below_drewN | apply below_drew1) | exact HB.out)) hb)
              clear HO234
              clear HO238
              clear HO245
              clear HB
              have HO234 := n0_
              have HO238 := n1_
              have HO245 := n2_
              have HO252 := n3_
              have HB := n4_
              clear n0_ n1_ n2_ n3_ n4_
              (try clear hb)
              (try clear hb2)
              (try clear hk)
              (try clear hi)
              (try clear ho0)
              obtain ⟨Ao30, co30, eo30⟩ := Kd.R_slice HO252.out
              (first | subst eo30 | (injection eo30 with f1_ f2_ f3_; have f4_ := f1_.symm; have f5_ := f3_.symm; clear f1_ f2_ f3_; subst f4_; subst f5_))
              refine hK.out _ _ trivial (fun hHeld => ?_)
              clear hK K
              refine norm_ (a' := ?_) ?_ ?_
              rotate_left
              · show Act.put _ (some 46) _ = _
                simp only [Act.put, List.setIfInBounds_toArray, List.set_cons_zero, List.set_cons_succ, i64_w, i32_w]
                rfl
              refine one_ (i := 8) (N := some 47) #[true, true, true, true, true, true, true, true, true, false, false, false, false, false, false] rfl rfl (one_of HT_.out (by kernel_rfl)) (by decide) (fun K hK => ?_)
              refine Kd.R_append_rows_step k45 (w0 := w) w.heap.size (by rfl) (.tmp 42) (.tmp 46) 25 45 (.agg #[(.int .i64 0), (.int .i64 0)]) 16 rfl Try.underlying25 info45 rfl (by decide) (by omega) v244 t243 t250 _ _ _ (fun k_ => some k_ ≠ (.slice Ao22 t232.length co22 : Value).ownBlock ∧ some k_ ≠ (v237 : Value).ownBlock ∧ some k_ ≠ (.slice Ao30 t250.length co30 : Value).ownBlock) (fun _ => False) rfl rfl ?aO ?aR (fun _ _ h => h) (fun _ h => h.elim) ?aF ?aB ?aS ?aL ?_
              (case aR => repeat (first | exact (Kd.R_reads' HO252.out).2.2 | (with_reducible refine Kd.C_alloc ?_ _) | (with_reducible refine Kd.C_drewN ?_ _) | (with_reducible refine Kd.C_drew ?_)))
              (case aB => exact (by repeat (first | (with_reducible first | exact HB.out | apply below_alloc | apply pw_below_drewN | apply below_drew1) | exact HB.out)))
              (case aF => exact (fun k_ hk => ⟨Kd.fresh' (Kd.R_lt (by (with_reducible repeat (first | apply Kd.R_alloc | apply Kd.R_drewN | apply Kd.R_drew)); exact HO234.out)) k_ hk, Kd.fresh' (Kd.R_lt (by (with_reducible repeat (first | apply Kd.R_alloc | apply Kd.R_drewN | apply Kd.R_drew)); exact HO238.out)) k_ hk, Kd.fresh' (Kd.R_lt (by (with_reducible repeat (first | apply Kd.R_alloc | apply Kd.R_drewN | apply Kd.R_drew)); exact HO252.out)) k_ hk⟩))
              (case aO => exact (by (with_reducible repeat (first | apply Kd.R_alloc | apply Kd.R_drewN | apply Kd.R_drew)); exact Kd.R_mono HO245.out (fun _ hk => ⟨hk.1.1.2, ⟨hk.1.2, hk.2⟩⟩)))
              (case aS => exact (below_size (by repeat (first | (with_reducible first | exact HB.out | apply below_alloc | apply pw_below_drewN | apply below_drew1) | exact HB.out))))
              (case aL => have := LMc17.out; omega)
              intro v254 w29 ho hb hg hat
              rw [← Ny253.out] at ho
              have n0_ := Aside0.mk (Kd.R_after (ok := (fun k_ => some k_ ≠ (v237 : Value).ownBlock ∧ some k_ ≠ (.slice Ao30 t250.length co30 : Value).ownBlock)) (by (with_reducible repeat (first | apply Kd.R_alloc | apply Kd.R_drewN | apply Kd.R_drew)); exact Kd.R_mono HO234.out (fun _ hk => ⟨⟨hk.1.1.2, hk.2⟩, hk.1.2⟩)) hg hat)
              have n1_ := Aside0.mk (Kd.R_after (ok := (fun k_ => some k_ ≠ (.slice Ao22 t232.length co22 : Value).ownBlock ∧ some k_ ≠ (.slice Ao30 t250.length co30 : Value).ownBlock)) (by (with_reducible repeat (first | apply Kd.R_alloc | apply Kd.R_drewN | apply Kd.R_drew)); exact Kd.R_mono HO238.out (fun _ hk => ⟨⟨hk.1.1.2, hk.2⟩, hk.1.2⟩)) hg hat)
              have n2_ := Aside0.mk (Kd.R_after (ok := (fun k_ => some k_ ≠ (.slice Ao22 t232.length co22 : Value).ownBlock ∧ some k_ ≠ (v237 : Value).ownBlock)) (by (with_reducible repeat (first | apply Kd.R_alloc | apply Kd.R_drewN | apply Kd.R_drew)); exact Kd.R_mono HO252.out (fun _ hk => ⟨⟨hk.1.1.2, hk.1.2⟩, hk.2⟩)) hg hat)
              have n3_ := Aside0.mk (hb)
              have n4_ := Aside0.mk (ho)
              clear HO234
              clear HO238
              clear HO252
              clear HB
              clear HO245
              have HO234 := n0_
              have HO238 := n1_
              have HO252 := n2_
              have HB := n3_
              have HO255 := n4_
              clear n0_ n1_ n2_ n3_ n4_
              clear ho hb hg hat
              obtain ⟨Ao31, co31, eo31⟩ := Kd.R_slice HO255.out
              (first | subst eo31 | (injection eo31 with f1_ f2_ f3_; have f4_ := f1_.symm; have f5_ := f3_.symm; clear f1_ f2_ f3_; subst f4_; subst f5_))
              refine hK.out _ _ trivial (fun hHeld => ?_)
              clear hK K
              refine norm_ (a' := ?_) ?_ ?_
              rotate_left
              · show Act.put _ (some 47) _ = _
                simp only [Act.put, List.setIfInBounds_toArray, List.set_cons_zero, List.set_cons_succ, i64_w, i32_w]
                rfl
              refine one_ (i := 9) (N := some 48) #[true, true, true, true, true, true, true, true, true, true, false, false, false, false, false] rfl rfl (one_of HT_.out (by kernel_rfl)) (by decide) (fun K hK => ?_)
              refine goes_ Try.func18 (by kernel_rfl) rfl #[.slice Ao31 y253.length co31] (by rfl) rfl rfl (by (try simp only [List.map_toArray, List.map_cons, List.map_nil]); first | done | rfl | (simp only [List.length_drop, List.length_take]; rfl)) ?_
              with_reducible refine (chart_Net.calls _ _ y253 t256 t257 _ ?side1 ?side2 A18.out).mono ?_
              (case side1 => repeat (first | exact (Kd.R_reads' HO255.out).2.2 | (with_reducible refine Kd.C_alloc ?_ _) | (with_reducible refine Kd.C_drewN ?_ _) | (with_reducible refine Kd.C_drew ?_)))
              (case side2 => exact (Kd.R_reads' HO255.out).2.1)
              rintro e w32 ⟨v258, rfl, ho0, hb⟩
              refine ⟨_, rfl, ?_⟩
              have n0_ := Aside0.mk (Kd.R_elder' (by (with_reducible repeat (first | apply Kd.R_alloc | apply Kd.R_drewN | apply Kd.R_drew)); exact HO234.out) (Kd.R_base ho0) hb)
              have n1_ := Aside0.mk (Kd.R_elder' (by (with_reducible repeat (first | apply Kd.R_alloc | apply Kd.R_drewN | apply Kd.R_drew)); exact HO238.out) (Kd.R_base ho0) hb)
              have n2_ := Aside0.mk (Kd.R_elder' (by (with_reducible repeat (first | apply Kd.R_alloc | apply Kd.R_drewN | apply Kd.R_drew)); exact HO252.out) (Kd.R_base ho0) hb)
              have n3_ := Aside0.mk (Kd.R_elder' (by (with_reducible repeat (first | apply Kd.R_alloc | apply Kd.R_drewN | apply Kd.R_drew)); exact HO255.out) (Kd.R_base ho0) hb)
              have n4_ := Aside0.mk (Kd.R_lower (Kd.R_new' (Kd.R_new' (Kd.R_new' (Kd.R_new' ho0 (Kd.R_lt (by (with_reducible repeat (first | apply Kd.R_alloc | apply Kd.R_drewN | apply Kd.R_drew)); exact HO234.out))) (Kd.R_lt (by (with_reducible repeat (first | apply Kd.R_alloc | apply Kd.R_drewN | apply Kd.R_drew)); exact HO238.out))) (Kd.R_lt (by (with_reducible repeat (first | apply Kd.R_alloc | apply Kd.R_drewN | apply Kd.R_drew)); exact HO252.out))) (Kd.R_lt (by (with_reducible repeat (first | apply Kd.R_alloc | apply Kd.R_drewN | apply Kd.R_drew)); exact HO255.out))) (below_size (by repeat (first | (with_reducible first | exact HB.out | apply below_alloc | apply pw_below_drewN | apply below_drew1) | exact HB.out))))
              have n5_ := Aside0.mk (below_step (by repeat (first | (with_reducible first | exact HB.out | apply below_alloc | apply pw_below_drewN | apply below_drew1) | exact HB.out)) hb)
              clear HO234
              clear HO238
              clear HO252
              clear HO255
              clear HB
              have HO234 := n0_
              have HO238 := n1_
              have HO252 := n2_
              have HO255 := n3_
              have HO259 := n4_
              have HB := n5_
              clear n0_ n1_ n2_ n3_ n4_ n5_
              (try clear hb)
              (try clear hb2)
              (try clear hk)
              (try clear hi)
              (try clear ho0)
              refine hK.out _ _ trivial (fun hHeld => ?_)
              clear hK K
              refine norm_ (a' := ?_) ?_ ?_
              rotate_left
              · show Act.put _ (some 48) _ = _
                simp only [Act.put, List.setIfInBounds_toArray, List.set_cons_zero, List.set_cons_succ, i64_w, i32_w]
                rfl
              refine pure_ (i := 10) (N := some 38) (v := ?_) (a' := ?_) #[true, true, true, true, true, true, true, true, true, true, true, false, false, false, false] rfl rfl (any_of HT_.out (by kernel_rfl)) (fun _ _ _ h => h) (Or.inl ⟨by rfl, ?_⟩) ?_ ?_
              rotate_left
              · intro w'
                go_simp
                with_reducible rfl
              rotate_left
              · simp only [Act.put, List.setIfInBounds_toArray, List.set_cons_zero, List.set_cons_succ, i64_w, i32_w]
                rfl
              refine pure_ (i := 11) (N := some 49) (v := ?_) (a' := ?_) #[true, true, true, true, true, true, true, true, true, true, true, true, false, false, false] rfl rfl (any_of HT_.out (by kernel_rfl)) (fun _ _ _ h => h) (Or.inl ⟨by rfl, ?_⟩) ?_ ?_
              rotate_left
              · intro w'
                go_simp
                with_reducible rfl
              rotate_left
              · simp only [Act.put, List.setIfInBounds_toArray, List.set_cons_zero, List.set_cons_succ, i64_w, i32_w]
                rfl
              refine pure_ (i := 12) (N := some 50) (v := ?_) (a' := ?_) #[true, true, true, true, true, true, true, true, true, true, true, true, true, false, false] rfl rfl (any_of HT_.out (by kernel_rfl)) (fun _ _ _ h => h) (Or.inl ⟨by rfl, ?_⟩) ?_ ?_
              rotate_left
              · intro w'
                go_simp
                with_reducible rfl
              rotate_left
              · simp only [Act.put, List.setIfInBounds_toArray, List.set_cons_zero, List.set_cons_succ, i64_w, i32_w]
                rfl
              refine pure_ (i := 13) (N := some 8) (v := ?_) (a' := ?_) #[true, true, true, true, true, true, true, true, true, true, true, true, true, true, false] rfl rfl (any_of HT_.out (by kernel_rfl)) (fun _ _ _ h => h) (Or.inl ⟨by rfl, ?_⟩) ?_ ?_
              rotate_left
              · intro w'
                go_simp
                with_reducible rfl
              rotate_left
              · simp only [Act.put, List.setIfInBounds_toArray, List.set_cons_zero, List.set_cons_succ, i64_w, i32_w]
                rfl
              refine pure_ (i := 14) (N := some 9) (v := ?_) (a' := ?_) #[true, true, true, true, true, true, true, true, true, true, true, true, true, true, true] rfl rfl (any_of HT_.out (by kernel_rfl)) (fun _ _ _ h => h) (Or.inl ⟨by rfl, ?_⟩) ?_ ?_
              rotate_left
              · intro w'
                go_simp
                with_reducible rfl
              rotate_left
              · simp only [Act.put, List.setIfInBounds_toArray, List.set_cons_zero, List.set_cons_succ, i64_w, i32_w]
                rfl
              refine done_ (done_of HT_.out (by kernel_rfl)) ?_
              go_upto_region 8 with (fail)
              go_cut [61] (fun v61 wc => ∃ (kq : Nat) (x61_18 : Bool), v61 = .bool x61_18 ∧ Aside0 (lombardlaw17_ChartSums.j0 kq l0 ji10 t235 t236 x61_18 = some r) ∧ Aside0 (kq ≤ k) ∧ Aside0 (Kd.R k45 45 wc w.heap.size (fun _ => True) v237 t235) ∧ Aside0 (Below w.heap.size w wc))
              case first =>
                have H := HC19.out
                clear HC19
                by_cases c33 : t236 = t257
                · rw [if_pos c33] at H
                  have c33b0 : (t236 == t257) = true := beq_iff_eq.mpr c33
                  have c33b1 : (t236 != t257) = false := bne_eq_false_iff_eq.mpr c33
                  clear c33
                  (first | rw [c33b0] | (simp only [i64_w, i32_w]; rw [c33b0]) | skip)
                  replace H := Option.bind_eq_some_iff.mp H
                  obtain ⟨t260, A340, H⟩ := H
                  replace H : ((lombardlaw17_From.f k t256).bind fun t263 => ((lombardref17_Same.f k t260 t263).bind fun t266 => (lombardlaw17_ChartSums.j0 k l0 ji10 t235 t236 (!t266)))) = some r := H
                  have A34 := Aside0.mk A340
                  clear A340
                  replace H := Option.bind_eq_some_iff.mp H
                  obtain ⟨t263, A350, H⟩ := H
                  replace H : ((lombardref17_Same.f k t260 t263).bind fun t266 => (lombardlaw17_ChartSums.j0 k l0 ji10 t235 t236 (!t266))) = some r := H
                  have A35 := Aside0.mk A350
                  clear A350
                  replace H := Option.bind_eq_some_iff.mp H
                  obtain ⟨t266, A360, H⟩ := H
                  replace H : (lombardlaw17_ChartSums.j0 k l0 ji10 t235 t236 (!t266)) = some r := H
                  have A36 := Aside0.mk A360
                  clear A360
                  have H' := Aside0.mk H
                  clear H
                  obtain ⟨Ao37, co37, eo37⟩ := Kd.R_slice HO238.out
                  subst eo37
                  go_wp2_with (first | (go_at_call 12; (with_reducible refine (lombardlaw17_From.calls k _ _ t235 t260 _ ?side1 ?side2 A34.out).mono ?_); (case side1 => repeat (first | exact (Kd.R_reads' HO238.out).2.2 | (with_reducible refine Kd.C_alloc ?_ _) | (with_reducible refine Kd.C_drewN ?_ _) | (with_reducible refine Kd.C_drew ?_))); (case side2 => exact (Kd.R_reads' HO238.out).2.1); rintro e w38 ⟨v261, rfl, ho0, hb⟩; have n0_ := Aside0.mk (Kd.R_below (by (with_reducible repeat (first | apply Kd.R_alloc | apply Kd.R_drewN | apply Kd.R_drew)); exact HO234.out) hb); have n1_ := Aside0.mk (Kd.R_below (by (with_reducible repeat (first | apply Kd.R_alloc | apply Kd.R_drewN | apply Kd.R_drew)); exact HO238.out) hb); have n2_ := Aside0.mk (Kd.R_below (by (with_reducible repeat (first | apply Kd.R_alloc | apply Kd.R_drewN | apply Kd.R_drew)); exact HO252.out) hb); have n3_ := Aside0.mk (Kd.R_below (by (with_reducible repeat (first | apply Kd.R_alloc | apply Kd.R_drewN | apply Kd.R_drew)); exact HO255.out) hb); have n4_ := Aside0.mk (Kd.R_below (by (with_reducible repeat (first | apply Kd.R_alloc | apply Kd.R_drewN | apply Kd.R_drew)); exact HO259.out) hb); have n5_ := Aside0.mk (Kd.R_lower ho0 (below_size (by repeat (first | (with_reducible first | exact HB.out | apply below_alloc | apply pw_below_drewN | apply below_drew1) | exact HB.out)))); have n6_ := Aside0.mk (below_step (by repeat (first | (with_reducible first | exact HB.out | apply below_alloc | apply pw_below_drewN | apply below_drew1) | exact HB.out)) hb); clear HO234; clear HO238; clear HO252; clear HO255; clear HO259; clear HB; have HO234 := n0_; have HO238 := n1_; have HO252 := n2_; have HO255 := n3_; have HO259 := n4_; have HO262 := n5_; have HB := n6_; clear n0_ n1_ n2_ n3_ n4_ n5_ n6_; (try clear hb); (try clear hb2); (try clear hk); (try clear hi); (try clear ho0); obtain ⟨Ao39, co39, eo39⟩ := Kd.R_slice HO259.out; subst eo39) | (go_at_call 12; (with_reducible refine (lombardlaw17_From.calls k _ _ t256 t263 _ ?side1 ?side2 A35.out).mono ?_); (case side1 => repeat (first | exact (Kd.R_reads' HO259.out).2.2 | (with_reducible refine Kd.C_alloc ?_ _) | (with_reducible refine Kd.C_drewN ?_ _) | (with_reducible refine Kd.C_drew ?_))); (case side2 => exact (Kd.R_reads' HO259.out).2.1); rintro e w40 ⟨v264, rfl, ho0, hb⟩; have n0_ := Aside0.mk (Kd.R_below (by (with_reducible repeat (first | apply Kd.R_alloc | apply Kd.R_drewN | apply Kd.R_drew)); exact HO234.out) hb); have n1_ := Aside0.mk (Kd.R_below (by (with_reducible repeat (first | apply Kd.R_alloc | apply Kd.R_drewN | apply Kd.R_drew)); exact HO238.out) hb); have n2_ := Aside0.mk (Kd.R_below (by (with_reducible repeat (first | apply Kd.R_alloc | apply Kd.R_drewN | apply Kd.R_drew)); exact HO252.out) hb); have n3_ := Aside0.mk (Kd.R_below (by (with_reducible repeat (first | apply Kd.R_alloc | apply Kd.R_drewN | apply Kd.R_drew)); exact HO255.out) hb); have n4_ := Aside0.mk (Kd.R_below (by (with_reducible repeat (first | apply Kd.R_alloc | apply Kd.R_drewN | apply Kd.R_drew)); exact HO259.out) hb); have n5_ := Aside0.mk (Kd.R_elder' (by (with_reducible repeat (first | apply Kd.R_alloc | apply Kd.R_drewN | apply Kd.R_drew)); exact HO262.out) (Kd.R_base ho0) hb); have n6_ := Aside0.mk (Kd.R_lower (Kd.R_new' ho0 (Kd.R_lt (by (with_reducible repeat (first | apply Kd.R_alloc | apply Kd.R_drewN | apply Kd.R_drew)); exact HO262.out))) (below_size (by repeat (first | (with_reducible first | exact HB.out | apply below_alloc | apply pw_below_drewN | apply below_drew1) | exact HB.out)))); have n7_ := Aside0.mk (below_step (by repeat (first | (with_reducible first | exact HB.out | apply below_alloc | apply pw_below_drewN | apply below_drew1) | exact HB.out)) hb); clear HO234; clear HO238; clear HO252; clear HO255; clear HO259; clear HO262; clear HB; have HO234 := n0_; have HO238 := n1_; have HO252 := n2_; have HO255 := n3_; have HO259 := n4_; have HO262 := n5_; have HO265 := n6_; have HB := n7_; clear n0_ n1_ n2_ n3_ n4_ n5_ n6_ n7_; (try clear hb); (try clear hb2); (try clear hk); (try clear hi); (try clear ho0); obtain ⟨Ao41, co41, eo41⟩ := Kd.R_slice HO262.out; subst eo41; obtain ⟨Ao42, co42, eo42⟩ := Kd.R_slice HO265.out; subst eo42) | (go_at_call 11; (with_reducible refine (lombardref17_Same.calls k _ _ t260 _ _ t263 t266 _ ?side1 ?side2 ?side3 ?side4 A36.out).mono ?_); (case side1 => repeat (first | exact (Kd.R_reads' HO262.out).2.2 | (with_reducible refine Kd.C_alloc ?_ _) | (with_reducible refine Kd.C_drewN ?_ _) | (with_reducible refine Kd.C_drew ?_))); (case side2 => exact (Kd.R_reads' HO262.out).2.1); (case side3 => repeat (first | exact (Kd.R_reads' HO265.out).2.2 | (with_reducible refine Kd.C_alloc ?_ _) | (with_reducible refine Kd.C_drewN ?_ _) | (with_reducible refine Kd.C_drew ?_))); (case side4 => exact (Kd.R_reads' HO265.out).2.1); rintro e w' ⟨rfl, ⟨nd, rfl⟩⟩))
                  go_meet
                  case rel => exact ⟨_, (!t266), (by first | rfl | (simp; done) | (simp [*]; done)), H', ⟨by first | omega | exact Nat.le_refl _⟩, ⟨by (with_reducible repeat (first | apply Kd.R_alloc | apply Kd.R_drewN | apply Kd.R_drew)); exact Kd.R_mono HO238.out (fun _ hk => trivial)⟩, ⟨by repeat (first | (with_reducible first | exact HB.out | apply below_alloc | apply pw_below_drewN | apply below_drew1) | exact HB.out)⟩⟩
                · rw [if_neg c33] at H
                  have c33b0 : (t236 == t257) = false := beq_eq_false_iff_ne.mpr c33
                  have c33b1 : (t236 != t257) = true := bne_iff_ne.mpr c33
                  (first | rw [c33b0] | (simp only [i64_w, i32_w]; rw [c33b0]) | skip)
                  have H' := Aside0.mk H
                  clear H
                  go_wp2
                  go_meet
                  case rel => exact ⟨_, (true), (by first | rfl | (simp; done) | (simp [*]; done)), H', ⟨by first | omega | exact Nat.le_refl _⟩, ⟨by (with_reducible repeat (first | apply Kd.R_alloc | apply Kd.R_drewN | apply Kd.R_drew)); exact Kd.R_mono HO238.out (fun _ hk => trivial)⟩, ⟨by repeat (first | (with_reducible first | exact HB.out | apply below_alloc | apply pw_below_drewN | apply below_drew1) | exact HB.out)⟩⟩
              case rest =>
                clear HC19
                try clear c1
                try clear c2
                try clear p2
                try clear q2
                try clear c3
                try clear c4
                try clear c5
                try clear c5b0
                try clear c5b1
                try clear p6
                try clear c7
                try clear c7b0
                try clear c7b1
                try clear c8
                try clear c11
                try clear c11b0
                try clear c11b1
                try clear c12
                try clear c12b0
                try clear c12b1
                try clear c14
                try clear c14b0
                try clear c15
                try clear c15b0
                try clear c17
                try clear c18
                try clear c25
                try clear q25
                try clear q26
                try clear c33
                try clear c33b0
                try clear c33b1
                try clear q025
                try clear q25
                try clear q26
                obtain ⟨kq, x61_18, rfl, HA, HJ18, HO_6, HB⟩ := hcut
                cases kq with
                | zero => exact absurd HA.out (by simp [lombardlaw17_ChartSums.j0])
                | succ kj18 =>
                  have H := HA.out
                  clear HA
                  simp only [lombardlaw17_ChartSums.j0] at H
                  by_cases c43 : x61_18 = true
                  · subst c43
                    have H1 : (some false) = some r := by rw [if_pos rfl] at H; exact H
                    clear H
                    have H := H1
                    clear H1
                    obtain rfl := Option.some.inj H
                    go_wp2
                    go_ret
                    exact ⟨by first | rfl | (simp [errW_none, errW_some] <;> rfl) | (simp only [← hji10]; first | rfl | (simp [errW_none, errW_some] <;> rfl)) | (simp [*, errW_none, errW_some] <;> rfl), by repeat (first | (with_reducible first | exact HB.out | apply below_alloc | apply pw_below_drewN | apply below_drew1) | exact HB.out)⟩
                  · replace c43 := Bool.eq_false_iff.mpr c43
                    subst c43
                    have H1 : (if t236 = 0 then ((chart_Net.f t235).bind fun bt267 => (if bt267.2 = 0 then ((lombardlaw17_From.f kj18 bt267.1).bind fun t271 => ((lombardlaw17_From.f kj18 t235).bind fun t274 => ((lombardref17_Same.f kj18 t271 t274).bind fun t277 => (lombardlaw17_ChartSums.j1 kj18 l0 ji10 t235 (!t277))))) else (lombardlaw17_ChartSums.j1 kj18 l0 ji10 t235 true))) else (some ((t235.length : Int) == 0))) = some r := by rw [if_neg (show ¬ (false = true) by decide)] at H; exact H
                    clear H
                    have H := H1
                    clear H1
                    by_cases c44 : t236 = 0
                    · rw [if_pos c44] at H
                      have c44b0 : (t236 == 0) = true := beq_iff_eq.mpr c44
                      have c44b1 : (t236 != 0) = false := bne_eq_false_iff_eq.mpr c44
                      clear c44
                      replace H := Option.bind_eq_some_iff.mp H
                      obtain ⟨⟨t267, t268⟩, A450, H⟩ := H
                      replace H : (if t268 = 0 then ((lombardlaw17_From.f kj18 t267).bind fun t271 => ((lombardlaw17_From.f kj18 t235).bind fun t274 => ((lombardref17_Same.f kj18 t271 t274).bind fun t277 => (lombardlaw17_ChartSums.j1 kj18 l0 ji10 t235 (!t277))))) else (lombardlaw17_ChartSums.j1 kj18 l0 ji10 t235 true)) = some r := H
                      have A45 := Aside0.mk A450
                      clear A450
                      have HC46 := Aside0.mk H
                      clear H
                      obtain ⟨Ao47, co47, eo47⟩ := Kd.R_slice HO_6.out
                      subst eo47
                      go_upto_region 13 with (first | ((with_reducible refine gate_callee (f := 18) rfl ?_); refine goesL_ (some 69) rfl rfl Try.func18 (by kernel_rfl) rfl #[.slice Ao47 t235.length co47] rfl (by (try simp only [List.map_toArray, List.map_cons, List.map_nil]); first | done | rfl | (simp only [List.length_drop, List.length_take]; rfl)) ?_; (with_reducible refine (chart_Net.calls _ _ t235 t267 t268 _ ?side1 ?side2 A45.out).mono ?_); (case side1 => repeat (first | exact (Kd.R_reads' HO_6.out).2.2 | (with_reducible refine Kd.C_alloc ?_ _) | (with_reducible refine Kd.C_drewN ?_ _) | (with_reducible refine Kd.C_drew ?_))); (case side2 => exact (Kd.R_reads' HO_6.out).2.1); rintro e w48 ⟨v269, rfl, ho0, hb⟩; refine ⟨_, rfl, ?_⟩; have n0_ := Aside0.mk (Kd.R_elder' (by (with_reducible repeat (first | apply Kd.R_alloc | apply Kd.R_drewN | apply Kd.R_drew)); exact HO_6.out) (Kd.R_base ho0) hb); have n1_ := Aside0.mk (Kd.R_lower (Kd.R_new' ho0 (Kd.R_lt (by (with_reducible repeat (first | apply Kd.R_alloc | apply Kd.R_drewN | apply Kd.R_drew)); exact HO_6.out))) (below_size (by repeat (first | (with_reducible first | exact HB.out | apply below_alloc | apply pw_below_drewN | apply below_drew1) | exact HB.out)))); have n2_ := Aside0.mk (below_step (by repeat (first | (with_reducible first | exact HB.out | apply below_alloc | apply pw_below_drewN | apply below_drew1) | exact HB.out)) hb); clear HO_6; clear HB; have HO_6 := n0_; have HO270 := n1_; have HB := n2_; clear n0_ n1_ n2_; (try clear hb); (try clear hb2); (try clear hk); (try clear hi); (try clear ho0)))
                      (try simp only [Act.put, List.setIfInBounds_toArray, List.set_cons_zero, List.set_cons_succ])
                      go_cut [81] (fun v81 wc => ∃ (kq : Nat) (x81_45 : Bool), v81 = .bool x81_45 ∧ Aside0 (lombardlaw17_ChartSums.j1 kq l0 ji10 t235 x81_45 = some r) ∧ Aside0 (kq ≤ kj18) ∧ Aside0 (Kd.R k45 45 wc w.heap.size (fun _ => True) (.slice Ao47 t235.length co47) t235) ∧ Aside0 (Below w.heap.size w wc))
                      case first =>
                        have H := HC46.out
                        clear HC46
                        by_cases c49 : t268 = 0
                        · rw [if_pos c49] at H
                          have c49b0 : (t268 == 0) = true := beq_iff_eq.mpr c49
                          have c49b1 : (t268 != 0) = false := bne_eq_false_iff_eq.mpr c49
                          clear c49
                          (first | rw [c49b0] | (simp only [i64_w, i32_w]; rw [c49b0]) | skip)
                          replace H := Option.bind_eq_some_iff.mp H
                          obtain ⟨t271, A500, H⟩ := H
                          replace H : ((lombardlaw17_From.f kj18 t235).bind fun t274 => ((lombardref17_Same.f kj18 t271 t274).bind fun t277 => (lombardlaw17_ChartSums.j1 kj18 l0 ji10 t235 (!t277)))) = some r := H
                          have A50 := Aside0.mk A500
                          clear A500
                          replace H := Option.bind_eq_some_iff.mp H
                          obtain ⟨t274, A510, H⟩ := H
                          replace H : ((lombardref17_Same.f kj18 t271 t274).bind fun t277 => (lombardlaw17_ChartSums.j1 kj18 l0 ji10 t235 (!t277))) = some r := H
                          have A51 := Aside0.mk A510
                          clear A510
                          replace H := Option.bind_eq_some_iff.mp H
                          obtain ⟨t277, A520, H⟩ := H
                          replace H : (lombardlaw17_ChartSums.j1 kj18 l0 ji10 t235 (!t277)) = some r := H
                          have A52 := Aside0.mk A520
                          clear A520
                          have H' := Aside0.mk H
                          clear H
                          obtain ⟨Ao53, co53, eo53⟩ := Kd.R_slice HO270.out
                          subst eo53
                          go_wp2_with (first | (go_at_call 12; (with_reducible refine (lombardlaw17_From.calls kj18 _ _ t267 t271 _ ?side1 ?side2 A50.out).mono ?_); (case side1 => repeat (first | exact (Kd.R_reads' HO270.out).2.2 | (with_reducible refine Kd.C_alloc ?_ _) | (with_reducible refine Kd.C_drewN ?_ _) | (with_reducible refine Kd.C_drew ?_))); (case side2 => exact (Kd.R_reads' HO270.out).2.1); rintro e w54 ⟨v272, rfl, ho0, hb⟩; have n0_ := Aside0.mk (Kd.R_below (by (with_reducible repeat (first | apply Kd.R_alloc | apply Kd.R_drewN | apply Kd.R_drew)); exact HO_6.out) hb); have n1_ := Aside0.mk (Kd.R_below (by (with_reducible repeat (first | apply Kd.R_alloc | apply Kd.R_drewN | apply Kd.R_drew)); exact HO270.out) hb); have n2_ := Aside0.mk (Kd.R_lower ho0 (below_size (by repeat (first | (with_reducible first | exact HB.out | apply below_alloc | apply pw_below_drewN | apply below_drew1) | exact HB.out)))); have n3_ := Aside0.mk (below_step (by repeat (first | (with_reducible first | exact HB.out | apply below_alloc | apply pw_below_drewN | apply below_drew1) | exact HB.out)) hb); clear HO_6; clear HO270; clear HB; have HO_6 := n0_; have HO270 := n1_; have HO273 := n2_; have HB := n3_; clear n0_ n1_ n2_ n3_; (try clear hb); (try clear hb2); (try clear hk); (try clear hi); (try clear ho0)) | (go_at_call 12; (with_reducible refine (lombardlaw17_From.calls kj18 _ _ t235 t274 _ ?side1 ?side2 A51.out).mono ?_); (case side1 => repeat (first | exact (Kd.R_reads' HO_6.out).2.2 | (with_reducible refine Kd.C_alloc ?_ _) | (with_reducible refine Kd.C_drewN ?_ _) | (with_reducible refine Kd.C_drew ?_))); (case side2 => exact (Kd.R_reads' HO_6.out).2.1); rintro e w55 ⟨v275, rfl, ho0, hb⟩; have n0_ := Aside0.mk (Kd.R_below (by (with_reducible repeat (first | apply Kd.R_alloc | apply Kd.R_drewN | apply Kd.R_drew)); exact HO_6.out) hb); have n1_ := Aside0.mk (Kd.R_below (by (with_reducible repeat (first | apply Kd.R_alloc | apply Kd.R_drewN | apply Kd.R_drew)); exact HO270.out) hb); have n2_ := Aside0.mk (Kd.R_elder' (by (with_reducible repeat (first | apply Kd.R_alloc | apply Kd.R_drewN | apply Kd.R_drew)); exact HO273.out) (Kd.R_base ho0) hb); have n3_ := Aside0.mk (Kd.R_lower (Kd.R_new' ho0 (Kd.R_lt (by (with_reducible repeat (first | apply Kd.R_alloc | apply Kd.R_drewN | apply Kd.R_drew)); exact HO273.out))) (below_size (by repeat (first | (with_reducible first | exact HB.out | apply below_alloc | apply pw_below_drewN | apply below_drew1) | exact HB.out)))); have n4_ := Aside0.mk (below_step (by repeat (first | (with_reducible first | exact HB.out | apply below_alloc | apply pw_below_drewN | apply below_drew1) | exact HB.out)) hb); clear HO_6; clear HO270; clear HO273; clear HB; have HO_6 := n0_; have HO270 := n1_; have HO273 := n2_; have HO276 := n3_; have HB := n4_; clear n0_ n1_ n2_ n3_ n4_; (try clear hb); (try clear hb2); (try clear hk); (try clear hi); (try clear ho0); obtain ⟨Ao56, co56, eo56⟩ := Kd.R_slice HO273.out; subst eo56; obtain ⟨Ao57, co57, eo57⟩ := Kd.R_slice HO276.out; subst eo57) | (go_at_call 11; (with_reducible refine (lombardref17_Same.calls kj18 _ _ t271 _ _ t274 t277 _ ?side1 ?side2 ?side3 ?side4 A52.out).mono ?_); (case side1 => repeat (first | exact (Kd.R_reads' HO273.out).2.2 | (with_reducible refine Kd.C_alloc ?_ _) | (with_reducible refine Kd.C_drewN ?_ _) | (with_reducible refine Kd.C_drew ?_))); (case side2 => exact (Kd.R_reads' HO273.out).2.1); (case side3 => repeat (first | exact (Kd.R_reads' HO276.out).2.2 | (with_reducible refine Kd.C_alloc ?_ _) | (with_reducible refine Kd.C_drewN ?_ _) | (with_reducible refine Kd.C_drew ?_))); (case side4 => exact (Kd.R_reads' HO276.out).2.1); rintro e w' ⟨rfl, ⟨nd, rfl⟩⟩))
                          go_meet
                          case rel => exact ⟨_, (!t277), (by first | rfl | (simp; done) | (simp [*]; done)), H', ⟨by have := HJ18.out; first | omega | exact Nat.le_refl _⟩, ⟨by (with_reducible repeat (first | apply Kd.R_alloc | apply Kd.R_drewN | apply Kd.R_drew)); exact Kd.R_mono HO_6.out (fun _ hk => trivial)⟩, ⟨by repeat (first | (with_reducible first | exact HB.out | apply below_alloc | apply pw_below_drewN | apply below_drew1) | exact HB.out)⟩⟩
                        · rw [if_neg c49] at H
                          have c49b0 : (t268 == 0) = false := beq_eq_false_iff_ne.mpr c49
                          have c49b1 : (t268 != 0) = true := bne_iff_ne.mpr c49
                          (first | rw [c49b0] | (simp only [i64_w, i32_w]; rw [c49b0]) | skip)
                          have H' := Aside0.mk H
                          clear H
                          go_wp2
                          go_meet
                          case rel => exact ⟨_, (true), (by first | rfl | (simp; done) | (simp [*]; done)), H', ⟨by have := HJ18.out; first | omega | exact Nat.le_refl _⟩, ⟨by (with_reducible repeat (first | apply Kd.R_alloc | apply Kd.R_drewN | apply Kd.R_drew)); exact Kd.R_mono HO_6.out (fun _ hk => trivial)⟩, ⟨by repeat (first | (with_reducible first | exact HB.out | apply below_alloc | apply pw_below_drewN | apply below_drew1) | exact HB.out)⟩⟩
                      case rest =>
                        clear HC46
                        try clear c1
                        try clear c2
                        try clear p2
                        try clear q2
                        try clear c3
                        try clear c4
                        try clear c5
                        try clear c5b0
                        try clear c5b1
                        try clear p6
                        try clear c7
                        try clear c7b0
                        try clear c7b1
                        try clear c8
                        try clear c11
                        try clear c11b0
                        try clear c11b1
                        try clear c12
                        try clear c12b0
                        try clear c12b1
                        try clear c14
                        try clear c14b0
                        try clear c15
                        try clear c15b0
                        try clear c17
                        try clear c18
                        try clear c25
                        try clear q25
                        try clear q26
                        try clear c33
                        try clear c33b0
                        try clear c33b1
                        try clear c43
                        try clear c44
                        try clear c44b0
                        try clear c44b1
                        try clear c49
                        try clear c49b0
                        try clear c49b1
                        try clear p2
                        try clear p6
                        try clear q025
                        try clear q2
                        try clear q25
                        try clear q26
                        obtain ⟨kq, x81_45, rfl, HA, HJ45, HO_6, HB⟩ := hcut
                        cases kq with
                        | zero => exact absurd HA.out (by simp [lombardlaw17_ChartSums.j1])
                        | succ kj45 =>
                          have H := HA.out
                          clear HA
                          simp only [lombardlaw17_ChartSums.j1] at H
                          by_cases c58 : x81_45 = true
                          · subst c58
                            have H1 : (some false) = some r := by rw [if_pos rfl] at H; exact H
                            clear H
                            have H := H1
                            clear H1
                            obtain rfl := Option.some.inj H
                            go_wp2
                            go_ret
                            exact ⟨by first | rfl | (simp [errW_none, errW_some] <;> rfl) | (simp only [← hji10]; first | rfl | (simp [errW_none, errW_some] <;> rfl)) | (simp [*, errW_none, errW_some] <;> rfl), by repeat (first | (with_reducible first | exact HB.out | apply below_alloc | apply pw_below_drewN | apply below_drew1) | exact HB.out)⟩
                          · replace c58 := Bool.eq_false_iff.mpr c58
                            subst c58
                            have H1 : (if 0 ≤ ji10 then (if ji10 ≤ (l0.length : Int) then ((lombardlaw17_To.f kj45 (l0.take (ji10 : Int).toNat)).bind fun t282 => ((chart_Net.f t282).bind fun bt285 => ((lombardlaw17_To.f kj45 (l0.drop (ji10 : Int).toNat)).bind fun t293 => ((chart_Net.f t293).bind fun bt296 => (if bt285.2 = 0 then (lombardlaw17_ChartSums.j2 kj45 l0 t235 bt285.1 bt296.1 (bt296.2 == 0)) else (lombardlaw17_ChartSums.j2 kj45 l0 t235 bt285.1 bt296.1 false)))))) else (none)) else (none)) = some r := by rw [if_neg (show ¬ (false = true) by decide)] at H; exact H
                            clear H
                            have H := H1
                            clear H1
                            by_cases c59 : 0 ≤ ji10
                            · rw [if_pos c59] at H
                              have c59b0 := eq_true c59
                              have c59b1 : decide (0 ≤ ji10) = true := decide_eq_true c59
                              clear c59
                              by_cases c60 : ji10 ≤ (l0.length : Int)
                              · rw [if_pos c60] at H
                                have c60b0 := eq_true c60
                                have c60b1 : decide (ji10 ≤ (l0.length : Int)) = true := decide_eq_true c60
                                clear c60
                                obtain ⟨y278, hy278⟩ : ∃ y_ : List (S48), y_ = (l0.take (ji10 : Int).toNat) := ⟨_, rfl⟩
                                replace H : ((lombardlaw17_To.f kj45 y278).bind fun t282 => ((chart_Net.f t282).bind fun bt285 => ((lombardlaw17_To.f kj45 (l0.drop (ji10 : Int).toNat)).bind fun t293 => ((chart_Net.f t293).bind fun bt296 => (if bt285.2 = 0 then (lombardlaw17_ChartSums.j2 kj45 l0 t235 bt285.1 bt296.1 (bt296.2 == 0)) else (lombardlaw17_ChartSums.j2 kj45 l0 t235 bt285.1 bt296.1 false)))))) = some r := by first | (rw [hy278]; with_reducible exact H) | (have H2_ := (Option.bind_some _ _).symm.trans H; rw [hy278]; with_reducible exact H2_) | (have H2_ := (Option.bind_some _ _).symm.trans H; with_reducible exact H2_) | with_reducible exact H | (rw [hy278]; exact H) | exact H
                                have Ny278 := Aside0.mk hy278
                                clear hy278
                                replace H := Option.bind_eq_some_iff.mp H
                                obtain ⟨t282, A610, H⟩ := H
                                replace H : ((chart_Net.f t282).bind fun bt285 => ((lombardlaw17_To.f kj45 (l0.drop (ji10 : Int).toNat)).bind fun t293 => ((chart_Net.f t293).bind fun bt296 => (if bt285.2 = 0 then (lombardlaw17_ChartSums.j2 kj45 l0 t235 bt285.1 bt296.1 (bt296.2 == 0)) else (lombardlaw17_ChartSums.j2 kj45 l0 t235 bt285.1 bt296.1 false))))) = some r := H
                                have A61 := Aside0.mk A610
                                clear A610
                                replace H := Option.bind_eq_some_iff.mp H
                                obtain ⟨⟨t285, t286⟩, A620, H⟩ := H
                                replace H : ((lombardlaw17_To.f kj45 (l0.drop (ji10 : Int).toNat)).bind fun t293 => ((chart_Net.f t293).bind fun bt296 => (if t286 = 0 then (lombardlaw17_ChartSums.j2 kj45 l0 t235 t285 bt296.1 (bt296.2 == 0)) else (lombardlaw17_ChartSums.j2 kj45 l0 t235 t285 bt296.1 false)))) = some r := H
                                have A62 := Aside0.mk A620
                                clear A620
                                have c63b0 := eq_true (of_decide_eq_true (by first | (with_reducible assumption) | assumption) : 0 ≤ ji10)
                                have c64b0 := eq_true (of_decide_eq_true (by first | (with_reducible assumption) | assumption) : ji10 ≤ (l0.length : Int))
                                obtain ⟨y289, hy289⟩ : ∃ y_ : List (S48), y_ = (l0.drop (ji10 : Int).toNat) := ⟨_, rfl⟩
                                replace H : ((lombardlaw17_To.f kj45 y289).bind fun t293 => ((chart_Net.f t293).bind fun bt296 => (if t286 = 0 then (lombardlaw17_ChartSums.j2 kj45 l0 t235 t285 bt296.1 (bt296.2 == 0)) else (lombardlaw17_ChartSums.j2 kj45 l0 t235 t285 bt296.1 false)))) = some r := by first | (rw [hy289]; with_reducible exact H) | (have H2_ := (Option.bind_some _ _).symm.trans H; rw [hy289]; with_reducible exact H2_) | (have H2_ := (Option.bind_some _ _).symm.trans H; with_reducible exact H2_) | with_reducible exact H | (rw [hy289]; exact H) | exact H
                                have Ny289 := Aside0.mk hy289
                                clear hy289
                                replace H := Option.bind_eq_some_iff.mp H
                                obtain ⟨t293, A650, H⟩ := H
                                replace H : ((chart_Net.f t293).bind fun bt296 => (if t286 = 0 then (lombardlaw17_ChartSums.j2 kj45 l0 t235 t285 bt296.1 (bt296.2 == 0)) else (lombardlaw17_ChartSums.j2 kj45 l0 t235 t285 bt296.1 false))) = some r := H
                                have A65 := Aside0.mk A650
                                clear A650
                                replace H := Option.bind_eq_some_iff.mp H
                                obtain ⟨⟨t296, t297⟩, A660, H⟩ := H
                                replace H : (if t286 = 0 then (lombardlaw17_ChartSums.j2 kj45 l0 t235 t285 t296 (t297 == 0)) else (lombardlaw17_ChartSums.j2 kj45 l0 t235 t285 t296 false)) = some r := H
                                have A66 := Aside0.mk A660
                                clear A660
                                have HC67 := Aside0.mk H
                                clear H
                                have q68 : (ji10 : Int) ≤ ((l0.length : Int) : Int) := of_decide_eq_true (by first | (with_reducible assumption) | assumption)
                                obtain ⟨i068, hi068, _, hsz68, _⟩ := info_parts info48
                                have hroom68 : l0.length ≤ c0 := HC0.out
                                have hC68 : Kd.C k48 _ A0 l0.length l0 := HR0.out
                                have hcut68 := cut_to (P := Try.prog) 29 48 .i64 Try.underlying29 hi068 A0 l0.length c0 ji10 (of_decide_eq_true (by first | (with_reducible assumption) | assumption)) q68 hroom68
                                have hr68 := Kd.C_take (m := (ji10 : Int).toNat) hC68 (by omega)
                                have hy68 : y278.length = (ji10 : Int).toNat := (by rw [Ny278.out, List.length_take]; omega)
                                rw [← Ny278.out] at hr68
                                rw [← hy68] at hcut68
                                have HR281 := Aside0.mk hr68
                                have HC281 := Aside0.mk (show y278.length ≤ c0 from by omega)
                                clear hr68 hC68 hroom68 hi068 hsz68
                                have KY68 := Aside0.mk hy68
                                clear hy68
                                replace q68 := eq_true q68
                                clear hcut25 hcut26
                                go_upto_region 17 with (first | ((with_reducible refine gate_callee (f := 17) rfl ?_); refine goesL_ (some 86) rfl rfl Try.func17 (by kernel_rfl) rfl #[.slice A0 y278.length c0] rfl (by (try simp only [List.map_toArray, List.map_cons, List.map_nil]); first | done | rfl | (simp only [List.length_drop, List.length_take]; rfl)) ?_; (with_reducible refine (lombardlaw17_To.calls kj45 _ _ y278 t282 _ ?side1 ?side2 A61.out).mono ?_); (case side1 => repeat (first | exact (Kd.C_below HR281.out HB.out) | (with_reducible refine Kd.C_alloc ?_ _) | (with_reducible refine Kd.C_drewN ?_ _) | (with_reducible refine Kd.C_drew ?_))); (case side2 => exact HC281.out); rintro e w69 ⟨v283, rfl, ho0, hb⟩; refine ⟨_, rfl, ?_⟩; have n0_ := Aside0.mk (Kd.R_elder' (by (with_reducible repeat (first | apply Kd.R_alloc | apply Kd.R_drewN | apply Kd.R_drew)); exact HO_6.out) (Kd.R_base ho0) hb); have n1_ := Aside0.mk (Kd.R_lower (Kd.R_new' ho0 (Kd.R_lt (by (with_reducible repeat (first | apply Kd.R_alloc | apply Kd.R_drewN | apply Kd.R_drew)); exact HO_6.out))) (below_size (by repeat (first | (with_reducible first | exact HB.out | apply below_alloc | apply pw_below_drewN | apply below_drew1) | exact HB.out)))); have n2_ := Aside0.mk (below_step (by repeat (first | (with_reducible first | exact HB.out | apply below_alloc | apply pw_below_drewN | apply below_drew1) | exact HB.out)) hb); clear HO_6; clear HB; have HO_6 := n0_; have HO284 := n1_; have HB := n2_; clear n0_ n1_ n2_; (try clear hb); (try clear hb2); (try clear hk); (try clear hi); (try clear ho0); obtain ⟨Ao70, co70, eo70⟩ := Kd.R_slice HO284.out; subst eo70) | ((with_reducible refine gate_callee (f := 18) rfl ?_); refine goesL_ (some 87) rfl rfl Try.func18 (by kernel_rfl) rfl #[.slice Ao70 t282.length co70] rfl (by (try simp only [List.map_toArray, List.map_cons, List.map_nil]); first | done | rfl | (simp only [List.length_drop, List.length_take]; rfl)) ?_; (with_reducible refine (chart_Net.calls _ _ t282 t285 t286 _ ?side1 ?side2 A62.out).mono ?_); (case side1 => repeat (first | exact (Kd.R_reads' HO284.out).2.2 | (with_reducible refine Kd.C_alloc ?_ _) | (with_reducible refine Kd.C_drewN ?_ _) | (with_reducible refine Kd.C_drew ?_))); (case side2 => exact (Kd.R_reads' HO284.out).2.1); rintro e w71 ⟨v287, rfl, ho0, hb⟩; refine ⟨_, rfl, ?_⟩; have n0_ := Aside0.mk (Kd.R_elder' (by (with_reducible repeat (first | apply Kd.R_alloc | apply Kd.R_drewN | apply Kd.R_drew)); exact HO_6.out) (Kd.R_base ho0) hb); have n1_ := Aside0.mk (Kd.R_elder' (by (with_reducible repeat (first | apply Kd.R_alloc | apply Kd.R_drewN | apply Kd.R_drew)); exact HO284.out) (Kd.R_base ho0) hb); have n2_ := Aside0.mk (Kd.R_lower (Kd.R_new' (Kd.R_new' ho0 (Kd.R_lt (by (with_reducible repeat (first | apply Kd.R_alloc | apply Kd.R_drewN | apply Kd.R_drew)); exact HO_6.out))) (Kd.R_lt (by (with_reducible repeat (first | apply Kd.R_alloc | apply Kd.R_drewN | apply Kd.R_drew)); exact HO284.out))) (below_size (by repeat (first | (with_reducible first | exact HB.out | apply below_alloc | apply pw_below_drewN | apply below_drew1) | exact HB.out)))); have n3_ := Aside0.mk (below_step (by repeat (first | (with_reducible first | exact HB.out | apply below_alloc | apply pw_below_drewN | apply below_drew1) | exact HB.out)) hb); clear HO_6; clear HO284; clear HB; have HO_6 := n0_; have HO284 := n1_; have HO288 := n2_; have HB := n3_; clear n0_ n1_ n2_ n3_; (try clear hb); (try clear hb2); (try clear hk); (try clear hi); (try clear ho0); have q72 : (ji10 : Int) ≤ ((l0.length : Int) : Int) := of_decide_eq_true (by first | (with_reducible assumption) | assumption); obtain ⟨i072, hi072, _, hsz72, _⟩ := info_parts info48; have hroom72 : l0.length ≤ c0 := HC0.out; have hC72 : Kd.C k48 _ A0 l0.length l0 := HR0.out; have q072 : (0 : Int) ≤ (ji10 : Int) := of_decide_eq_true (by first | (with_reducible assumption) | assumption); have hcut72 := cut_from (P := Try.prog) 29 48 .i64 Try.underlying29 hi072 2 hsz72 A0 l0.length c0 ji10 q072 q72; have hr72 := Kd.C_drop (m := (ji10 : Int).toNat) (c := c0) hC72 (by omega) hroom72; obtain ⟨A72, hA72⟩ : ∃ A1, A1 = (if c0 = (ji10 : Int).toNat then A0 else (A0 : Option Addr).map (·.add ((ji10 : Int).toNat * 2))) := ⟨_, rfl⟩; obtain ⟨c72, hc72⟩ : ∃ c1, c1 = c0 - (ji10 : Int).toNat := ⟨_, rfl⟩; have hy72 : y289.length = l0.length - (ji10 : Int).toNat := (by rw [Ny289.out, List.length_drop] <;> omega); rw [show (l0).drop (ji10 : Int).toNat = y289 from Ny289.out.symm] at hr72; replace hr72 : Kd.C k48 _ A72 y289.length y289 := (by rw [hA72]; exact hr72); rw [← hy72, ← hA72, ← hc72] at hcut72; have HR292 := Aside0.mk hr72; have HC292 := Aside0.mk (show y289.length ≤ c72 from by rw [hy72, hc72]; exact Nat.sub_le_sub_right hroom72 _); clear hr72 hC72 hroom72 hi072 hsz72 hc72; have KY72 := Aside0.mk hy72; have KA72 := Aside0.mk hA72; clear hy72 hA72; replace q72 := eq_true q72) | ((with_reducible refine gate_callee (f := 17) rfl ?_); refine goesL_ (some 94) rfl rfl Try.func17 (by kernel_rfl) rfl #[.slice A72 y289.length c72] rfl (by (try simp only [List.map_toArray, List.map_cons, List.map_nil]); first | done | rfl | (simp only [List.length_drop, List.length_take]; rfl)) ?_; (with_reducible refine (lombardlaw17_To.calls kj45 _ _ y289 t293 _ ?side1 ?side2 A65.out).mono ?_); (case side1 => repeat (first | exact (Kd.C_below HR292.out HB.out) | (with_reducible refine Kd.C_alloc ?_ _) | (with_reducible refine Kd.C_drewN ?_ _) | (with_reducible refine Kd.C_drew ?_))); (case side2 => exact HC292.out); rintro e w73 ⟨v294, rfl, ho0, hb⟩; refine ⟨_, rfl, ?_⟩; have n0_ := Aside0.mk (Kd.R_elder' (by (with_reducible repeat (first | apply Kd.R_alloc | apply Kd.R_drewN | apply Kd.R_drew)); exact HO_6.out) (Kd.R_base ho0) hb); have n1_ := Aside0.mk (Kd.R_elder' (by (with_reducible repeat (first | apply Kd.R_alloc | apply Kd.R_drewN | apply Kd.R_drew)); exact HO284.out) (Kd.R_base ho0) hb); have n2_ := Aside0.mk (Kd.R_elder' (by (with_reducible repeat (first | apply Kd.R_alloc | apply Kd.R_drewN | apply Kd.R_drew)); exact HO288.out) (Kd.R_base ho0) hb); have n3_ := Aside0.mk (Kd.R_lower (Kd.R_new' (Kd.R_new' (Kd.R_new' ho0 (Kd.R_lt (by (with_reducible repeat (first | apply Kd.R_alloc | apply Kd.R_drewN | apply Kd.R_drew)); exact HO_6.out))) (Kd.R_lt (by (with_reducible repeat (first | apply Kd.R_alloc | apply Kd.R_drewN | apply Kd.R_drew)); exact HO284.out))) (Kd.R_lt (by (with_reducible repeat (first | apply Kd.R_alloc | apply Kd.R_drewN | apply Kd.R_drew)); exact HO288.out))) (below_size (by repeat (first | (with_reducible first | exact HB.out | apply below_alloc | apply pw_below_drewN | apply below_drew1) | exact HB.out)))); have n4_ := Aside0.mk (below_step (by repeat (first | (with_reducible first | exact HB.out | apply below_alloc | apply pw_below_drewN | apply below_drew1) | exact HB.out)) hb); clear HO_6; clear HO284; clear HO288; clear HB; have HO_6 := n0_; have HO284 := n1_; have HO288 := n2_; have HO295 := n3_; have HB := n4_; clear n0_ n1_ n2_ n3_ n4_; (try clear hb); (try clear hb2); (try clear hk); (try clear hi); (try clear ho0); obtain ⟨Ao74, co74, eo74⟩ := Kd.R_slice HO295.out; subst eo74) | ((with_reducible refine gate_callee (f := 18) rfl ?_); refine goesL_ (some 95) rfl rfl Try.func18 (by kernel_rfl) rfl #[.slice Ao74 t293.length co74] rfl (by (try simp only [List.map_toArray, List.map_cons, List.map_nil]); first | done | rfl | (simp only [List.length_drop, List.length_take]; rfl)) ?_; (with_reducible refine (chart_Net.calls _ _ t293 t296 t297 _ ?side1 ?side2 A66.out).mono ?_); (case side1 => repeat (first | exact (Kd.R_reads' HO295.out).2.2 | (with_reducible refine Kd.C_alloc ?_ _) | (with_reducible refine Kd.C_drewN ?_ _) | (with_reducible refine Kd.C_drew ?_))); (case side2 => exact (Kd.R_reads' HO295.out).2.1); rintro e w75 ⟨v298, rfl, ho0, hb⟩; refine ⟨_, rfl, ?_⟩; have n0_ := Aside0.mk (Kd.R_elder' (by (with_reducible repeat (first | apply Kd.R_alloc | apply Kd.R_drewN | apply Kd.R_drew)); exact HO_6.out) (Kd.R_base ho0) hb); have n1_ := Aside0.mk (Kd.R_elder' (by (with_reducible repeat (first | apply Kd.R_alloc | apply Kd.R_drewN | apply Kd.R_drew)); exact HO284.out) (Kd.R_base ho0) hb); have n2_ := Aside0.mk (Kd.R_elder' (by (with_reducible repeat (first | apply Kd.R_alloc | apply Kd.R_drewN | apply Kd.R_drew)); exact HO288.out) (Kd.R_base ho0) hb); have n3_ := Aside0.mk (Kd.R_elder' (by (with_reducible repeat (first | apply Kd.R_alloc | apply Kd.R_drewN | apply Kd.R_drew)); exact HO295.out) (Kd.R_base ho0) hb); have n4_ := Aside0.mk (Kd.R_lower (Kd.R_new' (Kd.R_new' (Kd.R_new' (Kd.R_new' ho0 (Kd.R_lt (by (with_reducible repeat (first | apply Kd.R_alloc | apply Kd.R_drewN | apply Kd.R_drew)); exact HO_6.out))) (Kd.R_lt (by (with_reducible repeat (first | apply Kd.R_alloc | apply Kd.R_drewN | apply Kd.R_drew)); exact HO284.out))) (Kd.R_lt (by (with_reducible repeat (first | apply Kd.R_alloc | apply Kd.R_drewN | apply Kd.R_drew)); exact HO288.out))) (Kd.R_lt (by (with_reducible repeat (first | apply Kd.R_alloc | apply Kd.R_drewN | apply Kd.R_drew)); exact HO295.out))) (below_size (by repeat (first | (with_reducible first | exact HB.out | apply below_alloc | apply pw_below_drewN | apply below_drew1) | exact HB.out)))); have n5_ := Aside0.mk (below_step (by repeat (first | (with_reducible first | exact HB.out | apply below_alloc | apply pw_below_drewN | apply below_drew1) | exact HB.out)) hb); clear HO_6; clear HO284; clear HO288; clear HO295; clear HB; have HO_6 := n0_; have HO284 := n1_; have HO288 := n2_; have HO295 := n3_; have HO299 := n4_; have HB := n5_; clear n0_ n1_ n2_ n3_ n4_ n5_; (try clear hb); (try clear hb2); (try clear hk); (try clear hi); (try clear ho0)))
                                (try simp only [Act.put, List.setIfInBounds_toArray, List.set_cons_zero, List.set_cons_succ])
                                go_cut [103] (fun v103 wc => ∃ (kq : Nat) (x103_66 : Bool), v103 = .bool x103_66 ∧ Aside0 (lombardlaw17_ChartSums.j2 kq l0 t235 t285 t296 x103_66 = some r) ∧ Aside0 (kq ≤ kj45) ∧ Aside0 (Kd.R k45 45 wc w.heap.size (fun k_ => some k_ ≠ (v287 : Value).ownBlock ∧ some k_ ≠ (v298 : Value).ownBlock) (.slice Ao47 t235.length co47) t235) ∧ Aside0 (Kd.R k45 45 wc w.heap.size (fun k_ => some k_ ≠ ((.slice Ao47 t235.length co47) : Value).ownBlock ∧ some k_ ≠ (v298 : Value).ownBlock) v287 t285) ∧ Aside0 (Kd.R k45 45 wc w.heap.size (fun k_ => some k_ ≠ ((.slice Ao47 t235.length co47) : Value).ownBlock ∧ some k_ ≠ (v287 : Value).ownBlock) v298 t296) ∧ Aside0 (Below w.heap.size w wc))
                                case first =>
                                  have H := HC67.out
                                  clear HC67
                                  by_cases c76 : t286 = 0
                                  · rw [if_pos c76] at H
                                    have c76b0 : (t286 == 0) = true := beq_iff_eq.mpr c76
                                    have c76b1 : (t286 != 0) = false := bne_eq_false_iff_eq.mpr c76
                                    clear c76
                                    (first | rw [c76b0] | (simp only [i64_w, i32_w]; rw [c76b0]) | skip)
                                    have H' := Aside0.mk H
                                    clear H
                                    go_wp2
                                    go_meet
                                    case rel => exact ⟨_, ((t297 == 0)), (by first | rfl | (simp; done) | (simp [*]; done)), H', ⟨by have := HJ18.out; have := HJ45.out; first | omega | exact Nat.le_refl _⟩, ⟨by (with_reducible repeat (first | apply Kd.R_alloc | apply Kd.R_drewN | apply Kd.R_drew)); exact Kd.R_mono HO_6.out (fun _ hk => ⟨hk.1.1.2, hk.2⟩)⟩, ⟨by (with_reducible repeat (first | apply Kd.R_alloc | apply Kd.R_drewN | apply Kd.R_drew)); exact Kd.R_mono HO288.out (fun _ hk => ⟨hk.1.1.1.2, hk.2⟩)⟩, ⟨by (with_reducible repeat (first | apply Kd.R_alloc | apply Kd.R_drewN | apply Kd.R_drew)); exact Kd.R_mono HO299.out (fun _ hk => ⟨hk.1.1.1.2, hk.1.2⟩)⟩, ⟨by repeat (first | (with_reducible first | exact HB.out | apply below_alloc | apply pw_below_drewN | apply below_drew1) | exact HB.out)⟩⟩
                                  · rw [if_neg c76] at H
                                    have c76b0 : (t286 == 0) = false := beq_eq_false_iff_ne.mpr c76
                                    have c76b1 : (t286 != 0) = true := bne_iff_ne.mpr c76
                                    (first | rw [c76b0] | (simp only [i64_w, i32_w]; rw [c76b0]) | skip)
                                    have H' := Aside0.mk H
                                    clear H
                                    go_wp2
                                    go_meet
                                    case rel => exact ⟨_, (false), (by first | rfl | (simp; done) | (simp [*]; done)), H', ⟨by have := HJ18.out; have := HJ45.out; first | omega | exact Nat.le_refl _⟩, ⟨by (with_reducible repeat (first | apply Kd.R_alloc | apply Kd.R_drewN | apply Kd.R_drew)); exact Kd.R_mono HO_6.out (fun _ hk => ⟨hk.1.1.2, hk.2⟩)⟩, ⟨by (with_reducible repeat (first | apply Kd.R_alloc | apply Kd.R_drewN | apply Kd.R_drew)); exact Kd.R_mono HO288.out (fun _ hk => ⟨hk.1.1.1.2, hk.2⟩)⟩, ⟨by (with_reducible repeat (first | apply Kd.R_alloc | apply Kd.R_drewN | apply Kd.R_drew)); exact Kd.R_mono HO299.out (fun _ hk => ⟨hk.1.1.1.2, hk.1.2⟩)⟩, ⟨by repeat (first | (with_reducible first | exact HB.out | apply below_alloc | apply pw_below_drewN | apply below_drew1) | exact HB.out)⟩⟩
                                case rest =>
                                  clear HC67
                                  try clear c1
                                  try clear c2
                                  try clear p2
                                  try clear q2
                                  try clear c3
                                  try clear c4
                                  try clear c5
                                  try clear c5b0
                                  try clear c5b1
                                  try clear c6
                                  try clear p6
                                  try clear q6
                                  try clear c7
                                  try clear c7b0
                                  try clear c7b1
                                  try clear q7
                                  try clear c8
                                  try clear c11
                                  try clear c11b0
                                  try clear c11b1
                                  try clear c12
                                  try clear c12b0
                                  try clear c12b1
                                  try clear c14
                                  try clear c14b0
                                  try clear c15
                                  try clear c15b0
                                  try clear c17
                                  try clear c18
                                  try clear c25
                                  try clear q25
                                  try clear q26
                                  try clear c33
                                  try clear c33b0
                                  try clear c33b1
                                  try clear c43
                                  try clear c44
                                  try clear c44b0
                                  try clear c44b1
                                  try clear c49
                                  try clear c49b0
                                  try clear c49b1
                                  try clear c58
                                  try clear c59
                                  try clear c59b0
                                  try clear c59b1
                                  try clear c60
                                  try clear c60b0
                                  try clear c60b1
                                  try clear c63
                                  try clear c63b0
                                  try clear c64
                                  try clear c64b0
                                  try clear q68
                                  try clear c72
                                  try clear q72
                                  try clear c76
                                  try clear c76b0
                                  try clear c76b1
                                  try clear p2
                                  try clear p6
                                  try clear q025
                                  try clear q072
                                  try clear q2
                                  try clear q25
                                  try clear q26
                                  try clear q68
                                  try clear q72
                                  obtain ⟨kq, x103_66, rfl, HA, HJ66, HO_6, HO_12, HO_14, HB⟩ := hcut
                                  cases kq with
                                  | zero => exact absurd HA.out (by simp [lombardlaw17_ChartSums.j2])
                                  | succ kj66 =>
                                    have H := HA.out
                                    clear HA
                                    simp only [lombardlaw17_ChartSums.j2] at H
                                    have HC77 := Aside0.mk H
                                    clear H
                                    go_upto_if 103 with (fail)
                                    go_cut [] (fun wc => ∃ (kq : Nat), Aside0 (lombardlaw17_ChartSums.j3 kq l0 t235 = some r) ∧ Aside0 (kq ≤ kj66) ∧ Aside0 (Kd.R k45 45 wc w.heap.size (fun _ => True) (.slice Ao47 t235.length co47) t235) ∧ Aside0 (Below w.heap.size w wc))
                                    case first =>
                                      have H := HC77.out
                                      clear HC77
                                      by_cases c78 : x103_66 = true
                                      · subst c78
                                        have H1 : (if t285.length + t296.length < 8796093022208 then ((chart_Net.f (t285 ++ t296)).bind fun bt303 => (if bt303.2 = 0 then ((lombardlaw17_From.f kj66 bt303.1).bind fun t307 => ((lombardlaw17_From.f kj66 t235).bind fun t310 => ((lombardref17_Same.f kj66 t307 t310).bind fun t313 => (if t313 = true then (lombardlaw17_ChartSums.j3 kj66 l0 t235) else (some false))))) else (some false))) else (none)) = some r := by rw [if_pos rfl] at H; exact H
                                        clear H
                                        have H := H1
                                        clear H1
                                        by_cases c79 : t285.length + t296.length < 8796093022208
                                        · rw [if_pos c79] at H
                                          have LMc79 := Aside0.mk c79
                                          clear c79
                                          obtain ⟨y300, hy300⟩ : ∃ y_ : List (S45), y_ = (t285 ++ t296) := ⟨_, rfl⟩
                                          replace H : ((chart_Net.f y300).bind fun bt303 => (if bt303.2 = 0 then ((lombardlaw17_From.f kj66 bt303.1).bind fun t307 => ((lombardlaw17_From.f kj66 t235).bind fun t310 => ((lombardref17_Same.f kj66 t307 t310).bind fun t313 => (if t313 = true then (lombardlaw17_ChartSums.j3 kj66 l0 t235) else (some false))))) else (some false))) = some r := by first | (rw [hy300]; with_reducible exact H) | (have H2_ := (Option.bind_some _ _).symm.trans H; rw [hy300]; with_reducible exact H2_) | (have H2_ := (Option.bind_some _ _).symm.trans H; with_reducible exact H2_) | with_reducible exact H | (rw [hy300]; exact H) | exact H
                                          have Ny300 := Aside0.mk hy300
                                          clear hy300
                                          replace H := Option.bind_eq_some_iff.mp H
                                          obtain ⟨⟨t303, t304⟩, A800, H⟩ := H
                                          replace H : (if t304 = 0 then ((lombardlaw17_From.f kj66 t303).bind fun t307 => ((lombardlaw17_From.f kj66 t235).bind fun t310 => ((lombardref17_Same.f kj66 t307 t310).bind fun t313 => (if t313 = true then (lombardlaw17_ChartSums.j3 kj66 l0 t235) else (some false))))) else (some false)) = some r := H
                                          have A80 := Aside0.mk A800
                                          clear A800
                                          by_cases c81 : t304 = 0
                                          · rw [if_pos c81] at H
                                            have c81b0 : (t304 == 0) = true := beq_iff_eq.mpr c81
                                            have c81b1 : (t304 != 0) = false := bne_eq_false_iff_eq.mpr c81
                                            clear c81
                                            (first | rw [c81b0] | (simp only [i64_w, i32_w]; rw [c81b0]) | skip)
                                            replace H := Option.bind_eq_some_iff.mp H
                                            obtain ⟨t307, A820, H⟩ := H
                                            replace H : ((lombardlaw17_From.f kj66 t235).bind fun t310 => ((lombardref17_Same.f kj66 t307 t310).bind fun t313 => (if t313 = true then (lombardlaw17_ChartSums.j3 kj66 l0 t235) else (some false)))) = some r := H
                                            have A82 := Aside0.mk A820
                                            clear A820
                                            replace H := Option.bind_eq_some_iff.mp H
                                            obtain ⟨t310, A830, H⟩ := H
                                            replace H : ((lombardref17_Same.f kj66 t307 t310).bind fun t313 => (if t313 = true then (lombardlaw17_ChartSums.j3 kj66 l0 t235) else (some false))) = some r := H
                                            have A83 := Aside0.mk A830
                                            clear A830
                                            replace H := Option.bind_eq_some_iff.mp H
                                            obtain ⟨t313, A840, H⟩ := H
                                            replace H : (if t313 = true then (lombardlaw17_ChartSums.j3 kj66 l0 t235) else (some false)) = some r := H
                                            have A84 := Aside0.mk A840
                                            clear A840
                                            by_cases c85 : t313 = true
                                            · subst c85
                                              have H1 : (lombardlaw17_ChartSums.j3 kj66 l0 t235) = some r := by rw [if_pos rfl] at H; exact H
                                              clear H
                                              have H := H1
                                              clear H1
                                              have H' := Aside0.mk H
                                              clear H
                                              obtain ⟨Ao87, co87, eo87⟩ := Kd.R_slice HO_14.out
                                              subst eo87
                                              go_wp2_with (first | ((with_reducible refine gate_builtin (b := .append) (xs := #[.tmp 105, .tmp 106]) rfl ?_); at_builtin; refine Kd.R_append_rows k45 (w0 := w) w.heap.size rfl (.tmp 105) (.tmp 106) 25 45 (.agg #[(.int .i64 0), (.int .i64 0)]) 16 rfl Try.underlying25 info45 rfl (by decide) (by omega) v287 t285 t296 _ _ _ (fun k_ => some k_ ≠ (.slice Ao47 t235.length co47 : Value).ownBlock ∧ some k_ ≠ (.slice Ao87 t296.length co87 : Value).ownBlock) (fun _ => False) rfl rfl ?aO ?aR (fun _ _ h => h) (fun _ h => h.elim) ?aF ?aB ?aS ?aL ?_; (case aR => repeat (first | exact (Kd.R_reads' HO_14.out).2.2 | (with_reducible refine Kd.C_alloc ?_ _) | (with_reducible refine Kd.C_drewN ?_ _) | (with_reducible refine Kd.C_drew ?_))); (case aB => exact (by repeat (first | (with_reducible first | exact HB.out | apply below_alloc | apply pw_below_drewN | apply below_drew1) | exact HB.out))); (case aF => exact (fun k_ hk => ⟨Kd.fresh' (Kd.R_lt (by (with_reducible repeat (first | apply Kd.R_alloc | apply Kd.R_drewN | apply Kd.R_drew)); exact HO_6.out)) k_ hk, Kd.fresh' (Kd.R_lt (by (with_reducible repeat (first | apply Kd.R_alloc | apply Kd.R_drewN | apply Kd.R_drew)); exact HO_14.out)) k_ hk⟩)); (case aO => exact (by (with_reducible repeat (first | apply Kd.R_alloc | apply Kd.R_drewN | apply Kd.R_drew)); exact HO_12.out)); (case aS => exact (below_size (by repeat (first | (with_reducible first | exact HB.out | apply below_alloc | apply pw_below_drewN | apply below_drew1) | exact HB.out)))); (case aL => have := LMc79.out; omega); intro v301 w86 ho hb hg hat; rw [← Ny300.out] at ho; have n0_ := Aside0.mk (Kd.R_after (ok := (fun k_ => some k_ ≠ (.slice Ao87 t296.length co87 : Value).ownBlock)) (by (with_reducible repeat (first | apply Kd.R_alloc | apply Kd.R_drewN | apply Kd.R_drew)); exact Kd.R_mono HO_6.out (fun _ hk => ⟨hk.2, hk.1⟩)) hg hat); have n1_ := Aside0.mk (Kd.R_after (ok := (fun k_ => some k_ ≠ (.slice Ao47 t235.length co47 : Value).ownBlock)) (by (with_reducible repeat (first | apply Kd.R_alloc | apply Kd.R_drewN | apply Kd.R_drew)); exact HO_14.out) hg hat); have n2_ := Aside0.mk (hb); have n3_ := Aside0.mk (ho); clear HO_6; clear HO_14; clear HB; clear HO_12; have HO_6 := n0_; have HO_14 := n1_; have HB := n2_; have HO302 := n3_; clear n0_ n1_ n2_ n3_; clear ho hb hg hat; obtain ⟨Ao88, co88, eo88⟩ := Kd.R_slice HO302.out; subst eo88) | ((with_reducible refine gate_callee (f := 18) rfl ?_); refine goesL_ (some 108) rfl rfl Try.func18 (by kernel_rfl) rfl #[.slice Ao88 y300.length co88] rfl (by (try simp only [List.map_toArray, List.map_cons, List.map_nil]); first | done | rfl | (simp only [List.length_drop, List.length_take]; rfl)) ?_; (with_reducible refine (chart_Net.calls _ _ y300 t303 t304 _ ?side1 ?side2 A80.out).mono ?_); (case side1 => repeat (first | exact (Kd.R_reads' HO302.out).2.2 | (with_reducible refine Kd.C_alloc ?_ _) | (with_reducible refine Kd.C_drewN ?_ _) | (with_reducible refine Kd.C_drew ?_))); (case side2 => exact (Kd.R_reads' HO302.out).2.1); rintro e w89 ⟨v305, rfl, ho0, hb⟩; refine ⟨_, rfl, ?_⟩; have n0_ := Aside0.mk (Kd.R_elder' (by (with_reducible repeat (first | apply Kd.R_alloc | apply Kd.R_drewN | apply Kd.R_drew)); exact HO_6.out) (Kd.R_base ho0) hb); have n1_ := Aside0.mk (Kd.R_elder' (by (with_reducible repeat (first | apply Kd.R_alloc | apply Kd.R_drewN | apply Kd.R_drew)); exact HO_14.out) (Kd.R_base ho0) hb); have n2_ := Aside0.mk (Kd.R_elder' (by (with_reducible repeat (first | apply Kd.R_alloc | apply Kd.R_drewN | apply Kd.R_drew)); exact HO302.out) (Kd.R_base ho0) hb); have n3_ := Aside0.mk (Kd.R_lower (Kd.R_new' (Kd.R_new' (Kd.R_new' ho0 (Kd.R_lt (by (with_reducible repeat (first | apply Kd.R_alloc | apply Kd.R_drewN | apply Kd.R_drew)); exact HO_6.out))) (Kd.R_lt (by (with_reducible repeat (first | apply Kd.R_alloc | apply Kd.R_drewN | apply Kd.R_drew)); exact HO_14.out))) (Kd.R_lt (by (with_reducible repeat (first | apply Kd.R_alloc | apply Kd.R_drewN | apply Kd.R_drew)); exact HO302.out))) (below_size (by repeat (first | (with_reducible first | exact HB.out | apply below_alloc | apply pw_below_drewN | apply below_drew1) | exact HB.out)))); have n4_ := Aside0.mk (below_step (by repeat (first | (with_reducible first | exact HB.out | apply below_alloc | apply pw_below_drewN | apply below_drew1) | exact HB.out)) hb); clear HO_6; clear HO_14; clear HO302; clear HB; have HO_6 := n0_; have HO_14 := n1_; have HO302 := n2_; have HO306 := n3_; have HB := n4_; clear n0_ n1_ n2_ n3_ n4_; (try clear hb); (try clear hb2); (try clear hk); (try clear hi); (try clear ho0); obtain ⟨Ao90, co90, eo90⟩ := Kd.R_slice HO306.out; subst eo90) | (go_at_call 12; (with_reducible refine (lombardlaw17_From.calls kj66 _ _ t303 t307 _ ?side1 ?side2 A82.out).mono ?_); (case side1 => repeat (first | exact (Kd.R_reads' HO306.out).2.2 | (with_reducible refine Kd.C_alloc ?_ _) | (with_reducible refine Kd.C_drewN ?_ _) | (with_reducible refine Kd.C_drew ?_))); (case side2 => exact (Kd.R_reads' HO306.out).2.1); rintro e w91 ⟨v308, rfl, ho0, hb⟩; have n0_ := Aside0.mk (Kd.R_below (by (with_reducible repeat (first | apply Kd.R_alloc | apply Kd.R_drewN | apply Kd.R_drew)); exact HO_6.out) hb); have n1_ := Aside0.mk (Kd.R_below (by (with_reducible repeat (first | apply Kd.R_alloc | apply Kd.R_drewN | apply Kd.R_drew)); exact HO_14.out) hb); have n2_ := Aside0.mk (Kd.R_below (by (with_reducible repeat (first | apply Kd.R_alloc | apply Kd.R_drewN | apply Kd.R_drew)); exact HO302.out) hb); have n3_ := Aside0.mk (Kd.R_below (by (with_reducible repeat (first | apply Kd.R_alloc | apply Kd.R_drewN | apply Kd.R_drew)); exact HO306.out) hb); have n4_ := Aside0.mk (Kd.R_lower ho0 (below_size (by repeat (first | (with_reducible first | exact HB.out | apply below_alloc | apply pw_below_drewN | apply below_drew1) | exact HB.out)))); have n5_ := Aside0.mk (below_step (by repeat (first | (with_reducible first | exact HB.out | apply below_alloc | apply pw_below_drewN | apply below_drew1) | exact HB.out)) hb); clear HO_6; clear HO_14; clear HO302; clear HO306; clear HB; have HO_6 := n0_; have HO_14 := n1_; have HO302 := n2_; have HO306 := n3_; have HO309 := n4_; have HB := n5_; clear n0_ n1_ n2_ n3_ n4_ n5_; (try clear hb); (try clear hb2); (try clear hk); (try clear hi); (try clear ho0)) | (go_at_call 12; (with_reducible refine (lombardlaw17_From.calls kj66 _ _ t235 t310 _ ?side1 ?side2 A83.out).mono ?_); (case side1 => repeat (first | exact (Kd.R_reads' HO_6.out).2.2 | (with_reducible refine Kd.C_alloc ?_ _) | (with_reducible refine Kd.C_drewN ?_ _) | (with_reducible refine Kd.C_drew ?_))); (case side2 => exact (Kd.R_reads' HO_6.out).2.1); rintro e w92 ⟨v311, rfl, ho0, hb⟩; have n0_ := Aside0.mk (Kd.R_below (by (with_reducible repeat (first | apply Kd.R_alloc | apply Kd.R_drewN | apply Kd.R_drew)); exact HO_6.out) hb); have n1_ := Aside0.mk (Kd.R_below (by (with_reducible repeat (first | apply Kd.R_alloc | apply Kd.R_drewN | apply Kd.R_drew)); exact HO_14.out) hb); have n2_ := Aside0.mk (Kd.R_below (by (with_reducible repeat (first | apply Kd.R_alloc | apply Kd.R_drewN | apply Kd.R_drew)); exact HO302.out) hb); have n3_ := Aside0.mk (Kd.R_below (by (with_reducible repeat (first | apply Kd.R_alloc | apply Kd.R_drewN | apply Kd.R_drew)); exact HO306.out) hb); have n4_ := Aside0.mk (Kd.R_elder' (by (with_reducible repeat (first | apply Kd.R_alloc | apply Kd.R_drewN | apply Kd.R_drew)); exact HO309.out) (Kd.R_base ho0) hb); have n5_ := Aside0.mk (Kd.R_lower (Kd.R_new' ho0 (Kd.R_lt (by (with_reducible repeat (first | apply Kd.R_alloc | apply Kd.R_drewN | apply Kd.R_drew)); exact HO309.out))) (below_size (by repeat (first | (with_reducible first | exact HB.out | apply below_alloc | apply pw_below_drewN | apply below_drew1) | exact HB.out)))); have n6_ := Aside0.mk (below_step (by repeat (first | (with_reducible first | exact HB.out | apply below_alloc | apply pw_below_drewN | apply below_drew1) | exact HB.out)) hb); clear HO_6; clear HO_14; clear HO302; clear HO306; clear HO309; clear HB; have HO_6 := n0_; have HO_14 := n1_; have HO302 := n2_; have HO306 := n3_; have HO309 := n4_; have HO312 := n5_; have HB := n6_; clear n0_ n1_ n2_ n3_ n4_ n5_ n6_; (try clear hb); (try clear hb2); (try clear hk); (try clear hi); (try clear ho0); obtain ⟨Ao93, co93, eo93⟩ := Kd.R_slice HO309.out; subst eo93; obtain ⟨Ao94, co94, eo94⟩ := Kd.R_slice HO312.out; subst eo94) | (go_at_call 11; (with_reducible refine (lombardref17_Same.calls kj66 _ _ t307 _ _ t310 true _ ?side1 ?side2 ?side3 ?side4 A84.out).mono ?_); (case side1 => repeat (first | exact (Kd.R_reads' HO309.out).2.2 | (with_reducible refine Kd.C_alloc ?_ _) | (with_reducible refine Kd.C_drewN ?_ _) | (with_reducible refine Kd.C_drew ?_))); (case side2 => exact (Kd.R_reads' HO309.out).2.1); (case side3 => repeat (first | exact (Kd.R_reads' HO312.out).2.2 | (with_reducible refine Kd.C_alloc ?_ _) | (with_reducible refine Kd.C_drewN ?_ _) | (with_reducible refine Kd.C_drew ?_))); (case side4 => exact (Kd.R_reads' HO312.out).2.1); rintro e w' ⟨rfl, ⟨nd, rfl⟩⟩))
                                              go_meet
                                              case rel => exact ⟨_, H', ⟨by have := HJ18.out; have := HJ45.out; have := HJ66.out; first | omega | exact Nat.le_refl _⟩, ⟨by (with_reducible repeat (first | apply Kd.R_alloc | apply Kd.R_drewN | apply Kd.R_drew)); exact Kd.R_mono HO_6.out (fun _ hk => trivial)⟩, ⟨by repeat (first | (with_reducible first | exact HB.out | apply below_alloc | apply pw_below_drewN | apply below_drew1) | exact HB.out)⟩⟩
                                            · replace c85 := Bool.eq_false_iff.mpr c85
                                              subst c85
                                              have H1 : (some false) = some r := by rw [if_neg (show ¬ (false = true) by decide)] at H; exact H
                                              clear H
                                              have H := H1
                                              clear H1
                                              obtain rfl := Option.some.inj H
                                              obtain ⟨Ao96, co96, eo96⟩ := Kd.R_slice HO_14.out
                                              subst eo96
                                              go_wp2_with (first | ((with_reducible refine gate_builtin (b := .append) (xs := #[.tmp 105, .tmp 106]) rfl ?_); at_builtin; refine Kd.R_append_rows k45 (w0 := w) w.heap.size rfl (.tmp 105) (.tmp 106) 25 45 (.agg #[(.int .i64 0), (.int .i64 0)]) 16 rfl Try.underlying25 info45 rfl (by decide) (by omega) v287 t285 t296 _ _ _ (fun k_ => some k_ ≠ (.slice Ao47 t235.length co47 : Value).ownBlock ∧ some k_ ≠ (.slice Ao96 t296.length co96 : Value).ownBlock) (fun _ => False) rfl rfl ?aO ?aR (fun _ _ h => h) (fun _ h => h.elim) ?aF ?aB ?aS ?aL ?_; (case aR => repeat (first | exact (Kd.R_reads' HO_14.out).2.2 | (with_reducible refine Kd.C_alloc ?_ _) | (with_reducible refine Kd.C_drewN ?_ _) | (with_reducible refine Kd.C_drew ?_))); (case aB => exact (by repeat (first | (with_reducible first | exact HB.out | apply below_alloc | apply pw_below_drewN | apply below_drew1) | exact HB.out))); (case aF => exact (fun k_ hk => ⟨Kd.fresh' (Kd.R_lt (by (with_reducible repeat (first | apply Kd.R_alloc | apply Kd.R_drewN | apply Kd.R_drew)); exact HO_6.out)) k_ hk, Kd.fresh' (Kd.R_lt (by (with_reducible repeat (first | apply Kd.R_alloc | apply Kd.R_drewN | apply Kd.R_drew)); exact HO_14.out)) k_ hk⟩)); (case aO => exact (by (with_reducible repeat (first | apply Kd.R_alloc | apply Kd.R_drewN | apply Kd.R_drew)); exact HO_12.out)); (case aS => exact (below_size (by repeat (first | (with_reducible first | exact HB.out | apply below_alloc | apply pw_below_drewN | apply below_drew1) | exact HB.out)))); (case aL => have := LMc79.out; omega); intro v301 w95 ho hb hg hat; rw [← Ny300.out] at ho; have n0_ := Aside0.mk (Kd.R_after (ok := (fun k_ => some k_ ≠ (.slice Ao96 t296.length co96 : Value).ownBlock)) (by (with_reducible repeat (first | apply Kd.R_alloc | apply Kd.R_drewN | apply Kd.R_drew)); exact Kd.R_mono HO_6.out (fun _ hk => ⟨hk.2, hk.1⟩)) hg hat); have n1_ := Aside0.mk (Kd.R_after (ok := (fun k_ => some k_ ≠ (.slice Ao47 t235.length co47 : Value).ownBlock)) (by (with_reducible repeat (first | apply Kd.R_alloc | apply Kd.R_drewN | apply Kd.R_drew)); exact HO_14.out) hg hat); have n2_ := Aside0.mk (hb); have n3_ := Aside0.mk (ho); clear HO_6; clear HO_14; clear HB; clear HO_12; have HO_6 := n0_; have HO_14 := n1_; have HB := n2_; have HO302 := n3_; clear n0_ n1_ n2_ n3_; clear ho hb hg hat; obtain ⟨Ao97, co97, eo97⟩ := Kd.R_slice HO302.out; subst eo97) | ((with_reducible refine gate_callee (f := 18) rfl ?_); refine goesL_ (some 108) rfl rfl Try.func18 (by kernel_rfl) rfl #[.slice Ao97 y300.length co97] rfl (by (try simp only [List.map_toArray, List.map_cons, List.map_nil]); first | done | rfl | (simp only [List.length_drop, List.length_take]; rfl)) ?_; (with_reducible refine (chart_Net.calls _ _ y300 t303 t304 _ ?side1 ?side2 A80.out).mono ?_); (case side1 => repeat (first | exact (Kd.R_reads' HO302.out).2.2 | (with_reducible refine Kd.C_alloc ?_ _) | (with_reducible refine Kd.C_drewN ?_ _) | (with_reducible refine Kd.C_drew ?_))); (case side2 => exact (Kd.R_reads' HO302.out).2.1); rintro e w98 ⟨v305, rfl, ho0, hb⟩; refine ⟨_, rfl, ?_⟩; have n0_ := Aside0.mk (Kd.R_elder' (by (with_reducible repeat (first | apply Kd.R_alloc | apply Kd.R_drewN | apply Kd.R_drew)); exact HO_6.out) (Kd.R_base ho0) hb); have n1_ := Aside0.mk (Kd.R_elder' (by (with_reducible repeat (first | apply Kd.R_alloc | apply Kd.R_drewN | apply Kd.R_drew)); exact HO_14.out) (Kd.R_base ho0) hb); have n2_ := Aside0.mk (Kd.R_elder' (by (with_reducible repeat (first | apply Kd.R_alloc | apply Kd.R_drewN | apply Kd.R_drew)); exact HO302.out) (Kd.R_base ho0) hb); have n3_ := Aside0.mk (Kd.R_lower (Kd.R_new' (Kd.R_new' (Kd.R_new' ho0 (Kd.R_lt (by (with_reducible repeat (first | apply Kd.R_alloc | apply Kd.R_drewN | apply Kd.R_drew)); exact HO_6.out))) (Kd.R_lt (by (with_reducible repeat (first | apply Kd.R_alloc | apply Kd.R_drewN | apply Kd.R_drew)); exact HO_14.out))) (Kd.R_lt (by (with_reducible repeat (first | apply Kd.R_alloc | apply Kd.R_drewN | apply Kd.R_drew)); exact HO302.out))) (below_size (by repeat (first | (with_reducible first | exact HB.out | apply below_alloc | apply pw_below_drewN | apply below_drew1) | exact HB.out)))); have n4_ := Aside0.mk (below_step (by repeat (first | (with_reducible first | exact HB.out | apply below_alloc | apply pw_below_drewN | apply below_drew1) | exact HB.out)) hb); clear HO_6; clear HO_14; clear HO302; clear HB; have HO_6 := n0_; have HO_14 := n1_; have HO302 := n2_; have HO306 := n3_; have HB := n4_; clear n0_ n1_ n2_ n3_ n4_; (try clear hb); (try clear hb2); (try clear hk); (try clear hi); (try clear ho0); obtain ⟨Ao99, co99, eo99⟩ := Kd.R_slice HO306.out; subst eo99) | (go_at_call 12; (with_reducible refine (lombardlaw17_From.calls kj66 _ _ t303 t307 _ ?side1 ?side2 A82.out).mono ?_); (case side1 => repeat (first | exact (Kd.R_reads' HO306.out).2.2 | (with_reducible refine Kd.C_alloc ?_ _) | (with_reducible refine Kd.C_drewN ?_ _) | (with_reducible refine Kd.C_drew ?_))); (case side2 => exact (Kd.R_reads' HO306.out).2.1); rintro e w100 ⟨v308, rfl, ho0, hb⟩; have n0_ := Aside0.mk (Kd.R_below (by (with_reducible repeat (first | apply Kd.R_alloc | apply Kd.R_drewN | apply Kd.R_drew)); exact HO_6.out) hb); have n1_ := Aside0.mk (Kd.R_below (by (with_reducible repeat (first | apply Kd.R_alloc | apply Kd.R_drewN | apply Kd.R_drew)); exact HO_14.out) hb); have n2_ := Aside0.mk (Kd.R_below (by (with_reducible repeat (first | apply Kd.R_alloc | apply Kd.R_drewN | apply Kd.R_drew)); exact HO302.out) hb); have n3_ := Aside0.mk (Kd.R_below (by (with_reducible repeat (first | apply Kd.R_alloc | apply Kd.R_drewN | apply Kd.R_drew)); exact HO306.out) hb); have n4_ := Aside0.mk (Kd.R_lower ho0 (below_size (by repeat (first | (with_reducible first | exact HB.out | apply below_alloc | apply pw_below_drewN | apply below_drew1) | exact HB.out)))); have n5_ := Aside0.mk (below_step (by repeat (first | (with_reducible first | exact HB.out | apply below_alloc | apply pw_below_drewN | apply below_drew1) | exact HB.out)) hb); clear HO_6; clear HO_14; clear HO302; clear HO306; clear HB; have HO_6 := n0_; have HO_14 := n1_; have HO302 := n2_; have HO306 := n3_; have HO309 := n4_; have HB := n5_; clear n0_ n1_ n2_ n3_ n4_ n5_; (try clear hb); (try clear hb2); (try clear hk); (try clear hi); (try clear ho0)) | (go_at_call 12; (with_reducible refine (lombardlaw17_From.calls kj66 _ _ t235 t310 _ ?side1 ?side2 A83.out).mono ?_); (case side1 => repeat (first | exact (Kd.R_reads' HO_6.out).2.2 | (with_reducible refine Kd.C_alloc ?_ _) | (with_reducible refine Kd.C_drewN ?_ _) | (with_reducible refine Kd.C_drew ?_))); (case side2 => exact (Kd.R_reads' HO_6.out).2.1); rintro e w101 ⟨v311, rfl, ho0, hb⟩; have n0_ := Aside0.mk (Kd.R_below (by (with_reducible repeat (first | apply Kd.R_alloc | apply Kd.R_drewN | apply Kd.R_drew)); exact HO_6.out) hb); have n1_ := Aside0.mk (Kd.R_below (by (with_reducible repeat (first | apply Kd.R_alloc | apply Kd.R_drewN | apply Kd.R_drew)); exact HO_14.out) hb); have n2_ := Aside0.mk (Kd.R_below (by (with_reducible repeat (first | apply Kd.R_alloc | apply Kd.R_drewN | apply Kd.R_drew)); exact HO302.out) hb); have n3_ := Aside0.mk (Kd.R_below (by (with_reducible repeat (first | apply Kd.R_alloc | apply Kd.R_drewN | apply Kd.R_drew)); exact HO306.out) hb); have n4_ := Aside0.mk (Kd.R_elder' (by (with_reducible repeat (first | apply Kd.R_alloc | apply Kd.R_drewN | apply Kd.R_drew)); exact HO309.out) (Kd.R_base ho0) hb); have n5_ := Aside0.mk (Kd.R_lower (Kd.R_new' ho0 (Kd.R_lt (by (with_reducible repeat (first | apply Kd.R_alloc | apply Kd.R_drewN | apply Kd.R_drew)); exact HO309.out))) (below_size (by repeat (first | (with_reducible first | exact HB.out | apply below_alloc | apply pw_below_drewN | apply below_drew1) | exact HB.out)))); have n6_ := Aside0.mk (below_step (by repeat (first | (with_reducible first | exact HB.out | apply below_alloc | apply pw_below_drewN | apply below_drew1) | exact HB.out)) hb); clear HO_6; clear HO_14; clear HO302; clear HO306; clear HO309; clear HB; have HO_6 := n0_; have HO_14 := n1_; have HO302 := n2_; have HO306 := n3_; have HO309 := n4_; have HO312 := n5_; have HB := n6_; clear n0_ n1_ n2_ n3_ n4_ n5_ n6_; (try clear hb); (try clear hb2); (try clear hk); (try clear hi); (try clear ho0); obtain ⟨Ao102, co102, eo102⟩ := Kd.R_slice HO309.out; subst eo102; obtain ⟨Ao103, co103, eo103⟩ := Kd.R_slice HO312.out; subst eo103) | (go_at_call 11; (with_reducible refine (lombardref17_Same.calls kj66 _ _ t307 _ _ t310 false _ ?side1 ?side2 ?side3 ?side4 A84.out).mono ?_); (case side1 => repeat (first | exact (Kd.R_reads' HO309.out).2.2 | (with_reducible refine Kd.C_alloc ?_ _) | (with_reducible refine Kd.C_drewN ?_ _) | (with_reducible refine Kd.C_drew ?_))); (case side2 => exact (Kd.R_reads' HO309.out).2.1); (case side3 => repeat (first | exact (Kd.R_reads' HO312.out).2.2 | (with_reducible refine Kd.C_alloc ?_ _) | (with_reducible refine Kd.C_drewN ?_ _) | (with_reducible refine Kd.C_drew ?_))); (case side4 => exact (Kd.R_reads' HO312.out).2.1); rintro e w' ⟨rfl, ⟨nd, rfl⟩⟩))
                                              go_ret
                                              exact ⟨by first | rfl | (simp [errW_none, errW_some] <;> rfl) | (simp only [← hji10]; first | rfl | (simp [errW_none, errW_some] <;> rfl)) | (simp [*, errW_none, errW_some] <;> rfl), by repeat (first | (with_reducible first | exact HB.out | apply below_alloc | apply pw_below_drewN | apply below_drew1) | exact HB.out)⟩
                                          · rw [if_neg c81] at H
                                            have c81b0 : (t304 == 0) = false := beq_eq_false_iff_ne.mpr c81
                                            have c81b1 : (t304 != 0) = true := bne_iff_ne.mpr c81
                                            (first | rw [c81b0] | (simp only [i64_w, i32_w]; rw [c81b0]) | skip)
                                            obtain rfl := Option.some.inj H
                                            obtain ⟨Ao105, co105, eo105⟩ := Kd.R_slice HO_14.out
                                            subst eo105
                                            go_wp2_with (first | ((with_reducible refine gate_builtin (b := .append) (xs := #[.tmp 105, .tmp 106]) rfl ?_); at_builtin; refine Kd.R_append_rows k45 (w0 := w) w.heap.size rfl (.tmp 105) (.tmp 106) 25 45 (.agg #[(.int .i64 0), (.int .i64 0)]) 16 rfl Try.underlying25 info45 rfl (by decide) (by omega) v287 t285 t296 _ _ _ (fun k_ => some k_ ≠ (.slice Ao47 t235.length co47 : Value).ownBlock ∧ some k_ ≠ (.slice Ao105 t296.length co105 : Value).ownBlock) (fun _ => False) rfl rfl ?aO ?aR (fun _ _ h => h) (fun _ h => h.elim) ?aF ?aB ?aS ?aL ?_; (case aR => repeat (first | exact (Kd.R_reads' HO_14.out).2.2 | (with_reducible refine Kd.C_alloc ?_ _) | (with_reducible refine Kd.C_drewN ?_ _) | (with_reducible refine Kd.C_drew ?_))); (case aB => exact (by repeat (first | (with_reducible first | exact HB.out | apply below_alloc | apply pw_below_drewN | apply below_drew1) | exact HB.out))); (case aF => exact (fun k_ hk => ⟨Kd.fresh' (Kd.R_lt (by (with_reducible repeat (first | apply Kd.R_alloc | apply Kd.R_drewN | apply Kd.R_drew)); exact HO_6.out)) k_ hk, Kd.fresh' (Kd.R_lt (by (with_reducible repeat (first | apply Kd.R_alloc | apply Kd.R_drewN | apply Kd.R_drew)); exact HO_14.out)) k_ hk⟩)); (case aO => exact (by (with_reducible repeat (first | apply Kd.R_alloc | apply Kd.R_drewN | apply Kd.R_drew)); exact HO_12.out)); (case aS => exact (below_size (by repeat (first | (with_reducible first | exact HB.out | apply below_alloc | apply pw_below_drewN | apply below_drew1) | exact HB.out)))); (case aL => have := LMc79.out; omega); intro v301 w104 ho hb hg hat; rw [← Ny300.out] at ho; have n0_ := Aside0.mk (Kd.R_after (ok := (fun k_ => some k_ ≠ (.slice Ao105 t296.length co105 : Value).ownBlock)) (by (with_reducible repeat (first | apply Kd.R_alloc | apply Kd.R_drewN | apply Kd.R_drew)); exact Kd.R_mono HO_6.out (fun _ hk => ⟨hk.2, hk.1⟩)) hg hat); have n1_ := Aside0.mk (Kd.R_after (ok := (fun k_ => some k_ ≠ (.slice Ao47 t235.length co47 : Value).ownBlock)) (by (with_reducible repeat (first | apply Kd.R_alloc | apply Kd.R_drewN | apply Kd.R_drew)); exact HO_14.out) hg hat); have n2_ := Aside0.mk (hb); have n3_ := Aside0.mk (ho); clear HO_6; clear HO_14; clear HB; clear HO_12; have HO_6 := n0_; have HO_14 := n1_; have HB := n2_; have HO302 := n3_; clear n0_ n1_ n2_ n3_; clear ho hb hg hat; obtain ⟨Ao106, co106, eo106⟩ := Kd.R_slice HO302.out; subst eo106) | ((with_reducible refine gate_callee (f := 18) rfl ?_); refine goesL_ (some 108) rfl rfl Try.func18 (by kernel_rfl) rfl #[.slice Ao106 y300.length co106] rfl (by (try simp only [List.map_toArray, List.map_cons, List.map_nil]); first | done | rfl | (simp only [List.length_drop, List.length_take]; rfl)) ?_; (with_reducible refine (chart_Net.calls _ _ y300 t303 t304 _ ?side1 ?side2 A80.out).mono ?_); (case side1 => repeat (first | exact (Kd.R_reads' HO302.out).2.2 | (with_reducible refine Kd.C_alloc ?_ _) | (with_reducible refine Kd.C_drewN ?_ _) | (with_reducible refine Kd.C_drew ?_))); (case side2 => exact (Kd.R_reads' HO302.out).2.1); rintro e w107 ⟨v305, rfl, ho0, hb⟩; refine ⟨_, rfl, ?_⟩; have n0_ := Aside0.mk (Kd.R_elder' (by (with_reducible repeat (first | apply Kd.R_alloc | apply Kd.R_drewN | apply Kd.R_drew)); exact HO_6.out) (Kd.R_base ho0) hb); have n1_ := Aside0.mk (Kd.R_elder' (by (with_reducible repeat (first | apply Kd.R_alloc | apply Kd.R_drewN | apply Kd.R_drew)); exact HO_14.out) (Kd.R_base ho0) hb); have n2_ := Aside0.mk (Kd.R_elder' (by (with_reducible repeat (first | apply Kd.R_alloc | apply Kd.R_drewN | apply Kd.R_drew)); exact HO302.out) (Kd.R_base ho0) hb); have n3_ := Aside0.mk (Kd.R_lower (Kd.R_new' (Kd.R_new' (Kd.R_new' ho0 (Kd.R_lt (by (with_reducible repeat (first | apply Kd.R_alloc | apply Kd.R_drewN | apply Kd.R_drew)); exact HO_6.out))) (Kd.R_lt (by (with_reducible repeat (first | apply Kd.R_alloc | apply Kd.R_drewN | apply Kd.R_drew)); exact HO_14.out))) (Kd.R_lt (by (with_reducible repeat (first | apply Kd.R_alloc | apply Kd.R_drewN | apply Kd.R_drew)); exact HO302.out))) (below_size (by repeat (first | (with_reducible first | exact HB.out | apply below_alloc | apply pw_below_drewN | apply below_drew1) | exact HB.out)))); have n4_ := Aside0.mk (below_step (by repeat (first | (with_reducible first | exact HB.out | apply below_alloc | apply pw_below_drewN | apply below_drew1) | exact HB.out)) hb); clear HO_6; clear HO_14; clear HO302; clear HB; have HO_6 := n0_; have HO_14 := n1_; have HO302 := n2_; have HO306 := n3_; have HB := n4_; clear n0_ n1_ n2_ n3_ n4_; (try clear hb); (try clear hb2); (try clear hk); (try clear hi); (try clear ho0)))
                                            go_ret
                                            exact ⟨by first | rfl | (simp [errW_none, errW_some] <;> rfl) | (simp only [← hji10]; first | rfl | (simp [errW_none, errW_some] <;> rfl)) | (simp [*, errW_none, errW_some] <;> rfl), by repeat (first | (with_reducible first | exact HB.out | apply below_alloc | apply pw_below_drewN | apply below_drew1) | exact HB.out)⟩
                                        · rw [if_neg c79] at H
                                          exact absurd H (by simp)
                                      · replace c78 := Bool.eq_false_iff.mpr c78
                                        subst c78
                                        have H1 : (lombardlaw17_ChartSums.j3 kj66 l0 t235) = some r := by rw [if_neg (show ¬ (false = true) by decide)] at H; exact H
                                        clear H
                                        have H := H1
                                        clear H1
                                        have H' := Aside0.mk H
                                        clear H
                                        go_wp2
                                        go_meet
                                        case rel => exact ⟨_, H', ⟨by have := HJ18.out; have := HJ45.out; have := HJ66.out; first | omega | exact Nat.le_refl _⟩, ⟨by (with_reducible repeat (first | apply Kd.R_alloc | apply Kd.R_drewN | apply Kd.R_drew)); exact Kd.R_mono HO_6.out (fun _ hk => trivial)⟩, ⟨by repeat (first | (with_reducible first | exact HB.out | apply below_alloc | apply pw_below_drewN | apply below_drew1) | exact HB.out)⟩⟩
                                    case rest =>
                                      clear HC77
                                      try clear c1
                                      try clear c2
                                      try clear p2
                                      try clear q2
                                      try clear c3
                                      try clear c4
                                      try clear c5
                                      try clear c5b0
                                      try clear c5b1
                                      try clear c6
                                      try clear p6
                                      try clear q6
                                      try clear c7
                                      try clear c7b0
                                      try clear c7b1
                                      try clear q7
                                      try clear c8
                                      try clear c11
                                      try clear c11b0
                                      try clear c11b1
                                      try clear c12
                                      try clear c12b0
                                      try clear c12b1
                                      try clear c14
                                      try clear c14b0
                                      try clear c15
                                      try clear c15b0
                                      try clear c17
                                      try clear c18
                                      try clear c25
                                      try clear q25
                                      try clear q26
                                      try clear c33
                                      try clear c33b0
                                      try clear c33b1
                                      try clear c43
                                      try clear c44
                                      try clear c44b0
                                      try clear c44b1
                                      try clear c49
                                      try clear c49b0
                                      try clear c49b1
                                      try clear c58
                                      try clear c59
                                      try clear c59b0
                                      try clear c59b1
                                      try clear c60
                                      try clear c60b0
                                      try clear c60b1
                                      try clear c63
                                      try clear c63b0
                                      try clear c64
                                      try clear c64b0
                                      try clear q68
                                      try clear c72
                                      try clear q72
                                      try clear c76
                                      try clear c76b0
                                      try clear c76b1
                                      try clear c78
                                      try clear c79
                                      try clear c81
                                      try clear c81b0
                                      try clear c81b1
                                      try clear c85
                                      try clear p2
                                      try clear p6
                                      try clear q025
                                      try clear q072
                                      try clear q2
                                      try clear q25
                                      try clear q26
                                      try clear q6
                                      try clear q68
                                      try clear q7
                                      try clear q72
                                      obtain ⟨kq, HA, HJ76, HO_6, HB⟩ := hcut
                                      cases kq with
                                      | zero => exact absurd HA.out (by simp [lombardlaw17_ChartSums.j3])
                                      | succ kj76 =>
                                        have H := HA.out
                                        clear HA
                                        simp only [lombardlaw17_ChartSums.j3] at H
                                        replace H := Option.bind_eq_some_iff.mp H
                                        obtain ⟨t314, A1080, H⟩ := H
                                        replace H : ((chart_Check.f kj76 t314).bind fun t317 => (if t317 = 0 then (lombardlaw17_ChartSums.l0 kj76 0 t235 (t235.length : Int) 0) else (some true))) = some r := H
                                        have A108 := Aside0.mk A1080
                                        clear A1080
                                        replace H := Option.bind_eq_some_iff.mp H
                                        obtain ⟨t317, A1090, H⟩ := H
                                        replace H : (if t317 = 0 then (lombardlaw17_ChartSums.l0 kj76 0 t235 (t235.length : Int) 0) else (some true)) = some r := H
                                        have A109 := Aside0.mk A1090
                                        clear A1090
                                        by_cases c110 : t317 = 0
                                        · rw [if_pos c110] at H
                                          have c110b0 : (t317 == 0) = true := beq_iff_eq.mpr c110
                                          have c110b1 : (t317 != 0) = false := bne_eq_false_iff_eq.mpr c110
                                          clear c110
                                          have H' := Aside0.mk H
                                          clear H
                                          go_wp2_with (first | ((with_reducible refine gate_callee (f := 17) rfl ?_); refine goesL_ (some 122) rfl rfl Try.func17 (by kernel_rfl) rfl #[.slice A0 l0.length c0] rfl (by (try simp only [List.map_toArray, List.map_cons, List.map_nil]); first | done | rfl | (simp only [List.length_drop, List.length_take]; rfl)) ?_; (with_reducible refine (lombardlaw17_To.calls kj76 _ _ l0 t314 _ ?side1 ?side2 A108.out).mono ?_); (case side1 => repeat (first | exact (Kd.C_below HR0.out HB.out) | (with_reducible refine Kd.C_alloc ?_ _) | (with_reducible refine Kd.C_drewN ?_ _) | (with_reducible refine Kd.C_drew ?_))); (case side2 => exact HC0.out); rintro e w111 ⟨v315, rfl, ho0, hb⟩; refine ⟨_, rfl, ?_⟩; have n0_ := Aside0.mk (Kd.R_elder' (by (with_reducible repeat (first | apply Kd.R_alloc | apply Kd.R_drewN | apply Kd.R_drew)); exact HO_6.out) (Kd.R_base ho0) hb); have n1_ := Aside0.mk (Kd.R_lower (Kd.R_new' ho0 (Kd.R_lt (by (with_reducible repeat (first | apply Kd.R_alloc | apply Kd.R_drewN | apply Kd.R_drew)); exact HO_6.out))) (below_size (by repeat (first | (with_reducible first | exact HB.out | apply below_alloc | apply pw_below_drewN | apply below_drew1) | exact HB.out)))); have n2_ := Aside0.mk (below_step (by repeat (first | (with_reducible first | exact HB.out | apply below_alloc | apply pw_below_drewN | apply below_drew1) | exact HB.out)) hb); clear HO_6; clear HB; have HO_6 := n0_; have HO316 := n1_; have HB := n2_; clear n0_ n1_ n2_; (try clear hb); (try clear hb2); (try clear hk); (try clear hi); (try clear ho0); obtain ⟨Ao112, co112, eo112⟩ := Kd.R_slice HO316.out; subst eo112) | ((with_reducible refine gate_callee (f := 20) rfl ?_); refine goesL_ (some 123) rfl rfl Try.func20 (by kernel_rfl) rfl #[.slice Ao112 t314.length co112] rfl (by (try simp only [List.map_toArray, List.map_cons, List.map_nil]); first | done | rfl | (simp only [List.length_drop, List.length_take]; rfl)) ?_; (with_reducible refine (chart_Check.calls kj76 _ _ t314 t317 _ ?side1 ?side2 A109.out).mono ?_); (case side1 => repeat (first | exact (Kd.R_reads' HO316.out).2.2 | (with_reducible refine Kd.C_alloc ?_ _) | (with_reducible refine Kd.C_drewN ?_ _) | (with_reducible refine Kd.C_drew ?_))); (case side2 => exact (Kd.R_reads' HO316.out).2.1); rintro e w113 ⟨rfl, hb⟩; refine ⟨_, rfl, ?_⟩; have n0_ := Aside0.mk (Kd.R_below (by (with_reducible repeat (first | apply Kd.R_alloc | apply Kd.R_drewN | apply Kd.R_drew)); exact HO_6.out) hb); have n1_ := Aside0.mk (Kd.R_below (by (with_reducible repeat (first | apply Kd.R_alloc | apply Kd.R_drewN | apply Kd.R_drew)); exact HO316.out) hb); have n2_ := Aside0.mk (below_step (by repeat (first | (with_reducible first | exact HB.out | apply below_alloc | apply pw_below_drewN | apply below_drew1) | exact HB.out)) hb); clear HO_6; clear HO316; clear HB; have HO_6 := n0_; have HO316 := n1_; have HB := n2_; clear n0_ n1_ n2_; (try clear hb); (try clear hb2); (try clear hk); (try clear hi)))
                                          go_loopg [18, 127] kj76 (fun kq v18 v127 w' => ∃ (x18_5 : Int) (x127_5 : Int), v18 = .int .i64 x18_5 ∧ v127 = .int .i64 x127_5 ∧ Aside0 (lombardlaw17_ChartSums.l0 kq x18_5 t235 (t235.length : Int) x127_5 = some r) ∧ Aside0 (kq ≤ kj76) ∧ Aside0 (Kd.R k45 45 w' w.heap.size (fun _ => True) (.slice Ao47 t235.length co47) t235) ∧ Aside0 (Below w.heap.size w w'))
                                          case atStart => exact ⟨(0), (0), (by first | rfl | (simp; done) | (simp [*]; done)), (by first | rfl | (simp; done) | (simp [*]; done)), H', ⟨Nat.le_refl _⟩, ⟨by (with_reducible repeat (first | apply Kd.R_alloc | apply Kd.R_drewN | apply Kd.R_drew)); exact Kd.R_mono HO_6.out (fun _ hk => trivial)⟩, ⟨by repeat (first | (with_reducible first | exact HB.out | apply below_alloc | apply pw_below_drewN | apply below_drew1) | exact HB.out)⟩⟩
                                          case round =>
                                            clear H'
                                            try clear c1
                                            try clear c2
                                            try clear p2
                                            try clear q2
                                            try clear c3
                                            try clear c4
                                            try clear c5
                                            try clear c5b0
                                            try clear c5b1
                                            try clear c6
                                            try clear p6
                                            try clear q6
                                            try clear c7
                                            try clear c7b0
                                            try clear c7b1
                                            try clear q7
                                            try clear c8
                                            try clear c11
                                            try clear c11b0
                                            try clear c11b1
                                            try clear c12
                                            try clear c12b0
                                            try clear c12b1
                                            try clear c14
                                            try clear c14b0
                                            try clear c15
                                            try clear c15b0
                                            try clear c17
                                            try clear c18
                                            try clear c20
                                            try clear c25
                                            try clear q25
                                            try clear q26
                                            try clear c33
                                            try clear c33b0
                                            try clear c33b1
                                            try clear c43
                                            try clear c44
                                            try clear c44b0
                                            try clear c44b1
                                            try clear c49
                                            try clear c49b0
                                            try clear c49b1
                                            try clear c58
                                            try clear c59
                                            try clear c59b0
                                            try clear c59b1
                                            try clear c60
                                            try clear c60b0
                                            try clear c60b1
                                            try clear c63
                                            try clear c63b0
                                            try clear c64
                                            try clear c64b0
                                            try clear q68
                                            try clear c72
                                            try clear q72
                                            try clear c76
                                            try clear c76b0
                                            try clear c76b1
                                            try clear c78
                                            try clear c79
                                            try clear c81
                                            try clear c81b0
                                            try clear c81b1
                                            try clear c85
                                            try clear c110
                                            try clear c110b0
                                            try clear c110b1
                                            try clear p2
                                            try clear p6
                                            try clear q025
                                            try clear q072
                                            try clear q2
                                            try clear q25
                                            try clear q26
                                            try clear q6
                                            try clear q68
                                            try clear q7
                                            try clear q72
                                            obtain ⟨x18_5, x127_5, rfl, rfl, HA, HK5, HO_125, HB⟩ := hrel
                                            cases gk with
                                            | zero => exact absurd HA.out (by simp [lombardlaw17_ChartSums.l0])
                                            | succ k5 =>
                                              have H := HA.out
                                              clear HA
                                              simp only [lombardlaw17_ChartSums.l0] at H
                                              by_cases c114 : x127_5 < (t235.length : Int)
                                              · rw [if_pos c114] at H
                                                have c114b0 : decide (x127_5 < (t235.length : Int)) = true := decide_eq_true c114
                                                clear c114
                                                by_cases c115 : 0 ≤ x127_5
                                                · rw [if_pos c115] at H
                                                  have c115b0 : decide (0 ≤ x127_5) = true := decide_eq_true c115
                                                  clear c115
                                                  by_cases c116 : x127_5 < (t235.length : Int)
                                                  · rw [if_pos c116] at H
                                                    have c116b0 : decide (x127_5 < (t235.length : Int)) = true := decide_eq_true c116
                                                    clear c116
                                                    have H' := Aside0.mk H
                                                    clear H
                                                    have p318 : 0 ≤ (x127_5 : Int) := of_decide_eq_true (by first | (with_reducible assumption) | assumption)
                                                    have q318 : x127_5 < (t235.length : Int) := of_decide_eq_true (by first | (with_reducible assumption) | assumption)
                                                    obtain ⟨ad318, e318, hx318_0, hx318_1⟩ := at_T45 (Kd.R_reads' HO_125.out).2.2 x127_5 p318 q318
                                                    cases e318
                                                    replace p318 := eq_true p318
                                                    replace q318 := eq_true q318
                                                    go_wp2_with (first | ((with_reducible refine gate_dst (N := 20) rfl ?_); refine box_event ?hg (N := 20) ?hd (cs := #[.int .i64 0, .int .i64 0]) (t := 45) ?hr ?_; (case hd => rfl); (case hg => rfl); (case hr => first | (go_simp; done) | (go_simp; rfl)); intro gb319 hg w117 hbox hb; have n0_ := Aside0.mk (Kd.R_below (Kd.R_elderB (by (with_reducible repeat (first | apply Kd.R_alloc | apply Kd.R_drewN | apply Kd.R_drew)); exact HO_125.out) gb319 (Nat.le_of_eq hg.symm)) hb); have n1_ := Aside0.mk (below_step (by repeat (first | (with_reducible first | exact HB.out | apply below_alloc | apply pw_below_drewN | apply below_drew1) | exact HB.out)) hb); have n2_ := Aside0.mk (hbox); have n3_ := Aside0.mk ((by rw [hg]; exact (below_size (by repeat (first | (with_reducible first | exact HB.out | apply below_alloc | apply pw_below_drewN | apply below_drew1) | exact HB.out))) : w.heap.size ≤ gb319)); have n4_ := Aside0.mk ((by rw [hg]; exact (below_size (by repeat (first | (with_reducible first | exact HB.out | apply below_alloc | apply pw_below_drewN | apply below_drew1) | exact HB.out))) : w.heap.size ≤ gb319)); clear HO_125; clear HB; have HO_125 := n0_; have HB := n1_; have BK319 := n2_; have GW319 := n3_; have GE319 := n4_; clear n0_ n1_ n2_ n3_ n4_; clear hb hbox hg; have hcz118_0 : w117.cell? ⟨gb319, 0, none⟩ = some (.int .i64 0) := (blk_cell BK319.out 0).trans rfl; have hcz118_1 : w117.cell? ⟨gb319, 1, none⟩ = some (.int .i64 0) := (blk_cell BK319.out 1).trans rfl; have hfz118_0 := blk_frozen BK319.out 0; have hfz118_1 := blk_frozen BK319.out 1))
                                                    go_roundg k5
                                                    case measure => have := HJ18.out; have := HJ45.out; have := HJ66.out; have := HJ76.out; have := HK5.out; omega
                                                    case rel => exact ⟨(wrap64 (x18_5 + ((rd_T45 t235 x127_5).f1))), (wrap64 (x127_5 + 1)), (by first | rfl | (simp; done) | (simp [*]; done)), (by first | rfl | (simp; done) | (simp [*]; done)), H', ⟨by have := HJ18.out; have := HJ45.out; have := HJ66.out; have := HJ76.out; have := HK5.out; omega⟩, ⟨by (with_reducible repeat (first | apply Kd.R_alloc | apply Kd.R_drewN | apply Kd.R_drew)); exact Kd.R_mono (Kd.R_far (p := ⟨gb319, 1, none⟩) (Kd.R_far (p := ⟨gb319, 0, none⟩) (Kd.R_mono HO_125.out (fun k_ hk => (⟨hk, hk.2⟩ : _ ∧ k_ ≠ gb319))) (fun _ hk => hk.2) (.int .i64 ((rd_T45 t235 x127_5).f0))) (fun _ hk => hk.2) (.int .i64 ((rd_T45 t235 x127_5).f1))) (fun _ hk => trivial)⟩, ⟨by repeat (first | (with_reducible first | exact HB.out | apply below_alloc | apply pw_below_drewN | apply below_drew1 | refine below_set ?_ GE319.out) | exact HB.out)⟩⟩
                                                  · rw [if_neg c116] at H
                                                    exact absurd H (by simp)
                                                · rw [if_neg c115] at H
                                                  exact absurd H (by simp)
                                              · rw [if_neg c114] at H
                                                have c114b0 : decide (x127_5 < (t235.length : Int)) = false := decide_eq_false c114
                                                clear c114
                                                obtain rfl := Option.some.inj H
                                                go_wp2
                                                go_ret
                                                exact ⟨by first | rfl | (simp [errW_none, errW_some] <;> rfl) | (simp only [← hji10]; first | rfl | (simp [errW_none, errW_some] <;> rfl)) | (simp [*, errW_none, errW_some] <;> rfl), by repeat (first | (with_reducible first | exact HB.out | apply below_alloc | apply pw_below_drewN | apply below_drew1) | exact HB.out)⟩
                                        · rw [if_neg c110] at H
                                          have c110b0 : (t317 == 0) = false := beq_eq_false_iff_ne.mpr c110
                                          have c110b1 : (t317 != 0) = true := bne_iff_ne.mpr c110
                                          obtain rfl := Option.some.inj H
                                          go_wp2_with (first | ((with_reducible refine gate_callee (f := 17) rfl ?_); refine goesL_ (some 122) rfl rfl Try.func17 (by kernel_rfl) rfl #[.slice A0 l0.length c0] rfl (by (try simp only [List.map_toArray, List.map_cons, List.map_nil]); first | done | rfl | (simp only [List.length_drop, List.length_take]; rfl)) ?_; (with_reducible refine (lombardlaw17_To.calls kj76 _ _ l0 t314 _ ?side1 ?side2 A108.out).mono ?_); (case side1 => repeat (first | exact (Kd.C_below HR0.out HB.out) | (with_reducible refine Kd.C_alloc ?_ _) | (with_reducible refine Kd.C_drewN ?_ _) | (with_reducible refine Kd.C_drew ?_))); (case side2 => exact HC0.out); rintro e w119 ⟨v315, rfl, ho0, hb⟩; refine ⟨_, rfl, ?_⟩; have n0_ := Aside0.mk (Kd.R_elder' (by (with_reducible repeat (first | apply Kd.R_alloc | apply Kd.R_drewN | apply Kd.R_drew)); exact HO_6.out) (Kd.R_base ho0) hb); have n1_ := Aside0.mk (Kd.R_lower (Kd.R_new' ho0 (Kd.R_lt (by (with_reducible repeat (first | apply Kd.R_alloc | apply Kd.R_drewN | apply Kd.R_drew)); exact HO_6.out))) (below_size (by repeat (first | (with_reducible first | exact HB.out | apply below_alloc | apply pw_below_drewN | apply below_drew1) | exact HB.out)))); have n2_ := Aside0.mk (below_step (by repeat (first | (with_reducible first | exact HB.out | apply below_alloc | apply pw_below_drewN | apply below_drew1) | exact HB.out)) hb); clear HO_6; clear HB; have HO_6 := n0_; have HO316 := n1_; have HB := n2_; clear n0_ n1_ n2_; (try clear hb); (try clear hb2); (try clear hk); (try clear hi); (try clear ho0); obtain ⟨Ao120, co120, eo120⟩ := Kd.R_slice HO316.out; subst eo120) | ((with_reducible refine gate_callee (f := 20) rfl ?_); refine goesL_ (some 123) rfl rfl Try.func20 (by kernel_rfl) rfl #[.slice Ao120 t314.length co120] rfl (by (try simp only [List.map_toArray, List.map_cons, List.map_nil]); first | done | rfl | (simp only [List.length_drop, List.length_take]; rfl)) ?_; (with_reducible refine (chart_Check.calls kj76 _ _ t314 t317 _ ?side1 ?side2 A109.out).mono ?_); (case side1 => repeat (first | exact (Kd.R_reads' HO316.out).2.2 | (with_reducible refine Kd.C_alloc ?_ _) | (with_reducible refine Kd.C_drewN ?_ _) | (with_reducible refine Kd.C_drew ?_))); (case side2 => exact (Kd.R_reads' HO316.out).2.1); rintro e w121 ⟨rfl, hb⟩; refine ⟨_, rfl, ?_⟩; have n0_ := Aside0.mk (Kd.R_below (by (with_reducible repeat (first | apply Kd.R_alloc | apply Kd.R_drewN | apply Kd.R_drew)); exact HO_6.out) hb); have n1_ := Aside0.mk (Kd.R_below (by (with_reducible repeat (first | apply Kd.R_alloc | apply Kd.R_drewN | apply Kd.R_drew)); exact HO316.out) hb); have n2_ := Aside0.mk (below_step (by repeat (first | (with_reducible first | exact HB.out | apply below_alloc | apply pw_below_drewN | apply below_drew1) | exact HB.out)) hb); clear HO_6; clear HO316; clear HB; have HO_6 := n0_; have HO316 := n1_; have HB := n2_; clear n0_ n1_ n2_; (try clear hb); (try clear hb2); (try clear hk); (try clear hi)))
                                          go_ret
                                          exact ⟨by first | rfl | (simp [errW_none, errW_some] <;> rfl) | (simp only [← hji10]; first | rfl | (simp [errW_none, errW_some] <;> rfl)) | (simp [*, errW_none, errW_some] <;> rfl), by repeat (first | (with_reducible first | exact HB.out | apply below_alloc | apply pw_below_drewN | apply below_drew1) | exact HB.out)⟩
                              · rw [if_neg c60] at H
                                exact absurd H (by simp)
                            · rw [if_neg c59] at H
                              exact absurd H (by simp)
                    · rw [if_neg c44] at H
                      have c44b0 : (t236 == 0) = false := beq_eq_false_iff_ne.mpr c44
                      have c44b1 : (t236 != 0) = true := bne_iff_ne.mpr c44
                      obtain rfl := Option.some.inj H
                      obtain ⟨Ao122, co122, eo122⟩ := Kd.R_slice HO_6.out
                      subst eo122
                      go_wp2
                      go_ret
                      exact ⟨by first | rfl | (simp [errW_none, errW_some] <;> rfl) | (simp only [← hji10]; first | rfl | (simp [errW_none, errW_some] <;> rfl)) | (simp [*, errW_none, errW_some] <;> rfl), by repeat (first | (with_reducible first | exact HB.out | apply below_alloc | apply pw_below_drewN | apply below_drew1) | exact HB.out)⟩
            · rw [if_neg c17] at H
              exact absurd H (by simp)
          · rw [if_neg c12] at H
            exact absurd H (by simp)
        · rw [if_neg c11] at H
          exact absurd H (by simp)
  · replace c4 := Bool.eq_false_iff.mpr c4
    subst c4
    have H1 : (some false) = some r := by rw [if_neg (show ¬ (false = true) by decide)] at H; exact H
    clear H
    have H := H1
    clear H1
    obtain rfl := Option.some.inj H
    go_enter Try.func7, Try.ntmps7
    go_wp2_with (first | ((with_reducible refine gate_callee (f := 8) rfl ?_); refine goesL_ (some 21) rfl rfl Try.func8 (by kernel_rfl) rfl #[] rfl (by (try simp only [List.map_toArray, List.map_cons, List.map_nil]); first | done | rfl | (simp only [List.length_drop, List.length_take]; rfl)) ?_; (with_reducible refine (lombardlaw17_alive.calls k  false _ A3.out).mono ?_); rintro e w123 ⟨rfl, hb⟩; refine ⟨_, rfl, ?_⟩; have n0_ := Aside0.mk (below_step (by repeat (first | (with_reducible first | exact HB.out | apply below_alloc | apply pw_below_drewN | apply below_drew1) | exact HB.out)) hb); clear HB; have HB := n0_; clear n0_; (try clear hb); (try clear hb2); (try clear hk); (try clear hi)))
    go_ret
    exact ⟨by first | rfl | (simp [errW_none, errW_some] <;> rfl) | (simp [*, errW_none, errW_some] <;> rfl), by repeat (first | (with_reducible first | exact HB.out | apply below_alloc | apply pw_below_drewN | apply below_drew1) | exact HB.out)⟩

end Go.Proofs.Ytmafmbcgjeecjaa.Print
