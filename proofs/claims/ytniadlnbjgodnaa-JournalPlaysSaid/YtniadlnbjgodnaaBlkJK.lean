/- The document's sum is the program's. The document's journal: small functions. A record's blocks, as the document lays them. What the document's record is: pure laws. A record, read as the document reads it. A journal is opened, as the document opens it. A record is added, as the document adds it. A journal and the document's beside it: contracts for the law. -/
import Derived.Test.YtniadlnbjgodnaaProg
import Derived.Below
import Derived.Deep.Draws
import Derived.Deep.AppendLies
import Derived.Maps.AppendAt
import Derived.OwnWalk
import Derived.Laws.BytesArg
import Derived.Laws.MakeOwn
import Derived.Laws.OwnMore
import Derived.Deep.OwnRows
import Derived.Tactics
import Derived.Lib.ConvBytes
import Derived.Laws.Slices
import Derived.WalkKit
import Derived.KernelRfl
import Derived.RowKit3
import Derived.Deep.LoopGhost
import Derived.Deep.QuietTactic
import Derived.BigQuiet
import Derived.WideLaws
import Derived.Deep.DeepCutAuto
import Derived.Deep.CutBlock
import Derived.Deep.RegionHeld3
import Derived.Laws.Rows
import Derived.Lib.AppendStr
import Derived.ArgAppend
import Derived.Laws.IdiomCopy
import Derived.OrdersHeld
import Derived.Laws.BitsLemmas
import Derived.RowKit
import Derived.LoopN
import Derived.Handy
import Derived.Laws.EntriesVeiled
import Derived.MapKept
import Derived.Laws.Externs
import Derived.ChangeKeysEq
import Derived.Deep.WholeRow
import Derived.Test.YtniadlnbjgodnaaWWords
import Derived.Test.YtniadlnbjgodnaaWLast
import Derived.Test.YtniadlnbjgodnaaWTab
import Derived.Test.YtniadlnbjgodnaaWFour
import Derived.Test.YtniadlnbjgodnaaWQPut
import Derived.Test.YtniadlnbjgodnaaWApart
import Derived.Test.YtniadlnbjgodnaaWArr
import Derived.Test.YtniadlnbjgodnaaWZeros
import Derived.Test.YtniadlnbjgodnaaWFoot
import Derived.Test.YtniadlnbjgodnaaWKept
import Derived.Test.YtniadlnbjgodnaaWShare
import Derived.Test.YtniadlnbjgodnaaWN
import Derived.Test.YtniadlnbjgodnaaWFootNe
import Derived.Test.YtniadlnbjgodnaaWAt
import Derived.Test.YtniadlnbjgodnaaWEqStruct
import Derived.Test.YtniadlnbjgodnaaWRepsOne
import Derived.Test.YtniadlnbjgodnaaWInv
import Derived.Test.YtniadlnbjgodnaaWInvWords
import Derived.Test.YtniadlnbjgodnaaWGuard
import Derived.Test.YtniadlnbjgodnaaWNEv
import Derived.Test.YtniadlnbjgodnaaWMore
import Derived.Test.YtniadlnbjgodnaaBlkA
import Derived.Test.YtniadlnbjgodnaaBlkJ1
import Derived.Test.YtniadlnbjgodnaaBlkKO
import Derived.Test.YtniadlnbjgodnaaBlkJ2
import Derived.Test.YtniadlnbjgodnaaBlkJ3
import Derived.Test.YtniadlnbjgodnaaBlkJ4
import Derived.Test.YtniadlnbjgodnaaBlkB
import Derived.Test.YtniadlnbjgodnaaBlkC
import Derived.Test.YtniadlnbjgodnaaBlkD
import Derived.Test.YtniadlnbjgodnaaBlkE
import Derived.Test.YtniadlnbjgodnaaBlkG
import Derived.Test.YtniadlnbjgodnaaBlkI
import Derived.Test.YtniadlnbjgodnaaBlkJ
import Derived.Test.YtniadlnbjgodnaaBlkJ5
namespace Go.Proofs.Ytniadlnbjgodnaa.Print
open Go.RowKit Go.Proofs.YtniadlnbjgodnaaW.PrintWords Go.Proofs.YtniadlnbjgodnaaW.PrintLast Go.Proofs.YtniadlnbjgodnaaW.PrintMore
attribute [local go_sem] max2_int min2_int max_two min_two max_three min_three max_four min_four
set_option linter.unusedVariables false
set_option linter.unusedSimpArgs false
namespace DS
mutual
def dSum.l0 : Nat → Int → List Int → Int → Int → Option (Int)
  | 0, _, _, _, _ => none
  | k + 1, x3, x8, x9, x10 => if x10 < x9 then (if 0 ≤ x10 then (if x10 < (x8.length : Int) then (dSum.l1 k x3 (Go.Proofs.YtniadlnbjgodnaaW.PrintWords.rd x8 x10) 0 x8 x9 x10) else (none)) else (none)) else (some (Go.bits .xor .u32 x3 4294967295))
def dSum.l1 : Nat → Int → Int → Int → List Int → Int → Int → Option (Int)
  | 0, _, _, _, _, _, _ => none
  | k + 1, x3, x5, x6, x8, x9, x10 => if x6 < 8 then (if 0 ≤ (IntKind.u64.wrap (x6)) then (if (Go.bits .and .u32 (Go.bits .xor .u32 x3 (shr .u32 ((x5) % 4294967296) (IntKind.u64.wrap (x6)))) 1) = 1 then (dSum.l1 k (Go.bits .xor .u32 (x3 / 2) 3988292384) x5 (wrap64 (x6 + 1)) x8 x9 x10) else (dSum.l1 k (x3 / 2) x5 (wrap64 (x6 + 1)) x8 x9 x10)) else (none)) else (dSum.l0 k x3 x8 x9 (wrap64 (x10 + 1)))
end
def dSum.f (k : Nat) (l0 : List Int) : Option (Int) := dSum.l0 k 4294967295 l0 (l0.length : Int) 0
theorem dSum.mono_l : ∀ k, (∀ y0 y1 y2 y3, LeO (dSum.l0 k y0 y1 y2 y3) (dSum.l0 (k + 1) y0 y1 y2 y3)) ∧ (∀ y0 y1 y2 y3 y4 y5, LeO (dSum.l1 k y0 y1 y2 y3 y4 y5) (dSum.l1 (k + 1) y0 y1 y2 y3 y4 y5))
  | 0 => ⟨fun _ _ _ _ r h => by simp [dSum.l0] at h, fun _ _ _ _ _ _ r h => by simp [dSum.l1] at h⟩
  | k + 1 => by
    obtain ⟨ih0, ih1⟩ := dSum.mono_l k
    refine ⟨?_, ?_⟩
    · intro y0 y1 y2 y3
      unfold dSum.l0
      repeat' first
      | (with_reducible exact ih0 _ _ _ _)
      | (with_reducible exact ih1 _ _ _ _ _ _)
      | (with_reducible exact LeO.refl _)
      | (with_reducible exact LeO.none _)
      | (with_reducible refine LeO.ite ?_ ?_)
      | (with_reducible refine LeO.bind ?_ (fun _ => ?_))
      | exact ih0 _ _ _ _
      | exact ih1 _ _ _ _ _ _
      | exact LeO.none _
      | refine LeO.ite ?_ ?_
      | refine LeO.bind ?_ (fun _ => ?_)
    · intro y0 y1 y2 y3 y4 y5
      unfold dSum.l1
      repeat' first
      | (with_reducible exact ih0 _ _ _ _)
      | (with_reducible exact ih1 _ _ _ _ _ _)
      | (with_reducible exact LeO.refl _)
      | (with_reducible exact LeO.none _)
      | (with_reducible refine LeO.ite ?_ ?_)
      | (with_reducible refine LeO.bind ?_ (fun _ => ?_))
      | exact ih0 _ _ _ _
      | exact ih1 _ _ _ _ _ _
      | exact LeO.none _
      | refine LeO.ite ?_ ?_
      | refine LeO.bind ?_ (fun _ => ?_)
theorem dSum.mono : ∀ a0 k, LeO (dSum.f k a0) (dSum.f (k + 1) a0) := by
  intro a0 k
  obtain ⟨ih0, ih1⟩ := dSum.mono_l k
  unfold dSum.f
  repeat' first
      | (with_reducible exact ih0 _ _ _ _)
      | (with_reducible exact ih1 _ _ _ _ _ _)
      | (with_reducible exact LeO.refl _)
      | (with_reducible exact LeO.none _)
      | (with_reducible refine LeO.ite ?_ ?_)
      | (with_reducible refine LeO.bind ?_ (fun _ => ?_))
      | exact ih0 _ _ _ _
      | exact ih1 _ _ _ _ _ _
      | exact LeO.none _
      | refine LeO.ite ?_ ?_
      | refine LeO.bind ?_ (fun _ => ?_)
set_option maxHeartbeats 8000000 in
set_option maxRecDepth 100000 in
theorem dSum.calls (k : Nat) (A0 : Option Addr) (c0 : Nat) (l0 : List Int) (r : Int) (w : World) (hr0 : Kd.C (Kd.int .u8) w A0 l0.length l0) (hc0 : l0.length ≤ c0) (h : dSum.f k l0 = some r) :
    Calls Try.prog 53 #[.slice A0 l0.length c0] w fun e w' => e = .returned (.int .u32 r) ∧ Drawn0 w w' := by
  have HR0 := Aside0.mk hr0
  have HC0 := Aside0.mk hc0
  clear hr0 hc0
  have H : (dSum.l0 k 4294967295 l0 (l0.length : Int) 0) = some r := h
  clear h
  have H' := Aside0.mk H
  clear H
  go_enter Try.func53, Try.ntmps53
  go_wp2
  go_loopg [3, 10] k (fun kq v3 v10 w' => ∃ (x3_1 : Int) (x10_1 : Int), v3 = .int .u32 x3_1 ∧ v10 = .int .i64 x10_1 ∧ Aside0 (dSum.l0 kq x3_1 l0 (l0.length : Int) x10_1 = some r) ∧ Aside0 (kq ≤ k) ∧ Drawn0 w w')
  case atStart => exact ⟨(4294967295), (0), (by first | rfl | (simp; done) | (simp [*]; done)), (by first | rfl | (simp; done) | (simp [*]; done)), H', ⟨Nat.le_refl _⟩, by repeat (first | exact Drawn0.refl _ | apply Drawn0.step)⟩
  case round =>
    clear H'
    obtain ⟨x3_1, x10_1, rfl, rfl, HA, HK1, ⟨m1, rfl⟩⟩ := hrel
    cases gk with
    | zero => exact absurd HA.out (by simp [dSum.l0])
    | succ k1 =>
      have H := HA.out
      clear HA
      simp only [dSum.l0] at H
      by_cases c2 : x10_1 < (l0.length : Int)
      · rw [if_pos c2] at H
        have c2b0 : decide (x10_1 < (l0.length : Int)) = true := decide_eq_true c2
        clear c2
        by_cases c3 : 0 ≤ x10_1
        · rw [if_pos c3] at H
          have c3b0 : decide (0 ≤ x10_1) = true := decide_eq_true c3
          clear c3
          by_cases c4 : x10_1 < (l0.length : Int)
          · rw [if_pos c4] at H
            have c4b0 : decide (x10_1 < (l0.length : Int)) = true := decide_eq_true c4
            clear c4
            have H' := Aside0.mk H
            clear H
            have p104 : 0 ≤ (x10_1 : Int) := of_decide_eq_true (by first | (with_reducible assumption) | assumption)
            have q104 : x10_1 < (l0.length : Int) := of_decide_eq_true (by first | (with_reducible assumption) | assumption)
            obtain ⟨ad104, e104, hx104_0⟩ := Kd.at_int HR0.out x10_1 p104 q104
            cases e104
            replace p104 := eq_true p104
            replace q104 := eq_true q104
            go_wp2
            go_loopg [3, 6] k1 (fun kq v3 v6 w' => ∃ (x3_2 : Int) (x6_2 : Int), v3 = .int .u32 x3_2 ∧ v6 = .int .i64 x6_2 ∧ Aside0 (dSum.l1 kq x3_2 (Go.Proofs.YtniadlnbjgodnaaW.PrintWords.rd l0 x10_1) x6_2 l0 (l0.length : Int) x10_1 = some r) ∧ Aside0 (kq ≤ k1) ∧ Drawn0 w w')
            case atStart => exact ⟨(x3_1), (0), (by first | rfl | (simp; done) | (simp [*]; done)), (by first | rfl | (simp; done) | (simp [*]; done)), H', ⟨Nat.le_refl _⟩, by repeat (first | exact Drawn0.refl _ | apply Drawn0.step)⟩
            case round =>
              clear H'
              try clear p1
              try clear q1
              try clear hx1
              try clear c2
              try clear c2b0
              try clear p2
              try clear c3
              try clear c3b0
              try clear c4
              try clear c4b0
              try clear hx104_0
              try clear p104
              try clear q104
              obtain ⟨x3_2, x6_2, rfl, rfl, HA, HK2, ⟨m2, rfl⟩⟩ := hrel
              cases gk with
              | zero => exact absurd HA.out (by simp [dSum.l1])
              | succ k2 =>
                have H := HA.out
                clear HA
                simp only [dSum.l1] at H
                by_cases c5 : x6_2 < 8
                · rw [if_pos c5] at H
                  have c5b0 : decide (x6_2 < 8) = true := decide_eq_true c5
                  clear c5
                  obtain ⟨ji6, hji6⟩ : ∃ j_ : Int, (IntKind.u64.wrap (x6_2)) = j_ := ⟨_, rfl⟩
                  replace H : (if 0 ≤ (ji6) then (if (Go.bits .and .u32 (Go.bits .xor .u32 x3_2 (shr .u32 (((Go.Proofs.YtniadlnbjgodnaaW.PrintWords.rd l0 x10_1)) % 4294967296) (ji6))) 1) = 1 then (dSum.l1 k2 (Go.bits .xor .u32 (x3_2 / 2) 3988292384) (Go.Proofs.YtniadlnbjgodnaaW.PrintWords.rd l0 x10_1) (wrap64 (x6_2 + 1)) l0 (l0.length : Int) x10_1) else (dSum.l1 k2 (x3_2 / 2) (Go.Proofs.YtniadlnbjgodnaaW.PrintWords.rd l0 x10_1) (wrap64 (x6_2 + 1)) l0 (l0.length : Int) x10_1)) else (none)) = some r := by first | (rw [hji6] at H; exact H) | (simp only [hji6] at H ⊢; exact H)
                  by_cases c7 : 0 ≤ (ji6)
                  · rw [if_pos c7] at H
                    have c7b0 := eq_true c7
                    have c7b1 : decide (0 ≤ (ji6)) = true := decide_eq_true c7
                    clear c7
                    obtain ⟨ji8, hji8⟩ : ∃ j_ : Int, (shr .u32 (((Go.Proofs.YtniadlnbjgodnaaW.PrintWords.rd l0 x10_1)) % 4294967296) (ji6)) = j_ := ⟨_, rfl⟩
                    replace H : (if (Go.bits .and .u32 (Go.bits .xor .u32 x3_2 (ji8)) 1) = 1 then (dSum.l1 k2 (Go.bits .xor .u32 (x3_2 / 2) 3988292384) (Go.Proofs.YtniadlnbjgodnaaW.PrintWords.rd l0 x10_1) (wrap64 (x6_2 + 1)) l0 (l0.length : Int) x10_1) else (dSum.l1 k2 (x3_2 / 2) (Go.Proofs.YtniadlnbjgodnaaW.PrintWords.rd l0 x10_1) (wrap64 (x6_2 + 1)) l0 (l0.length : Int) x10_1)) = some r := by first | (rw [hji8] at H; exact H) | (simp only [hji8] at H ⊢; exact H)
                    have hji8_ : ((((Go.Proofs.YtniadlnbjgodnaaW.PrintWords.rd l0 x10_1)) % 4294967296) / 2 ^ min (ji6).toNat 32) = ji8 := hji8
                    have hji8z : (ji6) ≤ 32 → ((((Go.Proofs.YtniadlnbjgodnaaW.PrintWords.rd l0 x10_1)) % 4294967296) / 2 ^ (ji6).toNat) = ji8 := shr_small hji8
                    by_cases c9 : (Go.bits .and .u32 (Go.bits .xor .u32 x3_2 (ji8)) 1) = 1
                    · rw [if_pos c9] at H
                      have c9b0 : ((Go.bits .and .u32 (Go.bits .xor .u32 x3_2 (ji8)) 1) == 1) = true := beq_iff_eq.mpr c9
                      have c9b1 : ((Go.bits .and .u32 (Go.bits .xor .u32 x3_2 (ji8)) 1) != 1) = false := bne_eq_false_iff_eq.mpr c9
                      clear c9
                      have H' := Aside0.mk H
                      clear H
                      go_wp2
                      go_roundg k2
                      case measure => have := HK1.out; have := HK2.out; omega
                      case rel => exact ⟨(Go.bits .xor .u32 (x3_2 / 2) 3988292384), (wrap64 (x6_2 + 1)), (by first | rfl | (simp; done) | (simp [*]; done)), (by first | rfl | (simp; done) | (simp [*]; done)), H', ⟨by have := HK1.out; have := HK2.out; omega⟩, by repeat (first | exact Drawn0.refl _ | apply Drawn0.step)⟩
                    · rw [if_neg c9] at H
                      have c9b0 : ((Go.bits .and .u32 (Go.bits .xor .u32 x3_2 (ji8)) 1) == 1) = false := beq_eq_false_iff_ne.mpr c9
                      have c9b1 : ((Go.bits .and .u32 (Go.bits .xor .u32 x3_2 (ji8)) 1) != 1) = true := bne_iff_ne.mpr c9
                      have H' := Aside0.mk H
                      clear H
                      go_wp2
                      go_roundg k2
                      case measure => have := HK1.out; have := HK2.out; omega
                      case rel => exact ⟨(x3_2 / 2), (wrap64 (x6_2 + 1)), (by first | rfl | (simp; done) | (simp [*]; done)), (by first | rfl | (simp; done) | (simp [*]; done)), H', ⟨by have := HK1.out; have := HK2.out; omega⟩, by repeat (first | exact Drawn0.refl _ | apply Drawn0.step)⟩
                  · rw [if_neg c7] at H
                    exact absurd H (by simp)
                · rw [if_neg c5] at H
                  have c5b0 : decide (x6_2 < 8) = false := decide_eq_false c5
                  clear c5
                  have H' := Aside0.mk H
                  clear H
                  go_wp2
                  go_roundg k2
                  case measure => have := HK1.out; have := HK2.out; omega
                  case rel => exact ⟨(x3_2), (wrap64 (x10_1 + 1)), (by first | rfl | (simp; done) | (simp [*]; done)), (by first | rfl | (simp; done) | (simp [*]; done)), H', ⟨by have := HK1.out; have := HK2.out; omega⟩, by repeat (first | exact Drawn0.refl _ | apply Drawn0.step)⟩
          · rw [if_neg c4] at H
            exact absurd H (by simp)
        · rw [if_neg c3] at H
          exact absurd H (by simp)
      · rw [if_neg c2] at H
        have c2b0 : decide (x10_1 < (l0.length : Int)) = false := decide_eq_false c2
        clear c2
        obtain rfl := Option.some.inj H
        go_wp2
        go_ret
        exact ⟨by first | rfl | (simp; done) | (simp [*]; done), by repeat (first | exact Drawn0.refl _ | apply Drawn0.step)⟩

-- NOT PRINTED: function 42 (lombardref20_cut)

-- NOT PRINTED: function 38 (lombardref20_record)

-- NOT PRINTED: function 13 (lombardref20_Open)

-- NOT PRINTED: function 15 (lombardref20_Journal_Append)

-- NOT PRINTED: function 19 (lombardref19_Store_Crash)

-- NOT PRINTED: function 21 (lombardref19_Of)
theorem w64 {x : Int} (h0 : -9223372036854775808 ≤ x) (h1 : x ≤ 9223372036854775807) : wrap64 x = x := by unfold wrap64; omega
/-! check sums, in plain numbers -/
def P32 : Nat := 3988292384
def stepN (n : Nat) : Nat := n / 2 ^^^ (if n % 2 = 1 then P32 else 0)
def stepsN : Nat → Nat → Nat
  | 0, n => n
  | k + 1, n => stepN (stepsN k n)
theorem xor_div2 (a b : Nat) : (a ^^^ b) / 2 = a / 2 ^^^ b / 2 := by
  have := Nat.shiftRight_xor_distrib (a := a) (b := b) (i := 1)
  simpa [Nat.shiftRight_eq_div_pow] using this
theorem xor_mod2 (a b : Nat) : (a ^^^ b) % 2 = 1 ↔ ¬ (a % 2 = 1 ↔ b % 2 = 1) := by
  have := Nat.testBit_xor a b 0
  simp only [Nat.testBit_zero] at this
  by_cases p : a % 2 = 1 <;> by_cases q : b % 2 = 1 <;> simp [p, q] at this ⊢ <;> omega
theorem stepN_xor (a b : Nat) : stepN (a ^^^ b) = stepN a ^^^ stepN b := by
  unfold stepN
  rw [xor_div2]
  have h := xor_mod2 a b
  have e1 : ∀ x y z : Nat, x ^^^ y ^^^ (x ^^^ z) = y ^^^ z := fun x y z => by
    rw [Nat.xor_assoc, ← Nat.xor_assoc y, Nat.xor_comm y x, Nat.xor_assoc x, ← Nat.xor_assoc, Nat.xor_self, Nat.zero_xor]
  by_cases p : a % 2 = 1 <;> by_cases q : b % 2 = 1
  · rw [if_neg (by rw [h]; simp [p, q]), if_pos p, if_pos q, Nat.xor_zero]
    rw [Nat.xor_assoc (a / 2) P32, ← Nat.xor_assoc P32, Nat.xor_comm P32 (b / 2), Nat.xor_assoc (b / 2), Nat.xor_self, Nat.xor_zero]
  · rw [if_pos (by rw [h]; simp [p, q]), if_pos p, if_neg q, Nat.xor_zero, Nat.xor_assoc, Nat.xor_assoc, Nat.xor_comm P32]
  · rw [if_pos (by rw [h]; simp [p, q]), if_neg p, if_pos q, Nat.xor_zero, Nat.xor_assoc]
  · rw [if_neg (by rw [h]; simp [p, q]), if_neg p, if_neg q, Nat.xor_zero, Nat.xor_zero, Nat.xor_zero]
theorem stepsN_xor (k a b : Nat) : stepsN k (a ^^^ b) = stepsN k a ^^^ stepsN k b := by
  induction k with
  | zero => rfl
  | succ k ih => rw [stepsN, ih, stepN_xor, stepsN, stepsN]
theorem stepN_lt {n : Nat} (h : n < 2 ^ 32) : stepN n < 2 ^ 32 := by
  unfold stepN
  apply Nat.xor_lt_two_pow
  · omega
  · split <;> decide
theorem stepsN_lt {k n : Nat} (h : n < 2 ^ 32) : stepsN k n < 2 ^ 32 := by
  induction k with
  | zero => exact h
  | succ k ih => exact stepN_lt ih
theorem stepN_inj {n : Nat} (h : n < 2 ^ 32) (h0 : stepN n = 0) : n = 0 := by
  unfold stepN at h0
  by_cases c : n % 2 = 1
  · rw [if_pos c] at h0
    have h2 : n / 2 = P32 := by
      have := congrArg (· ^^^ P32) h0
      simp only [Nat.xor_assoc, Nat.xor_self, Nat.xor_zero, Nat.zero_xor] at this
      exact this
    unfold P32 at h2
    omega
  · rw [if_neg c, Nat.xor_zero] at h0
    omega
theorem stepsN_inj {k n : Nat} (h : n < 2 ^ 32) (h0 : stepsN k n = 0) : n = 0 := by
  induction k with
  | zero => exact h0
  | succ k ih => exact ih (stepN_inj (stepsN_lt h) h0)
theorem stepsN_zero (k : Nat) : stepsN k 0 = 0 := by
  induction k with
  | zero => rfl
  | succ k ih => rw [stepsN, ih]; rfl
theorem stepN_even (n : Nat) : stepN (2 * n) = n := by
  unfold stepN
  rw [if_neg (by omega), Nat.xor_zero]; omega
theorem stepsN_hi (h : Nat) : stepsN 8 (h * 256) = h := by
  have e : h * 256 = 2 * (2 * (2 * (2 * (2 * (2 * (2 * (2 * h))))))) := by omega
  rw [e]
  simp only [stepsN, stepN_even]
def oneN (n c : Nat) : Nat := stepsN 8 (n ^^^ c)
theorem oneN_lt {n c : Nat} (hn : n < 2 ^ 32) (hc : c < 256) : oneN n c < 2 ^ 32 := stepsN_lt (Nat.xor_lt_two_pow hn (by omega))
theorem split_xor (n c : Nat) (hc : c < 256) : n ^^^ c = (n / 256 * 256) ^^^ (n % 256 ^^^ c) := by
  have h1 : n % 256 ^^^ c < 2 ^ 8 := Nat.xor_lt_two_pow (by omega) hc
  have h2 : n = (n / 256 * 256) ^^^ (n % 256) := by
    have := Nat.two_pow_add_eq_or_of_lt (i := 8) (b := n % 256) (by omega) (n / 256)
    have hx : (n / 256 * 256) ^^^ (n % 256) = (n / 256 * 256) ||| (n % 256) := by
      apply Nat.eq_of_testBit_eq
      intro i
      rw [Nat.testBit_xor, Nat.testBit_or]
      by_cases d : i < 8
      · have : (n / 256 * 256).testBit i = false := by
          rw [show n / 256 * 256 = 2 ^ 8 * (n / 256) by omega, Nat.testBit_two_pow_mul]
          simp; omega
        simp [this]
      · have : (n % 256).testBit i = false := Nat.testBit_lt_two_pow (Nat.lt_of_lt_of_le (show n % 256 < 2 ^ 8 by omega) (Nat.pow_le_pow_right (by decide) (by omega)))
        simp [this]
    rw [hx, show n / 256 * 256 = 2 ^ 8 * (n / 256) by omega, ← this]
    omega
  rw [← Nat.xor_assoc, ← h2]
theorem one_table (n c : Nat) (hc : c < 256) : oneN n c = n / 256 ^^^ stepsN 8 (n % 256 ^^^ c) := by
  unfold oneN
  rw [split_xor n c hc, stepsN_xor, stepsN_hi]
def crcN (l : List Nat) (n : Nat) : Nat := l.foldl oneN n
theorem crcN_lt : ∀ (l : List Nat) (n : Nat), n < 2 ^ 32 → (∀ x ∈ l, x < 256) → crcN l n < 2 ^ 32
  | [], n, h, _ => h
  | c :: t, n, h, hl => crcN_lt t _ (oneN_lt h (hl c List.mem_cons_self)) (fun x hx => hl x (List.mem_cons_of_mem _ hx))
/-! the program's numbers are these -/
theorem u32w {n : Int} (h0 : 0 ≤ n) (h1 : n < 4294967296) : IntKind.u32.wrap n = n := by
  show n % 4294967296 = n
  omega
theorem bits_xor_nat (k : IntKind) (j : Nat) (hj : j ≤ k.bits) (hk : ∀ n : Int, 0 ≤ n → n < 2 ^ j → k.wrap n = n) (a b : Nat) (ha : a < 2 ^ j) (hb : b < 2 ^ j) : Go.bits .xor k (a : Int) (b : Int) = ((a ^^^ b : Nat) : Int) := by
  have hp : 2 ^ j ≤ 2 ^ k.bits := Nat.pow_le_pow_right (by decide) hj
  have ha' : a % 2 ^ k.bits = a := Nat.mod_eq_of_lt (Nat.lt_of_lt_of_le ha hp)
  have hb' : b % 2 ^ k.bits = b := Nat.mod_eq_of_lt (Nat.lt_of_lt_of_le hb hp)
  simp only [Go.bits, BitVec.ofInt_natCast, BitVec.toNat_xor, BitVec.toNat_ofNat, ha', hb']
  exact hk _ (Int.natCast_nonneg _) (by exact_mod_cast Nat.xor_lt_two_pow ha hb)
theorem xor32 (a b : Nat) (ha : a < 2 ^ 32) (hb : b < 2 ^ 32) : Go.bits .xor .u32 (a : Int) (b : Int) = ((a ^^^ b : Nat) : Int) :=
  bits_xor_nat .u32 32 (by decide) (fun n h0 h1 => u32w h0 (by omega)) a b ha hb
theorem xor8 (a b : Nat) (ha : a < 256) (hb : b < 256) : Go.bits .xor .u8 (a : Int) (b : Int) = ((a ^^^ b : Nat) : Int) :=
  bits_xor_nat .u8 8 (by decide) wraps_u8 a b ha hb
theorem and1 (a : Nat) (ha : a < 2 ^ 32) : Go.bits .and .u32 (a : Int) 1 = ((a % 2 : Nat) : Int) := by
  have := bits_mask .u32 32 (by decide) (fun n h0 h1 => u32w h0 (by omega)) 1 (by decide) (a : Int) (Int.natCast_nonneg _) (by exact_mod_cast ha)
  rw [show (2 : Int) ^ 1 - 1 = 1 by decide] at this
  rw [this]
  omega
theorem step_at (n : Nat) (h : n < 2 ^ 32) : batch_table.step (n : Int) = ((stepN n : Nat) : Int) := by
  unfold batch_table.step stepN
  rw [and1 n h]
  have e2 : (n : Int) / 2 = ((n / 2 : Nat) : Int) := by omega
  rw [e2]
  by_cases c : n % 2 = 1
  · rw [if_pos c, c]
    have e3 : (3988292384 * ((1 : Nat) : Int)) % 4294967296 = ((P32 : Nat) : Int) := rfl
    rw [e3, xor32 _ _ (by omega) (by decide)]
  · rw [if_neg c, show n % 2 = 0 by omega]
    have e3 : (3988292384 * ((0 : Nat) : Int)) % 4294967296 = ((0 : Nat) : Int) := rfl
    rw [e3, xor32 _ _ (by omega) (by decide)]
theorem n8_at (k n : Nat) (h : n < 2 ^ 32) : batch_table.n8 k (n : Int) = ((stepsN k n : Nat) : Int) := by
  induction k with
  | zero => rfl
  | succ k ih => rw [batch_table.n8, ih, step_at _ (stepsN_lt h), stepsN]
theorem one_at (n c : Nat) (hn : n < 2 ^ 32) (hc : c < 256) : batch_Sum.one (n : Int) (c : Int) = ((oneN n c : Nat) : Int) := by
  unfold batch_Sum.one batch_table.T
  have e1 : (n : Int) / 256 = ((n / 256 : Nat) : Int) := by omega
  have e2 : (n : Int) % 256 = ((n % 256 : Nat) : Int) := by omega
  have h1 : n % 256 ^^^ c < 2 ^ 8 := Nat.xor_lt_two_pow (by omega) hc
  rw [e1, e2, xor8 _ _ (by omega) hc, n8_at _ _ (by omega), xor32 _ _ (by omega) (stepsN_lt (by omega)), one_table n c hc]
/-- Bytes, as the program has them. -/
def ints (l : List Nat) : List Int := l.map (fun n : Nat => (n : Int))
theorem go_ints : ∀ (l : List Nat) (n : Nat), n < 2 ^ 32 → (∀ x ∈ l, x < 256) → batch_Sum.go (ints l) (n : Int) = ((crcN l n : Nat) : Int)
  | [], n, _, _ => rfl
  | c :: t, n, h, hl => by
    have hc := hl c List.mem_cons_self
    have := go_ints t (oneN n c) (oneN_lt h hc) (fun x hx => hl x (List.mem_cons_of_mem _ hx))
    unfold batch_Sum.go ints at this ⊢
    rw [List.map_cons, List.foldl_cons, one_at n c h hc, this]
    rfl
def sumN (l : List Nat) : Nat := 4294967295 ^^^ crcN l 4294967295
theorem sumN_lt (l : List Nat) (hl : ∀ x ∈ l, x < 256) : sumN l < 2 ^ 32 := Nat.xor_lt_two_pow (by decide) (crcN_lt l _ (by decide) hl)
theorem Sum_at (l : List Nat) (hl : ∀ x ∈ l, x < 256) (hn : l.length ≤ 1000000000000) : batch_Sum.f (ints l) = some ((sumN l : Nat) : Int) := by
  unfold batch_Sum.f
  rw [if_pos (by simpa [ints] using hn)]
  have := go_ints l 4294967295 (by decide) hl
  rw [show ((4294967295 : Nat) : Int) = 4294967295 from rfl] at this
  rw [this, show IntKind.u32.max = ((4294967295 : Nat) : Int) from rfl, xor32 _ _ (by decide) (crcN_lt l _ (by decide) hl)]
  rfl
theorem u64w {n : Int} (h0 : 0 ≤ n) (h1 : n < 18446744073709551616) : IntKind.u64.wrap n = n := by
  show n % 18446744073709551616 = n
  omega
theorem ints_len (l : List Nat) : (ints l).length = l.length := by simp [ints]
theorem rd_ints (l : List Nat) (i : Nat) (h : i < l.length) : Go.Proofs.YtniadlnbjgodnaaW.PrintWords.rd (ints l) (i : Int) = ((l[i] : Nat) : Int) := by
  simp [Go.Proofs.YtniadlnbjgodnaaW.PrintWords.rd, ints, List.getElem?_eq_getElem h]
theorem rSum_l1 (l : List Nat) (hl : l.length ≤ 1000000) (c : Nat) (hc : c < 256) (j : Nat) (m : Nat) : ∀ (d i n : Nat), i + d = 8 → n < 2 ^ 32 →
    dSum.l1 (m + d + 1) (n : Int) (c : Int) (i : Int) (ints l) ((ints l).length : Int) (j : Int) = dSum.l0 m ((stepsN d (n ^^^ c / 2 ^ i) ^^^ c / 2 ^ 8 : Nat) : Int) (ints l) ((ints l).length : Int) (wrap64 ((j : Int) + 1)) := by
  intro d
  induction d with
  | zero =>
    intro i n hi hn
    obtain rfl : i = 8 := by omega
    rw [dSum.l1, if_neg (by omega)]
    congr 2
    rw [stepsN, Nat.xor_assoc, Nat.xor_self, Nat.xor_zero]
  | succ d ih =>
    intro i n hi hn
    have hs : shr .u32 ((c : Int) % 4294967296) (IntKind.u64.wrap (i : Int)) = ((c / 2 ^ i : Nat) : Int) := by
      rw [u64w (by omega) (by omega)]
      unfold shr
      have e1 : (c : Int) % 4294967296 = (c : Int) := by omega
      have e2 : min ((i : Int)).toNat IntKind.u32.bits = i := by
        have : IntKind.u32.bits = 32 := rfl
        rw [Int.toNat_natCast]; omega
      rw [e1, e2]
      simp
    have hci : c / 2 ^ i < 2 ^ 32 := Nat.lt_of_le_of_lt (Nat.div_le_self _ _) (by omega)
    have hdiv : c / 2 ^ (i + 1) = c / 2 ^ i / 2 := by rw [Nat.pow_succ, Nat.div_div_eq_div_mul]
    rw [dSum.l1, if_pos (by omega), if_pos (by rw [u64w (by omega) (by omega)]; omega), hs, xor32 n _ hn hci, and1 _ (Nat.xor_lt_two_pow hn hci), w64 (x := (i : Int) + 1) (by omega) (by omega)]
    have e2 : (n : Int) / 2 = ((n / 2 : Nat) : Int) := by omega
    have e1 : ((i : Int) + 1) = ((i + 1 : Nat) : Int) := by omega
    have hstep : ∀ x : Nat, stepsN (d + 1) x = stepsN d (stepN x) := by
      clear ih hi
      induction d with
      | zero => intro x; rfl
      | succ d ih => intro x; rw [stepsN, ih, ← stepsN]
    rw [e2, e1, show m + (d + 1) = m + d + 1 from rfl, hstep]
    by_cases b : (n ^^^ c / 2 ^ i) % 2 = 1
    · rw [if_pos (by rw [b]; rfl), show (3988292384 : Int) = ((P32 : Nat) : Int) from rfl, xor32 _ _ (by omega) (by decide), ih (i + 1) _ (by omega) (Nat.xor_lt_two_pow (by omega) (by decide))]
      have : n / 2 ^^^ P32 ^^^ c / 2 ^ (i + 1) = stepN (n ^^^ c / 2 ^ i) := by
        unfold stepN
        rw [if_pos b, xor_div2, hdiv, Nat.xor_assoc, Nat.xor_comm P32, ← Nat.xor_assoc]
      rw [this]
    · rw [if_neg (by omega), ih (i + 1) _ (by omega) (by omega)]
      have : n / 2 ^^^ c / 2 ^ (i + 1) = stepN (n ^^^ c / 2 ^ i) := by
        unfold stepN
        rw [if_neg b, xor_div2, hdiv, Nat.xor_zero]
      rw [this]
theorem rSum_l0 (l : List Nat) (hl : l.length ≤ 1000000) (hb : ∀ x ∈ l, x < 256) (m : Nat) : ∀ (d j n : Nat), j + d = l.length → n < 2 ^ 32 →
    dSum.l0 (m + 10 * d + 1) (n : Int) (ints l) ((ints l).length : Int) (j : Int) = some ((crcN (l.drop j) n ^^^ 4294967295 : Nat) : Int) := by
  intro d
  induction d with
  | zero =>
    intro j n hj hn
    rw [dSum.l0, if_neg (by rw [ints_len]; omega), List.drop_of_length_le (by omega)]
    have := xor32 n 4294967295 hn (by decide)
    rw [show ((4294967295 : Nat) : Int) = 4294967295 from rfl] at this
    rw [this]; rfl
  | succ d ih =>
    intro j n hj hn
    have c : j < l.length := by omega
    have hc : l[j] < 256 := hb _ (List.getElem_mem c)
    have h1 := rSum_l1 l hl l[j] hc j (m + 10 * d + 1) 8 0 n rfl hn
    rw [Nat.pow_zero, Nat.div_one, show l[j] / 2 ^ 8 = 0 by omega, Nat.xor_zero] at h1
    rw [dSum.l0, if_pos (by rw [ints_len]; omega), if_pos (by omega), if_pos (by rw [ints_len]; omega), rd_ints l j c, show m + 10 * (d + 1) = m + 10 * d + 1 + 8 + 1 by omega]
    simp only [Int.natCast_zero] at h1
    rw [h1, w64 (x := (j : Int) + 1) (by omega) (by omega), show ((j : Int) + 1) = ((j + 1 : Nat) : Int) by omega, ih (j + 1) _ (by omega) (stepsN_lt (Nat.xor_lt_two_pow hn (by omega))), List.drop_eq_getElem_cons c]
    rfl
theorem rSum_at (k : Nat) (l : List Nat) (hl : l.length ≤ 1000000) (hb : ∀ x ∈ l, x < 256) (hk : 10 * l.length + 1 ≤ k) : dSum.f k (ints l) = some ((sumN l : Nat) : Int) := by
  obtain ⟨m, rfl⟩ : ∃ m, k = m + 10 * l.length + 1 := ⟨k - 10 * l.length - 1, by omega⟩
  have := rSum_l0 l hl hb m l.length 0 4294967295 (by omega) (by decide)
  unfold dSum.f
  simp only [Int.natCast_zero] at this
  rw [show ((4294967295 : Nat) : Int) = 4294967295 from rfl] at this
  rw [this, List.drop_zero]
  unfold sumN
  rw [Nat.xor_comm]
theorem ints_of (l : List Int) (hb : ∀ x ∈ l, 0 ≤ x ∧ x < 256) : ∃ m : List Nat, l = ints m ∧ ∀ x ∈ m, x < 256 := by
  refine ⟨l.map Int.toNat, ?_, fun x hx => ?_⟩
  · unfold ints
    rw [List.map_map]
    refine (List.map_id l).symm.trans (List.map_congr_left fun x hx => ?_)
    have := hb x hx
    show x = ((x.toNat : Nat) : Int)
    omega
  · obtain ⟨y, hy, rfl⟩ := List.mem_map.1 hx
    have := hb y hy
    omega
end DS
theorem k_Sum {w : World} {A : Option Addr} {c : Nat} {l : List Int} (hC : Kd.C (Kd.int .u8) w A l.length l) (hc : l.length ≤ c) (hb : ∀ x ∈ l, 0 ≤ x ∧ x < 256) (hl : l.length ≤ 1000000) : Calls Try.prog 53 #[.slice A l.length c] w fun e w' => e = .returned (.int .u32 (sumF l)) ∧ Below w.heap.size w w' := by
  obtain ⟨m, e, hm⟩ := DS.ints_of l hb
  have h1 := DS.rSum_at (10 * m.length + 1) m (by rw [e, DS.ints_len] at hl; exact hl) hm (Nat.le_refl _)
  have h2 := DS.Sum_at m hm (by rw [e, DS.ints_len] at hl; omega)
  have h3 : sumF l = ((DS.sumN m : Nat) : Int) := by
    unfold batch_Sum.f at h2
    split at h2
    · rw [e]; exact Option.some.inj h2
    · cases h2
  rw [h3]
  rw [← e] at h1
  refine (DS.dSum.calls _ A c l _ w hC hc h1).mono ?_
  rintro e w' ⟨rfl, hd⟩
  exact ⟨rfl, hd.below⟩
section
variable {B : Nat} {w w' : World} {p gl : Nat} {v : Value} {L : List (Bk × Bool)} {W : List (Int × Bk)} {pk u : Nat} {lv : Value}
set_option maxHeartbeats 4000000 in
set_option maxRecDepth 100000 in
theorem k_parts (n : Nat) (hn : n ≤ 1000000000000) : Calls Try.prog 39 #[.int .i64 n] w fun e w' => e = .returned (.int .i64 (pn n)) ∧ Below w.heap.size w w' := by
  have hp : (if (1 : Int) < ((n : Int) + 52) / 53 then ((n : Int) + 52) / 53 else 1) = (pn n : Int) := by unfold pn; split <;> omega
  go_enter Try.func39, Try.ntmps39
  go_wp2_with fail
  go_ret
  exact ⟨rfl, Below.refl _ _⟩
/-- The document's journal's block. -/
def KBk (w : World) (pk p : Nat) (lv : Value) (u : Nat) : Prop := w.heap[pk]? = some (.cells #[.pointer (some ⟨p, 0, none⟩), lv, .int .i64 u] 52 (0, 0))
theorem KBk.below (h : KBk w pk p lv u) (hb : Below w.heap.size w w') : KBk w' pk p lv u := (hb.block _ (blk_lt h)).trans h
set_option maxHeartbeats 4000000 in
set_option maxRecDepth 100000 in
theorem k_Fits (h : RA B w p gl v L W) (hj : KBk w pk p lv u) (hu : u ≤ L.length) (n : Int) : Calls Try.prog 27 #[.pointer (some ⟨pk, 0, none⟩), .int .i64 n] w fun e w' => e = .returned (.bool (fits L u n)) ∧ Below w.heap.size w w' := by
  have hL := h.hL
  have HS := Aside0.mk h
  have HJ := Aside0.mk hj
  have HB := Aside0.mk (Below.refl w.heap.size w)
  clear h hj
  obtain ⟨r, hr⟩ : ∃ r, r = fits L u n := ⟨_, rfl⟩
  rw [← hr]
  unfold fits at hr
  replace hr := Aside0.mk hr
  go_enter Try.func27, Try.ntmps27
  by_cases h1 : 0 ≤ n
  case neg =>
    obtain rfl : r = false := by rw [hr.out, decide_eq_false h1, Bool.false_and]
    have hd1 : decide (0 ≤ n) = false := decide_eq_false h1
    clear hr h1
    go_wp2_with fail
    have n_HS := Aside0.mk (HS.out.below (below_drew (Below.refl _ _)))
    have n_HJ := Aside0.mk (KBk.below HJ.out (below_drew (Below.refl _ _)))
    have n_HB := Aside0.mk (below_step HB.out (below_drew (Below.refl _ _)))
    clear HS
    have HS := n_HS
    clear n_HS
    clear HJ
    have HJ := n_HJ
    clear n_HJ
    clear HB
    have HB := n_HB
    clear n_HB
    refine start_ (n := 25) (S := fun w' => w'.cell? ⟨pk, 0, none⟩ = some (.pointer (some ⟨p, 0, none⟩)) ∧ w'.cell? ⟨pk, 2, none⟩ = some (.int .i64 u) ∧ w'.cell? ⟨p, 0, none⟩ = some (.slice (some ⟨gl, 0, none⟩) L.length L.length)) (ds := []) #[false, false, false, false, false, false, false, false, false, false, false, false, false, false, false, false, false, false, false, false, false, false, false, false, false] (by kernel_rfl) rfl rfl ⟨(blk_cell HJ.out 0).trans rfl, (blk_cell HJ.out 2).trans rfl, (blk_cell HS.out.hp 0).trans rfl⟩ (fun hHeld => ?_)
    generalize w.drew = w1 at HS HJ HB hHeld ⊢
    refine pure_ (i := 0) (N := some 5) (v := ?_) (a' := ?_) #[true, false, false, false, false, false, false, false, false, false, false, false, false, false, false, false, false, false, false, false, false, false, false, false, false] rfl rfl (by kernel_rfl) (fun _ _ _ h => h) (Or.inl ⟨by rfl, ?_⟩) ?_ ?_
    rotate_left
    · intro w'
      go_simp
      with_reducible rfl
    rotate_left
    · simp only [Act.put, List.setIfInBounds_toArray, List.set_cons_zero, List.set_cons_succ, i64_w, i32_w]
      rfl
    refine pure_ (i := 1) (N := some 6) (v := ?_) (a' := ?_) #[true, true, false, false, false, false, false, false, false, false, false, false, false, false, false, false, false, false, false, false, false, false, false, false, false] rfl rfl (by kernel_rfl) (fun _ _ _ h => h) (Or.inl ⟨by rfl, ?_⟩) ?_ ?_
    rotate_left
    · intro w'
      go_simp
      with_reducible rfl
    rotate_left
    · simp only [Act.put, List.setIfInBounds_toArray, List.set_cons_zero, List.set_cons_succ, i64_w, i32_w]
      rfl
    refine pure_ (i := 2) (N := some 7) (v := ?_) (a' := ?_) #[true, true, true, false, false, false, false, false, false, false, false, false, false, false, false, false, false, false, false, false, false, false, false, false, false] rfl rfl (by kernel_rfl) (fun _ _ _ h => h) (Or.inl ⟨by rfl, ?_⟩) ?_ ?_
    rotate_left
    · intro w'
      go_simp
      with_reducible rfl
    rotate_left
    · simp only [Act.put, List.setIfInBounds_toArray, List.set_cons_zero, List.set_cons_succ, i64_w, i32_w]
      rfl
    refine pure_ (i := 3) (N := some 8) (v := undef) (a' := ?_) #[true, true, true, true, false, false, false, false, false, false, false, false, false, false, false, false, false, false, false, false, false, false, false, false, false] rfl rfl (by kernel_rfl) (fun _ _ _ h => h) (Or.inr ⟨by rfl, rfl⟩) ?_ ?_
    rotate_left
    · simp only [Act.put, List.setIfInBounds_toArray, List.set_cons_zero, List.set_cons_succ, i64_w, i32_w]
      rfl
    refine pure_ (i := 4) (N := some 9) (v := undef) (a' := ?_) #[true, true, true, true, true, false, false, false, false, false, false, false, false, false, false, false, false, false, false, false, false, false, false, false, false] rfl rfl (by kernel_rfl) (fun _ _ _ h => h) (Or.inr ⟨by rfl, rfl⟩) ?_ ?_
    rotate_left
    · simp only [Act.put, List.setIfInBounds_toArray, List.set_cons_zero, List.set_cons_succ, i64_w, i32_w]
      rfl
    refine pure_ (i := 5) (N := some 10) (v := ?_) (a' := ?_) #[true, true, true, true, true, true, false, false, false, false, false, false, false, false, false, false, false, false, false, false, false, false, false, false, false] rfl rfl (by kernel_rfl) (fun _ _ _ h => h) (Or.inl ⟨by rfl, ?_⟩) ?_ ?_
    rotate_left
    · intro w'
      go_simp
      with_reducible rfl
    rotate_left
    · simp only [Act.put, List.setIfInBounds_toArray, List.set_cons_zero, List.set_cons_succ, i64_w, i32_w]
      rfl
    refine pure_ (i := 6) (N := some 11) (v := ?_) (a' := ?_) #[true, true, true, true, true, true, true, false, false, false, false, false, false, false, false, false, false, false, false, false, false, false, false, false, false] rfl rfl (by kernel_rfl) (fun _ _ _ h => h) (Or.inl ⟨by rfl, ?_⟩) ?_ ?_
    rotate_left
    · intro w'
      go_simp
      with_reducible rfl
    rotate_left
    · simp only [Act.put, List.setIfInBounds_toArray, List.set_cons_zero, List.set_cons_succ, i64_w, i32_w]
      rfl
    refine pure_ (i := 7) (N := some 12) (v := undef) (a' := ?_) #[true, true, true, true, true, true, true, true, false, false, false, false, false, false, false, false, false, false, false, false, false, false, false, false, false] rfl rfl (by kernel_rfl) (fun _ _ _ h => h) (Or.inr ⟨by rfl, rfl⟩) ?_ ?_
    rotate_left
    · simp only [Act.put, List.setIfInBounds_toArray, List.set_cons_zero, List.set_cons_succ, i64_w, i32_w]
      rfl
    refine pure_ (i := 8) (N := some 13) (v := undef) (a' := ?_) #[true, true, true, true, true, true, true, true, true, false, false, false, false, false, false, false, false, false, false, false, false, false, false, false, false] rfl rfl (by kernel_rfl) (fun _ _ _ h => h) (Or.inr ⟨by rfl, rfl⟩) ?_ ?_
    rotate_left
    · simp only [Act.put, List.setIfInBounds_toArray, List.set_cons_zero, List.set_cons_succ, i64_w, i32_w]
      rfl
    refine pure_ (i := 9) (N := some 14) (v := undef) (a' := ?_) #[true, true, true, true, true, true, true, true, true, true, false, false, false, false, false, false, false, false, false, false, false, false, false, false, false] rfl rfl (by kernel_rfl) (fun _ _ _ h => h) (Or.inr ⟨by rfl, rfl⟩) ?_ ?_
    rotate_left
    · simp only [Act.put, List.setIfInBounds_toArray, List.set_cons_zero, List.set_cons_succ, i64_w, i32_w]
      rfl
    refine pure_ (i := 10) (N := some 15) (v := undef) (a' := ?_) #[true, true, true, true, true, true, true, true, true, true, true, false, false, false, false, false, false, false, false, false, false, false, false, false, false] rfl rfl (by kernel_rfl) (fun _ _ _ h => h) (Or.inr ⟨by rfl, rfl⟩) ?_ ?_
    rotate_left
    · simp only [Act.put, List.setIfInBounds_toArray, List.set_cons_zero, List.set_cons_succ, i64_w, i32_w]
      rfl
    refine pure_ (i := 11) (N := some 16) (v := undef) (a' := ?_) #[true, true, true, true, true, true, true, true, true, true, true, true, false, false, false, false, false, false, false, false, false, false, false, false, false] rfl rfl (by kernel_rfl) (fun _ _ _ h => h) (Or.inr ⟨by rfl, rfl⟩) ?_ ?_
    rotate_left
    · simp only [Act.put, List.setIfInBounds_toArray, List.set_cons_zero, List.set_cons_succ, i64_w, i32_w]
      rfl
    refine pure_ (i := 12) (N := some 17) (v := undef) (a' := ?_) #[true, true, true, true, true, true, true, true, true, true, true, true, true, false, false, false, false, false, false, false, false, false, false, false, false] rfl rfl (by kernel_rfl) (fun _ _ _ h => h) (Or.inr ⟨by rfl, rfl⟩) ?_ ?_
    rotate_left
    · simp only [Act.put, List.setIfInBounds_toArray, List.set_cons_zero, List.set_cons_succ, i64_w, i32_w]
      rfl
    refine pure_ (i := 13) (N := some 18) (v := undef) (a' := ?_) #[true, true, true, true, true, true, true, true, true, true, true, true, true, true, false, false, false, false, false, false, false, false, false, false, false] rfl rfl (by kernel_rfl) (fun _ _ _ h => h) (Or.inr ⟨by rfl, rfl⟩) ?_ ?_
    rotate_left
    · simp only [Act.put, List.setIfInBounds_toArray, List.set_cons_zero, List.set_cons_succ, i64_w, i32_w]
      rfl
    refine pure_ (i := 14) (N := some 19) (v := undef) (a' := ?_) #[true, true, true, true, true, true, true, true, true, true, true, true, true, true, true, false, false, false, false, false, false, false, false, false, false] rfl rfl (by kernel_rfl) (fun _ _ _ h => h) (Or.inr ⟨by rfl, rfl⟩) ?_ ?_
    rotate_left
    · simp only [Act.put, List.setIfInBounds_toArray, List.set_cons_zero, List.set_cons_succ, i64_w, i32_w]
      rfl
    refine pure_ (i := 15) (N := some 20) (v := undef) (a' := ?_) #[true, true, true, true, true, true, true, true, true, true, true, true, true, true, true, true, false, false, false, false, false, false, false, false, false] rfl rfl (by kernel_rfl) (fun _ _ _ h => h) (Or.inr ⟨by rfl, rfl⟩) ?_ ?_
    rotate_left
    · simp only [Act.put, List.setIfInBounds_toArray, List.set_cons_zero, List.set_cons_succ, i64_w, i32_w]
      rfl
    refine pure_ (i := 16) (N := some 21) (v := undef) (a' := ?_) #[true, true, true, true, true, true, true, true, true, true, true, true, true, true, true, true, true, false, false, false, false, false, false, false, false] rfl rfl (by kernel_rfl) (fun _ _ _ h => h) (Or.inr ⟨by rfl, rfl⟩) ?_ ?_
    rotate_left
    · simp only [Act.put, List.setIfInBounds_toArray, List.set_cons_zero, List.set_cons_succ, i64_w, i32_w]
      rfl
    refine pure_ (i := 17) (N := some 22) (v := undef) (a' := ?_) #[true, true, true, true, true, true, true, true, true, true, true, true, true, true, true, true, true, true, false, false, false, false, false, false, false] rfl rfl (by kernel_rfl) (fun _ _ _ h => h) (Or.inr ⟨by rfl, rfl⟩) ?_ ?_
    rotate_left
    · simp only [Act.put, List.setIfInBounds_toArray, List.set_cons_zero, List.set_cons_succ, i64_w, i32_w]
      rfl
    refine pure_ (i := 18) (N := some 23) (v := undef) (a' := ?_) #[true, true, true, true, true, true, true, true, true, true, true, true, true, true, true, true, true, true, true, false, false, false, false, false, false] rfl rfl (by kernel_rfl) (fun _ _ _ h => h) (Or.inr ⟨by rfl, rfl⟩) ?_ ?_
    rotate_left
    · simp only [Act.put, List.setIfInBounds_toArray, List.set_cons_zero, List.set_cons_succ, i64_w, i32_w]
      rfl
    refine pure_ (i := 19) (N := some 24) (v := undef) (a' := ?_) #[true, true, true, true, true, true, true, true, true, true, true, true, true, true, true, true, true, true, true, true, false, false, false, false, false] rfl rfl (by kernel_rfl) (fun _ _ _ h => h) (Or.inr ⟨by rfl, rfl⟩) ?_ ?_
    rotate_left
    · simp only [Act.put, List.setIfInBounds_toArray, List.set_cons_zero, List.set_cons_succ, i64_w, i32_w]
      rfl
    refine pure_ (i := 20) (N := some 25) (v := undef) (a' := ?_) #[true, true, true, true, true, true, true, true, true, true, true, true, true, true, true, true, true, true, true, true, true, false, false, false, false] rfl rfl (by kernel_rfl) (fun _ _ _ h => h) (Or.inr ⟨by rfl, rfl⟩) ?_ ?_
    rotate_left
    · simp only [Act.put, List.setIfInBounds_toArray, List.set_cons_zero, List.set_cons_succ, i64_w, i32_w]
      rfl
    refine pure_ (i := 21) (N := some 26) (v := undef) (a' := ?_) #[true, true, true, true, true, true, true, true, true, true, true, true, true, true, true, true, true, true, true, true, true, true, false, false, false] rfl rfl (by kernel_rfl) (fun _ _ _ h => h) (Or.inr ⟨by rfl, rfl⟩) ?_ ?_
    rotate_left
    · simp only [Act.put, List.setIfInBounds_toArray, List.set_cons_zero, List.set_cons_succ, i64_w, i32_w]
      rfl
    refine pure_ (i := 22) (N := some 27) (v := undef) (a' := ?_) #[true, true, true, true, true, true, true, true, true, true, true, true, true, true, true, true, true, true, true, true, true, true, true, false, false] rfl rfl (by kernel_rfl) (fun _ _ _ h => h) (Or.inr ⟨by rfl, rfl⟩) ?_ ?_
    rotate_left
    · simp only [Act.put, List.setIfInBounds_toArray, List.set_cons_zero, List.set_cons_succ, i64_w, i32_w]
      rfl
    refine pure_ (i := 23) (N := some 28) (v := ?_) (a' := ?_) #[true, true, true, true, true, true, true, true, true, true, true, true, true, true, true, true, true, true, true, true, true, true, true, true, false] rfl rfl (by kernel_rfl) (fun _ _ _ h => h) (Or.inl ⟨by rfl, ?_⟩) ?_ ?_
    rotate_left
    · intro w'
      go_simp
      with_reducible rfl
    rotate_left
    · simp only [Act.put, List.setIfInBounds_toArray, List.set_cons_zero, List.set_cons_succ, i64_w, i32_w]
      rfl
    refine pure_ (i := 24) (N := some 4) (v := ?_) (a' := ?_) #[true, true, true, true, true, true, true, true, true, true, true, true, true, true, true, true, true, true, true, true, true, true, true, true, true] rfl rfl (by kernel_rfl) (fun _ _ _ h => h) (Or.inl ⟨by rfl, ?_⟩) ?_ ?_
    rotate_left
    · intro w'
      go_simp
      with_reducible rfl
    rotate_left
    · simp only [Act.put, List.setIfInBounds_toArray, List.set_cons_zero, List.set_cons_succ, i64_w, i32_w]
      rfl
    refine done_ (by kernel_rfl) ?_
    clear hHeld
    go_wp2_with fail
    go_ret
    exact ⟨rfl, HB.out⟩
  by_cases h2 : n ≤ 13515
  case neg =>
    obtain rfl : r = false := by rw [hr.out, decide_eq_false h2, Bool.false_and, Bool.and_false]
    have hd1 : decide (0 ≤ n) = true := decide_eq_true h1
    have hd2 : decide (n ≤ 13515) = false := decide_eq_false h2
    clear hr h1 h2
    go_wp2_with fail
    have n_HS := Aside0.mk (HS.out.below (below_drew (Below.refl _ _)))
    have n_HJ := Aside0.mk (KBk.below HJ.out (below_drew (Below.refl _ _)))
    have n_HB := Aside0.mk (below_step HB.out (below_drew (Below.refl _ _)))
    clear HS
    have HS := n_HS
    clear n_HS
    clear HJ
    have HJ := n_HJ
    clear n_HJ
    clear HB
    have HB := n_HB
    clear n_HB
    refine start_ (n := 25) (S := fun w' => w'.cell? ⟨pk, 0, none⟩ = some (.pointer (some ⟨p, 0, none⟩)) ∧ w'.cell? ⟨pk, 2, none⟩ = some (.int .i64 u) ∧ w'.cell? ⟨p, 0, none⟩ = some (.slice (some ⟨gl, 0, none⟩) L.length L.length)) (ds := []) #[false, false, false, false, false, false, false, false, false, false, false, false, false, false, false, false, false, false, false, false, false, false, false, false, false] (by kernel_rfl) rfl rfl ⟨(blk_cell HJ.out 0).trans rfl, (blk_cell HJ.out 2).trans rfl, (blk_cell HS.out.hp 0).trans rfl⟩ (fun hHeld => ?_)
    generalize w.drew = w1 at HS HJ HB hHeld ⊢
    refine pure_ (i := 0) (N := some 5) (v := ?_) (a' := ?_) #[true, false, false, false, false, false, false, false, false, false, false, false, false, false, false, false, false, false, false, false, false, false, false, false, false] rfl rfl (by kernel_rfl) (fun _ _ _ h => h) (Or.inl ⟨by rfl, ?_⟩) ?_ ?_
    rotate_left
    · intro w'
      go_simp
      with_reducible rfl
    rotate_left
    · simp only [Act.put, List.setIfInBounds_toArray, List.set_cons_zero, List.set_cons_succ, i64_w, i32_w]
      rfl
    refine pure_ (i := 1) (N := some 6) (v := ?_) (a' := ?_) #[true, true, false, false, false, false, false, false, false, false, false, false, false, false, false, false, false, false, false, false, false, false, false, false, false] rfl rfl (by kernel_rfl) (fun _ _ _ h => h) (Or.inl ⟨by rfl, ?_⟩) ?_ ?_
    rotate_left
    · intro w'
      go_simp
      with_reducible rfl
    rotate_left
    · simp only [Act.put, List.setIfInBounds_toArray, List.set_cons_zero, List.set_cons_succ, i64_w, i32_w]
      rfl
    refine pure_ (i := 2) (N := some 7) (v := ?_) (a' := ?_) #[true, true, true, false, false, false, false, false, false, false, false, false, false, false, false, false, false, false, false, false, false, false, false, false, false] rfl rfl (by kernel_rfl) (fun _ _ _ h => h) (Or.inl ⟨by rfl, ?_⟩) ?_ ?_
    rotate_left
    · intro w'
      go_simp
      with_reducible rfl
    rotate_left
    · simp only [Act.put, List.setIfInBounds_toArray, List.set_cons_zero, List.set_cons_succ, i64_w, i32_w]
      rfl
    refine pure_ (i := 3) (N := some 8) (v := ?_) (a' := ?_) #[true, true, true, true, false, false, false, false, false, false, false, false, false, false, false, false, false, false, false, false, false, false, false, false, false] rfl rfl (by kernel_rfl) (fun _ _ _ h => h) (Or.inl ⟨by rfl, ?_⟩) ?_ ?_
    rotate_left
    · intro w'
      go_simp
      with_reducible rfl
    rotate_left
    · simp only [Act.put, List.setIfInBounds_toArray, List.set_cons_zero, List.set_cons_succ, i64_w, i32_w]
      rfl
    refine pure_ (i := 4) (N := some 9) (v := ?_) (a' := ?_) #[true, true, true, true, true, false, false, false, false, false, false, false, false, false, false, false, false, false, false, false, false, false, false, false, false] rfl rfl (by kernel_rfl) (fun _ _ _ h => h) (Or.inl ⟨by rfl, ?_⟩) ?_ ?_
    rotate_left
    · intro w'
      go_simp
      with_reducible rfl
    rotate_left
    · simp only [Act.put, List.setIfInBounds_toArray, List.set_cons_zero, List.set_cons_succ, i64_w, i32_w]
      rfl
    refine pure_ (i := 5) (N := some 10) (v := ?_) (a' := ?_) #[true, true, true, true, true, true, false, false, false, false, false, false, false, false, false, false, false, false, false, false, false, false, false, false, false] rfl rfl (by kernel_rfl) (fun _ _ _ h => h) (Or.inl ⟨by rfl, ?_⟩) ?_ ?_
    rotate_left
    · intro w'
      go_simp
      with_reducible rfl
    rotate_left
    · simp only [Act.put, List.setIfInBounds_toArray, List.set_cons_zero, List.set_cons_succ, i64_w, i32_w]
      rfl
    refine pure_ (i := 6) (N := some 11) (v := ?_) (a' := ?_) #[true, true, true, true, true, true, true, false, false, false, false, false, false, false, false, false, false, false, false, false, false, false, false, false, false] rfl rfl (by kernel_rfl) (fun _ _ _ h => h) (Or.inl ⟨by rfl, ?_⟩) ?_ ?_
    rotate_left
    · intro w'
      go_simp
      with_reducible rfl
    rotate_left
    · simp only [Act.put, List.setIfInBounds_toArray, List.set_cons_zero, List.set_cons_succ, i64_w, i32_w]
      rfl
    refine pure_ (i := 7) (N := some 12) (v := undef) (a' := ?_) #[true, true, true, true, true, true, true, true, false, false, false, false, false, false, false, false, false, false, false, false, false, false, false, false, false] rfl rfl (by kernel_rfl) (fun _ _ _ h => h) (Or.inr ⟨by rfl, rfl⟩) ?_ ?_
    rotate_left
    · simp only [Act.put, List.setIfInBounds_toArray, List.set_cons_zero, List.set_cons_succ, i64_w, i32_w]
      rfl
    refine pure_ (i := 8) (N := some 13) (v := undef) (a' := ?_) #[true, true, true, true, true, true, true, true, true, false, false, false, false, false, false, false, false, false, false, false, false, false, false, false, false] rfl rfl (by kernel_rfl) (fun _ _ _ h => h) (Or.inr ⟨by rfl, rfl⟩) ?_ ?_
    rotate_left
    · simp only [Act.put, List.setIfInBounds_toArray, List.set_cons_zero, List.set_cons_succ, i64_w, i32_w]
      rfl
    refine pure_ (i := 9) (N := some 14) (v := undef) (a' := ?_) #[true, true, true, true, true, true, true, true, true, true, false, false, false, false, false, false, false, false, false, false, false, false, false, false, false] rfl rfl (by kernel_rfl) (fun _ _ _ h => h) (Or.inr ⟨by rfl, rfl⟩) ?_ ?_
    rotate_left
    · simp only [Act.put, List.setIfInBounds_toArray, List.set_cons_zero, List.set_cons_succ, i64_w, i32_w]
      rfl
    refine pure_ (i := 10) (N := some 15) (v := undef) (a' := ?_) #[true, true, true, true, true, true, true, true, true, true, true, false, false, false, false, false, false, false, false, false, false, false, false, false, false] rfl rfl (by kernel_rfl) (fun _ _ _ h => h) (Or.inr ⟨by rfl, rfl⟩) ?_ ?_
    rotate_left
    · simp only [Act.put, List.setIfInBounds_toArray, List.set_cons_zero, List.set_cons_succ, i64_w, i32_w]
      rfl
    refine pure_ (i := 11) (N := some 16) (v := undef) (a' := ?_) #[true, true, true, true, true, true, true, true, true, true, true, true, false, false, false, false, false, false, false, false, false, false, false, false, false] rfl rfl (by kernel_rfl) (fun _ _ _ h => h) (Or.inr ⟨by rfl, rfl⟩) ?_ ?_
    rotate_left
    · simp only [Act.put, List.setIfInBounds_toArray, List.set_cons_zero, List.set_cons_succ, i64_w, i32_w]
      rfl
    refine pure_ (i := 12) (N := some 17) (v := undef) (a' := ?_) #[true, true, true, true, true, true, true, true, true, true, true, true, true, false, false, false, false, false, false, false, false, false, false, false, false] rfl rfl (by kernel_rfl) (fun _ _ _ h => h) (Or.inr ⟨by rfl, rfl⟩) ?_ ?_
    rotate_left
    · simp only [Act.put, List.setIfInBounds_toArray, List.set_cons_zero, List.set_cons_succ, i64_w, i32_w]
      rfl
    refine pure_ (i := 13) (N := some 18) (v := undef) (a' := ?_) #[true, true, true, true, true, true, true, true, true, true, true, true, true, true, false, false, false, false, false, false, false, false, false, false, false] rfl rfl (by kernel_rfl) (fun _ _ _ h => h) (Or.inr ⟨by rfl, rfl⟩) ?_ ?_
    rotate_left
    · simp only [Act.put, List.setIfInBounds_toArray, List.set_cons_zero, List.set_cons_succ, i64_w, i32_w]
      rfl
    refine pure_ (i := 14) (N := some 19) (v := undef) (a' := ?_) #[true, true, true, true, true, true, true, true, true, true, true, true, true, true, true, false, false, false, false, false, false, false, false, false, false] rfl rfl (by kernel_rfl) (fun _ _ _ h => h) (Or.inr ⟨by rfl, rfl⟩) ?_ ?_
    rotate_left
    · simp only [Act.put, List.setIfInBounds_toArray, List.set_cons_zero, List.set_cons_succ, i64_w, i32_w]
      rfl
    refine pure_ (i := 15) (N := some 20) (v := undef) (a' := ?_) #[true, true, true, true, true, true, true, true, true, true, true, true, true, true, true, true, false, false, false, false, false, false, false, false, false] rfl rfl (by kernel_rfl) (fun _ _ _ h => h) (Or.inr ⟨by rfl, rfl⟩) ?_ ?_
    rotate_left
    · simp only [Act.put, List.setIfInBounds_toArray, List.set_cons_zero, List.set_cons_succ, i64_w, i32_w]
      rfl
    refine pure_ (i := 16) (N := some 21) (v := undef) (a' := ?_) #[true, true, true, true, true, true, true, true, true, true, true, true, true, true, true, true, true, false, false, false, false, false, false, false, false] rfl rfl (by kernel_rfl) (fun _ _ _ h => h) (Or.inr ⟨by rfl, rfl⟩) ?_ ?_
    rotate_left
    · simp only [Act.put, List.setIfInBounds_toArray, List.set_cons_zero, List.set_cons_succ, i64_w, i32_w]
      rfl
    refine pure_ (i := 17) (N := some 22) (v := undef) (a' := ?_) #[true, true, true, true, true, true, true, true, true, true, true, true, true, true, true, true, true, true, false, false, false, false, false, false, false] rfl rfl (by kernel_rfl) (fun _ _ _ h => h) (Or.inr ⟨by rfl, rfl⟩) ?_ ?_
    rotate_left
    · simp only [Act.put, List.setIfInBounds_toArray, List.set_cons_zero, List.set_cons_succ, i64_w, i32_w]
      rfl
    refine pure_ (i := 18) (N := some 23) (v := undef) (a' := ?_) #[true, true, true, true, true, true, true, true, true, true, true, true, true, true, true, true, true, true, true, false, false, false, false, false, false] rfl rfl (by kernel_rfl) (fun _ _ _ h => h) (Or.inr ⟨by rfl, rfl⟩) ?_ ?_
    rotate_left
    · simp only [Act.put, List.setIfInBounds_toArray, List.set_cons_zero, List.set_cons_succ, i64_w, i32_w]
      rfl
    refine pure_ (i := 19) (N := some 24) (v := undef) (a' := ?_) #[true, true, true, true, true, true, true, true, true, true, true, true, true, true, true, true, true, true, true, true, false, false, false, false, false] rfl rfl (by kernel_rfl) (fun _ _ _ h => h) (Or.inr ⟨by rfl, rfl⟩) ?_ ?_
    rotate_left
    · simp only [Act.put, List.setIfInBounds_toArray, List.set_cons_zero, List.set_cons_succ, i64_w, i32_w]
      rfl
    refine pure_ (i := 20) (N := some 25) (v := undef) (a' := ?_) #[true, true, true, true, true, true, true, true, true, true, true, true, true, true, true, true, true, true, true, true, true, false, false, false, false] rfl rfl (by kernel_rfl) (fun _ _ _ h => h) (Or.inr ⟨by rfl, rfl⟩) ?_ ?_
    rotate_left
    · simp only [Act.put, List.setIfInBounds_toArray, List.set_cons_zero, List.set_cons_succ, i64_w, i32_w]
      rfl
    refine pure_ (i := 21) (N := some 26) (v := undef) (a' := ?_) #[true, true, true, true, true, true, true, true, true, true, true, true, true, true, true, true, true, true, true, true, true, true, false, false, false] rfl rfl (by kernel_rfl) (fun _ _ _ h => h) (Or.inr ⟨by rfl, rfl⟩) ?_ ?_
    rotate_left
    · simp only [Act.put, List.setIfInBounds_toArray, List.set_cons_zero, List.set_cons_succ, i64_w, i32_w]
      rfl
    refine pure_ (i := 22) (N := some 27) (v := undef) (a' := ?_) #[true, true, true, true, true, true, true, true, true, true, true, true, true, true, true, true, true, true, true, true, true, true, true, false, false] rfl rfl (by kernel_rfl) (fun _ _ _ h => h) (Or.inr ⟨by rfl, rfl⟩) ?_ ?_
    rotate_left
    · simp only [Act.put, List.setIfInBounds_toArray, List.set_cons_zero, List.set_cons_succ, i64_w, i32_w]
      rfl
    refine pure_ (i := 23) (N := some 28) (v := ?_) (a' := ?_) #[true, true, true, true, true, true, true, true, true, true, true, true, true, true, true, true, true, true, true, true, true, true, true, true, false] rfl rfl (by kernel_rfl) (fun _ _ _ h => h) (Or.inl ⟨by rfl, ?_⟩) ?_ ?_
    rotate_left
    · intro w'
      go_simp
      with_reducible rfl
    rotate_left
    · simp only [Act.put, List.setIfInBounds_toArray, List.set_cons_zero, List.set_cons_succ, i64_w, i32_w]
      rfl
    refine pure_ (i := 24) (N := some 4) (v := ?_) (a' := ?_) #[true, true, true, true, true, true, true, true, true, true, true, true, true, true, true, true, true, true, true, true, true, true, true, true, true] rfl rfl (by kernel_rfl) (fun _ _ _ h => h) (Or.inl ⟨by rfl, ?_⟩) ?_ ?_
    rotate_left
    · intro w'
      go_simp
      with_reducible rfl
    rotate_left
    · simp only [Act.put, List.setIfInBounds_toArray, List.set_cons_zero, List.set_cons_succ, i64_w, i32_w]
      rfl
    refine done_ (by kernel_rfl) ?_
    clear hHeld
    go_wp2_with fail
    go_ret
    exact ⟨rfl, HB.out⟩
  obtain ⟨m, rfl⟩ := Int.eq_ofNat_of_zero_le h1
  have hpn : pn m ≤ 255 := pn_le (by omega) (by omega)
  obtain rfl : r = decide ((pn m : Int) ≤ (L.length : Int) - u) := by rw [hr.out, decide_eq_true h1, decide_eq_true h2, Bool.true_and, Bool.true_and, Int.toNat_natCast]
  have hd1 : decide (0 ≤ (m : Int)) = true := decide_eq_true h1
  have hd2 : decide ((m : Int) ≤ 13515) = true := decide_eq_true h2
  clear hr
  go_wp2_with fail
  have n_HS := Aside0.mk (HS.out.below (below_drew (Below.refl _ _)))
  have n_HJ := Aside0.mk (KBk.below HJ.out (below_drew (Below.refl _ _)))
  have n_HB := Aside0.mk (below_step HB.out (below_drew (Below.refl _ _)))
  clear HS
  have HS := n_HS
  clear n_HS
  clear HJ
  have HJ := n_HJ
  clear n_HJ
  clear HB
  have HB := n_HB
  clear n_HB
  refine start_ (n := 25) (S := fun w' => w'.cell? ⟨pk, 0, none⟩ = some (.pointer (some ⟨p, 0, none⟩)) ∧ w'.cell? ⟨pk, 2, none⟩ = some (.int .i64 u) ∧ w'.cell? ⟨p, 0, none⟩ = some (.slice (some ⟨gl, 0, none⟩) L.length L.length)) (ds := []) #[false, false, false, false, false, false, false, false, false, false, false, false, false, false, false, false, false, false, false, false, false, false, false, false, false] (by kernel_rfl) rfl rfl ⟨(blk_cell HJ.out 0).trans rfl, (blk_cell HJ.out 2).trans rfl, (blk_cell HS.out.hp 0).trans rfl⟩ (fun hHeld => ?_)
  generalize w.drew = w1 at HS HJ HB hHeld ⊢
  refine pure_ (i := 0) (N := some 5) (v := ?_) (a' := ?_) #[true, false, false, false, false, false, false, false, false, false, false, false, false, false, false, false, false, false, false, false, false, false, false, false, false] rfl rfl (by kernel_rfl) (fun _ _ _ h => h) (Or.inl ⟨by rfl, ?_⟩) ?_ ?_
  rotate_left
  · intro w'
    go_simp
    with_reducible rfl
  rotate_left
  · simp only [Act.put, List.setIfInBounds_toArray, List.set_cons_zero, List.set_cons_succ, i64_w, i32_w]
    rfl
  refine pure_ (i := 1) (N := some 6) (v := ?_) (a' := ?_) #[true, true, false, false, false, false, false, false, false, false, false, false, false, false, false, false, false, false, false, false, false, false, false, false, false] rfl rfl (by kernel_rfl) (fun _ _ _ h => h) (Or.inl ⟨by rfl, ?_⟩) ?_ ?_
  rotate_left
  · intro w'
    go_simp
    with_reducible rfl
  rotate_left
  · simp only [Act.put, List.setIfInBounds_toArray, List.set_cons_zero, List.set_cons_succ, i64_w, i32_w]
    rfl
  refine pure_ (i := 2) (N := some 7) (v := ?_) (a' := ?_) #[true, true, true, false, false, false, false, false, false, false, false, false, false, false, false, false, false, false, false, false, false, false, false, false, false] rfl rfl (by kernel_rfl) (fun _ _ _ h => h) (Or.inl ⟨by rfl, ?_⟩) ?_ ?_
  rotate_left
  · intro w'
    go_simp
    with_reducible rfl
  rotate_left
  · simp only [Act.put, List.setIfInBounds_toArray, List.set_cons_zero, List.set_cons_succ, i64_w, i32_w]
    rfl
  refine pure_ (i := 3) (N := some 8) (v := ?_) (a' := ?_) #[true, true, true, true, false, false, false, false, false, false, false, false, false, false, false, false, false, false, false, false, false, false, false, false, false] rfl rfl (by kernel_rfl) (fun _ _ _ h => h) (Or.inl ⟨by rfl, ?_⟩) ?_ ?_
  rotate_left
  · intro w'
    go_simp
    with_reducible rfl
  rotate_left
  · simp only [Act.put, List.setIfInBounds_toArray, List.set_cons_zero, List.set_cons_succ, i64_w, i32_w]
    rfl
  refine pure_ (i := 4) (N := some 9) (v := ?_) (a' := ?_) #[true, true, true, true, true, false, false, false, false, false, false, false, false, false, false, false, false, false, false, false, false, false, false, false, false] rfl rfl (by kernel_rfl) (fun _ _ _ h => h) (Or.inl ⟨by rfl, ?_⟩) ?_ ?_
  rotate_left
  · intro w'
    go_simp
    with_reducible rfl
  rotate_left
  · simp only [Act.put, List.setIfInBounds_toArray, List.set_cons_zero, List.set_cons_succ, i64_w, i32_w]
    rfl
  refine pure_ (i := 5) (N := some 10) (v := ?_) (a' := ?_) #[true, true, true, true, true, true, false, false, false, false, false, false, false, false, false, false, false, false, false, false, false, false, false, false, false] rfl rfl (by kernel_rfl) (fun _ _ _ h => h) (Or.inl ⟨by rfl, ?_⟩) ?_ ?_
  rotate_left
  · intro w'
    go_simp
    with_reducible rfl
  rotate_left
  · simp only [Act.put, List.setIfInBounds_toArray, List.set_cons_zero, List.set_cons_succ, i64_w, i32_w]
    rfl
  refine pure_ (i := 6) (N := some 11) (v := ?_) (a' := ?_) #[true, true, true, true, true, true, true, false, false, false, false, false, false, false, false, false, false, false, false, false, false, false, false, false, false] rfl rfl (by kernel_rfl) (fun _ _ _ h => h) (Or.inl ⟨by rfl, ?_⟩) ?_ ?_
  rotate_left
  · intro w'
    go_simp
    with_reducible rfl
  rotate_left
  · simp only [Act.put, List.setIfInBounds_toArray, List.set_cons_zero, List.set_cons_succ, i64_w, i32_w]
    rfl
  refine pure_ (i := 7) (N := some 12) (v := ?_) (a' := ?_) #[true, true, true, true, true, true, true, true, false, false, false, false, false, false, false, false, false, false, false, false, false, false, false, false, false] rfl rfl (by kernel_rfl) (fun _ _ _ h => h) (Or.inl ⟨by rfl, ?_⟩) ?_ ?_
  rotate_left
  · intro w'
    go_simp
    with_reducible rfl
  rotate_left
  · simp only [Act.put, List.setIfInBounds_toArray, List.set_cons_zero, List.set_cons_succ, i64_w, i32_w]
    rfl
  refine pure_ (i := 9) (N := some 14) (v := ?_) (a' := ?_) #[true, true, true, true, true, true, true, true, false, true, false, false, false, false, false, false, false, false, false, false, false, false, false, false, false] rfl rfl (by kernel_rfl) (fun _ _ _ h => h) (Or.inl ⟨by rfl, ?_⟩) ?_ ?_
  rotate_left
  · intro w'
    go_simp
    with_reducible rfl
  rotate_left
  · simp only [Act.put, List.setIfInBounds_toArray, List.set_cons_zero, List.set_cons_succ, i64_w, i32_w]
    rfl
  refine pure_ (i := 10) (N := some 15) (v := ?_) (a' := ?_) #[true, true, true, true, true, true, true, true, false, true, true, false, false, false, false, false, false, false, false, false, false, false, false, false, false] rfl rfl (by kernel_rfl) (fun _ _ _ h => h) (Or.inl ⟨by rfl, ?_⟩) ?_ ?_
  rotate_left
  · intro w'
    go_simp
    with_reducible rfl
  rotate_left
  · simp only [Act.put, List.setIfInBounds_toArray, List.set_cons_zero, List.set_cons_succ, i64_w, i32_w]
    rfl
  refine pure_ (i := 11) (N := some 16) (v := ?_) (a' := ?_) #[true, true, true, true, true, true, true, true, false, true, true, true, false, false, false, false, false, false, false, false, false, false, false, false, false] rfl rfl (by kernel_rfl) (fun _ _ _ h => h) (Or.inl ⟨by rfl, ?_⟩) ?_ ?_
  rotate_left
  · intro w'
    go_simp
    with_reducible rfl
  rotate_left
  · simp only [Act.put, List.setIfInBounds_toArray, List.set_cons_zero, List.set_cons_succ, i64_w, i32_w]
    rfl
  refine pure_ (i := 17) (N := some 22) (v := ?_) (a' := ?_) #[true, true, true, true, true, true, true, true, false, true, true, true, false, false, false, false, false, true, false, false, false, false, false, false, false] rfl rfl (by kernel_rfl) (fun _ _ _ h => h) (Or.inl ⟨by rfl, ?_⟩) ?_ ?_
  rotate_left
  · intro w'
    go_simp
    with_reducible rfl
  rotate_left
  · simp only [Act.put, List.setIfInBounds_toArray, List.set_cons_zero, List.set_cons_succ, i64_w, i32_w]
    rfl
  refine pure_ (i := 18) (N := some 23) (v := ?_) (a' := ?_) #[true, true, true, true, true, true, true, true, false, true, true, true, false, false, false, false, false, true, true, false, false, false, false, false, false] rfl rfl (by kernel_rfl) (fun _ _ _ h => h) (Or.inl ⟨by rfl, ?_⟩) ?_ ?_
  rotate_left
  · intro w'
    go_simp
    with_reducible rfl
  rotate_left
  · simp only [Act.put, List.setIfInBounds_toArray, List.set_cons_zero, List.set_cons_succ, i64_w, i32_w]
    rfl
  refine pure_ (i := 19) (N := some 24) (v := ?_) (a' := ?_) #[true, true, true, true, true, true, true, true, false, true, true, true, false, false, false, false, false, true, true, true, false, false, false, false, false] rfl rfl (by kernel_rfl) (fun _ _ _ h => h) (Or.inl ⟨by rfl, ?_⟩) ?_ ?_
  rotate_left
  · intro w'
    go_simp
    with_reducible rfl
  rotate_left
  · simp only [Act.put, List.setIfInBounds_toArray, List.set_cons_zero, List.set_cons_succ, i64_w, i32_w]
    rfl
  refine take_ (i := 12) (N := some 17) (v := ?_) (a' := ?_) #[true, true, true, true, true, true, true, true, false, true, true, true, true, false, false, false, false, true, true, true, false, false, false, false, false] rfl rfl (by kernel_rfl) (fun _ _ _ h => h) (Or.inl ⟨by rfl, ?_⟩) hHeld ?_ ?_
  rotate_left
  · rintro w' ⟨s0, s1, s2⟩
    go_simp
    with_reducible rfl
  rotate_left
  · simp only [Act.put, List.setIfInBounds_toArray, List.set_cons_zero, List.set_cons_succ, i64_w, i32_w]
    rfl
  refine pure_ (i := 13) (N := some 18) (v := ?_) (a' := ?_) #[true, true, true, true, true, true, true, true, false, true, true, true, true, true, false, false, false, true, true, true, false, false, false, false, false] rfl rfl (by kernel_rfl) (fun _ _ _ h => h) (Or.inl ⟨by rfl, ?_⟩) ?_ ?_
  rotate_left
  · intro w'
    go_simp
    with_reducible rfl
  rotate_left
  · simp only [Act.put, List.setIfInBounds_toArray, List.set_cons_zero, List.set_cons_succ, i64_w, i32_w]
    rfl
  refine pure_ (i := 14) (N := some 19) (v := ?_) (a' := ?_) #[true, true, true, true, true, true, true, true, false, true, true, true, true, true, true, false, false, true, true, true, false, false, false, false, false] rfl rfl (by kernel_rfl) (fun _ _ _ h => h) (Or.inl ⟨by rfl, ?_⟩) ?_ ?_
  rotate_left
  · intro w'
    go_simp
    with_reducible rfl
  rotate_left
  · simp only [Act.put, List.setIfInBounds_toArray, List.set_cons_zero, List.set_cons_succ, i64_w, i32_w]
    rfl
  refine take_ (i := 15) (N := some 20) (v := ?_) (a' := ?_) #[true, true, true, true, true, true, true, true, false, true, true, true, true, true, true, true, false, true, true, true, false, false, false, false, false] rfl rfl (by kernel_rfl) (fun _ _ _ h => h) (Or.inl ⟨by rfl, ?_⟩) hHeld ?_ ?_
  rotate_left
  · rintro w' ⟨s0, s1, s2⟩
    go_simp
    with_reducible rfl
  rotate_left
  · simp only [Act.put, List.setIfInBounds_toArray, List.set_cons_zero, List.set_cons_succ, i64_w, i32_w]
    rfl
  refine pure_ (i := 16) (N := some 21) (v := ?_) (a' := ?_) #[true, true, true, true, true, true, true, true, false, true, true, true, true, true, true, true, true, true, true, true, false, false, false, false, false] rfl rfl (by kernel_rfl) (fun _ _ _ h => h) (Or.inl ⟨by rfl, ?_⟩) ?_ ?_
  rotate_left
  · intro w'
    go_simp
    with_reducible rfl
  rotate_left
  · simp only [Act.put, List.setIfInBounds_toArray, List.set_cons_zero, List.set_cons_succ, i64_w, i32_w]
    rfl
  refine take_ (i := 20) (N := some 25) (v := ?_) (a' := ?_) #[true, true, true, true, true, true, true, true, false, true, true, true, true, true, true, true, true, true, true, true, true, false, false, false, false] rfl rfl (by kernel_rfl) (fun _ _ _ h => h) (Or.inl ⟨by rfl, ?_⟩) hHeld ?_ ?_
  rotate_left
  · rintro w' ⟨s0, s1, s2⟩
    go_simp
    with_reducible rfl
  rotate_left
  · simp only [Act.put, List.setIfInBounds_toArray, List.set_cons_zero, List.set_cons_succ, i64_w, i32_w]
    rfl
  refine pure_ (i := 21) (N := some 26) (v := ?_) (a' := ?_) #[true, true, true, true, true, true, true, true, false, true, true, true, true, true, true, true, true, true, true, true, true, true, false, false, false] rfl rfl (by kernel_rfl) (fun _ _ _ h => h) (Or.inl ⟨by rfl, ?_⟩) ?_ ?_
  rotate_left
  · intro w'
    go_simp
    with_reducible rfl
  rotate_left
  · simp only [Act.put, List.setIfInBounds_toArray, List.set_cons_zero, List.set_cons_succ, i64_w, i32_w]
    rfl
  refine one_ (i := 8) (N := some 13) #[true, true, true, true, true, true, true, true, true, true, true, true, true, true, true, true, true, true, true, true, true, true, false, false, false] rfl rfl (by kernel_rfl) (by decide) (fun K hK => ?_)
  refine goes_ Try.func39 (by kernel_rfl) rfl #[.int .i64 m] (by rfl) rfl rfl (by (try simp only [List.map_toArray, List.map_cons, List.map_nil]); first | done | rfl) ?_
  with_reducible refine (k_parts m (by omega)).mono ?_
  rintro e y1_ ⟨rfl, hb⟩
  refine ⟨_, rfl, ?_⟩
  have n_HS := Aside0.mk (HS.out.below hb)
  have n_HJ := Aside0.mk (KBk.below HJ.out hb)
  have n_HB := Aside0.mk (below_step HB.out hb)
  clear HS
  have HS := n_HS
  clear n_HS
  clear HJ
  have HJ := n_HJ
  clear n_HJ
  clear HB
  have HB := n_HB
  clear n_HB
  clear hb
  refine hK.out _ _ ⟨(blk_cell HJ.out 0).trans rfl, (blk_cell HJ.out 2).trans rfl, (blk_cell HS.out.hp 0).trans rfl⟩ (fun hHeld => ?_)
  clear hK K
  refine norm_ (a' := ?_) ?_ ?_
  rotate_left
  · show Act.put _ (some 13) _ = _
    simp only [Act.put, List.setIfInBounds_toArray, List.set_cons_zero, List.set_cons_succ, i64_w, i32_w]
    rfl
  refine pure_ (i := 22) (N := some 27) (v := ?_) (a' := ?_) #[true, true, true, true, true, true, true, true, true, true, true, true, true, true, true, true, true, true, true, true, true, true, true, false, false] rfl rfl (by kernel_rfl) (fun _ _ _ h => h) (Or.inl ⟨by rfl, ?_⟩) ?_ ?_
  rotate_left
  · intro w'
    go_simp
    with_reducible rfl
  rotate_left
  · simp only [Act.put, List.setIfInBounds_toArray, List.set_cons_zero, List.set_cons_succ, i64_w, i32_w]
    rfl
  refine pure_ (i := 23) (N := some 28) (v := ?_) (a' := ?_) #[true, true, true, true, true, true, true, true, true, true, true, true, true, true, true, true, true, true, true, true, true, true, true, true, false] rfl rfl (by kernel_rfl) (fun _ _ _ h => h) (Or.inl ⟨by rfl, ?_⟩) ?_ ?_
  rotate_left
  · intro w'
    go_simp
    with_reducible rfl
  rotate_left
  · simp only [Act.put, List.setIfInBounds_toArray, List.set_cons_zero, List.set_cons_succ, i64_w, i32_w]
    rfl
  refine pure_ (i := 24) (N := some 4) (v := ?_) (a' := ?_) #[true, true, true, true, true, true, true, true, true, true, true, true, true, true, true, true, true, true, true, true, true, true, true, true, true] rfl rfl (by kernel_rfl) (fun _ _ _ h => h) (Or.inl ⟨by rfl, ?_⟩) ?_ ?_
  rotate_left
  · intro w'
    go_simp
    with_reducible rfl
  rotate_left
  · simp only [Act.put, List.setIfInBounds_toArray, List.set_cons_zero, List.set_cons_succ, i64_w, i32_w]
    rfl
  refine done_ (by kernel_rfl) ?_
  clear hHeld
  rw [show wrap64 ((L.length : Int) - (u : Int)) = (L.length : Int) - (u : Int) by unfold wrap64; omega]
  go_wp2_with fail
  go_ret
  exact ⟨rfl, HB.out⟩
end
section
variable {B : Nat} {w w' : World}
/-- A list put in place from o on, k of it done. -/
def stg (p q r : List Int) (k : Nat) : List Int := p ++ q.take k ++ (List.replicate (q.length - k) 0 ++ r)
theorem stg_len {p q r : List Int} {k : Nat} (hk : k ≤ q.length) : (stg p q r k).length = p.length + q.length + r.length := by simp [stg]; omega
theorem stg_zero (p q r : List Int) : stg p q r 0 = p ++ (List.replicate q.length 0 ++ r) := by simp [stg]
theorem stg_all (p q r : List Int) : stg p q r q.length = p ++ q ++ r := by simp [stg]
theorem stg_set {p q r : List Int} {k : Nat} {x : Int} (hk : k < q.length) (hx : q[k]? = some x) : (stg p q r k).set (p.length + k) x = stg p q r (k + 1) := by
  unfold stg
  obtain ⟨d, hd⟩ : ∃ d, q.length - k = d + 1 := ⟨q.length - k - 1, by omega⟩
  have h2 : q.length - (k + 1) = d := by omega
  have ht : (p ++ q.take k).length = p.length + k := by rw [List.length_append, List.length_take]; omega
  obtain ⟨_, e⟩ := List.getElem?_eq_some_iff.1 hx
  rw [hd, h2, List.set_append, if_neg (by omega), ht, Nat.sub_self, List.replicate_succ, List.cons_append, List.set_cons_zero, List.take_succ_eq_append_getElem hk, e]
  simp
theorem stg_put {p q r : List Int} {k g t o : Nat} {x : Int} (h : w.heap[g]? = some (.cells (bcs (stg p q r k)) t (0, 0))) (hk : k < q.length) (hx : q[k]? = some x) (ho : o = p.length + k) : (w.setCell ⟨g, o, none⟩ (.int .u8 x)).heap[g]? = some (.cells (bcs (stg p q r (k + 1))) t (0, 0)) := by
  subst ho
  rw [heap_setCell_same w g _ _ t _ h, bcs_set, stg_set hk hx]
theorem stg_cell {p q r : List Int} {k g t o : Nat} (h : w.heap[g]? = some (.cells (bcs (stg p q r k)) t (0, 0))) (hk : k ≤ q.length) (ho : o < p.length + q.length + r.length) : (∃ y, w.cell? ⟨g, o, none⟩ = some y) ∧ w.frozen? ⟨g, o, none⟩ = false :=
  ⟨blk_some h (by rw [bcs_size, stg_len hk]; exact ho), blk_frozen h o⟩
theorem num4_at (x : Int) (h : 0 ≤ x ∧ x < 4294967296) {k : Nat} (hk : k < 4) : (num4 x)[k]? = some (x / 2 ^ (8 * k) % 256) := by
  have : k = 0 ∨ k = 1 ∨ k = 2 ∨ k = 3 := by omega
  rcases this with rfl | rfl | rfl | rfl
  · simp [num4]
  · simp [num4]
  · simp [num4]
  · simp [num4]; omega
theorem k_Sum60 {g t m : Nat} {l p : List Int} (h : w.heap[g]? = some (.cells (bcs l) t (0, 0))) (hp : l.take 60 = p) (hl : l.length = 64) (hb : ∀ x ∈ p, 0 ≤ x ∧ x < 256) (hm : m = 60) : Calls Try.prog 53 #[.slice (some ⟨g, 0, none⟩) m 64] w fun e w' => e = .returned (.int .u32 (sumF p)) ∧ Below w.heap.size w w' := by
  have := bcs_C (o := 0) (n := 60) h (by omega) (by omega)
  rw [List.drop_zero, hp] at this
  have e : p.length = 60 := by rw [← hp, List.length_take]; omega
  subst hm
  rw [← e]
  exact k_Sum this (by omega) hb (by omega)
theorem raw_oneB {w : World} (x : List Value) (hl : x.length = 64) (h1 : ∀ u ∈ x, u.oneCell' = true) {g e : Nat} {fr : Nat × Nat} (h : w.heap[g]? = some (.cells x.toArray e fr)) : ReadsRow (fun (y : List Value) cs => cs = y ∧ cs.length = 64 ∧ ∀ u ∈ cs, u.oneCell' = true) 64 w (some ⟨g, 0, none⟩) 1 [x] := by
  refine ⟨rfl, by omega, fun _ => ⟨⟨g, 0, none⟩, rfl, fun j q hj => ?_⟩⟩
  have hj0 : j = 0 := by
    have := (List.getElem?_eq_some_iff.1 hj).1
    simpa using this
  subst hj0
  obtain rfl : x = q := by simpa using hj
  refine ⟨x, hl, ⟨rfl, hl, h1⟩, fun i u hu => ?_⟩
  have hadd : (⟨g, 0, none⟩ : Addr).add (0 * 64 + i) = ⟨g, i, none⟩ := by unfold Addr.add; split <;> simp_all
  rw [hadd, cell_of_row w g i _ _ _ h]
  simpa using hu
theorem rbk_full : (Try.prog.info? 45).map (fun i => (i.zero, i.size, i.bytes)) = some (some (.agg Bk.z.cs.toArray), 64, 64) := by kernel_rfl
theorem lbk_und : Try.prog.underlying 89 = some (.slice 45) := by kernel_rfl
theorem run_oneB (W : World) (y : Bk) : (Instr.buildSlice 89 1 #[(0, .agg y.cs.toArray)]).run Try.prog W = .ok (.slice (some ⟨W.heap.size, 0, none⟩) 1 1) (W.alloc (.cells y.cs.toArray 45)) := by
  obtain ⟨i0, hi0, hz0, hsz0, _⟩ := info_parts rbk_full
  have hfl : Instr.fill (fun i => some (i * 64, 64)) ((Array.range (1 * 64)).map (Bk.z.cs.toArray[· % Bk.z.cs.toArray.size]!)) [(0, .agg y.cs.toArray)] = some y.cs.toArray := by
    rw [fill_put (off := 0) (n := 64) (vs := y.cs) rfl rfl y.len (by simp), Instr.fill]
    simp [putAt, Bk.len]
  exact run_bs W 89 45 1 _ _ i0 _ lbk_und hi0 hz0 (by rw [hsz0]; omega) (by rw [hsz0]; omega) (by rw [hsz0]; exact hfl)
def cutL (n : Nat) (b : List Int) : List Bk := (List.range (pn b.length)).map (blk n b)
set_option maxHeartbeats 16000000 in
set_option maxRecDepth 100000 in
theorem k_cut {A : Option Addr} {c : Nat} {b : List Int} (hC : Kd.C (Kd.int .u8) w A b.length b) (hc : b.length ≤ c) (hb : b.length ≤ 13515) (hbb : ∀ x ∈ b, 0 ≤ x ∧ x < 256) (n : Nat) (hn : n ≤ 100000) :
    Calls Try.prog 42 #[.int .i64 n, .slice A b.length c] w fun e w' => ∃ v, e = .returned v ∧ Kd.R (Kd.raw 64) 45 w' w.heap.size (fun _ => True) v ((cutL n b).map (fun b => b.cs)) ∧ Below w.heap.size w w' := by
  have HC := Aside0.mk hC
  replace hbb := Aside0.mk hbb
  clear hC
  obtain ⟨M, hM⟩ : ∃ M, M = pn b.length := ⟨_, rfl⟩
  have hM255 : M ≤ 255 := by rw [hM]; exact pn_le (by omega) (by omega)
  have hpnm := Aside0.mk (show ∀ i, i < M → i * 53 ≤ b.length from fun i hi => by rw [hM] at hi; unfold pn at hi; omega)
  go_enter Try.func42, Try.ntmps42
  go_wp2_with fail
  refine (k_parts b.length (by omega)).mono ?_
  rintro e w1 ⟨rfl, hb1⟩
  have HB := Aside0.mk hb1
  clear hb1
  rw [← hM]
  replace hM := Aside0.mk hM
  go_wp2_with fail
  go_loopw [6, 7] (fun x y wr => ∃ i : Nat, i ≤ M ∧ y = .int .i64 i ∧ Aside0 (Kd.R (Kd.raw 64) 45 wr w.heap.size (fun _ => True) x (((List.range i).map (blk n b)).map (fun b => b.cs))) ∧ Aside0 (Below w.heap.size w wr)) (fun _ y _ => M - (intOf y).toNat)
  case atStart => exact ⟨0, Nat.zero_le _, rfl, ⟨Kd.R_nil _ _ _ _ _⟩, HB⟩
  case round =>
    clear HB
    obtain ⟨i, hi, rfl, HR, HB⟩ := hrel
    rename World => wo
    by_cases hlt : i < M
    case neg =>
      obtain rfl : i = M := by omega
      go_wp2_with fail
      go_ret
      rw [hM.out] at HR
      exact ⟨_, rfl, HR.out, HB.out⟩
    have hi53 := hpnm.out i hlt
    obtain ⟨hh, hhh⟩ : ∃ hh : Nat, hh = if (i + 1) * 53 < b.length then (i + 1) * 53 else b.length := ⟨_, rfl⟩
    obtain ⟨A1, hsl, hC1, hcl⟩ := own_cut (A := A) (c := c) (b := b) i hh hi53 hhh hc
    have hol := own_len b i
    obtain ⟨bi, hbi⟩ : ∃ bi, bi = own b i := ⟨_, rfl⟩
    rw [← hbi] at hsl hC1 hcl hol
    have hmin : (if (i : Int) * 53 + 53 < (b.length : Int) then (i : Int) * 53 + 53 else (b.length : Int)) = (hh : Int) := by rw [hhh]; split <;> split <;> omega
    replace hbi := Aside0.mk hbi
    replace hC1 := Aside0.mk hC1
    clear hhh
    obtain ⟨Al, cl, hAl⟩ := Kd.R_slice HR.out
    subst hAl
    have hli : (List.map (fun b => b.cs) (List.map (blk n b) (List.range i))).length = i := by simp
    rw [hli] at HR ⊢
    go_wp2_with fail
    change Code.wp _ _ _ _ (wo.alloc (.cells Bk.z.cs.toArray 45))
    have hb2 := below_alloc (Below.refl wo.heap.size wo) (.cells Bk.z.cs.toArray 45)
    have hk2 := blk_new wo (.cells Bk.z.cs.toArray 45)
    generalize wo.alloc (.cells Bk.z.cs.toArray 45) = w2 at hb2 hk2 ⊢
    obtain ⟨gx, hgx⟩ : ∃ gx, gx = wo.heap.size := ⟨_, rfl⟩
    have HB2 := Aside0.mk hb2
    have Hge := Aside0.mk (Nat.le_of_eq hgx.symm)
    rw [← hgx] at hk2 ⊢
    have HK := Aside0.mk (show w2.heap[gx]? = some (.cells (bcs (stg [] (num4 n) (List.replicate 60 0) 0)) 45 (0, 0)) from hk2)
    clear hb2 hk2 hgx hsl hmin
    have ln4 : (num4 n).length = 4 := rfl
    go_loopw [10] (fun z wq => ∃ k : Nat, k ≤ 4 ∧ z = .int .i64 k ∧ Aside0 (wq.heap[gx]? = some (.cells (bcs (stg [] (num4 n) (List.replicate 60 0) k)) 45 (0, 0))) ∧ Aside0 (Below wo.heap.size wo wq)) (fun z _ => 4 - (intOf z).toNat)
    case atStart => exact ⟨0, by omega, rfl, HK, HB2⟩
    case round =>
      clear HK HB2
      obtain ⟨k, hk, rfl, HK, HB2⟩ := hrel
      by_cases hk4 : k < 4
      case pos =>
        obtain ⟨⟨y, hcell⟩, hfr⟩ := stg_cell (o := k) HK.out (by rw [ln4]; omega) (by rw [ln4, List.length_nil]; omega)
        go_wp2_with fail
        go_roundw
        case rel => exact ⟨k + 1, by omega, by go_num, ⟨stg_put HK.out (by rw [ln4]; exact hk4) (num4_at _ (by omega) hk4) (by simp)⟩, ⟨HB2.out.setCell Hge.out _⟩⟩
        case measure => simp [intOf]; omega
      obtain rfl : k = 4 := by omega
      replace HK := Aside0.mk (show wr.heap[gx]? = some (.cells (bcs (num4 n ++ List.replicate 60 0)) 45 (0, 0)) from HK.out)
      have c4 : wr.cell? ⟨gx, 4, none⟩ = some (.int .u8 0) := (blk_cell HK.out 4).trans rfl
      have c5 : wr.cell? ⟨gx, 5, none⟩ = some (.int .u8 0) := (blk_cell HK.out 5).trans rfl
      have c6 : wr.cell? ⟨gx, 6, none⟩ = some (.int .u8 0) := (blk_cell HK.out 6).trans rfl
      have f4 := blk_frozen HK.out 4
      have f5 := blk_frozen HK.out 5
      have f6 := blk_frozen HK.out 6
      go_wp2_with fail
      rw [put_step HK.out]
      have hk1 := setRow_heap wr gx _ ((bcs (num4 n ++ List.replicate 60 0)).setIfInBounds 4 (.int .u8 i)) 45 (0, 0) HK.out
      rw [put_step hk1, setRow_setRow]
      have hk2 := setRow_heap wr gx _ (((bcs (num4 n ++ List.replicate 60 0)).setIfInBounds 4 (.int .u8 i)).setIfInBounds 5 (.int .u8 M)) 45 (0, 0) HK.out
      rw [put_step hk2, setRow_setRow]
      have e3 : ((((bcs (num4 n ++ List.replicate 60 0)).setIfInBounds 4 (.int .u8 i)).setIfInBounds 5 (.int .u8 M)).setIfInBounds 6 (.int .u8 bi.length)) = bcs (stg (lay7 n i M bi.length) bi (List.replicate (57 - bi.length) 0) 0) := by
        rw [bcs_set, bcs_set, bcs_set, stg_zero, List.replicate_append_replicate, show bi.length + (57 - bi.length) = 57 by omega]
        rfl
      rw [e3]
      have HK3 := Aside0.mk (setRow_heap wr gx _ (bcs (stg (lay7 n i M bi.length) bi (List.replicate (57 - bi.length) 0) 0)) 45 (0, 0) HK.out)
      have HB3 := Aside0.mk (row_below HB2.out Hge.out (bcs (stg (lay7 n i M bi.length) bi (List.replicate (57 - bi.length) 0) 0)))
      clear c4 c5 c6 f4 f5 f6 hk1 hk2 e3 HK HB2
      generalize wr.setRow gx (bcs (stg (lay7 n i M bi.length) bi (List.replicate (57 - bi.length) 0) 0)) = w3 at HK3 HB3 ⊢
      have l7 : (lay7 n i M bi.length).length = 7 := rfl
      obtain ⟨z, hz⟩ : ∃ z, z = List.replicate (57 - bi.length) (0 : Int) := ⟨_, rfl⟩
      have hzl : bi.length + z.length = 57 := by rw [hz, List.length_replicate]; omega
      obtain ⟨p7, hp7⟩ : ∃ p7, p7 = lay7 n i M bi.length := ⟨_, rfl⟩
      rw [← hz, ← hp7] at HK3
      rw [← hp7] at l7
      replace hz := Aside0.mk hz
      replace hp7 := Aside0.mk hp7
      go_loopw [57] (fun z1 wq => ∃ k : Nat, k ≤ bi.length ∧ z1 = .int .i64 k ∧ Aside0 (wq.heap[gx]? = some (.cells (bcs (stg p7 bi z k)) 45 (0, 0))) ∧ Aside0 (Below wo.heap.size wo wq)) (fun z1 _ => bi.length - (intOf z1).toNat)
      case atStart => exact ⟨0, by omega, rfl, HK3, HB3⟩
      case round =>
        clear HK3 HB3
        obtain ⟨k, hk, rfl, HK, HB2⟩ := hrel
        by_cases hkb : k < bi.length
        case pos =>
          obtain ⟨⟨y, hcell⟩, hfr⟩ := stg_cell (o := 7 + k) HK.out hk (by rw [l7]; omega)
          obtain ⟨ad, hA, hcs⟩ := C_cells (hC1.out wr (Kd.C_below HC.out (below_step HB.out HB2.out))) (by omega)
          obtain ⟨x, hx⟩ : ∃ x, bi[k]? = some x := ⟨bi[k], List.getElem?_eq_getElem hkb⟩
          have hcx := hcs k (.int .u8 x) (by rw [List.getElem?_map, hx]; rfl)
          subst hA
          clear hcs
          replace hx := Aside0.mk hx
          go_wp2_with fail
          go_roundw
          case rel => exact ⟨k + 1, by omega, by go_num, ⟨stg_put HK.out hkb hx.out (by rw [l7])⟩, ⟨HB2.out.setCell Hge.out _⟩⟩
          case measure => simp [intOf]; omega
        obtain rfl : k = bi.length := by omega
        have hlay := lay_l n i M bi hol
        have hfull := lay_full n i M bi hol
        have l60 := lay60_len n i M bi hol
        have hbk : blk n b i = lay n i M bi := by rw [hbi.out, hM.out]; rfl
        have hbo := blk_ok (n := n) (i := i) (b := b) ⟨hbb.out, hb⟩ hn (by rw [← hM.out]; exact hlt)
        unfold okB at hbo
        rw [hbk, hlay] at hbo
        have HK5 := HK.out
        rw [stg_all, hz.out, hp7.out, hfull] at HK5
        obtain ⟨q, hq⟩ : ∃ q, q = lay60 n i M bi := ⟨_, rfl⟩
        rw [← hq] at HK5 l60 hlay hbo
        have hqb := Aside0.mk (show ∀ x ∈ q, 0 ≤ x ∧ x < 256 from fun x hx => hbo x (List.mem_append_left _ hx))
        have hs := sumF_lo q
        obtain ⟨s, hsq⟩ : ∃ s, s = sumF q := ⟨_, rfl⟩
        rw [← hsq] at hs hlay
        have CS := Aside0.mk (k_Sum60 (m := 60) HK5 (List.take_left' l60) (by simp [l60]) hqb.out rfl)
        rw [← hsq] at CS
        have HK6 := Aside0.mk (show wr.heap[gx]? = some (.cells (bcs (stg q (num4 s) [] 0)) 45 (0, 0)) by rw [stg_zero]; exact HK5)
        clear HK5 HK hfull hbo hqb hq hsq
        replace hlay := Aside0.mk hlay
        replace hbk := Aside0.mk hbk
        go_wp2_with fail
        refine CS.out.mono ?_
        rintro e w5 ⟨rfl, hb5⟩
        have HK7 := Aside0.mk (blk_below HK6.out hb5)
        have HB7 := Aside0.mk (below_step HB2.out hb5)
        clear HK6 HB2 hb5 CS
        go_wp2_with fail
        have l4 : (num4 s).length = 4 := rfl
        go_loopw [14] (fun z2 wq => ∃ k : Nat, k ≤ 4 ∧ z2 = .int .i64 k ∧ Aside0 (wq.heap[gx]? = some (.cells (bcs (stg q (num4 s) [] k)) 45 (0, 0))) ∧ Aside0 (Below wo.heap.size wo wq)) (fun z2 _ => 4 - (intOf z2).toNat)
        case atStart => exact ⟨0, by omega, rfl, HK7, HB7⟩
        case round =>
          clear HK7 HB7
          obtain ⟨k, hk, rfl, HK, HB2⟩ := hrel
          by_cases hk4 : k < 4
          case pos =>
            obtain ⟨⟨y, hcell⟩, hfr⟩ := stg_cell (o := 60 + k) HK.out (by rw [l4]; omega) (by rw [l4, l60]; simp; omega)
            go_wp2_with fail
            go_roundw
            case rel => exact ⟨k + 1, by omega, by go_num, ⟨stg_put HK.out (by rw [l4]; exact hk4) (num4_at _ hs hk4) (by rw [l60])⟩, ⟨HB2.out.setCell Hge.out _⟩⟩
            case measure => simp [intOf]; omega
          obtain rfl : k = 4 := by omega
          have e4 : stg q (num4 s) [] 4 = q ++ num4 s ++ [] := stg_all q (num4 s) []
          have HK8 := HK.out
          rw [e4, List.append_nil, ← hlay.out, ← hbk.out] at HK8
          have HK9 := Aside0.mk (show wr.heap[gx]? = some (.cells (blk n b i).cs.toArray 45 (0, 0)) from HK8)
          clear HK8 e4 HK
          generalize hy : blk n b i = y at HK9
          have hbs := fun W => run_oneB W y
          replace hy := Aside0.mk hy
          go_wp2_with (first | ((with_reducible refine gate_dst (N := 83) rfl ?_); refine wpl_ldbk 45 _ gx y 45 (0, 0) _ _ rfl rfl rfl HK9.out rbk_und rbk_info ?_) | ((with_reducible refine gate_builtin (b := .append) (xs := #[.tmp 82, .tmp 84]) rfl ?_); refine Shut.out ?_) | ((with_reducible refine gate_dst (N := 84) rfl ?_); refine wpl_value rfl (bslice_run 89 1 _ #[(0, .agg y.cs.toArray)] rfl (by simp only [List.map_toArray, List.map_cons, List.map_nil]; rfl) (hbs _)) ?_))
          unfold Shut
          change wpList _ _ _ _ _ (wr.alloc (.cells y.cs.toArray 45))
          have hba := below_alloc (Below.refl wr.heap.size wr) (.cells y.cs.toArray 45)
          refine Kd.R_append_rows (Kd.raw 64) (w0 := w) w.heap.size rfl (.tmp 82) (.tmp 84) 89 45 (.agg Bk.z.cs.toArray) 64 rfl lbk_und rbk_full rfl (by decide) (by omega) (.slice Al i cl) (((List.range i).map (blk n b)).map (fun b => b.cs)) ([y.cs]) _ _ _ (fun _ => True) (fun _ => False) rfl rfl ?aO (raw_oneB y.cs y.len y.one (blk_new _ _)) (fun _ _ h => h) (fun _ h => h.elim) (fun _ _ => trivial) (below_step (below_step HB.out HB2.out) hba) (below_step (below_step HB.out HB2.out) hba).size ?aL ?_
          case aO => exact Kd.R_below (Kd.R_below HR.out HB2.out) hba
          case aL => simp only [List.length_map, List.length_range]; omega
          intro v9 w9 hR9 hb9 _ _
          have HR9 := Aside0.mk hR9
          have HB9 := Aside0.mk hb9
          clear hR9 hb9 HK9 hbs hba
          go_wp2_with fail
          go_roundw
          case rel => exact ⟨i + 1, hlt, by go_num, ⟨by have := HR9.out; rw [List.range_succ, List.map_append, List.map_append, List.map_singleton, List.map_singleton, hy.out]; exact this⟩, HB9⟩
          case measure => simp [intOf]; omega
end
section
theorem flatg_len (g : Nat → List Int) (K : Nat) (h2 : ∀ j, j + 1 < K → (g j).length = 53) : ∀ m, m < K → ((List.range m).map g).flatten.length = m * 53
  | 0, _ => by simp
  | m + 1, h => by
    rw [List.range_succ, List.map_append, List.flatten_append, List.length_append, flatg_len g K h2 m (by omega)]
    have := h2 m h
    simp only [List.map_cons, List.map_nil, List.flatten_cons, List.flatten_nil, List.append_nil]
    omega
theorem flatg_at (g : Nat → List Int) (K : Nat) (h1 : ∀ j, j < K → (g j).length ≤ 53) (h2 : ∀ j, j + 1 < K → (g j).length = 53) (i : Nat) (hi : i < K) : own ((List.range K).map g).flatten i = g i := by
  obtain ⟨d, rfl⟩ : ∃ d, K = i + (d + 1) := ⟨K - i - 1, by omega⟩
  have hl := flatg_len g _ h2 i hi
  rw [own, List.range_add, List.map_append, List.flatten_append, List.drop_left' hl, List.range_succ_eq_map]
  simp only [List.map_cons, List.flatten_cons, Nat.add_zero]
  cases d with
  | zero =>
    have := h1 i hi
    simp only [List.range_zero, List.map_nil, List.flatten_nil, List.append_nil]
    exact List.take_of_length_le this
  | succ d => exact List.take_left' (h2 i (by omega))
theorem good_says {f : Nat → Bk × Int} {n i : Nat} (h : good f n i = true) : (f i).2 = 0 ∧ ¬ bad (cnt (f i).1) (siz (f i).1) i ∧ lay n i (cnt (f i).1) (body (f i).1) = (f i).1 ∧ cnt (f i).1 = recN f n ∧ (rdp (f i) n i).1 = body (f i).1 := by
  unfold good at h
  unfold rdp at h
  by_cases c1 : (f i).2 ≠ 0
  · rw [if_pos c1] at h; simp at h
  rw [if_neg c1] at h
  by_cases c2 : bad (cnt (f i).1) (siz (f i).1) i
  · rw [if_pos c2] at h; simp at h
  rw [if_neg c2] at h
  simp only [Bool.and_eq_true, decide_eq_true_eq] at h
  refine ⟨Decidable.not_not.1 c1, c2, h.1, h.2, ?_⟩
  unfold rdp
  rw [if_neg c1, if_neg c2]
theorem recP_inv {f : Nat → Bk × Int} {n : Nat} {b : List Int} (hok : ∀ i, okB (f i).1) (h : recP f n = some b) : (∀ i, i < pn b.length → f i = (blk n b i, 0)) ∧ ((List.range (pn b.length)).map (fun i => body (f i).1)).flatten = b := by
  unfold recP at h
  by_cases c : recN f n < 1 ∨ (recK f n : Int) ≠ recN f n
  · rw [if_pos c] at h; cases h
  rw [if_neg c] at h
  have hg : ∀ i, i < recK f n → good f n i = true := (takeWhile_range (good f n) (recN f n).toNat).2.1
  obtain ⟨K, hK⟩ : ∃ K, K = recK f n := ⟨_, rfl⟩
  have hN : recN f n = (K : Int) := by omega
  have hs : ∀ i, i < K → (f i).2 = 0 ∧ ¬ bad (cnt (f i).1) (siz (f i).1) i ∧ lay n i (cnt (f i).1) (body (f i).1) = (f i).1 ∧ cnt (f i).1 = (K : Int) ∧ (rdp (f i) n i).1 = body (f i).1 := fun i hi => by
    have := good_says (hg i (by omega))
    rw [hN] at this
    exact this
  have hL : recL f n = (List.range K).map (fun i => body (f i).1) := by
    unfold recL
    rw [← hK]
    exact List.map_congr_left (fun i hi => (hs i (List.mem_range.1 hi)).2.2.2.2)
  have hsz : ∀ i, i < K → (body (f i).1).length = (siz (f i).1).toNat ∧ 0 ≤ siz (f i).1 ∧ siz (f i).1 ≤ 53 := fun i hi => by
    have h6 := okB_at (hok i) 6 (by omega)
    have hb := (hs i hi).2.1
    have h53 : siz (f i).1 ≤ 53 := by
      apply Decidable.byContradiction
      intro hh
      exact hb (.inl (by omega))
    exact ⟨body_len ⟨h6.1, h53⟩, h6.1, h53⟩
  have h1 : ∀ j, j < K → (body (f j).1).length ≤ 53 := fun j hj => by have := hsz j hj; omega
  have h2 : ∀ j, j + 1 < K → (body (f j).1).length = 53 := fun j hj => by
    have h3 := hsz j (by omega)
    have hb := (hs j (by omega)).2.1
    have hc := (hs j (by omega)).2.2.2.1
    have : ¬ siz (f j).1 < 53 := fun hh => hb (.inr (.inr (.inl ⟨by omega, hh⟩)))
    omega
  have hb : ((List.range K).map (fun i => body (f i).1)).flatten = b := by rw [← hL]; exact Option.some.inj h
  have hat := flatg_at (fun i => body (f i).1) K h1 h2
  have hlen : pn b.length = K := by
    obtain ⟨k, rfl⟩ : ∃ k, K = k + 1 := ⟨K - 1, by omega⟩
    have hl := flatg_len (fun i => body (f i).1) (k + 1) h2 k (by omega)
    have h3 := hsz k (by omega)
    have : b.length = k * 53 + (body (f k).1).length := by
      rw [← hb, List.range_succ, List.map_append, List.flatten_append, List.length_append, hl]
      simp
    have h4 : 0 < k → 0 < (body (f k).1).length := fun hk => by
      have hbb := (hs k (by omega)).2.1
      have : ¬ siz (f k).1 = 0 := fun hh => hbb (.inr (.inr (.inr ⟨hk, hh⟩)))
      omega
    unfold pn
    omega
  refine ⟨fun i hi => ?_, by rw [hlen]; exact hb⟩
  rw [hlen] at hi
  obtain ⟨s1, s2, s3, s4, s5⟩ := hs i hi
  have e : own b i = body (f i).1 := by rw [← hb]; exact hat i hi
  have e2 : blk n b i = (f i).1 := by
    unfold blk
    rw [hlen, e, ← s4]
    exact s3
  rw [e2, ← s1]
theorem recP_no {f : Nat → Bk × Int} {n : Nat} (hok : ∀ i, okB (f i).1) (h : ∀ b : List Int, b.length ≤ 13515 → (∀ i, i < pn b.length → f i = (blk n b i, 0)) → ((List.range (pn b.length)).map (fun i => body (f i).1)).flatten = b → False) : recP f n = none := by
  cases hq : recP f n with
  | none => rfl
  | some b =>
    obtain ⟨h1, h2⟩ := recP_inv hok hq
    obtain ⟨g1, g2, g3, _⟩ := recP_len hok hq
    exact (h b (by omega) h1 h2).elim
theorem recP_e {f : Nat → Bk × Int} {n i : Nat} (hok : ∀ i, okB (f i).1) (hi : (i : Int) < cnt (f 0).1) (h : (f i).2 ≠ 0 ∨ 53 < siz (f i).1) : recP f n = none :=
  recP_no hok fun b hb h1 _ => by
    have hp := pn_pos b.length
    have e0 : cnt (f 0).1 = (pn b.length : Int) := by rw [h1 0 hp]; exact cnt_lay _ _ _ _ (own_len _ _)
    have hi' : i < pn b.length := by omega
    rw [h1 i hi'] at h
    have := siz_lay (n : Int) i (pn b.length) (own b i) (own_len _ _)
    rcases h with h | h
    · exact h rfl
    · have hl := own_len b i
      change 53 < siz (lay n i (pn b.length) (own b i)) at h
      omega
theorem recP_0 {f : Nat → Bk × Int} {n : Nat} (hok : ∀ i, okB (f i).1) (h : (f 0).2 ≠ 0 ∨ cnt (f 0).1 = 0) : recP f n = none :=
  recP_no hok fun b hb h1 _ => by
    have hp := pn_pos b.length
    have e0 : cnt (f 0).1 = (pn b.length : Int) := by rw [h1 0 hp]; exact cnt_lay _ _ _ _ (own_len _ _)
    rw [h1 0 hp] at h e0
    rcases h with h | h
    · exact h rfl
    · omega
/-- All bodies together. -/
def bodies (f : Nat → Bk × Int) (m : Nat) : List Int := ((List.range m).map (fun i => body (f i).1)).flatten
theorem bodies_succ (f : Nat → Bk × Int) (m : Nat) : bodies f (m + 1) = bodies f m ++ body (f m).1 := by
  unfold bodies
  rw [List.range_succ, List.map_append, List.flatten_append]
  simp
theorem recP_N {f : Nat → Bk × Int} {n N : Nat} (hok : ∀ i, okB (f i).1) (hN : cnt (f 0).1 = (N : Int)) (h : pn (bodies f N).length ≠ N) : recP f n = none :=
  recP_no hok fun b hb h1 h2 => by
    have hp := pn_pos b.length
    have e0 : cnt (f 0).1 = (pn b.length : Int) := by rw [h1 0 hp]; exact cnt_lay _ _ _ _ (own_len _ _)
    obtain rfl : N = pn b.length := by omega
    apply h
    unfold bodies
    rw [h2]
theorem recP_i {f : Nat → Bk × Int} {n N i : Nat} (hok : ∀ i, okB (f i).1) (hN : cnt (f 0).1 = (N : Int)) (hi : i < N) (h : (f i).1 ≠ blk n (bodies f N) i) : recP f n = none :=
  recP_no hok fun b hb h1 h2 => by
    have hp := pn_pos b.length
    have e0 : cnt (f 0).1 = (pn b.length : Int) := by rw [h1 0 hp]; exact cnt_lay _ _ _ _ (own_len _ _)
    obtain rfl : N = pn b.length := by omega
    apply h
    unfold bodies
    rw [h2, h1 i hi]
theorem recP_yes {f : Nat → Bk × Int} {n N : Nat} (hp : pn (bodies f N).length = N) (h0 : ∀ i, i < N → (f i).2 = 0) (h : ∀ i, i < N → (f i).1 = blk n (bodies f N) i) : recP f n = some (bodies f N) :=
  recP_good fun i hi => by
    rw [hp] at hi
    rw [← h i hi, ← h0 i hi]
theorem bodies_len {f : Nat → Bk × Int} (m : Nat) (hok : ∀ i, okB (f i).1) (h : ∀ i, i < m → siz (f i).1 ≤ 53) : (bodies f m).length ≤ m * 53 := by
  induction m with
  | zero => simp [bodies]
  | succ m ih =>
    rw [bodies_succ, List.length_append]
    have h6 := okB_at (hok m) 6 (by omega)
    have := body_len (b := (f m).1) ⟨h6.1, h m (by omega)⟩
    have h7 := h m (by omega)
    have h8 : siz (f m).1 = (f m).1.l.getD 6 0 := rfl
    have := ih (fun i hi => h i (by omega))
    omega
theorem bodies_ok {f : Nat → Bk × Int} (m : Nat) (hok : ∀ i, okB (f i).1) : ∀ x ∈ bodies f m, 0 ≤ x ∧ x < 256 := by
  intro x hx
  unfold bodies at hx
  obtain ⟨l, hl, hxl⟩ := List.mem_flatten.1 hx
  obtain ⟨i, _, rfl⟩ := List.mem_map.1 hl
  exact hok i x (List.mem_of_mem_drop (List.mem_of_mem_take hxl))
end
section
variable {B : Nat} {w w' : World} {p gl : Nat} {v : Value} {L : List (Bk × Bool)} {W : List (Int × Bk)}
theorem row64_get {w : World} {e B n c : Nat} {A : Option Addr} {l : List Bk} {ok : Nat → Prop} (h : Kd.R (Kd.raw 64) e w B ok (.slice A n c) (l.map (fun b => b.cs))) (i : Nat) (hi : i < l.length) : ∃ ad, A = some ad ∧ ∀ j u, (l[i].cs)[j]? = some u → w.cell? ((ad.add (i * 64)).add j) = some u := by
  obtain ⟨hn, _, hC⟩ := Kd.R_reads' h
  rw [List.length_map] at hC hn
  obtain ⟨ad, cs, hA, hl, hK, hc⟩ := Kd.C_get hC [] (i : Int) (by omega) (by omega)
  refine ⟨ad, hA, fun j u hu => ?_⟩
  have hcs : cs = l[i].cs := by
    have := hK.1
    rw [this]
    simp [List.getD, hi]
  rw [add_add]
  have := hc j u (by rw [hcs]; exact hu)
  rwa [Int.toNat_natCast] at this
theorem rbk_eqi (a b : Bk) (d : Nat) (W : World) : (Op.equalIn (d + 2) 45 (.agg a.cs.toArray) (.agg b.cs.toArray)).run Try.prog W = .ok (decide (a = b)) W := by
  have hu : Try.prog.underlying 5 = some (.int .u8) := by kernel_rfl
  have := eqArr_ints (P := Try.prog) (t := 45) (e := 5) (k := .u8) (n := 64) rbk_und hu (by kernel_rfl) (by kernel_rfl) d a.l b.l a.h b.h W
  have e : decide (a.l = b.l) = decide (a = b) := decide_eq_decide.2 ⟨Bk.eq, fun h => by rw [h]⟩
  rw [e] at this
  exact this
theorem rbk_cut (g q : Nat) (hq : q ≤ 53) (W : World) : (Instr.sliceAt 45 (.pointer (some ⟨g, 0, none⟩)) (some (.int .i64 7)) (some (.int .i64 (7 + (q : Int)))) none).run Try.prog W = .ok (.slice (some ⟨g, 7, none⟩) q 57) W := by
  have ha : Try.prog.arrayLen 45 = 64 := by kernel_rfl
  have he : Try.prog.elem 45 = 5 := by kernel_rfl
  have hu : Try.prog.underlying 45 = some (.array (Try.prog.arrayLen 45) (Try.prog.elem 45)) := by rw [ha, he]; exact rbk_und
  rw [run_sliceAt_array_lh W 45 _ hu .i64 .i64 7 (7 + (q : Int)) (by omega) (by omega) (by rw [ha]; omega)]
  have hsz : (sizeOf (Try.prog.elem 45)).run Try.prog W = .ok 1 W := by rw [he]; kernel_rfl
  rw [hsz, ha]
  show Result.ok (slicedAt ⟨g, 0, none⟩ 7 (7 + (q : Int)).toNat 64 1) W = _
  rw [show (7 + (q : Int)).toNat = 7 + q by omega]
  simp [slicedAt, Addr.add]
theorem bk_at (b : Bk) (i : Nat) (hi : i < 64) {x : Int} (hx : b.l.getD i 0 = x) {g t : Nat} {fr : Nat × Nat} (h : w.heap[g]? = some (.cells b.cs.toArray t fr)) : w.cell? ⟨g, i, none⟩ = some (.int .u8 x) := by
  rw [cell_of_row w g i _ t fr h, ← hx]
  have := b.get i hi
  simpa using this
theorem r_ReadE (h : RA B w p gl v L W) {a : Int} {b : Bk} {c : Int} (e : rd L W a = (b, c)) : Calls Try.prog 30 #[.pointer (some ⟨p, 0, none⟩), .int .i64 a] w fun e w' => e = .returned (.tuple #[.agg b.cs.toArray, .int .i64 c]) ∧ Below w.heap.size w w' := by
  have := r_Read h a
  rw [e] at this
  exact this
theorem cutL_len (n : Nat) (b : List Int) : (cutL n b).length = pn b.length := by simp [cutL]
set_option maxHeartbeats 16000000 in
set_option maxRecDepth 100000 in
theorem k_record (h : RA B w p gl v L W) (at_ n : Nat) (ha : at_ ≤ 5000) (hn : n ≤ 5000) (hok : ∀ a, okB (rd L W a).1) {r : Option (List Int)} (hr : recP (fAt L W at_) n = r) :
    Calls Try.prog 38 #[.pointer (some ⟨p, 0, none⟩), .int .i64 at_, .int .i64 n] w fun e w' => ∃ v1, e = .returned (.tuple #[v1, .bool r.isSome]) ∧ (∀ b, r = some b → Kd.R (Kd.int .u8) 5 w' w.heap.size (fun _ => True) v1 b) ∧ Below w.heap.size w w' := by
  have HS := Aside0.mk h
  have hf : Aside0 (∀ i : Nat, rd L W ((at_ + i : Nat) : Int) = fAt L W at_ i) := ⟨fun _ => rfl⟩
  have hokf : Aside0 (∀ i, okB (fAt L W at_ i).1) := ⟨fun i => hok _⟩
  generalize fAt L W at_ = f at hr hf hokf
  clear h hok
  replace hr := Aside0.mk hr
  have hx := hf.out 0
  rw [Nat.add_zero] at hx
  obtain ⟨⟨b, c⟩, hq⟩ : ∃ q, q = f 0 := ⟨_, rfl⟩
  rw [← hq] at hx
  have hqb : (f 0).1 = b := by rw [← hq]
  have hqc : (f 0).2 = c := by rw [← hq]
  have HR0 := Aside0.mk (r_ReadE HS.out hx)
  have hob := hokf.out 0
  rw [hqb] at hob
  have h5 := okB_at hob 5 (by omega)
  obtain ⟨N, hN⟩ : ∃ N : Nat, b.l.getD 5 0 = (N : Int) := ⟨(b.l.getD 5 0).toNat, by omega⟩
  have hN255 : N ≤ 255 := by omega
  have hcnt : cnt (f 0).1 = (N : Int) := by rw [hqb]; exact hN
  replace hcnt := Aside0.mk hcnt
  replace hN := Aside0.mk hN
  replace hqc := Aside0.mk hqc
  clear hx hq hqb hob h5
  go_enter Try.func38, Try.ntmps38
  go_wp2_with fail
  refine HR0.out.mono ?_
  rintro e w1 ⟨rfl, hb⟩
  have HB := Aside0.mk hb
  clear hb HR0
  go_wp2_with ((with_reducible refine gate_store (t := 45) (p := 8) (v := .tmp 23) rfl ?_); refine Shut.out ?_)
  unfold Shut
  change wpList _ _ _ _ _ (w1.alloc (.cells Bk.z.cs.toArray 45))
  obtain ⟨hnb, hnk⟩ := newbk w1 Bk.z.cs.toArray b.cs.toArray 45
  refine wpl_stbk 45 _ _ w1.heap.size b 45 Bk.z rfl rfl rfl rfl rfl (blk_new w1 _) rbk_info ?_
  have HB' := Aside0.mk (below_step HB.out hnb)
  have BK8 := Aside0.mk hnk
  clear HB hnb hnk
  generalize (w1.alloc (.cells Bk.z.cs.toArray 45)).setRow w1.heap.size b.cs.toArray = w2 at HB' BK8 ⊢
  generalize w1.heap.size = g8 at BK8 ⊢
  have HB := HB'
  clear HB'
  by_cases hc : c = 0
  case neg =>
    obtain rfl : r = none := by rw [← hr.out]; exact recP_0 hokf.out (.inl (by rw [hqc.out]; exact hc))
    have hcn : (c == 0) = false := by simpa using hc
    have hcn2 : (c != 0) = true := by simpa using hc
    clear hr hf hokf
    go_wp2_with fail
    go_ret2
    exact ⟨_, rfl, fun b h => (by cases h), HB.out⟩
  subst hc
  have hc1 : ((0 : Int) != 0) = false := rfl
  by_cases hN0 : N = 0
  case pos =>
    subst hN0
    obtain rfl : r = none := by rw [← hr.out]; exact recP_0 hokf.out (.inr hcnt.out)
    have c5 := bk_at b 5 (by omega) (x := 0) hN.out BK8.out
    clear hr hf hokf hcnt hN
    go_wp2_with fail
    go_ret2
    exact ⟨_, rfl, fun b h => (by cases h), HB.out⟩
  have c5 := bk_at b 5 (by omega) hN.out BK8.out
  have hn0 : ((N : Int) == 0) = false := by simpa using hN0
  go_wp2_with fail
  clear c5 hn0
  go_loopw [10, 11] (fun x y wr => ∃ i : Nat, i ≤ N ∧ y = .int .i64 i ∧ Aside0 (Kd.R (Kd.int .u8) 5 wr w.heap.size (fun _ => True) x (bodies f i)) ∧ Aside0 (Below w.heap.size w wr) ∧ Aside0 (wr.heap[g8]? = some (.cells b.cs.toArray 45 (0, 0))) ∧ Aside0 (∀ j, j < i → (f j).2 = 0 ∧ siz (f j).1 ≤ 53)) (fun _ y _ => N - (intOf y).toNat)
  case atStart => exact ⟨0, Nat.zero_le _, rfl, ⟨Kd.R_nil _ _ _ _ _⟩, HB, BK8, ⟨fun j hj => by omega⟩⟩
  case round =>
    clear HB BK8
    obtain ⟨i, hi, rfl, HR, HB, BK8, HG⟩ := hrel
    rename World => wo
    have c5 := bk_at b 5 (by omega) hN.out BK8.out
    obtain ⟨Al, cl, hAl⟩ := Kd.R_slice HR.out
    subst hAl
    by_cases hlt : i < N
    case pos =>
      obtain ⟨⟨bi, ci⟩, hqi⟩ : ∃ q, q = f i := ⟨_, rfl⟩
      have hxi := hf.out i
      rw [← hqi] at hxi
      have hbi : (f i).1 = bi := by rw [← hqi]
      have hci : (f i).2 = ci := by rw [← hqi]
      have HR0 := Aside0.mk (r_ReadE (HS.out.below HB.out) hxi)
      have hoi := hokf.out i
      rw [hbi] at hoi
      have h6 := okB_at hoi 6 (by omega)
      obtain ⟨s, hs⟩ : ∃ s : Nat, bi.l.getD 6 0 = (s : Int) := ⟨(bi.l.getD 6 0).toNat, by omega⟩
      have hsz : siz (f i).1 = (s : Int) := by rw [hbi]; exact hs
      replace hsz := Aside0.mk hsz
      have hbl : ∀ _ : s ≤ 53, (body bi).length = s := fun h53 => by
        have := body_len (b := bi) ⟨by show 0 ≤ bi.l.getD 6 0; omega, by show bi.l.getD 6 0 ≤ 53; omega⟩
        rw [this]; show (bi.l.getD 6 0).toNat = s; omega
      replace hbl := Aside0.mk hbl
      replace hs := Aside0.mk hs
      replace hbi := Aside0.mk hbi
      replace hci := Aside0.mk hci
      clear hxi hqi hoi h6
      have hbs := bodies_len (f := f) i hokf.out (fun j hj => (HG.out j hj).2)
      obtain ⟨m0, hm0⟩ : ∃ m0, m0 = (bodies f i).length := ⟨_, rfl⟩
      rw [← hm0] at hbs
      replace hm0 := Aside0.mk hm0
      go_wp2_with fail
      have hcast : ((at_ : Int) + (i : Int)) = ((at_ + i : Nat) : Int) := by omega
      rw [hcast]
      refine HR0.out.mono ?_
      rintro e w3 ⟨rfl, hb⟩
      have HB3 := Aside0.mk (below_step HB.out hb)
      have BK83 := Aside0.mk (blk_below BK8.out hb)
      have HR3 := Aside0.mk (Kd.R_below HR.out hb)
      clear hb HR0 HB BK8 HR hcast c5
      go_wp2_with ((with_reducible refine gate_store (t := 45) (p := 12) (v := .tmp 45) rfl ?_); refine Shut.out ?_)
      unfold Shut
      change wpList _ _ _ _ _ (w3.alloc (.cells Bk.z.cs.toArray 45))
      obtain ⟨hnb, hnk⟩ := newbk w3 Bk.z.cs.toArray bi.cs.toArray 45
      refine wpl_stbk 45 _ _ w3.heap.size bi 45 Bk.z rfl rfl rfl rfl rfl (blk_new w3 _) rbk_info ?_
      have HB := Aside0.mk (below_step HB3.out hnb)
      have BK8 := Aside0.mk (blk_below BK83.out hnb)
      have HR := Aside0.mk (Kd.R_below HR3.out hnb)
      have BK12 := Aside0.mk hnk
      clear HB3 BK83 HR3 hnb hnk
      generalize (w3.alloc (.cells Bk.z.cs.toArray 45)).setRow w3.heap.size bi.cs.toArray = w4 at HB BK8 HR BK12 ⊢
      generalize w3.heap.size = g12 at BK12 ⊢
      by_cases hc : ci = 0
      case neg =>
        obtain rfl : r = none := by rw [← hr.out]; exact recP_e (i := i) hokf.out (by rw [hcnt.out]; omega) (.inl (by rw [hci.out]; exact hc))
        have hcn : (ci == 0) = false := by simpa using hc
        have hcn2 : (ci != 0) = true := by simpa using hc
        clear hr hf hokf
        go_wp2_with fail
        go_ret2
        exact ⟨_, rfl, fun b h => (by cases h), HB.out⟩
      subst hc
      have c6 := bk_at bi 6 (by omega) hs.out BK12.out
      by_cases h53 : s ≤ 53
      case neg =>
        obtain rfl : r = none := by rw [← hr.out]; exact recP_e (i := i) hokf.out (by rw [hcnt.out]; omega) (.inr (by rw [hsz.out]; omega))
        have h53n : (53 : Int) < (s : Int) := by omega
        clear hr hf hokf
        go_wp2_with fail
        go_ret2
        exact ⟨_, rfl, fun b h => (by cases h), HB.out⟩
      have h53n : ¬ (53 : Int) < (s : Int) := by omega
      have hcut := fun W => rbk_cut g12 s h53 W
      have hC := bcs_C (o := 7) (n := s) (l := bi.l) BK12.out (by rw [bi.h]; omega) (by omega)
      have hbd : (bi.l.drop 7).take s = body bi := by unfold body siz; rw [hs.out]; rfl
      rw [hbd, hbl.out h53] at hC
      have HC := Aside0.mk hC
      clear hC hbd
      go_wp2_with ((with_reducible refine gate_builtin (b := .append) (xs := #[.tmp 54, .tmp 59]) rfl ?_); refine Shut.out ?_)
      unfold Shut
      refine Kd.R_append_row (w0 := w) (Value.int .u8) 0 w.heap.size rfl (.tmp 54) (.tmp 59) 38 5 (.int .u8 0) 1 rfl by_und' u_info rfl (by omega) (.slice Al (bodies f i).length cl) (bodies f i) (body bi) (some ⟨g12, 7, none⟩) s 57 (fun _ => True) rfl rfl (fun _ _ => trivial) HR.out HC.out HB.out HB.out.size (by rw [← hm0.out]; omega) ?_
      intro v9 w9 hR9 hb9 hg9 _
      have HR9 := Aside0.mk hR9
      have HB9 := Aside0.mk hb9
      have BK9 := Aside0.mk (blk_grown BK8.out hg9 (Kd.R_ne HR.out BK8.out (by decide)))
      clear hR9 hb9 hg9 HR HB BK8 BK12 HC hcut c6
      go_wp2_with fail
      go_roundw
      case rel => exact ⟨i + 1, hlt, by go_num, ⟨by rw [bodies_succ, hbi.out]; exact HR9.out⟩, HB9, BK9, ⟨fun j hj => by
        by_cases e : j = i
        · subst e; exact ⟨hci.out, by rw [hsz.out]; omega⟩
        · exact HG.out j (by omega)⟩⟩
      case measure => simp [intOf]; omega
    obtain rfl : i = N := by omega
    clear hlt hi
    have hlen := bodies_len (f := f) i hokf.out (fun j hj => (HG.out j hj).2)
    have hbok := Aside0.mk (bodies_ok (f := f) i hokf.out)
    obtain ⟨bl, hbl⟩ : ∃ bl, bl = bodies f i := ⟨_, rfl⟩
    rw [← hbl] at HR hlen hbok ⊢
    replace hbl := Aside0.mk hbl
    have hcap := (Kd.R_reads' HR.out).2.1
    have CK := Aside0.mk (k_cut (Kd.R_reads' HR.out).2.2 hcap (by omega) hbok.out n (by omega))
    go_wp2_with fail
    refine CK.out.mono ?_
    rintro e w3 ⟨vc, rfl, hRc, hb⟩
    obtain ⟨Ac, cc, hvc⟩ := Kd.R_slice hRc
    subst hvc
    have HB3 := Aside0.mk (below_step HB.out hb)
    have BK83 := Aside0.mk (blk_below BK8.out hb)
    have HR3 := Aside0.mk (Kd.R_below HR.out hb)
    have HRc := Aside0.mk hRc
    have hlc : ((cutL n bl).map (fun b => b.cs)).length = pn bl.length := by rw [List.length_map, cutL_len]
    rw [hlc] at HRc ⊢
    clear hb hRc CK HB BK8 HR c5 hlc
    obtain ⟨P, hP⟩ : ∃ P, P = pn bl.length := ⟨_, rfl⟩
    rw [← hP] at HRc ⊢
    replace hP := Aside0.mk hP
    have c5 := bk_at b 5 (by omega) hN.out BK83.out
    by_cases hp : P = i
    case neg =>
      obtain rfl : r = none := by rw [← hr.out]; exact recP_N hokf.out hcnt.out (by rw [← hbl.out, ← hP.out]; exact hp)
      have hpn : ((P : Int) != (i : Int)) = true := by simp; omega
      have hpn2 : ((P : Int) == (i : Int)) = false := by simp; omega
      clear hr hf hokf
      go_wp2_with fail
      go_ret2
      exact ⟨_, rfl, fun b h => (by cases h), HB3.out⟩
    subst hp
    have hpn : ((P : Int) != (P : Int)) = false := by simp
    go_wp2_with fail
    clear c5 BK83 hpn
    go_loopw [72] (fun x wq => ∃ k : Nat, k ≤ P ∧ x = .int .i64 k ∧ Aside0 (Below w3.heap.size w3 wq) ∧ Aside0 (∀ j, j < k → (f j).1 = blk n bl j)) (fun x _ => P - (intOf x).toNat)
    case atStart => exact ⟨0, Nat.zero_le _, rfl, ⟨Below.refl _ _⟩, ⟨fun j hj => by omega⟩⟩
    case round =>
      obtain ⟨k, hk, rfl, HQ, HE⟩ := hrel
      by_cases hlt : k < P
      case neg =>
        obtain rfl : k = P := by omega
        obtain rfl : r = some bl := by rw [← hr.out, hbl.out]; exact recP_yes (by rw [← hbl.out, ← hP.out]) (fun j hj => (HG.out j hj).1) (fun j hj => by rw [← hbl.out]; exact HE.out j hj)
        clear hr hf hokf
        go_wp2_with fail
        go_ret2
        exact ⟨_, rfl, fun b h => by cases h; exact Kd.R_below HR3.out HQ.out, below_step HB3.out HQ.out⟩
      obtain ⟨y, hy⟩ : ∃ y, y = blk n bl k := ⟨_, rfl⟩
      obtain ⟨ad, hA, hcell⟩ := row64_get (Kd.R_below HRc.out HQ.out) k (by rw [cutL_len, ← hP.out]; exact hlt)
      have hky : (cutL n bl)[k]'(by rw [cutL_len, ← hP.out]; exact hlt) = y := by simp [cutL, hy]
      rw [hky] at hcell
      replace hcell := Aside0.mk hcell
      subst hA
      obtain ⟨⟨bk, ck⟩, hqk⟩ : ∃ q, q = f k := ⟨_, rfl⟩
      have hxk := hf.out k
      rw [← hqk] at hxk
      obtain rfl : ck = 0 := by have := (HG.out k hlt).1; rw [← hqk] at this; exact this
      have hbk : (f k).1 = bk := by rw [← hqk]
      replace hxk := Aside0.mk hxk
      replace hbk := Aside0.mk hbk
      replace hy := Aside0.mk hy
      clear hqk hky
      go_wp2_with (first | ((with_reducible refine gate_dst (N := 76) rfl ?_); refine wpl_value rfl (load_run_at 45 (.tmp 75) rfl (ad.add (k * 64)) rfl y.cs _ hcell.out rbk_und rfl (by rw [y.len]; exact rbk_info)) ?_) | ((with_reducible refine gate_store (t := 45) (p := 16) (v := .tmp 76) rfl ?_); refine Shut.out ?_))
      unfold Shut
      change wpList _ _ _ _ _ (wr.alloc (.cells Bk.z.cs.toArray 45))
      obtain ⟨hnb, hnk⟩ := newbk wr Bk.z.cs.toArray y.cs.toArray 45
      refine wpl_stbk 45 _ _ wr.heap.size y 45 Bk.z rfl rfl rfl rfl rfl (blk_new wr _) rbk_info ?_
      have HQ5 := Aside0.mk (below_step HQ.out hnb)
      have BK16 := Aside0.mk hnk
      clear HQ hnb hnk hcell
      generalize (wr.alloc (.cells Bk.z.cs.toArray 45)).setRow wr.heap.size y.cs.toArray = w5 at HQ5 BK16 ⊢
      generalize wr.heap.size = g16 at BK16 ⊢
      go_wp2_with fail
      have hcast : ((at_ : Int) + (k : Int)) = ((at_ + k : Nat) : Int) := by omega
      rw [hcast]
      refine (r_ReadE (HS.out.below (below_step HB3.out HQ5.out)) hxk.out).mono ?_
      rintro e w6 ⟨rfl, hb⟩
      have HQ6 := Aside0.mk (below_step HQ5.out hb)
      have BKy := Aside0.mk (blk_below BK16.out hb)
      clear HQ5 BK16 hb hcast
      go_wp2_with ((with_reducible refine gate_store (t := 45) (p := 17) (v := .tmp 83) rfl ?_); refine Shut.out ?_)
      unfold Shut
      change wpList _ _ _ _ _ (w6.alloc (.cells Bk.z.cs.toArray 45))
      obtain ⟨hnb, hnk⟩ := newbk w6 Bk.z.cs.toArray bk.cs.toArray 45
      refine wpl_stbk 45 _ _ w6.heap.size bk 45 Bk.z rfl rfl rfl rfl rfl (blk_new w6 _) rbk_info ?_
      have HQ7 := Aside0.mk (below_step HQ6.out hnb)
      have BK16 := Aside0.mk (blk_below BKy.out hnb)
      have BK17 := Aside0.mk hnk
      clear HQ6 BKy hnb hnk
      generalize (w6.alloc (.cells Bk.z.cs.toArray 45)).setRow w6.heap.size bk.cs.toArray = w7 at HQ7 BK16 BK17 ⊢
      generalize w6.heap.size = g17 at BK17 ⊢
      by_cases hbe : bk = y
      case neg =>
        obtain rfl : r = none := by rw [← hr.out]; exact recP_i hokf.out hcnt.out hlt (by rw [← hbl.out, hbk.out, ← hy.out]; exact hbe)
        have heq := fun d W => (rbk_eqi bk y d W).trans (by rw [decide_eq_false hbe])
        clear hr hf hokf hbe
        go_wp2_with (first | ((with_reducible refine gate_dst (N := 85) rfl ?_); refine wpl_ldbk2 45 _ g17 bk 45 (0, 0) _ _ rfl rfl rfl BK17.out rbk_und rbk_info ?_) | ((with_reducible refine gate_dst (N := 86) rfl ?_); refine wpl_ldbk2 45 _ g16 y 45 (0, 0) _ _ rfl rfl rfl BK16.out rbk_und rbk_info ?_))
        go_ret2
        exact ⟨_, rfl, fun b h => (by cases h), below_step HB3.out HQ7.out⟩
      have heq := fun d W => (rbk_eqi bk y d W).trans (by rw [decide_eq_true hbe])
      replace hbe := Aside0.mk hbe
      go_wp2_with (first | ((with_reducible refine gate_dst (N := 85) rfl ?_); refine wpl_ldbk2 45 _ g17 bk 45 (0, 0) _ _ rfl rfl rfl BK17.out rbk_und rbk_info ?_) | ((with_reducible refine gate_dst (N := 86) rfl ?_); refine wpl_ldbk2 45 _ g16 y 45 (0, 0) _ _ rfl rfl rfl BK16.out rbk_und rbk_info ?_))
      go_roundw
      case rel => exact ⟨k + 1, hlt, by go_num, HQ7, ⟨fun j hj => by
        by_cases e : j = k
        · subst e; rw [hbk.out, hbe.out, hy.out]
        · exact HE.out j (by omega)⟩⟩
      case measure => simp [intOf]; omega
end
section
variable {B : Nat} {w w' : World} {p gl : Nat} {v : Value} {L : List (Bk × Bool)} {W : List (Int × Bk)} {pk u : Nat} {lv : Value}
theorem RA.base_le (h : RA B w p gl v L W) : B ≤ w.heap.size := Nat.le_trans h.hB.1 (Nat.le_of_lt (blk_lt h.hp))
theorem RA.rb (h : RA B w p gl v L W) : ∀ k, rfoot p gl v k → ∀ cs t, w.heap[k]? = some (.cells cs t (0, 0)) → t ≠ 38 ∧ t ≠ 5 := fun k hk cs t hc =>
  ⟨fun e => h.far (t := t) hc (by rw [e]; decide) hk, fun e => h.far (t := t) hc (by rw [e]; decide) hk⟩
theorem RA.not_k (h : RA B w p gl v L W) (hj : KBk w pk p lv u) : ¬ rfoot p gl v pk := h.far hj (by decide)
theorem KBk.mv {F F' : Nat → Prop} (hj : KBk w pk p lv u) (hm : Mv F F' w w') (h : ¬ F pk) : KBk w' pk p lv u := hm.blk hj h
theorem KBk.rb (h : KBk w pk p lv u) : ∀ k, k = pk → ∀ cs t, w.heap[k]? = some (.cells cs t (0, 0)) → t ≠ 38 ∧ t ≠ 5 := fun k hk cs t hc => by
  rw [hk, h] at hc
  injection hc with hc
  injection hc with _ hc
  rw [← hc]
  decide
theorem KBk.put {l : Value} (h : KBk w pk p lv u) : KBk (w.setCell ⟨pk, 1, none⟩ l) pk p l u := by
  unfold KBk at h ⊢
  rw [put_step h]
  exact setRow_heap _ _ _ _ _ _ h
theorem KBk.put2 {u2 : Nat} (h : KBk w pk p lv u) : KBk (w.setCell ⟨pk, 2, none⟩ (.int .i64 u2)) pk p lv u2 := by
  unfold KBk at h ⊢
  rw [put_step h]
  exact setRow_heap _ _ _ _ _ _ h
theorem KBk.grown {B0 : Nat} {ok : Nat → Prop} {rs : List (List Int)} {lv2 : Value} (h : KBk w pk p lv2 u) (hr : RB w B0 ok lv rs) (hg : w.grownBy w' lv.ownBlock) : KBk w' pk p lv2 u :=
  blk_grown h hg (fun e => by
    obtain ⟨inner, ho⟩ := Kd.R_own hr
    obtain ⟨cs, hc⟩ := own_typed ho pk e.symm
    exact (h.rb pk rfl cs _ hc).1 rfl)
theorem rbk_eqz (b : Bk) (d : Nat) (W : World) : (Op.equalIn (d + 2) 45 (.agg b.cs.toArray) (.agg #[.int .u8 0, .int .u8 0, .int .u8 0, .int .u8 0, .int .u8 0, .int .u8 0, .int .u8 0, .int .u8 0, .int .u8 0, .int .u8 0, .int .u8 0, .int .u8 0, .int .u8 0, .int .u8 0, .int .u8 0, .int .u8 0, .int .u8 0, .int .u8 0, .int .u8 0, .int .u8 0, .int .u8 0, .int .u8 0, .int .u8 0, .int .u8 0, .int .u8 0, .int .u8 0, .int .u8 0, .int .u8 0, .int .u8 0, .int .u8 0, .int .u8 0, .int .u8 0, .int .u8 0, .int .u8 0, .int .u8 0, .int .u8 0, .int .u8 0, .int .u8 0, .int .u8 0, .int .u8 0, .int .u8 0, .int .u8 0, .int .u8 0, .int .u8 0, .int .u8 0, .int .u8 0, .int .u8 0, .int .u8 0, .int .u8 0, .int .u8 0, .int .u8 0, .int .u8 0, .int .u8 0, .int .u8 0, .int .u8 0, .int .u8 0, .int .u8 0, .int .u8 0, .int .u8 0, .int .u8 0, .int .u8 0, .int .u8 0, .int .u8 0, .int .u8 0])).run Try.prog W = .ok (decide (b = Bk.z)) W := by
  rw [← z_lit]
  exact rbk_eqi b Bk.z d W
theorem r_Write0 (h : RA B w p gl v L W) (hB : B ≤ w.heap.size) (a : Int) : Calls Try.prog 22 #[.pointer (some ⟨p, 0, none⟩), .int .i64 a, .agg #[.int .u8 0, .int .u8 0, .int .u8 0, .int .u8 0, .int .u8 0, .int .u8 0, .int .u8 0, .int .u8 0, .int .u8 0, .int .u8 0, .int .u8 0, .int .u8 0, .int .u8 0, .int .u8 0, .int .u8 0, .int .u8 0, .int .u8 0, .int .u8 0, .int .u8 0, .int .u8 0, .int .u8 0, .int .u8 0, .int .u8 0, .int .u8 0, .int .u8 0, .int .u8 0, .int .u8 0, .int .u8 0, .int .u8 0, .int .u8 0, .int .u8 0, .int .u8 0, .int .u8 0, .int .u8 0, .int .u8 0, .int .u8 0, .int .u8 0, .int .u8 0, .int .u8 0, .int .u8 0, .int .u8 0, .int .u8 0, .int .u8 0, .int .u8 0, .int .u8 0, .int .u8 0, .int .u8 0, .int .u8 0, .int .u8 0, .int .u8 0, .int .u8 0, .int .u8 0, .int .u8 0, .int .u8 0, .int .u8 0, .int .u8 0, .int .u8 0, .int .u8 0, .int .u8 0, .int .u8 0, .int .u8 0, .int .u8 0, .int .u8 0, .int .u8 0]] w fun e w' => e = .returned (.int .i64 (wrc L W a)) ∧ ∃ v', RA B w' p gl v' L (wrW L W a Bk.z) ∧ Mv (rfoot p gl v) (rfoot p gl v') w w' := by
  rw [← z_lit]
  exact r_Write h hB a Bk.z
theorem k_recordE (h : RA B w p gl v L W) (at_ n : Nat) {n' : Int} (e : n' = (n : Int)) (ha : at_ ≤ 5000) (hn : n ≤ 5000) (hok : ∀ a, okB (rd L W a).1) {r : Option (List Int)} (hr : recP (fAt L W at_) n = r) :
    Calls Try.prog 38 #[.pointer (some ⟨p, 0, none⟩), .int .i64 at_, .int .i64 n'] w fun e w' => ∃ v1, e = .returned (.tuple #[v1, .bool r.isSome]) ∧ (∀ b, r = some b → Kd.R (Kd.int .u8) 5 w' w.heap.size (fun _ => True) v1 b) ∧ Below w.heap.size w w' := by
  subst e
  exact k_record h at_ n ha hn hok hr
set_option maxHeartbeats 4000000 in
set_option maxRecDepth 100000 in
theorem k_Open_nil : Calls Try.prog 13 #[.pointer none] w fun e w' => e = .returned (.tuple #[.pointer none, .int .i64 2]) ∧ Below w.heap.size w w' := by
  go_enter Try.func13, Try.ntmps13
  go_wp2_with fail
  go_ret2
  exact ⟨rfl, Below.refl _ _⟩
set_option maxHeartbeats 16000000 in
set_option maxRecDepth 100000 in
theorem k_Open (h : RA B w p gl v L W) (hok : ∀ a, okB (rd L W a).1) :
    Calls Try.prog 13 #[.pointer (some ⟨p, 0, none⟩)] w fun e w' => ∃ pk lv v', e = .returned (.tuple #[if (wipeR L W (usum (recs L W))).1 = 0 then .pointer (some ⟨pk, 0, none⟩) else .pointer none, .int .i64 (wipeR L W (usum (recs L W))).1]) ∧ RA B w' p gl v' (wipeR L W (usum (recs L W))).2.1 (wipeR L W (usum (recs L W))).2.2 ∧ KBk w' pk p lv (usum (recs L W)) ∧ RB w' w.heap.size (fun k => w.heap.size ≤ k) lv (recs L W) ∧ w.heap.size ≤ pk ∧ Mv (rfoot p gl v) (fun k => rfoot p gl v' k ∨ jf pk lv k) w w' := by
  have hL := h.hL
  obtain ⟨hr1, hr2, hus⟩ := recs_spec hok
  have hlen := scan_le (L := L) (W := W) (L.length + 1) 0 1
  have hlen : (recs L W).length ≤ L.length + 1 := hlen
  obtain ⟨rs, hrs⟩ : ∃ rs, rs = recs L W := ⟨_, rfl⟩
  have hrec : ∀ i, i ≤ rs.length → recP (fAt L W (usum (rs.take i))) (i + 1) = rs[i]? := fun i hi => by
    subst hrs
    by_cases hlt : i < (recs L W).length
    · rw [Nat.add_comm i 1, hr1 i hlt, List.getElem?_eq_getElem hlt]
    · obtain rfl : i = (recs L W).length := by omega
      rw [List.take_length, Nat.add_comm _ 1, hr2, List.getElem?_eq_none (Nat.le_refl _)]
  clear hr1 hr2
  rw [← hrs] at hus hlen ⊢
  obtain ⟨r, hr⟩ : ∃ r, r = wipeR L W (usum rs) := ⟨_, rfl⟩
  rw [← hr]
  unfold wipeR at hr
  obtain ⟨q, hq⟩ : ∃ q, wipeS L (L.length - usum rs) (usum rs) W false = q := ⟨_, rfl⟩
  rw [hq] at hr
  replace hr := Aside0.mk hr
  replace hq := Aside0.mk hq
  replace hrec := Aside0.mk hrec
  replace hok := Aside0.mk hok
  have HS := Aside0.mk h
  clear h hrs
  go_enter Try.func13, Try.ntmps13
  go_wp2_with fail
  have hb1 := below_alloc (Below.refl w.heap.size w) (.cells #[.pointer (some ⟨p, 0, none⟩), .slice none 0 0, .int .i64 0] 52)
  have k0 := blk_new w (.cells #[.pointer (some ⟨p, 0, none⟩), .slice none 0 0, .int .i64 0] 52)
  obtain ⟨pk, hpk⟩ : ∃ pk, pk = w.heap.size := ⟨_, rfl⟩
  rw [← hpk] at k0 ⊢
  have HB := Aside0.mk hb1
  have HK := Aside0.mk (show KBk (w.alloc (.cells #[.pointer (some ⟨p, 0, none⟩), .slice none 0 0, .int .i64 0] 52)) pk p (.slice none 0 0) (usum (rs.take 0)) from k0)
  have Hge := Aside0.mk (Nat.le_of_eq hpk.symm)
  clear hb1 k0 hpk
  generalize w.alloc (.cells #[.pointer (some ⟨p, 0, none⟩), .slice none 0 0, .int .i64 0] 52) = w1 at HB HK ⊢
  go_loopw [5] (fun x wr => ∃ (i : Nat) (lv : Value), i ≤ rs.length ∧ Aside0 (KBk wr pk p lv (usum (rs.take i))) ∧ Aside0 (RB wr w.heap.size (fun k => w.heap.size ≤ k) lv (rs.take i)) ∧ Aside0 (Below w.heap.size w wr)) (fun x wr => L.length + 1 - (intOf ((wr.cell? ⟨pk, 2, none⟩).getD undef)).toNat)
  case atStart => exact ⟨0, .slice none 0 0, Nat.zero_le _, HK, ⟨Kd.R_nil _ _ _ _ _⟩, HB⟩
  case round =>
    clear HB HK
    obtain ⟨i, lv, hi, HK, HR, HB⟩ := hrel
    rename World => wo
    obtain ⟨Al, cl, hAl⟩ := Kd.R_slice HR.out
    subst hAl
    have hli : (rs.take i).length = i := by rw [List.length_take]; omega
    rw [hli] at HK HR
    have hutk := usum_take rs i
    have hrn := hrec.out i hi
    obtain ⟨u, hu⟩ : ∃ u, u = usum (rs.take i) := ⟨_, rfl⟩
    rw [← hu] at HK hutk hrn
    obtain ⟨r0, hr0⟩ : ∃ r0, r0 = rs[i]? := ⟨_, rfl⟩
    rw [← hr0] at hrn
    have hrn := Aside0.mk hrn
    replace hr0 := Aside0.mk hr0
    replace hu := Aside0.mk hu
    have hwn := Aside0.mk (show wrap64 ((i : Int) + 1) = ((i + 1 : Nat) : Int) by unfold wrap64; omega)
    have hne := Aside0.mk (show ∀ k, (Value.slice Al i cl).ownBlock = some k → k < wo.heap.size from fun k hk => by obtain ⟨inner, ho⟩ := Kd.R_own HR.out; exact own_lt ho k hk)
    have mc0 := Aside0.mk (show wo.cell? ⟨pk, 2, none⟩ = some (.int .i64 u) from (blk_cell HK.out 2).trans rfl)
    have HBo := Aside0.mk (Below.refl wo.heap.size wo)
    have HBs := Aside0.mk HB.out.size
    go_wp2_with fail
    have n_HK := Aside0.mk (KBk.below HK.out (below_drew (Below.refl _ _)))
    have n_HR := Aside0.mk (Kd.R_below HR.out (below_drew (Below.refl _ _)))
    have n_HB := Aside0.mk (below_step HB.out (below_drew (Below.refl _ _)))
    have n_HBo := Aside0.mk (below_step HBo.out (below_drew (Below.refl _ _)))
    clear HK
    have HK := n_HK
    clear n_HK
    clear HR
    have HR := n_HR
    clear n_HR
    clear HB
    have HB := n_HB
    clear n_HB
    clear HBo
    have HBo := n_HBo
    clear n_HBo
    refine start_ (n := 17) (S := fun w' => w'.cell? ⟨pk, 1, none⟩ = some (.slice Al i cl) ∧ w'.cell? ⟨pk, 2, none⟩ = some (.int .i64 u)) (ds := []) #[false, false, false, false, false, false, false, false, false, false, false, false, false, false, false, false, false] (by kernel_rfl) rfl rfl ⟨(blk_cell HK.out 1).trans rfl, (blk_cell HK.out 2).trans rfl⟩ (fun hHeld => ?_)
    generalize wo.drew = w2 at HK HR HB HBo hHeld ⊢
    refine pure_ (i := 0) (N := some 18) (v := ?_) (a' := ?_) #[true, false, false, false, false, false, false, false, false, false, false, false, false, false, false, false, false] rfl rfl (by kernel_rfl) (fun _ _ _ h => h) (Or.inl ⟨by rfl, ?_⟩) ?_ ?_
    rotate_left
    · intro w'
      go_simp
      with_reducible rfl
    rotate_left
    · simp only [Act.put, List.setIfInBounds_toArray, List.set_cons_zero, List.set_cons_succ, i64_w, i32_w]
      rfl
    refine pure_ (i := 1) (N := some 19) (v := ?_) (a' := ?_) #[true, true, false, false, false, false, false, false, false, false, false, false, false, false, false, false, false] rfl rfl (by kernel_rfl) (fun _ _ _ h => h) (Or.inl ⟨by rfl, ?_⟩) ?_ ?_
    rotate_left
    · intro w'
      go_simp
      with_reducible rfl
    rotate_left
    · simp only [Act.put, List.setIfInBounds_toArray, List.set_cons_zero, List.set_cons_succ, i64_w, i32_w]
      rfl
    refine pure_ (i := 2) (N := some 20) (v := ?_) (a' := ?_) #[true, true, true, false, false, false, false, false, false, false, false, false, false, false, false, false, false] rfl rfl (by kernel_rfl) (fun _ _ _ h => h) (Or.inl ⟨by rfl, ?_⟩) ?_ ?_
    rotate_left
    · intro w'
      go_simp
      with_reducible rfl
    rotate_left
    · simp only [Act.put, List.setIfInBounds_toArray, List.set_cons_zero, List.set_cons_succ, i64_w, i32_w]
      rfl
    refine pure_ (i := 3) (N := some 21) (v := ?_) (a' := ?_) #[true, true, true, true, false, false, false, false, false, false, false, false, false, false, false, false, false] rfl rfl (by kernel_rfl) (fun _ _ _ h => h) (Or.inl ⟨by rfl, ?_⟩) ?_ ?_
    rotate_left
    · intro w'
      go_simp
      with_reducible rfl
    rotate_left
    · simp only [Act.put, List.setIfInBounds_toArray, List.set_cons_zero, List.set_cons_succ, i64_w, i32_w]
      rfl
    refine pure_ (i := 5) (N := some 23) (v := ?_) (a' := ?_) #[true, true, true, true, false, true, false, false, false, false, false, false, false, false, false, false, false] rfl rfl (by kernel_rfl) (fun _ _ _ h => h) (Or.inl ⟨by rfl, ?_⟩) ?_ ?_
    rotate_left
    · intro w'
      go_simp
      with_reducible rfl
    rotate_left
    · simp only [Act.put, List.setIfInBounds_toArray, List.set_cons_zero, List.set_cons_succ, i64_w, i32_w]
      rfl
    refine pure_ (i := 6) (N := some 24) (v := ?_) (a' := ?_) #[true, true, true, true, false, true, true, false, false, false, false, false, false, false, false, false, false] rfl rfl (by kernel_rfl) (fun _ _ _ h => h) (Or.inl ⟨by rfl, ?_⟩) ?_ ?_
    rotate_left
    · intro w'
      go_simp
      with_reducible rfl
    rotate_left
    · simp only [Act.put, List.setIfInBounds_toArray, List.set_cons_zero, List.set_cons_succ, i64_w, i32_w]
      rfl
    refine pure_ (i := 7) (N := some 25) (v := ?_) (a' := ?_) #[true, true, true, true, false, true, true, true, false, false, false, false, false, false, false, false, false] rfl rfl (by kernel_rfl) (fun _ _ _ h => h) (Or.inl ⟨by rfl, ?_⟩) ?_ ?_
    rotate_left
    · intro w'
      go_simp
      with_reducible rfl
    rotate_left
    · simp only [Act.put, List.setIfInBounds_toArray, List.set_cons_zero, List.set_cons_succ, i64_w, i32_w]
      rfl
    refine take_ (i := 4) (N := some 22) (v := ?_) (a' := ?_) #[true, true, true, true, true, true, true, true, false, false, false, false, false, false, false, false, false] rfl rfl (by kernel_rfl) (fun _ _ _ h => h) (Or.inl ⟨by rfl, ?_⟩) hHeld ?_ ?_
    rotate_left
    · rintro w' ⟨s0, s1⟩
      go_simp
      with_reducible rfl
    rotate_left
    · simp only [Act.put, List.setIfInBounds_toArray, List.set_cons_zero, List.set_cons_succ, i64_w, i32_w]
      rfl
    refine take_ (i := 8) (N := some 26) (v := ?_) (a' := ?_) #[true, true, true, true, true, true, true, true, true, false, false, false, false, false, false, false, false] rfl rfl (by kernel_rfl) (fun _ _ _ h => h) (Or.inl ⟨by rfl, ?_⟩) hHeld ?_ ?_
    rotate_left
    · rintro w' ⟨s0, s1⟩
      go_simp
      with_reducible rfl
    rotate_left
    · simp only [Act.put, List.setIfInBounds_toArray, List.set_cons_zero, List.set_cons_succ, i64_w, i32_w]
      rfl
    refine pure_ (i := 9) (N := some 27) (v := ?_) (a' := ?_) #[true, true, true, true, true, true, true, true, true, true, false, false, false, false, false, false, false] rfl rfl (by kernel_rfl) (fun _ _ _ h => h) (Or.inl ⟨by rfl, ?_⟩) ?_ ?_
    rotate_left
    · intro w'
      go_simp
      with_reducible rfl
    rotate_left
    · simp only [Act.put, List.setIfInBounds_toArray, List.set_cons_zero, List.set_cons_succ, i64_w, i32_w]
      rfl
    refine pure_ (i := 10) (N := some 28) (v := ?_) (a' := ?_) #[true, true, true, true, true, true, true, true, true, true, true, false, false, false, false, false, false] rfl rfl (by kernel_rfl) (fun _ _ _ h => h) (Or.inl ⟨by rfl, ?_⟩) ?_ ?_
    rotate_left
    · intro w'
      go_simp
      with_reducible rfl
    rotate_left
    · simp only [Act.put, List.setIfInBounds_toArray, List.set_cons_zero, List.set_cons_succ, i64_w, i32_w]
      rfl
    refine one_ (i := 11) (N := some 29) #[true, true, true, true, true, true, true, true, true, true, true, true, false, false, false, false, false] rfl rfl (by kernel_rfl) (by decide) (fun K hK => ?_)
    refine goes_ Try.func38 (by kernel_rfl) rfl #[.pointer (some ⟨p, 0, none⟩), .int .i64 u, .int .i64 (wrap64 ((i : Int) + 1))] (by rfl) rfl rfl (by (try simp only [List.map_toArray, List.map_cons, List.map_nil]); first | done | rfl) ?_
    with_reducible refine (k_recordE (HS.out.below HB.out) u (i + 1) hwn.out (by omega) (by omega) hok.out hrn.out).mono ?_
    rintro e y1_ ⟨v1, rfl, hR, hb⟩
    refine ⟨_, rfl, ?_⟩
    have m_RR := Aside0.mk (fun b h => Kd.R_lower (hR b h) HBo.out.size)
    have n_HK := Aside0.mk (KBk.below HK.out hb)
    have n_HR := Aside0.mk (Kd.R_below HR.out hb)
    have n_HB := Aside0.mk (below_step HB.out hb)
    have n_HBo := Aside0.mk (below_step HBo.out hb)
    clear HK
    have HK := n_HK
    clear n_HK
    clear HR
    have HR := n_HR
    clear n_HR
    clear HB
    have HB := n_HB
    clear n_HB
    clear HBo
    have HBo := n_HBo
    clear n_HBo
    clear hb
    have RR := m_RR
    clear m_RR
    clear hR
    refine hK.out _ _ ⟨(blk_cell HK.out 1).trans rfl, (blk_cell HK.out 2).trans rfl⟩ (fun hHeld => ?_)
    clear hK K
    refine norm_ (a' := ?_) ?_ ?_
    rotate_left
    · show Act.put _ (some 29) _ = _
      simp only [Act.put, List.setIfInBounds_toArray, List.set_cons_zero, List.set_cons_succ, i64_w, i32_w]
      rfl
    refine pure_ (i := 12) (N := some 17) (v := ?_) (a' := ?_) #[true, true, true, true, true, true, true, true, true, true, true, true, true, false, false, false, false] rfl rfl (by kernel_rfl) (fun _ _ _ h => h) (Or.inl ⟨by rfl, ?_⟩) ?_ ?_
    rotate_left
    · intro w'
      go_simp
      with_reducible rfl
    rotate_left
    · simp only [Act.put, List.setIfInBounds_toArray, List.set_cons_zero, List.set_cons_succ, i64_w, i32_w]
      rfl
    refine pure_ (i := 13) (N := some 30) (v := ?_) (a' := ?_) #[true, true, true, true, true, true, true, true, true, true, true, true, true, true, false, false, false] rfl rfl (by kernel_rfl) (fun _ _ _ h => h) (Or.inl ⟨by rfl, ?_⟩) ?_ ?_
    rotate_left
    · intro w'
      go_simp
      with_reducible rfl
    rotate_left
    · simp only [Act.put, List.setIfInBounds_toArray, List.set_cons_zero, List.set_cons_succ, i64_w, i32_w]
      rfl
    refine pure_ (i := 14) (N := some 31) (v := ?_) (a' := ?_) #[true, true, true, true, true, true, true, true, true, true, true, true, true, true, true, false, false] rfl rfl (by kernel_rfl) (fun _ _ _ h => h) (Or.inl ⟨by rfl, ?_⟩) ?_ ?_
    rotate_left
    · intro w'
      go_simp
      with_reducible rfl
    rotate_left
    · simp only [Act.put, List.setIfInBounds_toArray, List.set_cons_zero, List.set_cons_succ, i64_w, i32_w]
      rfl
    refine pure_ (i := 15) (N := some 5) (v := ?_) (a' := ?_) #[true, true, true, true, true, true, true, true, true, true, true, true, true, true, true, true, false] rfl rfl (by kernel_rfl) (fun _ _ _ h => h) (Or.inl ⟨by rfl, ?_⟩) ?_ ?_
    rotate_left
    · intro w'
      go_simp
      with_reducible rfl
    rotate_left
    · simp only [Act.put, List.setIfInBounds_toArray, List.set_cons_zero, List.set_cons_succ, i64_w, i32_w]
      rfl
    refine pure_ (i := 16) (N := some 6) (v := ?_) (a' := ?_) #[true, true, true, true, true, true, true, true, true, true, true, true, true, true, true, true, true] rfl rfl (by kernel_rfl) (fun _ _ _ h => h) (Or.inl ⟨by rfl, ?_⟩) ?_ ?_
    rotate_left
    · intro w'
      go_simp
      with_reducible rfl
    rotate_left
    · simp only [Act.put, List.setIfInBounds_toArray, List.set_cons_zero, List.set_cons_succ, i64_w, i32_w]
      rfl
    refine done_ (by kernel_rfl) ?_
    clear hHeld
    generalize y1_ = w3 at HK HR HB HBo RR ⊢
    cases r0 with
    | none =>
      have hn1 : (none : Option (List Int)).isSome = false := rfl
      rw [hn1]
      obtain rfl : i = rs.length := by have := List.getElem?_eq_none_iff.1 hr0.out.symm; omega
      have hu2 := hu.out
      rw [List.take_length] at HR hu2
      rw [← hu2] at hus hq
      replace hu2 := Aside0.mk hu2
      clear RR hrn hne HBo hwn mc0
      have c2 : w3.cell? ⟨pk, 2, none⟩ = some (.int .i64 u) := (blk_cell HK.out 2).trans rfl
      go_wp2_with fail
      clear c2
      have HS3 := Aside0.mk (HS.out.below HB.out)
      have HM3 := Aside0.mk (Mv.of_below (F := rfoot p gl v) HB.out)
      have HBz := Aside0.mk HB.out.size
      go_loopw [7, 8] (fun x y wr => ∃ (i : Nat) (any : Bool) (Wi : List (Int × Bk)) (vi : Value), u ≤ i ∧ i ≤ L.length ∧ x = .bool any ∧ y = .int .i64 i ∧ Aside0 (RA B wr p gl vi L Wi) ∧ Aside0 (KBk wr pk p (.slice Al rs.length cl) u) ∧ Aside0 (RB wr w.heap.size (fun k => w.heap.size ≤ k) (.slice Al rs.length cl) rs) ∧ Aside0 (Mv (rfoot p gl v) (rfoot p gl vi) w wr) ∧ Aside0 (wipeS L (L.length - i) i Wi any = q)) (fun _ y _ => (L.length : Nat) - (intOf y).toNat)
      case atStart => exact ⟨u, false, W, v, Nat.le_refl _, hus, rfl, rfl, HS3, HK, HR, HM3, hq⟩
      case round =>
        clear HS HS3 HK HR HM3 hq HB
        obtain ⟨i, any, Wi, vi, hui, hil, rfl, rfl, HS, HK, HR, HM, HQ⟩ := hrel
        have c0 : wr.cell? ⟨p, 0, none⟩ = some (.slice (some ⟨gl, 0, none⟩) L.length L.length) := (blk_cell HS.out.hp 0).trans rfl
        by_cases hlt : i < L.length
        case neg =>
          obtain rfl : i = L.length := by omega
          have hq : q = (0, Wi, any) := by rw [← HQ.out, Nat.sub_self]; rfl
          subst hq
          clear HQ
          cases any
          case false =>
            obtain rfl : r = (0, L, Wi) := hr.out
            clear hr
            have HMw := (HM.out).weaken (F1 := rfoot p gl v) (F1' := fun k => rfoot p gl vi k ∨ jf pk (.slice Al rs.length cl) k) (fun k hk => hk) (fun k hk => by
              rcases hk with hk | hk | hk
              · exact HM.out.foot k hk
              · exact .inr (by have := Hge.out; omega)
              · exact .inr (HR.out.1 k hk))
            go_wp2_with fail
            go_ret2
            first | exact ⟨pk, rfl, _, vi, HS.out, (by rw [← hu2.out]; exact HK.out), HR.out, Hge.out, HMw⟩ | exact ⟨rfl, pk, _, vi, HS.out, (by rw [← hu2.out]; exact HK.out), HR.out, Hge.out, HMw⟩ | exact ⟨pk, _, vi, rfl, HS.out, (by rw [← hu2.out]; exact HK.out), HR.out, Hge.out, HMw⟩ | exact ⟨_, rfl, _, _, HS.out, (by rw [← hu2.out]; exact HK.out), HR.out, Hge.out, HMw⟩
          case true =>
            obtain rfl : r = (0, setl (fun _ => 1) 0 Wi L, []) := hr.out
            clear hr
            go_wp2_with fail
            refine (r_Sync HS.out).mono ?_
            rintro e w4 ⟨rfl, hs, hm⟩
            have HS4 := Aside0.mk hs
            have HK4 := Aside0.mk (HK.out.mv hm (HS.out.not_k HK.out))
            have HR4 := Aside0.mk (RB.mv HR.out hm HS.out.rb)
            have HM4 := Aside0.mk (HM.out.trans hm)
            clear hs hm HS HK HR HM c0
            have HMw := (HM4.out).weaken (F1 := rfoot p gl v) (F1' := fun k => rfoot p gl (.slice none 0 0) k ∨ jf pk (.slice Al rs.length cl) k) (fun k hk => hk) (fun k hk => by
              rcases hk with hk | hk | hk
              · exact HM4.out.foot k hk
              · exact .inr (by have := Hge.out; omega)
              · exact .inr (HR4.out.1 k hk))
            go_wp2_with fail
            go_ret2
            first | exact ⟨pk, rfl, _, _, HS4.out, (by rw [← hu2.out]; exact HK4.out), HR4.out, Hge.out, HMw⟩ | exact ⟨rfl, pk, _, _, HS4.out, (by rw [← hu2.out]; exact HK4.out), HR4.out, Hge.out, HMw⟩ | exact ⟨pk, _, _, rfl, HS4.out, (by rw [← hu2.out]; exact HK4.out), HR4.out, Hge.out, HMw⟩ | exact ⟨_, rfl, _, _, HS4.out, (by rw [← hu2.out]; exact HK4.out), HR4.out, Hge.out, HMw⟩
        obtain ⟨m, hm⟩ : ∃ m, L.length - i = m + 1 := ⟨L.length - i - 1, by omega⟩
        have hm2 : L.length - (i + 1) = m := by omega
        have hq := HQ.out
        rw [hm, wipeS] at hq
        replace HQ := Aside0.mk hq
        have hm2 := Aside0.mk hm2
        clear hq hm
        go_wp2_with fail
        with_reducible refine (r_Read HS.out _).mono ?_
        rintro e w4 ⟨rfl, hb⟩
        obtain ⟨x, hx⟩ : ∃ x, x = rd L Wi (i : Int) := ⟨_, rfl⟩
        rw [← hx] at HQ ⊢
        clear hx
        obtain ⟨b, c⟩ := x
        have HS2 := Aside0.mk (HS.out.below hb)
        have HK2 := Aside0.mk (HK.out.below hb)
        have HR2 := Aside0.mk (show RB w4 w.heap.size (fun k => w.heap.size ≤ k) (.slice Al rs.length cl) rs from Kd.R_below HR.out hb)
        have HM2 := Aside0.mk (HM.out.trans (Mv.of_below hb))
        clear hb HS HK HR HM c0
        go_wp2_with ((with_reducible refine gate_store (t := 45) (p := 9) (v := .tmp 71) rfl ?_); refine Shut.out ?_)
        unfold Shut
        change wpList _ _ _ _ _ (w4.alloc (.cells Bk.z.cs.toArray 45))
        obtain ⟨hnb, hnk⟩ := newbk w4 Bk.z.cs.toArray b.cs.toArray 45
        refine wpl_stbk 45 _ _ w4.heap.size b 45 Bk.z rfl rfl rfl rfl rfl (blk_new w4 _) rbk_info ?_
        have HS3 := Aside0.mk (HS2.out.below hnb)
        have HK3 := Aside0.mk (HK2.out.below hnb)
        have HR3 := Aside0.mk (show RB _ w.heap.size (fun k => w.heap.size ≤ k) (.slice Al rs.length cl) rs from Kd.R_below HR2.out hnb)
        have HM3 := Aside0.mk (HM2.out.trans (Mv.of_below hnb))
        have BK9 := Aside0.mk hnk
        clear hnb hnk HS2 HK2 HR2 HM2
        generalize (w4.alloc (.cells Bk.z.cs.toArray 45)).setRow w4.heap.size b.cs.toArray = w5 at HS3 HK3 HR3 HM3 BK9 ⊢
        generalize w4.heap.size = g9 at BK9 ⊢
        have heq := fun d W => rbk_eqz b d W
        by_cases hc : c = 0
        case pos =>
          subst hc
          have hc1 : ((0 : Int) == 0) = true := rfl
          by_cases hbz2 : b = Bk.z
          case pos =>
            have hd : decide (b = Bk.z) = true := by simpa using hbz2
            have hq := HQ.out
            rw [if_pos (by rw [hbz2])] at hq
            clear hbz2
            replace HQ := Aside0.mk hq
            clear hq
            go_wp2_with ((with_reducible refine gate_dst (N := 76) rfl ?_); refine gate_guard rfl ?_; refine wpl_ldbk2 45 _ g9 b 45 (0, 0) _ _ rfl rfl rfl BK9.out rbk_und rbk_info ?_)
            go_roundw
            case rel => exact ⟨i + 1, any, Wi, vi, by omega, by omega, rfl, by go_num, HS3, HK3, HR3, HM3, ⟨by rw [hm2.out]; exact HQ.out⟩⟩
            case measure => simp [intOf]; omega
          have hd : decide (b = Bk.z) = false := by simpa using hbz2
          have hq := HQ.out
          rw [if_neg (fun e => hbz2 (congrArg Prod.fst e))] at hq
          clear hbz2
          replace HQ := Aside0.mk hq
          clear hq
          go_wp2_with ((with_reducible refine gate_dst (N := 76) rfl ?_); refine gate_guard rfl ?_; refine wpl_ldbk2 45 _ g9 b 45 (0, 0) _ _ rfl rfl rfl BK9.out rbk_und rbk_info ?_)
          clear heq BK9
          refine (r_Write0 HS3.out HS3.out.base_le i).mono ?_
          rintro e w6 ⟨rfl, v4, hs, hmv⟩
          have HS4 := Aside0.mk hs
          have HK4 := Aside0.mk (HK3.out.mv hmv (HS3.out.not_k HK3.out))
          have HR4 := Aside0.mk (RB.mv HR3.out hmv HS3.out.rb)
          have HM4 := Aside0.mk (HM3.out.trans hmv)
          clear hs hmv HS3 HK3 HR3 HM3
          have hwW : wrW L Wi i Bk.z = if wrc L Wi i = 0 then Wi ++ [((i : Int), Bk.z)] else Wi := rfl
          rw [hwW] at HS4
          generalize wrc L Wi (i : Int) = er at HQ HS4 ⊢
          clear hwW
          by_cases h0 : er = 0
          case pos =>
            subst h0
            have hq := HQ.out
            rw [if_pos rfl] at hq
            replace HQ := Aside0.mk hq
            rw [if_pos rfl] at HS4
            clear hq
            go_wp2_with fail
            go_roundw
            case rel => exact ⟨i + 1, true, _, v4, by omega, by omega, rfl, by go_num, HS4, HK4, HR4, HM4, ⟨by rw [hm2.out]; exact HQ.out⟩⟩
            case measure => simp [intOf]; omega
          have h1 : (er != 0) = true := by simpa using h0
          have h2 : (er == 0) = false := by simpa using h0
          have hq := HQ.out
          rw [if_neg h0] at hq
          subst hq
          rw [if_neg h0] at HS4
          obtain rfl : r = (er, L, Wi) := by rw [hr.out, if_pos h0]
          clear hr HQ
          have HMw := (HM4.out).weaken (F1 := rfoot p gl v) (F1' := fun k => rfoot p gl v4 k ∨ jf pk (.slice Al rs.length cl) k) (fun k hk => hk) (fun k hk => by
            rcases hk with hk | hk | hk
            · exact HM4.out.foot k hk
            · exact .inr (by have := Hge.out; omega)
            · exact .inr (HR4.out.1 k hk))
          have i1 : (if er = 0 then Value.pointer (some ⟨pk, 0, none⟩) else Value.pointer none) = Value.pointer none := if_neg h0
          go_wp2_with fail
          go_ret2
          simp only [i1]
          first | exact ⟨pk, rfl, _, v4, HS4.out, (by rw [← hu2.out]; exact HK4.out), HR4.out, Hge.out, HMw⟩ | exact ⟨rfl, pk, _, v4, HS4.out, (by rw [← hu2.out]; exact HK4.out), HR4.out, Hge.out, HMw⟩ | exact ⟨pk, _, v4, rfl, HS4.out, (by rw [← hu2.out]; exact HK4.out), HR4.out, Hge.out, HMw⟩ | exact ⟨_, rfl, _, _, HS4.out, (by rw [← hu2.out]; exact HK4.out), HR4.out, Hge.out, HMw⟩
        have hc1 : (c == 0) = false := by simpa using hc
        have hq := HQ.out
        rw [if_neg (fun e => hc (congrArg Prod.snd e))] at hq
        replace HQ := Aside0.mk hq
        clear hq
        go_wp2_with fail
        clear heq BK9
        refine (r_Write0 HS3.out HS3.out.base_le i).mono ?_
        rintro e w6 ⟨rfl, v4, hs, hmv⟩
        have HS4 := Aside0.mk hs
        have HK4 := Aside0.mk (HK3.out.mv hmv (HS3.out.not_k HK3.out))
        have HR4 := Aside0.mk (RB.mv HR3.out hmv HS3.out.rb)
        have HM4 := Aside0.mk (HM3.out.trans hmv)
        clear hs hmv HS3 HK3 HR3 HM3
        have hwW : wrW L Wi i Bk.z = if wrc L Wi i = 0 then Wi ++ [((i : Int), Bk.z)] else Wi := rfl
        rw [hwW] at HS4
        generalize wrc L Wi (i : Int) = er at HQ HS4 ⊢
        clear hwW
        by_cases h0 : er = 0
        case pos =>
          subst h0
          have hq := HQ.out
          rw [if_pos rfl] at hq
          replace HQ := Aside0.mk hq
          rw [if_pos rfl] at HS4
          clear hq
          go_wp2_with fail
          go_roundw
          case rel => exact ⟨i + 1, true, _, v4, by omega, by omega, rfl, by go_num, HS4, HK4, HR4, HM4, ⟨by rw [hm2.out]; exact HQ.out⟩⟩
          case measure => simp [intOf]; omega
        have h1 : (er != 0) = true := by simpa using h0
        have h2 : (er == 0) = false := by simpa using h0
        have hq := HQ.out
        rw [if_neg h0] at hq
        subst hq
        rw [if_neg h0] at HS4
        obtain rfl : r = (er, L, Wi) := by rw [hr.out, if_pos h0]
        clear hr HQ
        have HMw := (HM4.out).weaken (F1 := rfoot p gl v) (F1' := fun k => rfoot p gl v4 k ∨ jf pk (.slice Al rs.length cl) k) (fun k hk => hk) (fun k hk => by
          rcases hk with hk | hk | hk
          · exact HM4.out.foot k hk
          · exact .inr (by have := Hge.out; omega)
          · exact .inr (HR4.out.1 k hk))
        have i1 : (if er = 0 then Value.pointer (some ⟨pk, 0, none⟩) else Value.pointer none) = Value.pointer none := if_neg h0
        go_wp2_with fail
        go_ret2
        simp only [i1]
        first | exact ⟨pk, rfl, _, v4, HS4.out, (by rw [← hu2.out]; exact HK4.out), HR4.out, Hge.out, HMw⟩ | exact ⟨rfl, pk, _, v4, HS4.out, (by rw [← hu2.out]; exact HK4.out), HR4.out, Hge.out, HMw⟩ | exact ⟨pk, _, v4, rfl, HS4.out, (by rw [← hu2.out]; exact HK4.out), HR4.out, Hge.out, HMw⟩ | exact ⟨_, rfl, _, _, HS4.out, (by rw [← hu2.out]; exact HK4.out), HR4.out, Hge.out, HMw⟩
    | some row =>
      have hn1 : (some row).isSome = true := rfl
      rw [hn1]
      have hlt : i < rs.length := by
        apply Decidable.byContradiction
        intro hh
        have := hr0.out
        rw [List.getElem?_eq_none (by omega)] at this
        cases this
      have hrow : rs[i] = row := by
        have := hr0.out
        rw [List.getElem?_eq_getElem hlt] at this
        exact (Option.some.inj this).symm
      have hrin := recP_in hok.out hrn.out
      have HX := Aside0.mk (RR.out row rfl)
      clear RR hrn
      obtain ⟨A2, c2, hv2⟩ := Kd.R_slice HX.out
      subst hv2
      have hpn : pn row.length ≤ 255 := pn_le (by omega) (by omega)
      have hpp := pn_pos row.length
      have hut1 : usum (rs.take (i + 1)) = u + pn row.length := by rw [usum_step _ _ hlt, hrow, ← hu.out]
      replace hut1 := Aside0.mk hut1
      replace hrow := Aside0.mk hrow
      replace hr0 := Aside0.mk hr0.out
      have c1 : w3.cell? ⟨pk, 1, none⟩ = some (.slice Al i cl) := (blk_cell HK.out 1).trans rfl
      go_wp2_with ((with_reducible refine gate_builtin (b := .append) (xs := #[.tmp 38, .tmp 40]) rfl ?_); refine Shut.out ?_)
      unfold Shut
      change wpList _ _ _ _ _ (w3.alloc (.cells [Value.slice A2 row.length c2].toArray 38))
      have hszo := HBo.out.size
      have hszs := HBs.out
      refine Kd.R_append (w0 := w) (Kd.slice 5 (Kd.int .u8)) w.heap.size rfl (.tmp 38) (.tmp 40) 50 38 (.slice none 0 0) 24 rfl lb_und by_info rfl (by show 0 < 1; omega) (by omega) _ (rs.take i) row [Value.slice A2 row.length c2] (fun k => w.heap.size ≤ k) (fun k => wo.heap.size ≤ k) rfl rfl ?_ ?_ (fun k hk => by omega) HR.out HB.out (by omega) ?_ ?_
      · exact ⟨_, rfl, Kd.R_lower (Kd.R_mono (Kd.R_bound HX.out) (fun k hk => hk.2.1)) hszs⟩
      · exact fun k hk => ⟨by omega, fun e => by have := hne.out k e.symm; omega⟩
      · rw [List.length_take]; omega
      intro v9 w9 hR hb hg hat
      have HK9 := Aside0.mk (HK.out.grown HR.out hg)
      have HR9 := Aside0.mk (show RB w9 w.heap.size (fun k => w.heap.size ≤ k) v9 (rs.take (i + 1)) by rw [List.take_succ_eq_append_getElem hlt, hrow.out]; exact hR)
      have HB9 := Aside0.mk hb
      clear hR hb hg hat HR HB HK HBo HX c1 hszo hne
      have c1 : w9.cell? ⟨pk, 1, none⟩ = some (.slice Al i cl) := (blk_cell HK9.out 1).trans rfl
      have kf := blk_frozen HK9.out 1
      obtain ⟨A9, c9, hv9⟩ := Kd.R_slice HR9.out
      have hl9 : (rs.take (i + 1)).length = i + 1 := by rw [List.length_take]; omega
      rw [hl9] at hv9
      subst hv9
      clear hl9
      go_wp2_with fail
      have HK := Aside0.mk (HK9.out.put (l := .slice A9 (i + 1) c9))
      have HR := Aside0.mk (RB.mv HR9.out (Mv.cell (F := fun k => k = pk) w9 ⟨pk, 1, none⟩ rfl (.slice A9 (i + 1) c9)) HK9.out.rb)
      have HB := Aside0.mk (show Below w.heap.size w (w9.setCell ⟨pk, 1, none⟩ (.slice A9 (i + 1) c9)) from HB9.out.setCell Hge.out _)
      clear HK9 HR9 HB9 c1 kf
      generalize w9.setCell ⟨pk, 1, none⟩ (.slice A9 (i + 1) c9) = w10 at HK HR HB ⊢
      have n_HK := Aside0.mk (KBk.below HK.out (below_drew (Below.refl _ _)))
      have n_HR := Aside0.mk (Kd.R_below HR.out (below_drew (Below.refl _ _)))
      have n_HB := Aside0.mk (below_step HB.out (below_drew (Below.refl _ _)))
      clear HK
      have HK := n_HK
      clear n_HK
      clear HR
      have HR := n_HR
      clear n_HR
      clear HB
      have HB := n_HB
      clear n_HB
      refine start_ (n := 11) (S := fun w' => w'.cell? ⟨pk, 2, none⟩ = some (.int .i64 u)) (ds := [10]) #[false, false, false, false, false, false, false, false, false, false, false] (by kernel_rfl) rfl rfl ((blk_cell HK.out 2).trans rfl) (fun hHeld => ?_)
      generalize w10.drew = w11 at HK HR HB hHeld ⊢
      refine pure_ (i := 0) (N := some 44) (v := ?_) (a' := ?_) #[true, false, false, false, false, false, false, false, false, false, false] rfl rfl (by kernel_rfl) (fun _ _ _ h => h) (Or.inl ⟨by rfl, ?_⟩) ?_ ?_
      rotate_left
      · intro w'
        go_simp
        with_reducible rfl
      rotate_left
      · simp only [Act.put, List.setIfInBounds_toArray, List.set_cons_zero, List.set_cons_succ, i64_w, i32_w]
        rfl
      refine pure_ (i := 1) (N := some 45) (v := ?_) (a' := ?_) #[true, true, false, false, false, false, false, false, false, false, false] rfl rfl (by kernel_rfl) (fun _ _ _ h => h) (Or.inl ⟨by rfl, ?_⟩) ?_ ?_
      rotate_left
      · intro w'
        go_simp
        with_reducible rfl
      rotate_left
      · simp only [Act.put, List.setIfInBounds_toArray, List.set_cons_zero, List.set_cons_succ, i64_w, i32_w]
        rfl
      refine pure_ (i := 2) (N := some 46) (v := ?_) (a' := ?_) #[true, true, true, false, false, false, false, false, false, false, false] rfl rfl (by kernel_rfl) (fun _ _ _ h => h) (Or.inl ⟨by rfl, ?_⟩) ?_ ?_
      rotate_left
      · intro w'
        go_simp
        with_reducible rfl
      rotate_left
      · simp only [Act.put, List.setIfInBounds_toArray, List.set_cons_zero, List.set_cons_succ, i64_w, i32_w]
        rfl
      refine pure_ (i := 4) (N := some 48) (v := ?_) (a' := ?_) #[true, true, true, false, true, false, false, false, false, false, false] rfl rfl (by kernel_rfl) (fun _ _ _ h => h) (Or.inl ⟨by rfl, ?_⟩) ?_ ?_
      rotate_left
      · intro w'
        go_simp
        with_reducible rfl
      rotate_left
      · simp only [Act.put, List.setIfInBounds_toArray, List.set_cons_zero, List.set_cons_succ, i64_w, i32_w]
        rfl
      refine pure_ (i := 5) (N := some 49) (v := ?_) (a' := ?_) #[true, true, true, false, true, true, false, false, false, false, false] rfl rfl (by kernel_rfl) (fun _ _ _ h => h) (Or.inl ⟨by rfl, ?_⟩) ?_ ?_
      rotate_left
      · intro w'
        go_simp
        with_reducible rfl
      rotate_left
      · simp only [Act.put, List.setIfInBounds_toArray, List.set_cons_zero, List.set_cons_succ, i64_w, i32_w]
        rfl
      refine take_ (i := 3) (N := some 47) (v := ?_) (a' := ?_) #[true, true, true, true, true, true, false, false, false, false, false] rfl rfl (by kernel_rfl) (fun _ _ _ h => h) (Or.inl ⟨by rfl, ?_⟩) hHeld ?_ ?_
      rotate_left
      · intro w' s0
        go_simp
        with_reducible rfl
      rotate_left
      · simp only [Act.put, List.setIfInBounds_toArray, List.set_cons_zero, List.set_cons_succ, i64_w, i32_w]
        rfl
      refine one_ (i := 6) (N := some 50) #[true, true, true, true, true, true, true, false, false, false, false] rfl rfl (by kernel_rfl) (by decide) (fun K hK => ?_)
      refine goes_ Try.func39 (by kernel_rfl) rfl #[.int .i64 row.length] (by rfl) rfl rfl (by (try simp only [List.map_toArray, List.map_cons, List.map_nil]); first | done | rfl) ?_
      with_reducible refine (k_parts row.length (by omega)).mono ?_
      rintro e y2_ ⟨rfl, hb⟩
      refine ⟨_, rfl, ?_⟩
      have n_HK := Aside0.mk (KBk.below HK.out hb)
      have n_HR := Aside0.mk (Kd.R_below HR.out hb)
      have n_HB := Aside0.mk (below_step HB.out hb)
      clear HK
      have HK := n_HK
      clear n_HK
      clear HR
      have HR := n_HR
      clear n_HR
      clear HB
      have HB := n_HB
      clear n_HB
      clear hb
      refine hK.out _ _ ((blk_cell HK.out 2).trans rfl) (fun hHeld => ?_)
      clear hK K
      refine norm_ (a' := ?_) ?_ ?_
      rotate_left
      · show Act.put _ (some 50) _ = _
        simp only [Act.put, List.setIfInBounds_toArray, List.set_cons_zero, List.set_cons_succ, i64_w, i32_w]
        rfl
      refine pure_ (i := 7) (N := some 51) (v := ?_) (a' := ?_) #[true, true, true, true, true, true, true, true, false, false, false] rfl rfl (by kernel_rfl) (fun _ _ _ h => h) (Or.inl ⟨by rfl, ?_⟩) ?_ ?_
      rotate_left
      · intro w'
        go_simp
        with_reducible rfl
      rotate_left
      · simp only [Act.put, List.setIfInBounds_toArray, List.set_cons_zero, List.set_cons_succ, i64_w, i32_w]
        rfl
      refine pure_ (i := 8) (N := some 52) (v := ?_) (a' := ?_) #[true, true, true, true, true, true, true, true, true, false, false] rfl rfl (by kernel_rfl) (fun _ _ _ h => h) (Or.inl ⟨by rfl, ?_⟩) ?_ ?_
      rotate_left
      · intro w'
        go_simp
        with_reducible rfl
      rotate_left
      · simp only [Act.put, List.setIfInBounds_toArray, List.set_cons_zero, List.set_cons_succ, i64_w, i32_w]
        rfl
      refine pure_ (i := 9) (N := some 53) (v := ?_) (a' := ?_) #[true, true, true, true, true, true, true, true, true, true, false] rfl rfl (by kernel_rfl) (fun _ _ _ h => h) (Or.inl ⟨by rfl, ?_⟩) ?_ ?_
      rotate_left
      · intro w'
        go_simp
        with_reducible rfl
      rotate_left
      · simp only [Act.put, List.setIfInBounds_toArray, List.set_cons_zero, List.set_cons_succ, i64_w, i32_w]
        rfl
      refine last_ (i := 10) (N := none) #[true, true, true, true, true, true, true, true, true, true, true] rfl rfl (by kernel_rfl) (by decide) (fun K hK => ?_)
      have kf := blk_frozen HK.out 2
      have kc := (blk_cell HK.out 2).trans rfl
      refine skip_ (w1 := ?_) (by rfl) rfl ?_ ?_
      rotate_left
      · go_simp
        rfl
      refine hK.out _ _ ?_
      clear hK K
      refine done_ (by kernel_rfl) ?_
      clear hHeld kc kf
      rw [show wrap64 ((u : Int) + (pn row.length : Int)) = ((u + pn row.length : Nat) : Int) by unfold wrap64; omega]
      have HK2 := Aside0.mk (HK.out.put2 (u2 := u + pn row.length))
      have HR2 := Aside0.mk (RB.mv HR.out (Mv.cell (F := fun k => k = pk) y2_ ⟨pk, 2, none⟩ rfl (.int .i64 ((u + pn row.length : Nat) : Int))) HK.out.rb)
      have HB2 := Aside0.mk (show Below w.heap.size w (y2_.setCell ⟨pk, 2, none⟩ (.int .i64 ((u + pn row.length : Nat) : Int))) from HB.out.setCell Hge.out _)
      clear HK HR HB
      generalize y2_.setCell ⟨pk, 2, none⟩ (.int .i64 ((u + pn row.length : Nat) : Int)) = w12 at HK2 HR2 HB2 ⊢
      have mc1 : w12.cell? ⟨pk, 2, none⟩ = some (.int .i64 ((u + pn row.length : Nat) : Int)) := (blk_cell HK2.out 2).trans rfl
      have mc2 := Aside0.mk mc1
      clear mc1
      go_wp2_with fail
      go_roundw
      case rel => exact ⟨i + 1, _, by omega, ⟨by rw [hut1.out]; exact HK2.out⟩, HR2, HB2⟩
      case measure =>
        have e1 := mc0.out
        have e2 := mc2.out
        rw [e1, e2]
        simp only [Option.getD_some, intOf, Int.toNat_natCast]
        omega
end
section
variable {B : Nat} {w w' : World} {p gl : Nat} {v : Value} {L : List (Bk × Bool)} {W : List (Int × Bk)} {pk u : Nat} {lv : Value}
theorem lit0_step {P : Program} {ops : Array Oper} {o : Oper} {a : Act} {Kc : Act → World → Prop} {Q : Exit → Act → World → Prop} {W : World} (B0 : Nat) (hw : Region.wanted o (yielded ops a.tmps) = true) {N : Tmp} (_hd : o.dst = some N)
    (hrun : (execOp a.eval o).run P W = .ok (.value (.slice (some ⟨W.heap.size, 0, none⟩) 0 0)) (W.alloc (.cells #[] 5))) (hB : B0 ≤ W.heap.size)
    (h : ∀ g, W.heap.size ≤ g → ∀ w1, Kd.R (Kd.int .u8) 5 w1 B0 (fun _ => True) (.slice (some ⟨g, 0, none⟩) 0 0) [] → Below W.heap.size W w1 → Kc (a.put o.dst (.slice (some ⟨g, 0, none⟩) 0 0)) w1) : if Region.wanted o (yielded ops a.tmps) = true then Oper.wp P o a W Kc Q else Kc (a.put o.dst undef) W :=
  event_step hw hrun (h _ (Nat.le_refl _) _ (lit0_R W B0 hB) (below_alloc (Below.refl _ _) _))
theorem RA.grown {B0 : Nat} {ok : Nat → Prop} {rs : List (List Int)} (h : RA B w p gl v L W) (hr : RB w B0 ok lv rs) (hg : w.grownBy w' lv.ownBlock) : RA B w' p gl v L W :=
  h.keep (fun k hk => hg.block k (h.lt hk) (fun e => by
    obtain ⟨inner, ho⟩ := Kd.R_own hr
    obtain ⟨cs, hc⟩ := own_typed ho k e.symm
    exact (h.rb k hk cs _ hc).1 rfl))
theorem RA.kcell (h : RA B w p gl v L W) (hj : KBk w pk p lv u) (i : Nat) (x : Value) : RA B (w.setCell ⟨pk, i, none⟩ x) p gl v L W :=
  h.keep (fun k hk => Below.heap_setCell _ _ _ k (fun e => h.not_k hj (by have e : k = pk := e; rw [← e]; exact hk)))
theorem r_WriteE {a a' : Int} (e : a' = a) (h : RA B w p gl v L W) (b : Bk) : Calls Try.prog 22 #[.pointer (some ⟨p, 0, none⟩), .int .i64 a', .agg b.cs.toArray] w fun e w' => e = .returned (.int .i64 (wrc L W a)) ∧ ∃ v', RA B w' p gl v' L (wrW L W a b) ∧ Mv (rfoot p gl v) (rfoot p gl v') w w' := by
  subst e
  exact r_Write h h.base_le _ b
theorem k_cutE {A : Option Addr} {c : Nat} {b : List Int} (hC : Kd.C (Kd.int .u8) w A b.length b) (hc : b.length ≤ c) (hb : b.length ≤ 13515) (hbb : ∀ x ∈ b, 0 ≤ x ∧ x < 256) (n : Nat) (hn : n ≤ 100000) {n' : Int} (e : n' = (n : Int)) :
    Calls Try.prog 42 #[.int .i64 n', .slice A b.length c] w fun e w' => ∃ A' c', e = .returned (.slice A' (pn b.length) c') ∧ Kd.R (Kd.raw 64) 45 w' w.heap.size (fun _ => True) (.slice A' (pn b.length) c') ((cutL n b).map (fun b => b.cs)) ∧ Below w.heap.size w w' := by
  subst e
  refine (k_cut hC hc hb hbb n hn).mono ?_
  rintro e w1 ⟨v1, rfl, hR, hb1⟩
  obtain ⟨A1, c1, hv⟩ := Kd.R_slice hR
  rw [List.length_map, cutL_len] at hv
  subst hv
  exact ⟨A1, c1, rfl, hR, hb1⟩
theorem RC.mv {F F' : Nat → Prop} {B0 : Nat} {ok : Nat → Prop} {xs : List (List Value)} (h : Kd.R (Kd.raw 64) 45 w B0 ok lv xs) (hm : Mv F F' w w') (hF : ∀ k, F k → ∀ cs t, w.heap[k]? = some (.cells cs t (0, 0)) → t ≠ 45) : Kd.R (Kd.raw 64) 45 w' B0 ok lv xs :=
  Kd.R_mono (Kd.R_step (Kd.R_bound h) (fun k hk hlt => hm.block k hlt (fun hf => by
    obtain ⟨_, _, _, q, hq, cs, hc⟩ := hk
    have := hF k hf cs q hc
    have hq : q = 45 := by simpa [Kd.raw] using hq
    exact this hq))) (fun _ hk => hk.1)
theorem RA.rc (h : RA B w p gl v L W) : ∀ k, rfoot p gl v k → ∀ cs t, w.heap[k]? = some (.cells cs t (0, 0)) → t ≠ 45 := fun k hk cs t hc e => h.far (t := t) hc (by rw [e]; decide) hk
theorem alloc_from {b : Nat} {y : World} (_h : Below b w y) (obj : Obj) : Below y.heap.size y (y.alloc obj) := below_alloc (Below.refl _ _) obj
theorem fits_eq {L : List (Bk × Bool)} {u : Nat} {b : List Int} (h : b.length ≤ 13515) : fits L u (b.length : Int) = decide ((pn b.length : Int) ≤ (L.length : Int) - u) := by
  unfold fits
  rw [decide_eq_true (by omega), decide_eq_true (by omega), Bool.true_and, Bool.true_and, Int.toNat_natCast]
set_option maxHeartbeats 16000000 in
set_option maxRecDepth 100000 in
theorem k_Append {B0 : Nat} {ok : Nat → Prop} {rs : List (List Int)} (h : RA B w p gl v L W) (hj : KBk w pk p lv u) (hr : RB w B0 ok lv rs) (hB0 : B0 ≤ w.heap.size) (hfresh : ∀ k, w.heap.size ≤ k → ok k) (hu : u ≤ L.length) (hn : rs.length ≤ 5000)
    {A : Option Addr} {c : Nat} {b : List Int} (hC : Kd.C (Kd.int .u8) w A b.length b) (hc : b.length ≤ c) (hbb : ∀ x ∈ b, 0 ≤ x ∧ x < 256) (hA : 0 < b.length → ∀ ad, A = some ad → ¬ rfoot p gl v ad.block) {r : Int × List (Int × Bk)} (hR : r = appR L W u (rs.length + 1) b) :
    Calls Try.prog 15 #[.pointer (some ⟨pk, 0, none⟩), .slice A b.length c] w fun e w' => e = .returned (.int .i64 r.1) ∧ ∃ v' lv', RA B w' p gl v' L r.2 ∧ KBk w' pk p lv' (if r.1 = 0 then u + pn b.length else u) ∧ RB w' B0 ok lv' (if r.1 = 0 then rs ++ [b] else rs) ∧ Mv (fun k => rfoot p gl v k ∨ jf pk lv k) (fun k => rfoot p gl v' k ∨ jf pk lv' k) w w' := by
  have hL := h.hL
  have HS := Aside0.mk h
  have HK := Aside0.mk hj
  have HR := Aside0.mk hr
  have HCw := Aside0.mk hC
  unfold appR at hR
  replace hR := Aside0.mk hR
  replace hA := Aside0.mk hA
  replace hbb := Aside0.mk hbb
  replace hfresh := Aside0.mk hfresh
  clear h hj hr hC
  go_enter Try.func15, Try.ntmps15
  by_cases h1 : 13515 < b.length
  case pos =>
    obtain rfl : r = (2, W) := by rw [hR.out, if_pos h1]
    clear hR
    have h1i : (13515 : Int) < (b.length : Int) := by omega
    go_wp2_with fail
    go_ret
    first | exact ⟨rfl, v, lv, HS.out, HK.out, HR.out, Mv.refl _ _⟩ | exact ⟨rfl, v, HS.out, lv, HK.out, HR.out, Mv.refl _ _⟩
  have h1i : ¬ (13515 : Int) < (b.length : Int) := by omega
  have hfe := fits_eq (L := L) (u := u) (b := b) (by omega)
  have hR' := hR.out
  rw [if_neg h1, hfe] at hR'
  replace hR := Aside0.mk hR'
  clear hR' hfe
  have hpn : pn b.length ≤ 255 := pn_le (by omega) (by omega)
  go_wp2_with fail
  refine (k_parts b.length (by omega)).mono ?_
  rintro e w1 ⟨rfl, hb1⟩
  obtain ⟨M, hMM⟩ : ∃ M, M = pn b.length := ⟨_, rfl⟩
  rw [← hMM] at hR hpn ⊢
  replace hMM := Aside0.mk hMM
  have HM := Aside0.mk (Mv.of_below (F := rfoot p gl v) hb1)
  have HS1 := Aside0.mk (HS.out.below hb1)
  have HK1 := Aside0.mk (HK.out.below hb1)
  have HR1 := Aside0.mk (show RB w1 B0 ok lv rs from Kd.R_below HR.out hb1)
  clear hb1 HS HK HR
  have HS := HS1
  have HK := HK1
  have HR := HR1
  clear HS1 HK1 HR1
  go_wp2_with fail
  have n_HS := Aside0.mk (HS.out.below (below_drew (Below.refl _ _)))
  have n_HK := Aside0.mk (KBk.below HK.out (below_drew (Below.refl _ _)))
  have n_HR := Aside0.mk (Kd.R_below HR.out (below_drew (Below.refl _ _)))
  have n_HM := Aside0.mk (HM.out.trans (Mv.of_below (below_drew (Below.refl _ _))))
  clear HS
  have HS := n_HS
  clear n_HS
  clear HK
  have HK := n_HK
  clear n_HK
  clear HR
  have HR := n_HR
  clear n_HR
  clear HM
  have HM := n_HM
  clear n_HM
  refine start_ (n := 15) (S := fun w' => w'.cell? ⟨pk, 0, none⟩ = some (.pointer (some ⟨p, 0, none⟩)) ∧ w'.cell? ⟨pk, 2, none⟩ = some (.int .i64 u) ∧ w'.cell? ⟨p, 0, none⟩ = some (.slice (some ⟨gl, 0, none⟩) L.length L.length)) (ds := []) #[false, false, false, false, false, false, false, false, false, false, false, false, false, false, false] (by kernel_rfl) rfl rfl ⟨(blk_cell HK.out 0).trans rfl, (blk_cell HK.out 2).trans rfl, (blk_cell HS.out.hp 0).trans rfl⟩ (fun hHeld => ?_)
  generalize w1.drew = w2 at HS HK HR HM hHeld ⊢
  refine pure_ (i := 0) (N := some 15) (v := ?_) (a' := ?_) #[true, false, false, false, false, false, false, false, false, false, false, false, false, false, false] rfl rfl (by kernel_rfl) (fun _ _ _ h => h) (Or.inl ⟨by rfl, ?_⟩) ?_ ?_
  rotate_left
  · intro w'
    go_simp
    with_reducible rfl
  rotate_left
  · simp only [Act.put, List.setIfInBounds_toArray, List.set_cons_zero, List.set_cons_succ, i64_w, i32_w]
    rfl
  refine pure_ (i := 1) (N := some 16) (v := ?_) (a' := ?_) #[true, true, false, false, false, false, false, false, false, false, false, false, false, false, false] rfl rfl (by kernel_rfl) (fun _ _ _ h => h) (Or.inl ⟨by rfl, ?_⟩) ?_ ?_
  rotate_left
  · intro w'
    go_simp
    with_reducible rfl
  rotate_left
  · simp only [Act.put, List.setIfInBounds_toArray, List.set_cons_zero, List.set_cons_succ, i64_w, i32_w]
    rfl
  refine pure_ (i := 2) (N := some 17) (v := ?_) (a' := ?_) #[true, true, true, false, false, false, false, false, false, false, false, false, false, false, false] rfl rfl (by kernel_rfl) (fun _ _ _ h => h) (Or.inl ⟨by rfl, ?_⟩) ?_ ?_
  rotate_left
  · intro w'
    go_simp
    with_reducible rfl
  rotate_left
  · simp only [Act.put, List.setIfInBounds_toArray, List.set_cons_zero, List.set_cons_succ, i64_w, i32_w]
    rfl
  refine pure_ (i := 3) (N := some 18) (v := ?_) (a' := ?_) #[true, true, true, true, false, false, false, false, false, false, false, false, false, false, false] rfl rfl (by kernel_rfl) (fun _ _ _ h => h) (Or.inl ⟨by rfl, ?_⟩) ?_ ?_
  rotate_left
  · intro w'
    go_simp
    with_reducible rfl
  rotate_left
  · simp only [Act.put, List.setIfInBounds_toArray, List.set_cons_zero, List.set_cons_succ, i64_w, i32_w]
    rfl
  refine pure_ (i := 9) (N := some 24) (v := ?_) (a' := ?_) #[true, true, true, true, false, false, false, false, false, true, false, false, false, false, false] rfl rfl (by kernel_rfl) (fun _ _ _ h => h) (Or.inl ⟨by rfl, ?_⟩) ?_ ?_
  rotate_left
  · intro w'
    go_simp
    with_reducible rfl
  rotate_left
  · simp only [Act.put, List.setIfInBounds_toArray, List.set_cons_zero, List.set_cons_succ, i64_w, i32_w]
    rfl
  refine pure_ (i := 10) (N := some 25) (v := ?_) (a' := ?_) #[true, true, true, true, false, false, false, false, false, true, true, false, false, false, false] rfl rfl (by kernel_rfl) (fun _ _ _ h => h) (Or.inl ⟨by rfl, ?_⟩) ?_ ?_
  rotate_left
  · intro w'
    go_simp
    with_reducible rfl
  rotate_left
  · simp only [Act.put, List.setIfInBounds_toArray, List.set_cons_zero, List.set_cons_succ, i64_w, i32_w]
    rfl
  refine pure_ (i := 11) (N := some 26) (v := ?_) (a' := ?_) #[true, true, true, true, false, false, false, false, false, true, true, true, false, false, false] rfl rfl (by kernel_rfl) (fun _ _ _ h => h) (Or.inl ⟨by rfl, ?_⟩) ?_ ?_
  rotate_left
  · intro w'
    go_simp
    with_reducible rfl
  rotate_left
  · simp only [Act.put, List.setIfInBounds_toArray, List.set_cons_zero, List.set_cons_succ, i64_w, i32_w]
    rfl
  refine take_ (i := 4) (N := some 19) (v := ?_) (a' := ?_) #[true, true, true, true, true, false, false, false, false, true, true, true, false, false, false] rfl rfl (by kernel_rfl) (fun _ _ _ h => h) (Or.inl ⟨by rfl, ?_⟩) hHeld ?_ ?_
  rotate_left
  · rintro w' ⟨s0, s1, s2⟩
    go_simp
    with_reducible rfl
  rotate_left
  · simp only [Act.put, List.setIfInBounds_toArray, List.set_cons_zero, List.set_cons_succ, i64_w, i32_w]
    rfl
  refine pure_ (i := 5) (N := some 20) (v := ?_) (a' := ?_) #[true, true, true, true, true, true, false, false, false, true, true, true, false, false, false] rfl rfl (by kernel_rfl) (fun _ _ _ h => h) (Or.inl ⟨by rfl, ?_⟩) ?_ ?_
  rotate_left
  · intro w'
    go_simp
    with_reducible rfl
  rotate_left
  · simp only [Act.put, List.setIfInBounds_toArray, List.set_cons_zero, List.set_cons_succ, i64_w, i32_w]
    rfl
  refine pure_ (i := 6) (N := some 21) (v := ?_) (a' := ?_) #[true, true, true, true, true, true, true, false, false, true, true, true, false, false, false] rfl rfl (by kernel_rfl) (fun _ _ _ h => h) (Or.inl ⟨by rfl, ?_⟩) ?_ ?_
  rotate_left
  · intro w'
    go_simp
    with_reducible rfl
  rotate_left
  · simp only [Act.put, List.setIfInBounds_toArray, List.set_cons_zero, List.set_cons_succ, i64_w, i32_w]
    rfl
  refine take_ (i := 7) (N := some 22) (v := ?_) (a' := ?_) #[true, true, true, true, true, true, true, true, false, true, true, true, false, false, false] rfl rfl (by kernel_rfl) (fun _ _ _ h => h) (Or.inl ⟨by rfl, ?_⟩) hHeld ?_ ?_
  rotate_left
  · rintro w' ⟨s0, s1, s2⟩
    go_simp
    with_reducible rfl
  rotate_left
  · simp only [Act.put, List.setIfInBounds_toArray, List.set_cons_zero, List.set_cons_succ, i64_w, i32_w]
    rfl
  refine pure_ (i := 8) (N := some 23) (v := ?_) (a' := ?_) #[true, true, true, true, true, true, true, true, true, true, true, true, false, false, false] rfl rfl (by kernel_rfl) (fun _ _ _ h => h) (Or.inl ⟨by rfl, ?_⟩) ?_ ?_
  rotate_left
  · intro w'
    go_simp
    with_reducible rfl
  rotate_left
  · simp only [Act.put, List.setIfInBounds_toArray, List.set_cons_zero, List.set_cons_succ, i64_w, i32_w]
    rfl
  refine take_ (i := 12) (N := some 27) (v := ?_) (a' := ?_) #[true, true, true, true, true, true, true, true, true, true, true, true, true, false, false] rfl rfl (by kernel_rfl) (fun _ _ _ h => h) (Or.inl ⟨by rfl, ?_⟩) hHeld ?_ ?_
  rotate_left
  · rintro w' ⟨s0, s1, s2⟩
    go_simp
    with_reducible rfl
  rotate_left
  · simp only [Act.put, List.setIfInBounds_toArray, List.set_cons_zero, List.set_cons_succ, i64_w, i32_w]
    rfl
  refine pure_ (i := 13) (N := some 28) (v := ?_) (a' := ?_) #[true, true, true, true, true, true, true, true, true, true, true, true, true, true, false] rfl rfl (by kernel_rfl) (fun _ _ _ h => h) (Or.inl ⟨by rfl, ?_⟩) ?_ ?_
  rotate_left
  · intro w'
    go_simp
    with_reducible rfl
  rotate_left
  · simp only [Act.put, List.setIfInBounds_toArray, List.set_cons_zero, List.set_cons_succ, i64_w, i32_w]
    rfl
  refine pure_ (i := 14) (N := some 29) (v := ?_) (a' := ?_) #[true, true, true, true, true, true, true, true, true, true, true, true, true, true, true] rfl rfl (by kernel_rfl) (fun _ _ _ h => h) (Or.inl ⟨by rfl, ?_⟩) ?_ ?_
  rotate_left
  · intro w'
    go_simp
    with_reducible rfl
  rotate_left
  · simp only [Act.put, List.setIfInBounds_toArray, List.set_cons_zero, List.set_cons_succ, i64_w, i32_w]
    rfl
  refine done_ (by kernel_rfl) ?_
  clear hHeld
  rw [show wrap64 ((L.length : Int) - (u : Int)) = (L.length : Int) - (u : Int) by unfold wrap64; omega]
  by_cases h2 : (M : Int) ≤ (L.length : Int) - (u : Int)
  case neg =>
    obtain rfl : r = (10, W) := by rw [hR.out, decide_eq_false h2, if_pos rfl]
    clear hR
    have h2d : (L.length : Int) - (u : Int) < (M : Int) := by omega
    go_wp2_with fail
    go_ret
    have HMw := HM.out.wide (jf pk lv)
    first | exact ⟨rfl, v, lv, HS.out, HK.out, HR.out, HMw⟩ | exact ⟨rfl, v, HS.out, lv, HK.out, HR.out, HMw⟩
  have hR' := hR.out
  rw [decide_eq_true h2, if_neg (by simp)] at hR'
  replace hR := Aside0.mk hR'
  clear hR'
  have h2d : ¬ (L.length : Int) - (u : Int) < (M : Int) := by omega
  obtain ⟨Al, cl, hAl⟩ := Kd.R_slice HR.out
  subst hAl
  have c1 : w2.cell? ⟨pk, 1, none⟩ = some (.slice Al rs.length cl) := (blk_cell HK.out 1).trans rfl
  have hwr := Aside0.mk (show ((rs.length : Int) + 1) = ((rs.length + 1 : Nat) : Int) by omega)
  have CK := Aside0.mk (k_cutE (C_mv HCw.out HM.out hA.out) hc (by omega) hbb.out (rs.length + 1) (by omega) hwr.out)
  go_wp2_with fail
  refine CK.out.mono ?_
  rintro e w3 ⟨Ac, cc, rfl, hRc, hb3⟩
  rw [← hMM.out] at hRc ⊢
  have HS3 := Aside0.mk (HS.out.below hb3)
  have HK3 := Aside0.mk (HK.out.below hb3)
  have HR3 := Aside0.mk (show RB w3 B0 ok (.slice Al rs.length cl) rs from Kd.R_below HR.out hb3)
  have HM3 := Aside0.mk (HM.out.trans (Mv.of_below hb3))
  have HRc := Aside0.mk hRc
  have HF3 := Aside0.mk HS3.out.rc
  clear hRc hb3 CK HS HK HR HM c1 h2d hwr
  go_wp2_with fail
  go_loopw [39] (fun x wr => ∃ (i : Nat) (Wi : List (Int × Bk)) (vi : Value), i ≤ M ∧ x = .int .i64 i ∧ Aside0 (RA B wr p gl vi L Wi) ∧ Aside0 (KBk wr pk p (.slice Al rs.length cl) u) ∧ Aside0 (RB wr B0 ok (.slice Al rs.length cl) rs) ∧ Aside0 (Mv (rfoot p gl v) (rfoot p gl vi) w wr) ∧ Aside0 (Mv (rfoot p gl v) (rfoot p gl vi) w3 wr) ∧ Aside0 (r = wrS L u (rs.length + 1) M b (M - i) i Wi)) (fun x _ => M - (intOf x).toNat)
  case atStart => exact ⟨0, W, v, Nat.zero_le _, rfl, HS3, HK3, HR3, HM3, ⟨Mv.refl _ _⟩, hR⟩
  case round =>
    clear HS3 HK3 HR3 HM3 hR
    obtain ⟨i, Wi, vi, hiM, rfl, HS, HK, HR, HM, HN, hR⟩ := hrel
    by_cases hlt : i < M
    case pos =>
      obtain ⟨m, hm⟩ : ∃ m, M - i = m + 1 := ⟨M - i - 1, by omega⟩
      have hm2 : M - (i + 1) = m := by omega
      have hR' := hR.out
      rw [hm, wrS] at hR'
      replace hm2 := Aside0.mk hm2
      have hi1 : i ≤ 10000 := by omega
      obtain ⟨y, hy⟩ : ∃ y, y = lay ((rs.length + 1 : Nat) : Int) i M (own b i) := ⟨_, rfl⟩
      rw [← hy] at hR'
      obtain ⟨ad, hAc, hcell⟩ := row64_get (RC.mv HRc.out HN.out HF3.out) i (by rw [cutL_len, ← hMM.out]; exact hlt)
      have hky : (cutL (rs.length + 1) b)[i]'(by rw [cutL_len, ← hMM.out]; exact hlt) = y := by rw [hy]; simp only [cutL, List.getElem_map, List.getElem_range, blk, ← hMM.out]
      rw [hky] at hcell
      replace hcell := Aside0.mk hcell
      have hua := wru u i (by omega) hi1
      obtain ⟨q, hq⟩ : ∃ q : Int, q = ((u + i : Nat) : Int) := ⟨_, rfl⟩
      rw [← hq] at hua hR'
      replace hR := Aside0.mk hR'
      replace hua := Aside0.mk hua
      clear hq hR' hky hy hm
      subst hAc
      go_wp2_with (first | ((with_reducible refine gate_dst (N := 43) rfl ?_); refine wpl_value rfl (load_run_at 45 (.tmp 42) rfl (ad.add (i * 64)) rfl y.cs _ hcell.out rbk_und rfl (by rw [y.len]; exact rbk_info)) ?_) | ((with_reducible refine gate_store (t := 45) (p := 7) (v := .tmp 43) rfl ?_); refine Shut.out ?_))
      unfold Shut
      change wpList _ _ _ _ _ (wr.alloc (.cells Bk.z.cs.toArray 45))
      obtain ⟨hnb, hnk⟩ := newbk wr Bk.z.cs.toArray y.cs.toArray 45
      refine wpl_stbk 45 _ _ wr.heap.size y 45 Bk.z rfl rfl rfl rfl rfl (blk_new wr _) rbk_info ?_
      have HS2 := Aside0.mk (HS.out.below hnb)
      have HK2 := Aside0.mk (HK.out.below hnb)
      have HR2 := Aside0.mk (show RB _ B0 ok (.slice Al rs.length cl) rs from Kd.R_below HR.out hnb)
      have HM2 := Aside0.mk (HM.out.trans (Mv.of_below hnb))
      have HN2 := Aside0.mk (HN.out.trans (Mv.of_below hnb))
      have BK7 := Aside0.mk hnk
      clear HS HK HR HM HN hnb hnk hcell
      generalize (wr.alloc (.cells Bk.z.cs.toArray 45)).setRow wr.heap.size y.cs.toArray = w6 at HS2 HK2 HR2 HM2 HN2 BK7 ⊢
      generalize wr.heap.size = g7 at BK7 ⊢
      have HS := HS2
      have HK := HK2
      have HR := HR2
      have HM := HM2
      have HN := HN2
      clear HS2 HK2 HR2 HM2 HN2
      go_wp2_with fail
      have n_HS := Aside0.mk (HS.out.below (below_drew (Below.refl _ _)))
      have n_HK := Aside0.mk (KBk.below HK.out (below_drew (Below.refl _ _)))
      have n_HR := Aside0.mk (Kd.R_below HR.out (below_drew (Below.refl _ _)))
      have n_HM := Aside0.mk (HM.out.trans (Mv.of_below (below_drew (Below.refl _ _))))
      have n_HN := Aside0.mk (HN.out.trans (Mv.of_below (below_drew (Below.refl _ _))))
      have n_BK7 := Aside0.mk (blk_below BK7.out (below_drew (Below.refl _ _)))
      clear HS
      have HS := n_HS
      clear n_HS
      clear HK
      have HK := n_HK
      clear n_HK
      clear HR
      have HR := n_HR
      clear n_HR
      clear HM
      have HM := n_HM
      clear n_HM
      clear HN
      have HN := n_HN
      clear n_HN
      clear BK7
      have BK7 := n_BK7
      clear n_BK7
      refine start_ (n := 13) (S := fun w' => w'.cell? ⟨pk, 0, none⟩ = some (.pointer (some ⟨p, 0, none⟩)) ∧ w'.cell? ⟨pk, 2, none⟩ = some (.int .i64 u) ∧ w'.heap[g7]? = some (.cells y.cs.toArray 45 (0, 0))) (ds := []) #[false, false, false, false, false, false, false, false, false, false, false, false, false] (by kernel_rfl) rfl rfl ⟨(blk_cell HK.out 0).trans rfl, (blk_cell HK.out 2).trans rfl, BK7.out⟩ (fun hHeld => ?_)
      generalize w6.drew = w7 at HS HK HR HM HN BK7 hHeld ⊢
      refine pure_ (i := 0) (N := some 44) (v := ?_) (a' := ?_) #[true, false, false, false, false, false, false, false, false, false, false, false, false] rfl rfl (by kernel_rfl) (fun _ _ _ h => h) (Or.inl ⟨by rfl, ?_⟩) ?_ ?_
      rotate_left
      · intro w'
        go_simp
        with_reducible rfl
      rotate_left
      · simp only [Act.put, List.setIfInBounds_toArray, List.set_cons_zero, List.set_cons_succ, i64_w, i32_w]
        rfl
      refine pure_ (i := 1) (N := some 45) (v := ?_) (a' := ?_) #[true, true, false, false, false, false, false, false, false, false, false, false, false] rfl rfl (by kernel_rfl) (fun _ _ _ h => h) (Or.inl ⟨by rfl, ?_⟩) ?_ ?_
      rotate_left
      · intro w'
        go_simp
        with_reducible rfl
      rotate_left
      · simp only [Act.put, List.setIfInBounds_toArray, List.set_cons_zero, List.set_cons_succ, i64_w, i32_w]
        rfl
      refine pure_ (i := 2) (N := some 46) (v := ?_) (a' := ?_) #[true, true, true, false, false, false, false, false, false, false, false, false, false] rfl rfl (by kernel_rfl) (fun _ _ _ h => h) (Or.inl ⟨by rfl, ?_⟩) ?_ ?_
      rotate_left
      · intro w'
        go_simp
        with_reducible rfl
      rotate_left
      · simp only [Act.put, List.setIfInBounds_toArray, List.set_cons_zero, List.set_cons_succ, i64_w, i32_w]
        rfl
      refine pure_ (i := 4) (N := some 48) (v := ?_) (a' := ?_) #[true, true, true, false, true, false, false, false, false, false, false, false, false] rfl rfl (by kernel_rfl) (fun _ _ _ h => h) (Or.inl ⟨by rfl, ?_⟩) ?_ ?_
      rotate_left
      · intro w'
        go_simp
        with_reducible rfl
      rotate_left
      · simp only [Act.put, List.setIfInBounds_toArray, List.set_cons_zero, List.set_cons_succ, i64_w, i32_w]
        rfl
      refine pure_ (i := 5) (N := some 49) (v := ?_) (a' := ?_) #[true, true, true, false, true, true, false, false, false, false, false, false, false] rfl rfl (by kernel_rfl) (fun _ _ _ h => h) (Or.inl ⟨by rfl, ?_⟩) ?_ ?_
      rotate_left
      · intro w'
        go_simp
        with_reducible rfl
      rotate_left
      · simp only [Act.put, List.setIfInBounds_toArray, List.set_cons_zero, List.set_cons_succ, i64_w, i32_w]
        rfl
      refine pure_ (i := 6) (N := some 50) (v := ?_) (a' := ?_) #[true, true, true, false, true, true, true, false, false, false, false, false, false] rfl rfl (by kernel_rfl) (fun _ _ _ h => h) (Or.inl ⟨by rfl, ?_⟩) ?_ ?_
      rotate_left
      · intro w'
        go_simp
        with_reducible rfl
      rotate_left
      · simp only [Act.put, List.setIfInBounds_toArray, List.set_cons_zero, List.set_cons_succ, i64_w, i32_w]
        rfl
      refine pure_ (i := 8) (N := some 52) (v := ?_) (a' := ?_) #[true, true, true, false, true, true, true, false, true, false, false, false, false] rfl rfl (by kernel_rfl) (fun _ _ _ h => h) (Or.inl ⟨by rfl, ?_⟩) ?_ ?_
      rotate_left
      · intro w'
        go_simp
        with_reducible rfl
      rotate_left
      · simp only [Act.put, List.setIfInBounds_toArray, List.set_cons_zero, List.set_cons_succ, i64_w, i32_w]
        rfl
      refine take_ (i := 3) (N := some 47) (v := ?_) (a' := ?_) #[true, true, true, true, true, true, true, false, true, false, false, false, false] rfl rfl (by kernel_rfl) (fun _ _ _ h => h) (Or.inl ⟨by rfl, ?_⟩) hHeld ?_ ?_
      rotate_left
      · rintro w' ⟨s0, s1, s2⟩
        go_simp
        with_reducible rfl
      rotate_left
      · simp only [Act.put, List.setIfInBounds_toArray, List.set_cons_zero, List.set_cons_succ, i64_w, i32_w]
        rfl
      refine take_ (i := 7) (N := some 51) (v := ?_) (a' := ?_) #[true, true, true, true, true, true, true, true, true, false, false, false, false] rfl rfl (by kernel_rfl) (fun _ _ _ h => h) (Or.inl ⟨by rfl, ?_⟩) hHeld ?_ ?_
      rotate_left
      · rintro w' ⟨s0, s1, s2⟩
        go_simp
        with_reducible rfl
      rotate_left
      · simp only [Act.put, List.setIfInBounds_toArray, List.set_cons_zero, List.set_cons_succ, i64_w, i32_w]
        rfl
      refine pure_ (i := 9) (N := some 53) (v := ?_) (a' := ?_) #[true, true, true, true, true, true, true, true, true, true, false, false, false] rfl rfl (by kernel_rfl) (fun _ _ _ h => h) (Or.inl ⟨by rfl, ?_⟩) ?_ ?_
      rotate_left
      · intro w'
        go_simp
        with_reducible rfl
      rotate_left
      · simp only [Act.put, List.setIfInBounds_toArray, List.set_cons_zero, List.set_cons_succ, i64_w, i32_w]
        rfl
      refine take_ (i := 10) (N := some 54) (v := ?_) (a' := ?_) #[true, true, true, true, true, true, true, true, true, true, true, false, false] rfl rfl (by kernel_rfl) (fun _ _ _ h => h) (Or.inl ⟨by rfl, ?_⟩) hHeld ?_ ?_
      rotate_left
      · rintro w' ⟨s0, s1, s2⟩
        refine load_run 45 (.tmp 7) ?_ g7 ?_ 45 _ (0, 0) _ s2 rbk_und rfl (by rw [bk_sz]; exact rbk_info) <;> rfl
      rotate_left
      · simp only [Act.put, List.setIfInBounds_toArray, List.set_cons_zero, List.set_cons_succ, i64_w, i32_w]
        rfl
      refine one_ (i := 11) (N := some 55) #[true, true, true, true, true, true, true, true, true, true, true, true, false] rfl rfl (by kernel_rfl) (by decide) (fun K hK => ?_)
      refine goes_ Try.func22 (by kernel_rfl) rfl #[.pointer (some ⟨p, 0, none⟩), .int .i64 (wrap64 ((u : Int) + (i : Int))), .agg y.cs.toArray] (by rfl) rfl rfl (by (try simp only [List.map_toArray, List.map_cons, List.map_nil]); first | done | rfl) ?_
      with_reducible refine (r_WriteE hua.out HS.out y).mono ?_
      rintro e y1_ ⟨rfl, v4, hs, hmv⟩
      refine ⟨_, rfl, ?_⟩
      have m_HS := Aside0.mk (hs)
      have m_HK := Aside0.mk (HK.out.mv hmv (HS.out.not_k HK.out))
      have m_HR := Aside0.mk (RB.mv HR.out hmv HS.out.rb)
      have m_HM := Aside0.mk (HM.out.trans hmv)
      have m_HN := Aside0.mk (HN.out.trans hmv)
      have m_BK7 := Aside0.mk (hmv.blk BK7.out (HS.out.far BK7.out (by decide)))
      clear HS
      clear HK
      clear HR
      clear HM
      clear HN
      clear BK7
      have HS := m_HS
      clear m_HS
      have HK := m_HK
      clear m_HK
      have HR := m_HR
      clear m_HR
      have HM := m_HM
      clear m_HM
      have HN := m_HN
      clear m_HN
      have BK7 := m_BK7
      clear m_BK7
      clear hs hmv
      refine hK.out _ _ ⟨(blk_cell HK.out 0).trans rfl, (blk_cell HK.out 2).trans rfl, BK7.out⟩ (fun hHeld => ?_)
      clear hK K
      refine norm_ (a' := ?_) ?_ ?_
      rotate_left
      · show Act.put _ (some 55) _ = _
        simp only [Act.put, List.setIfInBounds_toArray, List.set_cons_zero, List.set_cons_succ, i64_w, i32_w]
        rfl
      refine pure_ (i := 12) (N := some 8) (v := ?_) (a' := ?_) #[true, true, true, true, true, true, true, true, true, true, true, true, true] rfl rfl (by kernel_rfl) (fun _ _ _ h => h) (Or.inl ⟨by rfl, ?_⟩) ?_ ?_
      rotate_left
      · intro w'
        go_simp
        with_reducible rfl
      rotate_left
      · simp only [Act.put, List.setIfInBounds_toArray, List.set_cons_zero, List.set_cons_succ, i64_w, i32_w]
        rfl
      refine done_ (by kernel_rfl) ?_
      clear hHeld BK7
      have hwW : wrW L Wi q y = if wrc L Wi q = 0 then Wi ++ [(q, y)] else Wi := rfl
      rw [hwW] at HS
      clear hwW
      generalize wrc L Wi q = er at hR HS ⊢
      by_cases h0 : er = 0
      case pos =>
        subst h0
        have hR' := hR.out
        rw [if_pos rfl] at hR'
        replace hR := Aside0.mk hR'
        rw [if_pos rfl] at HS
        clear hR' hua
        go_wp2_with fail
        go_roundw
        case rel => exact ⟨i + 1, _, v4, by omega, by go_num, HS, HK, HR, HM, HN, ⟨by rw [hm2.out]; exact hR.out⟩⟩
        case measure => simp [intOf]; omega
      have e1 : (er != 0) = true := by simpa using h0
      have e2 : (er == 0) = false := by simpa using h0
      have hR' := hR.out
      rw [if_neg h0] at hR'
      subst hR'
      rw [if_neg h0] at HS
      clear hR hua
      have HMw := HM.out.wide (jf pk (.slice Al rs.length cl))
      have i1 : (if er = 0 then u + pn b.length else u) = u := if_neg h0
      have i2 : (if er = 0 then rs ++ [b] else rs) = rs := if_neg h0
      go_wp2_with fail
      go_ret
      simp only [i1, i2]
      first | exact ⟨rfl, v4, _, HS.out, HK.out, HR.out, HMw⟩ | exact ⟨rfl, v4, HS.out, _, HK.out, HR.out, HMw⟩
    obtain rfl : i = M := by omega
    obtain rfl : r = (0, Wi) := by rw [hR.out, Nat.sub_self]; rfl
    clear hR hlt hiM
    have hszw := HM.out.size
    have HBz := Aside0.mk (Below.refl wr.heap.size wr)
    have HK0 := HK
    go_wp2_with fail
    have n_HBz := Aside0.mk (below_step HBz.out (below_drew (Below.refl _ _)))
    have n_HK := Aside0.mk (KBk.below HK.out (below_drew (Below.refl _ _)))
    clear HBz
    have HBz := n_HBz
    clear n_HBz
    clear HK
    have HK := n_HK
    clear n_HK
    refine start_ (n := 13) (S := fun w' => w'.cell? ⟨pk, 1, none⟩ = some (.slice Al rs.length cl)) (ds := [12]) #[false, false, false, false, false, false, false, false, false, false, false, false, false] (by kernel_rfl) rfl rfl ((blk_cell HK.out 1).trans rfl) (fun hHeld => ?_)
    generalize wr.drew = w4 at HBz HK hHeld ⊢
    refine pure_ (i := 0) (N := some 60) (v := ?_) (a' := ?_) #[true, false, false, false, false, false, false, false, false, false, false, false, false] rfl rfl (by kernel_rfl) (fun _ _ _ h => h) (Or.inl ⟨by rfl, ?_⟩) ?_ ?_
    rotate_left
    · intro w'
      go_simp
      with_reducible rfl
    rotate_left
    · simp only [Act.put, List.setIfInBounds_toArray, List.set_cons_zero, List.set_cons_succ, i64_w, i32_w]
      rfl
    refine pure_ (i := 1) (N := some 61) (v := ?_) (a' := ?_) #[true, true, false, false, false, false, false, false, false, false, false, false, false] rfl rfl (by kernel_rfl) (fun _ _ _ h => h) (Or.inl ⟨by rfl, ?_⟩) ?_ ?_
    rotate_left
    · intro w'
      go_simp
      with_reducible rfl
    rotate_left
    · simp only [Act.put, List.setIfInBounds_toArray, List.set_cons_zero, List.set_cons_succ, i64_w, i32_w]
      rfl
    refine pure_ (i := 2) (N := some 62) (v := ?_) (a' := ?_) #[true, true, true, false, false, false, false, false, false, false, false, false, false] rfl rfl (by kernel_rfl) (fun _ _ _ h => h) (Or.inl ⟨by rfl, ?_⟩) ?_ ?_
    rotate_left
    · intro w'
      go_simp
      with_reducible rfl
    rotate_left
    · simp only [Act.put, List.setIfInBounds_toArray, List.set_cons_zero, List.set_cons_succ, i64_w, i32_w]
      rfl
    refine pure_ (i := 3) (N := some 63) (v := ?_) (a' := ?_) #[true, true, true, true, false, false, false, false, false, false, false, false, false] rfl rfl (by kernel_rfl) (fun _ _ _ h => h) (Or.inl ⟨by rfl, ?_⟩) ?_ ?_
    rotate_left
    · intro w'
      go_simp
      with_reducible rfl
    rotate_left
    · simp only [Act.put, List.setIfInBounds_toArray, List.set_cons_zero, List.set_cons_succ, i64_w, i32_w]
      rfl
    refine pure_ (i := 6) (N := some 66) (v := ?_) (a' := ?_) #[true, true, true, true, false, false, true, false, false, false, false, false, false] rfl rfl (by kernel_rfl) (fun _ _ _ h => h) (Or.inl ⟨by rfl, ?_⟩) ?_ ?_
    rotate_left
    · intro w'
      go_simp
      with_reducible rfl
    rotate_left
    · simp only [Act.put, List.setIfInBounds_toArray, List.set_cons_zero, List.set_cons_succ, i64_w, i32_w]
      rfl
    refine take_ (i := 4) (N := some 64) (v := ?_) (a' := ?_) #[true, true, true, true, true, false, true, false, false, false, false, false, false] rfl rfl (by kernel_rfl) (fun _ _ _ h => h) (Or.inl ⟨by rfl, ?_⟩) hHeld ?_ ?_
    rotate_left
    · intro w' s0
      go_simp
      with_reducible rfl
    rotate_left
    · simp only [Act.put, List.setIfInBounds_toArray, List.set_cons_zero, List.set_cons_succ, i64_w, i32_w]
      rfl
    refine one_ (i := 5) (N := some 65) #[true, true, true, true, true, true, true, false, false, false, false, false, false] rfl rfl (by kernel_rfl) (by decide) (fun K hK => ?_)
    refine lit0_step wr.heap.size ?hg (N := 65) ?hd ?hr ?hb0 ?_; (case hd => rfl); (case hg => rfl); (case hr => first | (go_simp; done) | (go_simp; rfl)); (case hb0 => exact HBz.out.size)
    intro g0 hg0 y2_ hl hb
    have m_RZ := Aside0.mk hl
    have n_HBz := Aside0.mk (below_step HBz.out hb)
    have n_HK := Aside0.mk (KBk.below HK.out hb)
    clear HBz
    have HBz := n_HBz
    clear n_HBz
    clear HK
    have HK := n_HK
    clear n_HK
    clear hb hl hg0
    have RZ := m_RZ
    clear m_RZ
    refine hK.out _ _ ((blk_cell HK.out 1).trans rfl) (fun hHeld => ?_)
    clear hK K
    refine norm_ (a' := ?_) ?_ ?_
    rotate_left
    · show Act.put _ (some 65) _ = _
      simp only [Act.put, List.setIfInBounds_toArray, List.set_cons_zero, List.set_cons_succ, i64_w, i32_w]
      rfl
    refine one_ (i := 7) (N := some 67) #[true, true, true, true, true, true, true, true, false, false, false, false, false] rfl rfl (by kernel_rfl) (by decide) (fun K hK => ?_)
    refine Kd.R_append_rows_step (Kd.int .u8) (w0 := wr) wr.heap.size (by rfl) (.tmp 65) (.tmp 66) 38 5 (.int .u8 0) 1 rfl by_und' u_info rfl (by decide) (by omega) (.slice (some ⟨g0, 0, none⟩) 0 0) [] b A b.length c (fun _ => True) (fun _ => False) rfl rfl RZ.out (Kd.C_below (C_mv HCw.out HM.out hA.out) HBz.out) (fun _ _ h => h) (fun _ h => h.elim) (fun _ _ => trivial) HBz.out HBz.out.size (by simp only [List.length_nil]; omega) ?_
    intro v_ y3_ ho hb hg hat
    rw [List.nil_append] at ho
    obtain ⟨Ab, cb, eo⟩ := Kd.R_slice ho
    subst eo
    have m_HX := Aside0.mk ho
    have m_HBz := Aside0.mk hb
    have m_HK := Aside0.mk (KBk.below HK0.out hb)
    clear ho hb hg hat HBz HK RZ
    have HBz := m_HBz
    have HK := m_HK
    clear m_HK
    have HX := m_HX
    clear m_HBz m_HX
    refine hK.out _ _ ((blk_cell HK.out 1).trans rfl) (fun hHeld => ?_)
    clear hK K
    refine norm_ (a' := ?_) ?_ ?_
    rotate_left
    · show Act.put _ (some 67) _ = _
      simp only [Act.put, List.setIfInBounds_toArray, List.set_cons_zero, List.set_cons_succ, i64_w, i32_w]
      rfl
    refine one_ (i := 8) (N := some 68) #[true, true, true, true, true, true, true, true, true, false, false, false, false] rfl rfl (by kernel_rfl) (by decide) (fun K hK => ?_)
    refine value_ (w1 := ?_) (v := ?_) (by rfl) rfl ?_ ?_
    rotate_left 2
    · go_simp
      constructor
      · rfl
      · rfl
    have O_HBz := HBz
    have O_HX := HX
    have O_HK := HK
    have hb := alloc_from O_HBz.out (.cells [Value.slice Ab b.length cb].toArray 38)
    have n_HBz := Aside0.mk (below_step HBz.out hb)
    have n_HX := Aside0.mk (Kd.R_below HX.out hb)
    have n_HK := Aside0.mk (KBk.below HK.out hb)
    clear HBz
    have HBz := n_HBz
    clear n_HBz
    clear HX
    have HX := n_HX
    clear n_HX
    clear HK
    have HK := n_HK
    clear n_HK
    clear hb
    refine hK.out _ _ ((blk_cell HK.out 1).trans rfl) (fun hHeld => ?_)
    clear hK K
    refine norm_ (a' := ?_) ?_ ?_
    rotate_left
    · show Act.put _ (some 68) _ = _
      simp only [Act.put, List.setIfInBounds_toArray, List.set_cons_zero, List.set_cons_succ, i64_w, i32_w]
      rfl
    refine one_ (i := 9) (N := some 69) #[true, true, true, true, true, true, true, true, true, true, false, false, false] rfl rfl (by kernel_rfl) (by decide) (fun K hK => ?_)
    have O_HR : RB _ B0 ok (.slice Al rs.length cl) rs := Kd.R_below HR.out O_HBz.out
    have O_sz := O_HBz.out.size
    refine Kd.R_append_step (Kd.slice 5 (Kd.int .u8)) B0 (by rfl) (.tmp 64) (.tmp 68) 50 38 (.slice none 0 0) 24 rfl lb_und by_info rfl (by show 0 < 1; omega) (by omega) (.slice Al rs.length cl) rs b [Value.slice Ab b.length cb] ok (fun k => ok k ∧ some k ≠ (Value.slice Al rs.length cl).ownBlock) rfl rfl ⟨_, rfl, RX O_HX.out HR.out (Nat.le_trans hB0 hszw) (fun k hk => hfresh.out k (Nat.le_trans hszw hk))⟩ (fun k hk => hk) (fun k hk => hfresh.out k (by omega)) O_HR (Below.refl _ _) (by omega) (by omega) ?_
    intro v9 y4_ hR hb hg hat
    have m_HS := Aside0.mk ((HS.out.below O_HBz.out).grown O_HR hg)
    have m_HK := Aside0.mk ((HK0.out.below O_HBz.out).grown O_HR hg)
    have m_HM := Aside0.mk ((HM.out.trans (Mv.of_below O_HBz.out)).app (pj := pk) hg hat)
    have m_HR := Aside0.mk hR
    clear HS HK HK0 HR HM HX HBz O_HX O_HK O_HBz O_HR O_sz hR hb hg hat
    obtain ⟨A9, c9, e9⟩ := Kd.R_slice m_HR.out
    rw [List.length_append, List.length_singleton] at e9
    subst e9
    have HS := m_HS
    have HK := m_HK
    have HM := m_HM
    have HR := m_HR
    clear m_HS m_HK m_HM m_HR
    refine hK.out _ _ ((blk_cell HK.out 1).trans rfl) (fun hHeld => ?_)
    clear hK K
    refine norm_ (a' := ?_) ?_ ?_
    rotate_left
    · show Act.put _ (some 69) _ = _
      simp only [Act.put, List.setIfInBounds_toArray, List.set_cons_zero, List.set_cons_succ, i64_w, i32_w]
      rfl
    refine pure_ (i := 10) (N := some 70) (v := ?_) (a' := ?_) #[true, true, true, true, true, true, true, true, true, true, true, false, false] rfl rfl (by kernel_rfl) (fun _ _ _ h => h) (Or.inl ⟨by rfl, ?_⟩) ?_ ?_
    rotate_left
    · intro w'
      go_simp
      with_reducible rfl
    rotate_left
    · simp only [Act.put, List.setIfInBounds_toArray, List.set_cons_zero, List.set_cons_succ, i64_w, i32_w]
      rfl
    refine pure_ (i := 11) (N := some 71) (v := ?_) (a' := ?_) #[true, true, true, true, true, true, true, true, true, true, true, true, false] rfl rfl (by kernel_rfl) (fun _ _ _ h => h) (Or.inl ⟨by rfl, ?_⟩) ?_ ?_
    rotate_left
    · intro w'
      go_simp
      with_reducible rfl
    rotate_left
    · simp only [Act.put, List.setIfInBounds_toArray, List.set_cons_zero, List.set_cons_succ, i64_w, i32_w]
      rfl
    refine last_ (i := 12) (N := none) #[true, true, true, true, true, true, true, true, true, true, true, true, true] rfl rfl (by kernel_rfl) (by decide) (fun K hK => ?_)
    have kf := blk_frozen HK.out 1
    have kc := (blk_cell HK.out 1).trans rfl
    refine skip_ (w1 := ?_) (by rfl) rfl ?_ ?_
    rotate_left
    · go_simp
      rfl
    refine hK.out _ _ ?_
    clear hK K
    refine done_ (by kernel_rfl) ?_
    clear hHeld kc kf
    have hm0 := Mv.cell (F := fun k => rfoot p gl vi k ∨ jf pk (.slice A9 (rs.length + 1) c9) k) y4_ ⟨pk, 1, none⟩ (.inr (.inl rfl)) (.slice A9 (rs.length + 1) c9)
    have HS2 := Aside0.mk (HS.out.kcell HK.out 1 (.slice A9 (rs.length + 1) c9))
    have HK2 := Aside0.mk (HK.out.put (l := .slice A9 (rs.length + 1) c9))
    have HR2 := Aside0.mk (RB.mv HR.out (Mv.cell (F := fun k => k = pk) y4_ ⟨pk, 1, none⟩ rfl (.slice A9 (rs.length + 1) c9)) HK.out.rb)
    have HM2 := Aside0.mk (HM.out.trans hm0)
    clear hm0 HS HK HR HM
    generalize y4_.setCell ⟨pk, 1, none⟩ (.slice A9 (rs.length + 1) c9) = w5 at HS2 HK2 HR2 HM2 ⊢
    have c2 : w5.cell? ⟨pk, 2, none⟩ = some (.int .i64 u) := (blk_cell HK2.out 2).trans rfl
    have kf := blk_frozen HK2.out 2
    go_wp2_with fail
    go_ret
    rw [show ((u : Int) + (i : Int)) = ((u + i : Nat) : Int) by omega]
    have hm0 := Mv.cell (F := fun k => rfoot p gl vi k ∨ jf pk (.slice A9 (rs.length + 1) c9) k) w5 ⟨pk, 2, none⟩ (.inr (.inl rfl)) (.int .i64 ((u + i : Nat) : Int))
    have HS3 := HS2.out.kcell HK2.out 2 (.int .i64 ((u + i : Nat) : Int))
    have HK3 := HK2.out.put2 (u2 := u + i)
    have HR3 := RB.mv HR2.out (Mv.cell (F := fun k => k = pk) w5 ⟨pk, 2, none⟩ rfl (.int .i64 ((u + i : Nat) : Int))) HK2.out.rb
    have HM3 := HM2.out.trans hm0
    rw [← hMM.out]
    first | exact ⟨rfl, vi, _, HS3, HK3, HR3, HM3⟩ | exact ⟨rfl, vi, HS3, _, HK3, HR3, HM3⟩
end
section
variable {B : Nat} {w w0 w' : World} {p gl gm pr glr : Nat} {v vr : Value} {L L2 : List (Bk × Bool)} {W W2 : List (Int × Bk)} {pj pk u : Nat} {lv lk : Value} {rs rs2 : List (List Int)} {F F' G : Nat → Prop}
structure KS (w0 w : World) (p gl : Nat) (v : Value) (L : List (Bk × Bool)) (W : List (Int × Bk)) (pk : Nat) (lk : Value) (rs : List (List Int)) : Prop where
  s : RA w0.heap.size w p gl v L W
  j : KBk w pk p lk (usum rs)
  r : RB w w0.heap.size (fun k => w0.heap.size ≤ k) lk rs
  p : w0.heap.size ≤ pk
theorem KS.below (h : KS w0 w p gl v L W pk lk rs) (hb : Below w.heap.size w w') : KS w0 w' p gl v L W pk lk rs := ⟨h.s.below hb, h.j.below hb, Kd.R_below h.r hb, h.p⟩
/-- None of them holds bytes. -/
def NU (w : World) (F : Nat → Prop) : Prop := ∀ k, F k → ∀ cs, w.heap[k]? = some (.cells cs 5 (0, 0)) → False
def Dj (F G : Nat → Prop) : Prop := ∀ k, F k → G k → False
theorem Dj.symm (h : Dj F G) : Dj G F := fun k a b => h k b a
theorem Dj.mv (h : Dj F G) (hm : Mv F F' w w') (hG : ∀ k, G k → k < w.heap.size) : Dj F' G := fun k h1 h2 => (hm.foot k h1).elim (fun h3 => h k h3 h2) (fun h3 => by have := hG k h2; omega)
theorem LS.nu (h : LS w0 w p gl gm v L W pj lv rs) : NU w (fun k => foot p gl gm v k ∨ Go.Proofs.Ytniadlnbjgodnaa.Print.jf pj lv k) := by
  intro k hk cs hc
  rcases hk with hk | hk | hk
  · exact (h.s.s.rb k hk cs _ hc).2 rfl
  · exact (h.j.rb k hk cs _ hc).2 rfl
  · obtain ⟨inner, ho⟩ := Kd.R_own h.r
    obtain ⟨cs2, h2⟩ := own_typed ho k hk
    rw [h2] at hc
    injection hc with hc
    injection hc with _ hc
    exact absurd hc (by decide)
theorem KS.nu (h : KS w0 w p gl v L W pk lk rs) : NU w (fun k => rfoot p gl v k ∨ jf pk lk k) := by
  intro k hk cs hc
  rcases hk with hk | hk | hk
  · exact (h.s.rb k hk cs _ hc).2 rfl
  · exact (h.j.rb k hk cs _ hc).2 rfl
  · obtain ⟨inner, ho⟩ := Kd.R_own h.r
    obtain ⟨cs2, h2⟩ := own_typed ho k hk
    rw [h2] at hc
    injection hc with hc
    injection hc with _ hc
    exact absurd hc (by decide)
theorem LS.lt (h : LS w0 w p gl gm v L W pj lv rs) : ∀ k, (foot p gl gm v k ∨ Go.Proofs.Ytniadlnbjgodnaa.Print.jf pj lv k) → k < w.heap.size := by
  intro k hk
  rcases hk with hk | hk | hk
  · exact h.s.s.lt hk
  · rw [hk]; exact blk_lt h.j
  · obtain ⟨inner, ho⟩ := Kd.R_own h.r
    exact own_lt ho k hk
theorem KS.lt (h : KS w0 w p gl v L W pk lk rs) : ∀ k, (rfoot p gl v k ∨ jf pk lk k) → k < w.heap.size := by
  intro k hk
  rcases hk with hk | hk | hk
  · exact h.s.lt hk
  · rw [hk]; exact blk_lt h.j
  · obtain ⟨inner, ho⟩ := Kd.R_own h.r
    exact own_lt ho k hk
theorem KS.base (h : KS w0 w p gl v L W pk lk rs) : ∀ k, (rfoot p gl v k ∨ jf pk lk k) → w0.heap.size ≤ k := by
  intro k hk
  rcases hk with hk | hk | hk
  · exact h.s.base hk
  · rw [hk]; exact h.p
  · exact h.r.1 k hk
theorem LS.keepF (h : LS w0 w p gl gm v L W pj lv rs) (hm : Mv F F' w w') (hd : Dj F (fun k => foot p gl gm v k ∨ Go.Proofs.Ytniadlnbjgodnaa.Print.jf pj lv k)) (hn : NU w F) (hb : ∀ k, F k → w0.heap.size ≤ k) : LS w0 w' p gl gm v L W pj lv rs :=
  ⟨⟨h.s.s.keep (fun k hk => hm.block k (h.s.s.lt hk) (fun hf => hd k hf (.inl hk))), hm.below h.s.b h.s.b.size hb⟩, h.j.mv hm (fun hf => hd pj hf (.inr (.inl rfl))), h.r.keepA (fun k ho => hm.block k (h.lt k (.inr (.inr ho))) (fun hf => hd k hf (.inr (.inr ho)))) (fun k cs hc => hm.block k (blk_lt hc) (fun hf => hn k hf cs hc)), h.p⟩
theorem KS.keepF (h : KS w0 w p gl v L W pk lk rs) (hm : Mv F F' w w') (hd : Dj F (fun k => rfoot p gl v k ∨ jf pk lk k)) (hn : NU w F) : KS w0 w' p gl v L W pk lk rs :=
  ⟨h.s.keep (fun k hk => hm.block k (h.s.lt hk) (fun hf => hd k hf (.inl hk))), h.j.mv hm (fun hf => hd pk hf (.inr (.inl rfl))), h.r.keepA (fun k ho => hm.block k (h.lt k (.inr (.inr ho))) (fun hf => hd k hf (.inr (.inr ho)))) (fun k cs hc => hm.block k (blk_lt hc) (fun hf => hn k hf cs hc)), h.p⟩
theorem RA.typed (h : RA B w pr glr vr L W) {k : Nat} (hk : rfoot pr glr vr k) : ∃ cs t, w.heap[k]? = some (.cells cs t (0, 0)) ∧ (t = 59 ∨ t = 94 ∨ t = 92) := by
  rcases hk with rfl | rfl | e
  · exact ⟨_, _, h.hp, .inl rfl⟩
  · exact ⟨_, _, h.hl, .inr (.inl rfl)⟩
  · obtain ⟨cs, h1⟩ := own_type h.hw e
    exact ⟨_, _, h1, .inr (.inr rfl)⟩
theorem apart (hs : SA B w p gl gm v L W) {B' : Nat} (hr : RA B' w pr glr vr L2 W2) {k : Nat} (hk : rfoot pr glr vr k) : ¬ foot p gl gm v k := by
  obtain ⟨cs, t, h1, h2⟩ := hr.typed hk
  exact hs.far h1 (by rcases h2 with rfl | rfl | rfl <;> decide)
theorem RA.mvA {B' : Nat} (hr : RA B' w pr glr vr L2 W2) (hs : SA B w p gl gm v L W) (hm : Mv (foot p gl gm v) F' w w') : RA B' w' pr glr vr L2 W2 := hr.keep (fun k hk => hm.block k (hr.lt hk) (apart hs hr hk))
theorem SS.mvR (h : SS w0 w p gl gm v L W) (hr : RA w0.heap.size w pr glr vr L2 W2) (hm : Mv (rfoot pr glr vr) F' w w') : SS w0 w' p gl gm v L W :=
  ⟨h.s.keep (fun k hk => hm.block k (h.s.lt hk) (fun hf => apart h.s hr hf hk)), hm.below h.b h.b.size (fun k hk => hr.base hk)⟩
theorem RA.dj {B' : Nat} (hr : RA B' w pr glr vr L2 W2) (h : LS w0 w p gl gm v L W pj lv rs) : Dj (rfoot pr glr vr) (fun k => foot p gl gm v k ∨ jf pj lv k) := fun k h1 h2 => by
  obtain ⟨cs, t, h3, h4⟩ := hr.typed h1
  exact h.far h3 (by rcases h4 with rfl | rfl | rfl <;> decide) h2
theorem RA.nu {B' : Nat} (hr : RA B' w pr glr vr L2 W2) : NU w (rfoot pr glr vr) := fun k hk cs hc => (hr.rb k hk cs _ hc).2 rfl
theorem RA.lower {B' : Nat} (h : RA B w p gl v L W) (hB : B' ≤ B) : RA B' w p gl v L W := ⟨h.hp, h.hl, Kd.R_lower h.hw hB, ⟨Nat.le_trans hB h.hB.1, Nat.le_trans hB h.hB.2⟩, h.hL, h.hW⟩
theorem LS.far_arg (h : LS w0 w p gl gm v L W pj lv rs) {l : List Int} {A : Option Addr} (hC : Kd.C (Kd.int .u8) w0 A l.length l) : 0 < l.length → ∀ ad, A = some ad → ¬ foot p gl gm v ad.block := h.s.arg hC
theorem RA.arg (h : RA w0.heap.size w p gl v L W) {l : List Int} {A : Option Addr} (hC : Kd.C (Kd.int .u8) w0 A l.length l) : 0 < l.length → ∀ ad, A = some ad → ¬ rfoot p gl v ad.block := arg_far hC (fun k hk => h.base hk)
/-! ### what opening leaves -/
theorem wipeS_ok : ∀ (m a : Nat) (W : List (Int × Bk)) (any : Bool), okS L W → okS L (wipeS L m a W any).2.1
  | 0, _, _, _, h => h
  | m + 1, a, W, any, h => by
    rw [wipeS]
    split
    · exact wipeS_ok m _ W _ h
    · split
      · exact wipeS_ok m _ _ _ (okS_snoc h _ okB_z)
      · exact h
theorem wipeR_ok (h : okS L W) (u : Nat) : okS (wipeR L W u).2.1 (wipeR L W u).2.2 := by
  have h1 := wipeS_ok (L.length - u) u W false h
  unfold wipeR
  split
  · exact h1
  · split
    · exact okS_setl _ _ _ _ h1
    · exact h1
theorem wipeR_len (L : List (Bk × Bool)) (W : List (Int × Bk)) (u : Nat) : (wipeR L W u).2.1.length = L.length := by
  unfold wipeR
  split
  · rfl
  · split
    · exact setl_len _ _ _ _
    · rfl
theorem recs_ok (h : okS L W) : ∀ r ∈ recs L W, okR r := by
  obtain ⟨h1, _, _⟩ := recs_spec (rd_ok h)
  intro r hr
  obtain ⟨i, hi, rfl⟩ := List.getElem_of_mem hr
  have h2 := h1 i hi
  have h3 := recP_in (rd_ok h) h2
  have h4 := (recP_inv (fun i => rd_ok h _) h2).2
  refine ⟨fun x hx => ?_, h3.2⟩
  rw [← h4] at hx
  exact bodies_ok _ (fun i => rd_ok h _) x hx
theorem recs_us (h : okS L W) : usum (recs L W) ≤ L.length := (recs_spec (rd_ok h)).2.2
theorem A_open (h : SS w0 w p gl gm v L W) (hok : okS L W) {rs : List (List Int)} (hr : recs L W = rs) {q : Int × List (Bk × Bool) × List (Int × Bk)} (hw : wipeR L W (usum rs) = q) :
    Calls Try.prog 12 #[.pointer (some ⟨p, 0, none⟩)] w fun e w' => ∃ pj lv v', e = .returned (.tuple #[if q.1 = 0 then .pointer (some ⟨pj, 0, none⟩) else .pointer none, .int .i64 q.1]) ∧ LS w0 w' p gl gm v' q.2.1 q.2.2 pj lv rs ∧ Mv (foot p gl gm v) (fun k => foot p gl gm v' k ∨ jf pj lv k) w w' := by
  subst hr
  refine (j_Open h.s (rd_ok hok)).mono ?_
  rintro e w' ⟨pj, lv, v', rfl, hs, hj, hR, hpj, hm⟩
  rw [hw] at hs ⊢
  have hsz := h.b.size
  exact ⟨pj, lv, v', rfl, ⟨⟨hs, h.mv hm⟩, hj, Kd.R_mono (Kd.R_lower hR hsz) (fun k hk => Nat.le_trans hsz hk), Nat.le_trans hsz hpj⟩, hm⟩
theorem K_open (h : RA w0.heap.size w p gl v L W) (hsz : w0.heap.size ≤ w.heap.size) (hok : okS L W) {rs : List (List Int)} (hr : recs L W = rs) {q : Int × List (Bk × Bool) × List (Int × Bk)} (hw : wipeR L W (usum rs) = q) :
    Calls Try.prog 13 #[.pointer (some ⟨p, 0, none⟩)] w fun e w' => ∃ pk lk v', e = .returned (.tuple #[if q.1 = 0 then .pointer (some ⟨pk, 0, none⟩) else .pointer none, .int .i64 q.1]) ∧ KS w0 w' p gl v' q.2.1 q.2.2 pk lk rs ∧ Mv (rfoot p gl v) (fun k => rfoot p gl v' k ∨ jf pk lk k) w w' := by
  subst hr
  refine (k_Open h (rd_ok hok)).mono ?_
  rintro e w' ⟨pk, lk, v', rfl, hs, hj, hR, hpj, hm⟩
  rw [hw] at hs ⊢
  exact ⟨pk, lk, v', rfl, ⟨hs, hj, Kd.R_mono (Kd.R_lower hR hsz) (fun k hk => Nat.le_trans hsz hk), Nat.le_trans hsz hpj⟩, hm⟩
theorem LS.afterK (h : LS w0 w p gl gm v L W pj lv rs) (hr : RA w0.heap.size w pr glr vr L2 W2) (hm : Mv (rfoot pr glr vr) F' w w') : LS w0 w' p gl gm v L W pj lv rs ∧ Dj (fun k => foot p gl gm v k ∨ Go.Proofs.Ytniadlnbjgodnaa.Print.jf pj lv k) F' :=
  ⟨h.keepF hm (hr.dj h) hr.nu (fun k hk => hr.base hk), ((hr.dj h).mv hm h.lt).symm⟩
/-! ### a record more -/
theorem wrS_okS {u n N : Nat} {b : List Int} (hn : n ≤ 100000) (hN : N ≤ 255) (hb : ∀ x ∈ b, 0 ≤ x ∧ x < 256) : ∀ (m i : Nat) (W : List (Int × Bk)), i + m ≤ N → okS L W → okS L (wrS L u n N b m i W).2
  | 0, _, _, _, h => h
  | m + 1, i, W, hi, h => by
    rw [wrS]
    split
    · exact wrS_okS hn hN hb m (i + 1) _ (by omega) (okS_snoc h _ (lay_ok (by omega) (by omega) (by omega) (own_len b i) (fun x hx => hb x (List.mem_of_mem_drop (List.mem_of_mem_take hx)))))
    · exact h
theorem appR_okS {u n : Nat} {b : List Int} (hn : n ≤ 100000) (hb : ∀ x ∈ b, 0 ≤ x ∧ x < 256) (h : okS L W) : okS L (appR L W u n b).2 := by
  unfold appR
  split
  · exact h
  · split
    · exact h
    · exact wrS_okS hn (pn_le (by omega) (by omega)) hb _ 0 W (by omega) h
theorem appR_0 {u n : Nat} {b : List Int} (h : (appR L W u n b).1 = 0) : b.length ≤ 13515 ∧ u + pn b.length ≤ L.length := by
  unfold appR at h
  by_cases h1 : 13515 < b.length
  · rw [if_pos h1] at h; cases h
  rw [if_neg h1] at h
  by_cases h2 : fits L u b.length = false
  · rw [if_pos h2] at h; cases h
  have h3 : fits L u b.length = true := by simpa using h2
  rw [fits_eq (by omega)] at h3
  have := of_decide_eq_true h3
  omega
/-- What records there are behind an answer. -/
def addR (c : Int) (rs : List (List Int)) (b : List Int) : List (List Int) := if c = 0 then rs ++ [b] else rs
theorem addR_us (c : Int) (rs : List (List Int)) (b : List Int) : usum (addR c rs b) = if c = 0 then usum rs + pn b.length else usum rs := by
  unfold addR
  split
  · rw [usum_append]; rfl
  · rfl
theorem addR_le {n : Nat} {b : List Int} (hu : usum rs ≤ L.length) : usum (addR (appR L W (usum rs) n b).1 rs b) ≤ L.length := by
  rw [addR_us]
  split
  · rename_i h; exact (appR_0 h).2
  · exact hu
theorem addR_ok {n : Nat} {b : List Int} (hb : ∀ x ∈ b, 0 ≤ x ∧ x < 256) (hr : ∀ r ∈ rs, okR r) : ∀ r ∈ addR (appR L W (usum rs) n b).1 rs b, okR r := by
  unfold addR
  split
  · rename_i h
    intro r hm
    rcases List.mem_append.1 hm with hm | hm
    · exact hr r hm
    · rw [List.mem_singleton.1 hm]; exact ⟨hb, (appR_0 h).1⟩
  · exact hr
theorem A_app (h : LS w0 w p gl gm v L W pj lv rs) (hu : usum rs ≤ L.length) {A : Option Addr} {c : Nat} {b : List Int} (hC : Kd.C (Kd.int .u8) w A b.length b) (hc : b.length ≤ c) (hA : 0 < b.length → ∀ ad, A = some ad → ¬ foot p gl gm v ad.block) {r : Int × List (Int × Bk)} (hR : r = appR L W (usum rs) (rs.length + 1) b) :
    Calls Try.prog 14 #[.pointer (some ⟨pj, 0, none⟩), .slice A b.length c] w fun e w' => e = .returned (.int .i64 r.1) ∧ ∃ v' lv', LS w0 w' p gl gm v' L r.2 pj lv' (addR r.1 rs b) ∧ Mv (fun k => foot p gl gm v k ∨ jf pj lv k) (fun k => foot p gl gm v' k ∨ jf pj lv' k) w w' := by
  have hus := usum_len rs
  have hl := h.s.s.hL.2
  refine (j_Append h.s.s h.j h.r h.s.b.size (fun k hk => Nat.le_trans h.s.b.size hk) hu (by omega) hC hc hA hR).mono ?_
  rintro e w' ⟨rfl, v', lv', hs, hj, hr, hm⟩
  refine ⟨rfl, v', lv', ⟨⟨hs, hm.below h.s.b h.s.b.size (fun k hk => hk.elim h.s.s.base h.jf)⟩, ?_, hr, h.p⟩, hm⟩
  rw [addR_us]
  exact hj
theorem K_app (h : KS w0 w p gl v L W pk lk rs) (hsz : w0.heap.size ≤ w.heap.size) (hu : usum rs ≤ L.length) {A : Option Addr} {c : Nat} {b : List Int} (hC : Kd.C (Kd.int .u8) w A b.length b) (hc : b.length ≤ c) (hbb : ∀ x ∈ b, 0 ≤ x ∧ x < 256) (hA : 0 < b.length → ∀ ad, A = some ad → ¬ rfoot p gl v ad.block) {r : Int × List (Int × Bk)} (hR : r = appR L W (usum rs) (rs.length + 1) b) :
    Calls Try.prog 15 #[.pointer (some ⟨pk, 0, none⟩), .slice A b.length c] w fun e w' => e = .returned (.int .i64 r.1) ∧ ∃ v' lk', KS w0 w' p gl v' L r.2 pk lk' (addR r.1 rs b) ∧ Mv (fun k => rfoot p gl v k ∨ jf pk lk k) (fun k => rfoot p gl v' k ∨ jf pk lk' k) w w' := by
  have hus := usum_len rs
  have hl := h.s.hL.2
  refine (k_Append h.s h.j h.r hsz (fun k hk => Nat.le_trans hsz hk) hu (by omega) hC hc hbb hA hR).mono ?_
  rintro e w' ⟨rfl, v', lk', hs, hj, hr, hm⟩
  refine ⟨rfl, v', lk', ⟨hs, ?_, hr, h.p⟩, hm⟩
  rw [addR_us]
  exact hj
theorem K_sync (h : KS w0 w p gl v L W pk lk rs) : Calls Try.prog 17 #[.pointer (some ⟨p, 0, none⟩)] w fun e w' => e = .returned (.tuple #[]) ∧ KS w0 w' p gl (.slice none 0 0) (setl (fun _ => 1) 0 W L) [] pk lk rs ∧ Mv (rfoot p gl v) (rfoot p gl (.slice none 0 0)) w w' := by
  refine (r_Sync h.s).mono ?_
  rintro e w' ⟨rfl, hs, hm⟩
  exact ⟨rfl, ⟨hs, h.j.mv hm (h.s.not_k h.j), RB.mv h.r hm h.s.rb, h.p⟩, hm⟩
theorem ofB_ok {l : List Int} (h : ∀ x ∈ l, 0 ≤ x ∧ x < 256) : okB (ofB l) := by
  intro x hx
  unfold ofB at hx
  rcases List.mem_append.1 hx with hx | hx
  · exact h x (List.mem_of_mem_take hx)
  · have := List.eq_of_mem_replicate hx; omega
theorem wrW_ok {b : Bk} (h : okS L W) (hb : okB b) (a : Int) : okS L (wrW L W a b) := by
  unfold wrW
  split
  · exact okS_snoc h a hb
  · exact h
theorem A_write (h : SS w0 w p gl gm v L W) (a : Int) (b : Bk) : Calls Try.prog 20 #[.pointer (some ⟨p, 0, none⟩), .int .i64 a, .agg b.cs.toArray] w fun e w' => e = .returned (.int .i64 (wrc L W a)) ∧ ∃ v', SS w0 w' p gl gm v' L (wrW L W a b) ∧ Mv (foot p gl gm v) (foot p gl gm v') w w' := by
  refine (b_Write h.s h.b.size a b).mono ?_
  rintro e w' ⟨rfl, v', hs, hm⟩
  exact ⟨rfl, v', ⟨hs, h.mv hm⟩, hm⟩
theorem r_New2 (hb : Below w0.heap.size w0 w) (n : Nat) (hn : 1 ≤ n ∧ n ≤ 4096) : Calls Try.prog 11 #[.int .i64 n] w fun e w' => ∃ p, e = .returned (.tuple #[.pointer (some ⟨p, 0, none⟩), .int .i64 0]) ∧ ∃ gl v, RA w0.heap.size w' p gl v (zeros n) [] ∧ Below w.heap.size w w' := by
  refine (r_New n hn).mono ?_
  rintro e w' ⟨p, rfl, F, ⟨gl, v, h, rfl⟩, hm⟩
  exact ⟨p, rfl, gl, v, h.lower hb.size, hm.below (Below.refl _ _) (Nat.le_refl _) (fun _ h => h.elim)⟩
end
end Go.Proofs.Ytniadlnbjgodnaa.Print
