import Derived.Test.YtmafmbcgjeecjaaPrint17
import Derived.Test.YtmafmbcgjeecjaaPrint19
import Derived.Test.YtmafmbcgjeecjaaAid
namespace Go.Proofs.Ytmafmbcgjeecjaa.Print
open Go.RowKit Go.Proofs.YtmafmbcgjeecjaaW.PrintWords Go.Proofs.YtmafmbcgjeecjaaW.PrintLast Go.Proofs.YtmafmbcgjeecjaaW.PrintMore
set_option linter.unusedVariables false
set_option linter.unusedSimpArgs false

def inr (x : Int) : Prop := -9223372036854775808 ≤ x ∧ x ≤ 9223372036854775807
instance (x : Int) : Decidable (inr x) := by unfold inr; infer_instance
def told (t : Int) : Int × Int := if inr t then (t, 0) else (0, 3)
theorem told_in {t : Int} (h0 : -9223372036854775808 ≤ t) (h1 : t ≤ 9223372036854775807) : told t = (t, 0) := by unfold told; rw [if_pos ⟨h0, h1⟩]
theorem told_out {t : Int} (h : t < -9223372036854775808 ∨ 9223372036854775807 < t) : told t = (0, 3) := by
  unfold told; rw [if_neg (fun z => by obtain ⟨z1, z2⟩ := z; omega)]
theorem Add_at (a b : Int) (ha : inr a) (hb : inr b) : lombardref01_Add.f a b = some (told (a + b)) := by
  obtain ⟨a1, a2⟩ := ha
  obtain ⟨b1, b2⟩ := hb
  unfold lombardref01_Add.f
  by_cases c : b > 0
  · rw [if_pos c, w64 (by omega) (by omega)]
    by_cases d : a > 9223372036854775807 - b
    · rw [if_pos d, told_out (by omega)]
    · rw [if_neg d, if_neg (by omega), told_in (by omega) (by omega), w64 (by omega) (by omega)]
  · rw [if_neg c]
    by_cases e : b < 0
    · rw [if_pos e, w64 (x := -9223372036854775808 - b) (by omega) (by omega)]
      by_cases d : a < -9223372036854775808 - b
      · rw [if_pos d, told_out (by omega)]
      · rw [if_neg d, told_in (by omega) (by omega), w64 (by omega) (by omega)]
    · rw [if_neg e, told_in (by omega) (by omega), w64 (by omega) (by omega)]
/-- Of another sign. -/
def opp (n x : Int) : Prop := ¬ (x < 0 ↔ n < 0)
theorem opp_iff (n x : Int) : ((decide (x < 0)) != (decide (n < 0))) = true ↔ opp n x := by
  unfold opp
  by_cases a : x < 0 <;> by_cases b : n < 0 <;> simp [a, b]
theorem sum_erase (l : List Int) (i : Nat) (h : i < l.length) : l[i] + (l.eraseIdx i).sum = l.sum := by
  induction l generalizing i with
  | nil => simp at h
  | cons a t ih =>
    cases i with
    | zero => simp
    | succ i =>
      have := ih i (by simpa using h)
      simp only [List.eraseIdx_cons_succ, List.sum_cons, List.getElem_cons_succ]
      omega
theorem sum_sign (l : List Int) : ((∀ x ∈ l, 0 ≤ x) → 0 ≤ l.sum) ∧ ((∀ x ∈ l, x ≤ 0) → l.sum ≤ 0) := by
  induction l with
  | nil => simp
  | cons a t ih =>
    simp only [List.mem_cons, forall_eq_or_imp, List.sum_cons]
    exact ⟨fun h => by have := ih.1 h.2; omega, fun h => by have := ih.2 h.2; omega⟩
theorem rd_at (l : List Int) (i : Nat) (h : i < l.length) : rd l (i : Int) = l[i] := by simp [rd, List.getElem?_eq_getElem h]
/-- The inner loop looks for one of another sign; what follows is the outer loop's next round. -/
theorem Sum_l1 (l : List Int) (n : Int) (hl : l.length ≤ 8796093022208) : ∀ (k i at_ : Nat), i ≤ l.length → at_ < l.length → l.length < k + i →
    (opp n (l.getD at_ 0) ∨ ∀ j, j < i → ¬ opp n (l.getD j 0)) →
    ∃ a, a < l.length ∧ (opp n (l.getD a 0) ∨ ∀ j, j < l.length → ¬ opp n (l.getD j 0)) ∧ ∃ k', k ≤ k' + (l.length - i) + 1 ∧ 
      lombardref01_Sum.l1 k l n (at_ : Int) l (l.length : Int) (i : Int) = ((lombardref01_Add.f n (l.getD a 0)).bind fun bt => (if bt.2 = 0 then lombardref01_Sum.l0 k' (l.eraseIdx a) bt.1 else some (0, bt.2))) := by
  intro k
  induction k with
  | zero => intro i a h1 h2 h3; omega
  | succ k ih =>
    intro i a h1 h2 h3 h4
    by_cases c : i < l.length
    · have e : rd l (i : Int) = l.getD i 0 := by rw [rd_at l i c, List.getD_eq_getElem?_getD, List.getElem?_eq_getElem c]; rfl
      rw [lombardref01_Sum.l1, if_pos (by omega), if_pos (by omega), if_pos (by omega), w64 (by omega) (by omega), e]
      have hn : ((i : Int) + 1) = ((i + 1 : Nat) : Int) := by omega
      rw [hn]
      by_cases o : opp n (l.getD i 0)
      · rw [if_pos ((opp_iff _ _).mpr o)]
        obtain ⟨b, hb, hb2, k', hk', he⟩ := ih (i + 1) i (by omega) c (by omega) (.inl o)
        exact ⟨b, hb, hb2, k', by omega, he⟩
      · rw [if_neg (fun z => o ((opp_iff _ _).mp z))]
        obtain ⟨b, hb, hb2, k', hk', he⟩ := ih (i + 1) a (by omega) h2 (by omega) (h4.imp id fun h j hj => by
          by_cases e : j < i
          · exact h j e
          · obtain rfl : j = i := by omega
            exact o)
        exact ⟨b, hb, hb2, k', by omega, he⟩
    · obtain rfl : i = l.length := by omega
      refine ⟨a, h2, h4, k, by omega, ?_⟩
      have e : rd l (a : Int) = l.getD a 0 := by rw [rd_at l a h2, List.getD_eq_getElem?_getD, List.getElem?_eq_getElem h2]; rfl
      rw [lombardref01_Sum.l1, if_neg (by omega), if_pos (by omega), if_pos (by omega), e, w64 (x := (a : Int) + 1) (by omega) (by omega)]
      simp only [if_pos (show (a : Int) ≤ l.length by omega), if_pos (show (0 : Int) ≤ (a : Int) + 1 by omega), if_pos (show (a : Int) + 1 ≤ l.length by omega), Int.toNat_natCast]
theorem Sum_l0 : ∀ (m : Nat) (l : List Int) (n : Int) (k : Nat), l.length = m → m ≤ 1000000 → inr n → (∀ x ∈ l, inr x) → (m + 2) * (m + 2) ≤ k → lombardref01_Sum.l0 k l n = some (told (n + l.sum)) := by
  intro m
  induction m with
  | zero =>
    intro l n k hm _ hn hx hk
    obtain rfl : l = [] := List.eq_nil_of_length_eq_zero hm
    obtain ⟨k, rfl⟩ : ∃ j, k = j + 1 := ⟨k - 1, by omega⟩
    rw [lombardref01_Sum.l0, if_neg (by simp)]
    simp [told, hn]
  | succ m ih =>
    intro l n k hm hm1 hn hx hk
    obtain ⟨k, rfl⟩ : ∃ j, k = j + 1 := ⟨k - 1, by have : 0 < (m + 1 + 2) * (m + 1 + 2) := Nat.mul_pos (by omega) (by omega); omega⟩
    rw [lombardref01_Sum.l0, if_pos (by omega)]
    have hk2 : (m + 2) * (m + 2) + 2 * m + 5 ≤ k + 1 := by
      have : (m + 1 + 2) * (m + 1 + 2) = (m + 2) * (m + 2) + 2 * m + 5 := by
        rw [show m + 1 + 2 = (m + 2) + 1 from rfl, Nat.add_mul, Nat.mul_add]; omega
      omega
    have hsq : 0 < (m + 2) * (m + 2) := Nat.mul_pos (by omega) (by omega)
    obtain ⟨a, ha, hop, k', hk', he⟩ := Sum_l1 l n (by omega) k 0 0 (Nat.zero_le _) (by omega) (by omega) (.inr fun j hj => by omega)
    simp only [Int.natCast_zero] at he
    rw [he]
    have eg : l.getD a 0 = l[a] := by rw [List.getD_eq_getElem?_getD, List.getElem?_eq_getElem ha]; rfl
    rw [eg] at hop ⊢
    have hxa := hx _ (List.getElem_mem ha)
    rw [Add_at _ _ hn hxa, Option.bind_some]
    have hs := sum_erase l a ha
    have hmem : ∀ x ∈ l.eraseIdx a, inr x := fun x hx' => hx x (List.mem_of_mem_eraseIdx hx')
    by_cases c : inr (n + l[a])
    · have et : told (n + l[a]) = (n + l[a], 0) := by unfold told; rw [if_pos c]
      rw [et]
      rw [if_pos rfl, ih (l.eraseIdx a) (n + l[a]) k' (by rw [List.length_eraseIdx_of_lt ha]; omega) (by omega) c hmem (by omega)]
      have : n + l[a] + (l.eraseIdx a).sum = n + l.sum := by omega
      rw [this]
    · have et : told (n + l[a]) = (0, 3) := by unfold told; rw [if_neg c]
      rw [et]
      rw [if_neg (by decide)]
      have hno : ¬ opp n l[a] := by
        intro o
        unfold opp at o
        obtain ⟨n1, n2⟩ := hn
        obtain ⟨x1, x2⟩ := hxa
        apply c
        unfold inr
        omega
      have hall : ∀ j, j < l.length → ¬ opp n (l.getD j 0) := hop.resolve_left hno
      have hall' : ∀ x ∈ l, (x < 0 ↔ n < 0) := by
        intro x hxm
        obtain ⟨j, hj, rfl⟩ := List.mem_iff_getElem.mp hxm
        have := hall j hj
        rw [List.getD_eq_getElem?_getD, List.getElem?_eq_getElem hj] at this
        unfold opp at this
        exact Classical.not_not.mp this
      have hsgn := sum_sign (l.eraseIdx a)
      have hn' := hall' _ (List.getElem_mem ha)
      have : ¬ inr (n + l.sum) := by
        by_cases z : n < 0
        · have := hsgn.2 (fun x hx' => by have := (hall' x (List.mem_of_mem_eraseIdx hx')).mpr z; omega)
          unfold inr at c ⊢
          omega
        · have := hsgn.1 (fun x hx' => by have := hall' x (List.mem_of_mem_eraseIdx hx'); omega)
          unfold inr at c ⊢
          omega
      unfold told
      rw [if_neg this]
theorem rSum_at (k : Nat) (l : List Int) (hl : l.length ≤ 1000000) (hx : ∀ x ∈ l, inr x) (hk : (l.length + 2) * (l.length + 2) ≤ k) : lombardref01_Sum.f k l = some (told l.sum) := by
  unfold lombardref01_Sum.f
  rw [Option.bind_some, if_pos (by simp; omega), List.nil_append, Sum_l0 l.length l 0 k rfl hl (by unfold inr; omega) hx hk, Int.zero_add]
theorem Sum_at (l : List Int) (hl : l.length ≤ 1000000) (hx : ∀ x ∈ l, inr x) : money_Sum.f l = some (told l.sum) := by
  unfold money_Sum.f
  rw [if_pos ⟨by omega, hx⟩]
  rfl
end Go.Proofs.Ytmafmbcgjeecjaa.Print
