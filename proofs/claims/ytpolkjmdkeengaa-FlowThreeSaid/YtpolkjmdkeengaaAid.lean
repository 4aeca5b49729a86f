import Derived.Test.YtpolkjmdkeengaaPrint15
import Derived.Test.YtpolkjmdkeengaaPrint16
import Derived.Test.YtpolkjmdkeengaaPrint13
import Derived.Test.YtpolkjmdkeengaaOpen
namespace Go.Proofs.Ytpolkjmdkeengaa.Print
open Go.RowKit Go.Proofs.YtpolkjmdkeengaaW.PrintWords Go.Proofs.YtpolkjmdkeengaaW.PrintLast Go.Proofs.YtpolkjmdkeengaaW.PrintMore
set_option linter.unusedVariables false
set_option linter.unusedSimpArgs false

theorem w64 {x : Int} (h0 : -9223372036854775808 ≤ x) (h1 : x ≤ 9223372036854775807) : wrap64 x = x := by unfold wrap64; omega
def inr (x : Int) : Prop := -9223372036854775808 ≤ x ∧ x ≤ 9223372036854775807
instance (x : Int) : Decidable (inr x) := by unfold inr; infer_instance
def told (t : Int) : Int × Int := if inr t then (t, 0) else (0, 3)
theorem told_in {t : Int} (h0 : -9223372036854775808 ≤ t) (h1 : t ≤ 9223372036854775807) : told t = (t, 0) := by unfold told; rw [if_pos ⟨h0, h1⟩]
theorem told_out {t : Int} (h : t < -9223372036854775808 ∨ 9223372036854775807 < t) : told t = (0, 3) := by
  unfold told; rw [if_neg (fun z => by obtain ⟨z1, z2⟩ := z; omega)]
theorem Add_at (a b : Int) (ha : inr a) (hb : inr b) : lombardref01_Add.f a b = some (told (a + b)) := by
  obtain ⟨a1, a2⟩ := ha
  obtain ⟨b1, b2⟩ := hb
  unfold lombardref01_Add.f
  by_cases c : b > 0
  · rw [if_pos c, w64 (by omega) (by omega)]
    by_cases d : a > 9223372036854775807 - b
    · rw [if_pos d, told_out (by omega)]
    · rw [if_neg d, if_neg (by omega), told_in (by omega) (by omega), w64 (by omega) (by omega)]
  · rw [if_neg c]
    by_cases e : b < 0
    · rw [if_pos e, w64 (x := -9223372036854775808 - b) (by omega) (by omega)]
      by_cases d : a < -9223372036854775808 - b
      · rw [if_pos d, told_out (by omega)]
      · rw [if_neg d, told_in (by omega) (by omega), w64 (by omega) (by omega)]
    · rw [if_neg e, told_in (by omega) (by omega), w64 (by omega) (by omega)]
/-- Of another sign. -/
def opp (n x : Int) : Prop := ¬ (x < 0 ↔ n < 0)
theorem opp_iff (n x : Int) : ((decide (x < 0)) != (decide (n < 0))) = true ↔ opp n x := by
  unfold opp
  by_cases a : x < 0 <;> by_cases b : n < 0 <;> simp [a, b]
theorem sum_erase (l : List Int) (i : Nat) (h : i < l.length) : l[i] + (l.eraseIdx i).sum = l.sum := by
  induction l generalizing i with
  | nil => simp at h
  | cons a t ih =>
    cases i with
    | zero => simp
    | succ i =>
      have := ih i (by simpa using h)
      simp only [List.eraseIdx_cons_succ, List.sum_cons, List.getElem_cons_succ]
      omega
theorem sum_sign (l : List Int) : ((∀ x ∈ l, 0 ≤ x) → 0 ≤ l.sum) ∧ ((∀ x ∈ l, x ≤ 0) → l.sum ≤ 0) := by
  induction l with
  | nil => simp
  | cons a t ih =>
    simp only [List.mem_cons, forall_eq_or_imp, List.sum_cons]
    exact ⟨fun h => by have := ih.1 h.2; omega, fun h => by have := ih.2 h.2; omega⟩
theorem rd_at (l : List Int) (i : Nat) (h : i < l.length) : rd l (i : Int) = l[i] := by simp [rd, List.getElem?_eq_getElem h]
/-- The inner loop looks for one of another sign; what follows is the outer loop's next round. -/
theorem Sum_l1 (l : List Int) (n : Int) (hl : l.length ≤ 8796093022208) : ∀ (k i at_ : Nat), i ≤ l.length → at_ < l.length → l.length < k + i →
    (opp n (l.getD at_ 0) ∨ ∀ j, j < i → ¬ opp n (l.getD j 0)) →
    ∃ a, a < l.length ∧ (opp n (l.getD a 0) ∨ ∀ j, j < l.length → ¬ opp n (l.getD j 0)) ∧ ∃ k', k ≤ k' + (l.length - i) + 1 ∧ 
      lombardref01_Sum.l1 k l n (at_ : Int) l (l.length : Int) (i : Int) = ((lombardref01_Add.f n (l.getD a 0)).bind fun bt => (if bt.2 = 0 then lombardref01_Sum.l0 k' (l.eraseIdx a) bt.1 else some (0, bt.2))) := by
  intro k
  induction k with
  | zero => intro i a h1 h2 h3; omega
  | succ k ih =>
    intro i a h1 h2 h3 h4
    by_cases c : i < l.length
    · have e : rd l (i : Int) = l.getD i 0 := by rw [rd_at l i c, List.getD_eq_getElem?_getD, List.getElem?_eq_getElem c]; rfl
      rw [lombardref01_Sum.l1, if_pos (by omega), if_pos (by omega), if_pos (by omega), w64 (by omega) (by omega), e]
      have hn : ((i : Int) + 1) = ((i + 1 : Nat) : Int) := by omega
      rw [hn]
      by_cases o : opp n (l.getD i 0)
      · rw [if_pos ((opp_iff _ _).mpr o)]
        obtain ⟨b, hb, hb2, k', hk', he⟩ := ih (i + 1) i (by omega) c (by omega) (.inl o)
        exact ⟨b, hb, hb2, k', by omega, he⟩
      · rw [if_neg (fun z => o ((opp_iff _ _).mp z))]
        obtain ⟨b, hb, hb2, k', hk', he⟩ := ih (i + 1) a (by omega) h2 (by omega) (h4.imp id fun h j hj => by
          by_cases e : j < i
          · exact h j e
          · obtain rfl : j = i := by omega
            exact o)
        exact ⟨b, hb, hb2, k', by omega, he⟩
    · obtain rfl : i = l.length := by omega
      refine ⟨a, h2, h4, k, by omega, ?_⟩
      have e : rd l (a : Int) = l.getD a 0 := by rw [rd_at l a h2, List.getD_eq_getElem?_getD, List.getElem?_eq_getElem h2]; rfl
      rw [lombardref01_Sum.l1, if_neg (by omega), if_pos (by omega), if_pos (by omega), e, w64 (x := (a : Int) + 1) (by omega) (by omega)]
      simp only [if_pos (show (a : Int) ≤ l.length by omega), if_pos (show (0 : Int) ≤ (a : Int) + 1 by omega), if_pos (show (a : Int) + 1 ≤ l.length by omega), Int.toNat_natCast]
theorem Sum_l0 : ∀ (m : Nat) (l : List Int) (n : Int) (k : Nat), l.length = m → m ≤ 1000000 → inr n → (∀ x ∈ l, inr x) → (m + 2) * (m + 2) ≤ k → lombardref01_Sum.l0 k l n = some (told (n + l.sum)) := by
  intro m
  induction m with
  | zero =>
    intro l n k hm _ hn hx hk
    obtain rfl : l = [] := List.eq_nil_of_length_eq_zero hm
    obtain ⟨k, rfl⟩ : ∃ j, k = j + 1 := ⟨k - 1, by omega⟩
    rw [lombardref01_Sum.l0, if_neg (by simp)]
    simp [told, hn]
  | succ m ih =>
    intro l n k hm hm1 hn hx hk
    obtain ⟨k, rfl⟩ : ∃ j, k = j + 1 := ⟨k - 1, by have : 0 < (m + 1 + 2) * (m + 1 + 2) := Nat.mul_pos (by omega) (by omega); omega⟩
    rw [lombardref01_Sum.l0, if_pos (by omega)]
    have hk2 : (m + 2) * (m + 2) + 2 * m + 5 ≤ k + 1 := by
      have : (m + 1 + 2) * (m + 1 + 2) = (m + 2) * (m + 2) + 2 * m + 5 := by
        rw [show m + 1 + 2 = (m + 2) + 1 from rfl, Nat.add_mul, Nat.mul_add]; omega
      omega
    have hsq : 0 < (m + 2) * (m + 2) := Nat.mul_pos (by omega) (by omega)
    obtain ⟨a, ha, hop, k', hk', he⟩ := Sum_l1 l n (by omega) k 0 0 (Nat.zero_le _) (by omega) (by omega) (.inr fun j hj => by omega)
    simp only [Int.natCast_zero] at he
    rw [he]
    have eg : l.getD a 0 = l[a] := by rw [List.getD_eq_getElem?_getD, List.getElem?_eq_getElem ha]; rfl
    rw [eg] at hop ⊢
    have hxa := hx _ (List.getElem_mem ha)
    rw [Add_at _ _ hn hxa, Option.bind_some]
    have hs := sum_erase l a ha
    have hmem : ∀ x ∈ l.eraseIdx a, inr x := fun x hx' => hx x (List.mem_of_mem_eraseIdx hx')
    by_cases c : inr (n + l[a])
    · have et : told (n + l[a]) = (n + l[a], 0) := by unfold told; rw [if_pos c]
      rw [et]
      rw [if_pos rfl, ih (l.eraseIdx a) (n + l[a]) k' (by rw [List.length_eraseIdx_of_lt ha]; omega) (by omega) c hmem (by omega)]
      have : n + l[a] + (l.eraseIdx a).sum = n + l.sum := by omega
      rw [this]
    · have et : told (n + l[a]) = (0, 3) := by unfold told; rw [if_neg c]
      rw [et]
      rw [if_neg (by decide)]
      have hno : ¬ opp n l[a] := by
        intro o
        unfold opp at o
        obtain ⟨n1, n2⟩ := hn
        obtain ⟨x1, x2⟩ := hxa
        apply c
        unfold inr
        omega
      have hall : ∀ j, j < l.length → ¬ opp n (l.getD j 0) := hop.resolve_left hno
      have hall' : ∀ x ∈ l, (x < 0 ↔ n < 0) := by
        intro x hxm
        obtain ⟨j, hj, rfl⟩ := List.mem_iff_getElem.mp hxm
        have := hall j hj
        rw [List.getD_eq_getElem?_getD, List.getElem?_eq_getElem hj] at this
        unfold opp at this
        exact Classical.not_not.mp this
      have hsgn := sum_sign (l.eraseIdx a)
      have hn' := hall' _ (List.getElem_mem ha)
      have : ¬ inr (n + l.sum) := by
        by_cases z : n < 0
        · have := hsgn.2 (fun x hx' => by have := (hall' x (List.mem_of_mem_eraseIdx hx')).mpr z; omega)
          unfold inr at c ⊢
          omega
        · have := hsgn.1 (fun x hx' => by have := hall' x (List.mem_of_mem_eraseIdx hx'); omega)
          unfold inr at c ⊢
          omega
      unfold told
      rw [if_neg this]
theorem rSum_at (k : Nat) (l : List Int) (hl : l.length ≤ 1000000) (hx : ∀ x ∈ l, inr x) (hk : (l.length + 2) * (l.length + 2) ≤ k) : lombardref01_Sum.f k l = some (told l.sum) := by
  unfold lombardref01_Sum.f
  rw [Option.bind_some, if_pos (by simp; omega), List.nil_append, Sum_l0 l.length l 0 k rfl hl (by unfold inr; omega) hx hk, Int.zero_add]
theorem Sum_at (l : List Int) (hl : l.length ≤ 1000000) (hx : ∀ x ∈ l, inr x) : money_Sum.f l = some (told l.sum) := by
  unfold money_Sum.f
  rw [if_pos ⟨by omega, hx⟩]
  rfl

/-! ### rows there and back -/
instance : DecidableEq S39 := fun a b => if h : a.f0 = b.f0 ∧ a.f1 = b.f1 then isTrue (by cases a; cases b; simp at h; simp [h]) else isFalse (fun e => h (by rw [e]; exact ⟨rfl, rfl⟩))
instance : DecidableEq S40 := fun a b => if h : a.f0 = b.f0 ∧ a.f1 = b.f1 then isTrue (by cases a; cases b; simp at h; simp [h]) else isFalse (fun e => h (by rw [e]; exact ⟨rfl, rfl⟩))
def c39 (x : S40) : S39 := ⟨x.f0, x.f1⟩
def c40 (x : S39) : S40 := ⟨x.f0, x.f1⟩
theorem c4039 (l : List S40) : (l.map c39).map c40 = l := by
  rw [List.map_map]; conv => rhs; rw [← List.map_id l]
  exact List.map_congr_left fun x _ => rfl
theorem c3940 (l : List S39) : (l.map c40).map c39 = l := by
  rw [List.map_map]; conv => rhs; rw [← List.map_id l]
  exact List.map_congr_left fun x _ => rfl
theorem rd39 (l : List S39) (i : Nat) (c : i < l.length) : rd_T39 l (i : Int) = l[i] := by simp [rd_T39, List.getElem?_eq_getElem c]
theorem rd40 (l : List S40) (i : Nat) (c : i < l.length) : rd_T40 l (i : Int) = l[i] := by simp [rd_T40, List.getElem?_eq_getElem c]
theorem from_l0 (l : List S39) (hl : l.length ≤ 1000000) : ∀ (k i : Nat) (acc : List S40), i ≤ l.length → l.length < k + i → acc.length = i →
    lombardlaw07_from.l0 k acc l (l.length : Int) (i : Int) = some (acc ++ (l.drop i).map c40) := by
  intro k
  induction k with
  | zero => intro i acc h1 h2; omega
  | succ k ih =>
    intro i acc h1 h2 h3
    by_cases c : i < l.length
    · rw [lombardlaw07_from.l0, if_pos (by omega), if_pos (by omega), if_pos (by omega), if_pos (by omega), w64 (by omega) (by omega), rd39 l i c]
      have := ih (i + 1) (acc ++ [⟨l[i].f0, l[i].f1⟩]) (by omega) (by omega) (by simp [h3])
      rw [Int.natCast_add, Int.natCast_one] at this
      rw [this, List.drop_eq_getElem_cons c, List.map_cons, List.append_assoc]
      rfl
    · rw [lombardlaw07_from.l0, if_neg (by omega), List.drop_of_length_le (by omega)]
      simp
theorem from_at (k : Nat) (l : List S39) (hl : l.length ≤ 1000000) (hk : l.length < k) : lombardlaw07_from.f k l = some (l.map c40) := by
  have := from_l0 l hl k 0 [] (Nat.zero_le _) (by omega) rfl
  simpa [lombardlaw07_from.f] using this
theorem to_l0 (l : List S40) (hl : l.length ≤ 1000000) : ∀ (k i : Nat) (acc : List S39), i ≤ l.length → l.length < k + i → acc.length = i →
    lombardlaw07_to.l0 k acc l (l.length : Int) (i : Int) = some (acc ++ (l.drop i).map c39) := by
  intro k
  induction k with
  | zero => intro i acc h1 h2; omega
  | succ k ih =>
    intro i acc h1 h2 h3
    by_cases c : i < l.length
    · rw [lombardlaw07_to.l0, if_pos (by omega), if_pos (by omega), if_pos (by omega), if_pos (by omega), w64 (by omega) (by omega), rd40 l i c]
      have := ih (i + 1) (acc ++ [⟨l[i].f0, l[i].f1⟩]) (by omega) (by omega) (by simp [h3])
      rw [Int.natCast_add, Int.natCast_one] at this
      rw [this, List.drop_eq_getElem_cons c, List.map_cons, List.append_assoc]
      rfl
    · rw [lombardlaw07_to.l0, if_neg (by omega), List.drop_of_length_le (by omega)]
      simp
theorem to_at (k : Nat) (l : List S40) (hl : l.length ≤ 1000000) (hk : l.length < k) : lombardlaw07_to.f k l = some (l.map c39) := by
  have := to_l0 l hl k 0 [] (Nat.zero_le _) (by omega) rfl
  simpa [lombardlaw07_to.f] using this
theorem Same_l0 (a b : List S40) (hl : a.length = b.length) (hm : a.length ≤ 1000000) : ∀ (k i : Nat), i ≤ a.length → a.length < k + i →
    lombardref07_Same.l0 k a b (a.length : Int) (i : Int) = some (decide (a.drop i = b.drop i)) := by
  intro k
  induction k with
  | zero => intro i h1 h2; omega
  | succ k ih =>
    intro i h1 h2
    by_cases c : i < a.length
    · have c' : i < b.length := by omega
      have := ih (i + 1) (by omega) (by omega)
      rw [Int.natCast_add, Int.natCast_one] at this
      rw [lombardref07_Same.l0, if_pos (by omega), if_pos (by omega), if_pos (by omega), if_pos (by omega), w64 (by omega) (by omega), rd40 a i c, rd40 b i c', this, List.drop_eq_getElem_cons c, List.drop_eq_getElem_cons c']
      have hx : (a[i] = b[i]) ↔ (a[i].f0 = b[i].f0 ∧ a[i].f1 = b[i].f1) := by
        cases ha : a[i]; cases hb : b[i]; simp
      have hd : ((a[i] :: a.drop (i + 1)) = (b[i] :: b.drop (i + 1))) ↔ ((a[i].f0 = b[i].f0 ∧ a[i].f1 = b[i].f1) ∧ a.drop (i + 1) = b.drop (i + 1)) := by rw [List.cons.injEq, hx]
      have hd' : decide ((a[i] :: a.drop (i + 1)) = (b[i] :: b.drop (i + 1))) = decide ((a[i].f0 = b[i].f0 ∧ a[i].f1 = b[i].f1) ∧ a.drop (i + 1) = b.drop (i + 1)) := decide_eq_decide.mpr hd
      rw [hd']
      by_cases c0 : a[i].f0 = b[i].f0 <;> by_cases c1 : a[i].f1 = b[i].f1 <;> simp [c0, c1]
    · rw [lombardref07_Same.l0, if_neg (by omega), List.drop_of_length_le (by omega), List.drop_of_length_le (by omega)]
      simp
theorem Same_at (k : Nat) (a b : List S40) (hm : a.length ≤ 1000000) (hk : a.length < k) : lombardref07_Same.f k a b = some (decide (a = b)) := by
  unfold lombardref07_Same.f
  by_cases c : a.length = b.length
  · rw [if_pos (by omega)]
    simpa using Same_l0 a b c hm k 0 (Nat.zero_le _) (by omega)
  · rw [if_neg (by omega)]
    have : a ≠ b := fun e => c (by rw [e])
    simp [this]
/-! ### Parted, Total -/
theorem parted_at (k : Nat) (d : Int) (l : List S39) (hl : l.length ≤ 1000000) (hk : l.length < k) : flow_Parted.f k l d = some (l.filter (fun x => decide (x.f0 ≤ d)), l.filter (fun x => !decide (x.f0 ≤ d))) := by
  have := flow_Spread.part_l d l hl l.length 0 [] [] k (by omega) (by omega) (by omega) (by simp) (by simp)
  simpa [flow_Parted.f] using this
theorem rparted_l0 (d : Int) (l : List S40) (hl : l.length ≤ 1000000) : ∀ n (i : Nat) (a b : List S40) k, l.length - i = n → i ≤ l.length → n < k → a.length ≤ i → b.length ≤ i →
    lombardref07_Parted.l0 k d a b l (l.length : Int) (i : Int) = some (a ++ (l.drop i).filter (fun x => decide (x.f0 ≤ d)), b ++ (l.drop i).filter (fun x => !decide (x.f0 ≤ d))) := by
  intro n
  induction n with
  | zero =>
    intro i a b k hn hi hk ha hb
    obtain ⟨k, rfl⟩ : ∃ m, k = m + 1 := ⟨k - 1, by omega⟩
    have : i = l.length := by omega
    subst this
    simp only [lombardref07_Parted.l0]
    rw [if_neg (by omega), List.drop_length]
    simp
  | succ n ih =>
    intro i a b k hn hi hk ha hb
    obtain ⟨k, rfl⟩ : ∃ m, k = m + 1 := ⟨k - 1, by omega⟩
    have hlt : i < l.length := by omega
    simp only [lombardref07_Parted.l0]
    rw [if_pos (by omega), if_pos (by omega), if_pos (by omega), rd40 l i hlt, List.drop_eq_getElem_cons hlt]
    have ew : wrap64 ((i : Int) + 1) = ((i + 1 : Nat) : Int) := by unfold wrap64; omega
    by_cases c : (l[i]).f0 ≤ d
    · rw [if_pos c, if_pos (by omega), ew, ih (i + 1) _ _ k (by omega) (by omega) (by omega) (by simp; omega) (by omega), List.filter_cons, List.filter_cons, if_pos (decide_eq_true c), if_neg (by simp [c])]
      simp
    · rw [if_neg c, if_pos (by omega), ew, ih (i + 1) _ _ k (by omega) (by omega) (by omega) (by omega) (by simp; omega), List.filter_cons, List.filter_cons, if_neg (by simp [c]), if_pos (by simp [c])]
      simp
theorem rparted_at (k : Nat) (d : Int) (l : List S40) (hl : l.length ≤ 1000000) (hk : l.length < k) : lombardref07_Parted.f k l d = some (l.filter (fun x => decide (x.f0 ≤ d)), l.filter (fun x => !decide (x.f0 ≤ d))) := by
  have := rparted_l0 d l hl l.length 0 [] [] k (by omega) (by omega) (by omega) (by simp) (by simp)
  simpa [lombardref07_Parted.f] using this
theorem total_at (l : List S39) (hl : l.length ≤ 1000000) (hx : ∀ x ∈ l, inr x.f1) : flow_Total.f l = some (told (l.map (·.f1)).sum) := by
  unfold flow_Total.f
  rw [if_pos (by omega), Sum_at _ (by simpa using hl) (fun x h => by obtain ⟨y, hy, rfl⟩ := List.mem_map.1 h; exact hx y hy)]
theorem rtotal_l0 (l : List S40) (hl : l.length ≤ 1000) (hx : ∀ x ∈ l, inr x.f1) : ∀ n (i k : Nat), l.length - i = n → i ≤ l.length → n + 1100000 < k →
    lombardref07_Total.l0 k ((l.take i).map (·.f1)) l (l.length : Int) (i : Int) = some (told (l.map (·.f1)).sum) := by
  intro n
  induction n with
  | zero =>
    intro i k hn hi hk
    obtain ⟨k, rfl⟩ : ∃ m, k = m + 1 := ⟨k - 1, by omega⟩
    obtain rfl : i = l.length := by omega
    simp only [lombardref07_Total.l0]
    have hsq : (l.length + 2) * (l.length + 2) ≤ 1002 * 1002 := Nat.mul_le_mul (by omega) (by omega)
    rw [if_neg (by omega), List.take_length, rSum_at k (l.map (·.f1)) (by simp; omega) (fun x h => by obtain ⟨y, hy, rfl⟩ := List.mem_map.1 h; exact hx y hy) (by rw [List.length_map]; omega), Option.bind_some]
  | succ n ih =>
    intro i k hn hi hk
    obtain ⟨k, rfl⟩ : ∃ m, k = m + 1 := ⟨k - 1, by omega⟩
    have hlt : i < l.length := by omega
    have ew : wrap64 ((i : Int) + 1) = ((i + 1 : Nat) : Int) := by unfold wrap64; omega
    simp only [lombardref07_Total.l0]
    have := ih (i + 1) k (by omega) (by omega) (by omega)
    rw [List.take_succ_eq_append_getElem hlt, List.map_append] at this
    rw [if_pos (by omega), if_pos (by omega), if_pos (by omega), if_pos (by simp; omega), rd40 l i hlt, ew]
    exact this
theorem rtotal_at (k : Nat) (l : List S40) (hl : l.length ≤ 1000) (hx : ∀ x ∈ l, inr x.f1) (hk : 1200000 ≤ k) : lombardref07_Total.f k l = some (told (l.map (·.f1)).sum) := by
  have := rtotal_l0 l hl hx l.length 0 k (by omega) (by omega) (by omega)
  simpa [lombardref07_Total.f] using this
end Go.Proofs.Ytpolkjmdkeengaa.Print
