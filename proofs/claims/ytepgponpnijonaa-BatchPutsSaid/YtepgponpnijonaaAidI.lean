import Derived.Test.YtepgponpnijonaaPrint14
import Derived.Test.YtepgponpnijonaaPrint15
import Derived.Test.YtepgponpnijonaaPrint19
import Derived.Test.YtepgponpnijonaaAidD
import Derived.Test.YtepgponpnijonaaAidH
namespace Go.Proofs.Ytepgponpnijonaa.Print
open Go.RowKit Go.Proofs.YtepgponpnijonaaW.PrintWords Go.Proofs.YtepgponpnijonaaW.PrintLast Go.Proofs.YtepgponpnijonaaW.PrintMore
set_option linter.unusedVariables false
set_option linter.unusedSimpArgs false

instance : DecidableEq S53 := fun a b => if h : a.f0 = b.f0 ∧ a.f1 = b.f1 then isTrue (by cases a; cases b; simp at h; simp [h]) else isFalse (fun e => h (by rw [e]; exact ⟨rfl, rfl⟩))
instance : DecidableEq S59 := fun a b => if h : a.f0 = b.f0 ∧ a.f1 = b.f1 then isTrue (by cases a; cases b; simp at h; simp [h]) else isFalse (fun e => h (by rw [e]; exact ⟨rfl, rfl⟩))
def c48 (x : S53) : S59 := ⟨x.f0, x.f1⟩
def c45 (x : S59) : S53 := ⟨x.f0, x.f1⟩
theorem From_l0 (l : List S53) (hl : l.length ≤ 8796093022208) : ∀ (k i : Nat) (acc : List S59), i ≤ l.length → l.length < k + i → acc.length = i →
    lombardlaw17_From.l0 k acc l (l.length : Int) (i : Int) = some (acc ++ (l.drop i).map c48) := by
  intro k
  induction k with
  | zero => intro i acc h1 h2; omega
  | succ k ih =>
    intro i acc h1 h2 h3
    by_cases c : i < l.length
    · have e : rd_T53 l (i : Int) = l[i] := by simp [rd_T53, List.getElem?_eq_getElem c]
      rw [lombardlaw17_From.l0, if_pos (by omega), if_pos (by omega), if_pos (by omega), if_pos (by omega), w64 (by omega) (by omega), e]
      have := ih (i + 1) (acc ++ [⟨l[i].f0, l[i].f1⟩]) (by omega) (by omega) (by simp [h3])
      rw [Int.natCast_add, Int.natCast_one] at this
      rw [this, List.drop_eq_getElem_cons c, List.map_cons, List.append_assoc]
      rfl
    · rw [lombardlaw17_From.l0, if_neg (by omega), List.drop_of_length_le (by omega)]
      simp
theorem From_at (k : Nat) (l : List S53) (hl : l.length ≤ 8796093022208) (hk : l.length < k) : lombardlaw17_From.f k l = some (l.map c48) := by
  have := From_l0 l hl k 0 [] (Nat.zero_le _) (by omega) rfl
  simpa [lombardlaw17_From.f] using this
theorem Same_l0 (a b : List S59) (hl : a.length = b.length) (hm : a.length ≤ 8796093022208) : ∀ (k i : Nat), i ≤ a.length → a.length < k + i →
    lombardref17_Same.l0 k a b (a.length : Int) (i : Int) = some (decide (a.drop i = b.drop i)) := by
  intro k
  induction k with
  | zero => intro i h1 h2; omega
  | succ k ih =>
    intro i h1 h2
    by_cases c : i < a.length
    · have c' : i < b.length := by omega
      have e : rd_T59 a (i : Int) = a[i] := by simp [rd_T59, List.getElem?_eq_getElem c]
      have e' : rd_T59 b (i : Int) = b[i] := by simp [rd_T59, List.getElem?_eq_getElem c']
      have := ih (i + 1) (by omega) (by omega)
      rw [Int.natCast_add, Int.natCast_one] at this
      rw [lombardref17_Same.l0, if_pos (by omega), if_pos (by omega), if_pos (by omega), if_pos (by omega), w64 (by omega) (by omega), e, e', this, List.drop_eq_getElem_cons c, List.drop_eq_getElem_cons c']
      have hx : (a[i] = b[i]) ↔ (a[i].f0 = b[i].f0 ∧ a[i].f1 = b[i].f1) := by
        cases ha : a[i]; cases hb : b[i]; simp
      have hd : ((a[i] :: a.drop (i + 1)) = (b[i] :: b.drop (i + 1))) ↔ ((a[i].f0 = b[i].f0 ∧ a[i].f1 = b[i].f1) ∧ a.drop (i + 1) = b.drop (i + 1)) := by rw [List.cons.injEq, hx]
      have hd' : decide ((a[i] :: a.drop (i + 1)) = (b[i] :: b.drop (i + 1))) = decide ((a[i].f0 = b[i].f0 ∧ a[i].f1 = b[i].f1) ∧ a.drop (i + 1) = b.drop (i + 1)) := decide_eq_decide.mpr hd
      rw [hd']
      by_cases c0 : a[i].f0 = b[i].f0 <;> by_cases c1 : a[i].f1 = b[i].f1 <;> simp [c0, c1]
    · rw [lombardref17_Same.l0, if_neg (by omega), List.drop_of_length_le (by omega), List.drop_of_length_le (by omega)]
      simp
theorem Same_at (k : Nat) (a b : List S59) (hm : a.length ≤ 8796093022208) (hk : a.length < k) : lombardref17_Same.f k a b = some (decide (a = b)) := by
  unfold lombardref17_Same.f
  by_cases c : a.length = b.length
  · rw [if_pos (by omega)]
    simpa using Same_l0 a b c hm k 0 (Nat.zero_le _) (by omega)
  · rw [if_neg (by omega)]
    have : a ≠ b := fun e => c (by rw [e])
    simp [this]
theorem rCheck_l0 (l : List S59) (hl : l.length ≤ 64) : ∀ (k i : Nat) (s : Int), i ≤ l.length → l.length < k + i → -(i * 1125899906842624 : Int) ≤ s → s ≤ i * 1125899906842624 →
    lombardref17_Check.l0 k l s l (l.length : Int) (i : Int) = some (if l = [] then 2 else chkGo ((l.drop i).map c45) s) := by
  intro k
  induction k with
  | zero => intro i s h1 h2; omega
  | succ k ih =>
    intro i s h1 h2 h3 h4
    by_cases c : i < l.length
    · have hne : l ≠ [] := fun h => by rw [h] at c; simp at c
      have hc : ∀ x : S59, good (c45 x) ↔ (1 ≤ x.f0 ∧ x.f0 ≤ 7) ∧ -1125899906842624 ≤ x.f1 ∧ x.f1 ≤ 1125899906842624 ∧ x.f1 ≠ 0 := fun x => Iff.rfl
      rw [lombardref17_Check.l0, if_pos (by omega), if_pos (by omega), if_pos (by omega), rd48 l i c, w64 (x := (i : Int) + 1) (by omega) (by omega), List.drop_eq_getElem_cons c, List.map_cons, chkGo, if_neg hne]
      by_cases c1 : l[i].f0 < 1
      · rw [if_pos c1, if_neg (fun h => by have := (hc _).mp h; omega)]
      rw [if_neg c1]
      by_cases c2 : l[i].f0 > 7
      · rw [if_pos c2, if_neg (fun h => by have := (hc _).mp h; omega)]
      rw [if_neg c2]
      by_cases c3 : l[i].f1 < -1125899906842624
      · rw [if_pos c3, if_neg (fun h => by have := (hc _).mp h; omega)]
      rw [if_neg c3]
      by_cases c4 : l[i].f1 > 1125899906842624
      · rw [if_pos c4, if_neg (fun h => by have := (hc _).mp h; omega)]
      rw [if_neg c4]
      by_cases c5 : l[i].f1 = 0
      · rw [if_pos c5, if_neg (fun h => by have := (hc _).mp h; omega)]
      rw [if_neg c5, if_pos ((hc _).mpr ⟨⟨by omega, by omega⟩, by omega, by omega, c5⟩), w64 (by omega) (by omega)]
      have := ih (i + 1) (s + l[i].f1) (by omega) (by omega) (by rw [Int.natCast_add, Int.add_mul]; omega) (by rw [Int.natCast_add, Int.add_mul]; omega)
      rw [Int.natCast_add, Int.natCast_one, if_neg hne] at this
      exact this
    · rw [lombardref17_Check.l0, if_neg (by omega), List.drop_of_length_le (by omega), List.map_nil, chkGo]
      by_cases d : l = []
      · subst d; rfl
      · have : l.length ≠ 0 := fun h => d (List.eq_nil_of_length_eq_zero h)
        rw [if_neg (by omega), if_neg d]
        by_cases z : s = 0
        · rw [if_pos z, if_pos z]
        · rw [if_neg z, if_neg z]
theorem rCheck_at (k : Nat) (l : List S59) (hk : 65 ≤ k) : lombardref17_Check.f k l = some (chk (l.map c45)) := by
  unfold lombardref17_Check.f chk
  rw [List.length_map]
  by_cases c : l.length > 64
  · rw [if_pos (by omega), if_pos c]
  · rw [if_neg (by omega), if_neg c]
    have := rCheck_l0 l (by omega) k 0 0 (by omega) (by omega) (by omega) (by omega)
    simp only [Int.natCast_zero, List.drop_zero] at this
    rw [this]
    by_cases d : l = []
    · subst d; rfl
    · rw [if_neg d, if_neg (by simpa using d)]
/-! lines of the program's, lines of the document's -/
theorem To_l0 (l : List S59) (hl : l.length ≤ 8796093022208) : ∀ (k i : Nat) (acc : List S53), i ≤ l.length → l.length < k + i → acc.length = i →
    lombardlaw17_To.l0 k acc l (l.length : Int) (i : Int) = some (acc ++ (l.drop i).map c45) := by
  intro k
  induction k with
  | zero => intro i acc h1 h2; omega
  | succ k ih =>
    intro i acc h1 h2 h3
    by_cases c : i < l.length
    · rw [lombardlaw17_To.l0, if_pos (by omega), if_pos (by omega), if_pos (by omega), if_pos (by omega), w64 (by omega) (by omega), rd48 l i c]
      have := ih (i + 1) (acc ++ [⟨l[i].f0, l[i].f1⟩]) (by omega) (by omega) (by simp [h3])
      rw [Int.natCast_add, Int.natCast_one] at this
      rw [this, List.drop_eq_getElem_cons c, List.map_cons, List.append_assoc]
      rfl
    · rw [lombardlaw17_To.l0, if_neg (by omega), List.drop_of_length_le (by omega)]
      simp
theorem To_at (k : Nat) (l : List S59) (hl : l.length ≤ 8796093022208) (hk : l.length < k) : lombardlaw17_To.f k l = some (l.map c45) := by
  have := To_l0 l hl k 0 [] (Nat.zero_le _) (by omega) rfl
  simpa [lombardlaw17_To.f] using this
theorem back48 (l : List S59) : (l.map c45).map c48 = l := by
  rw [List.map_map]
  have : c48 ∘ c45 = id := by funext x; rfl
  rw [this, List.map_id]

/-! the document's batches -/
theorem r18Check_at (k : Nat) (seq ev : Int) (l : List S59) (hk : 70 ≤ k) : lombardref18_Check.f k seq ev l = some (bchk seq ev (l.map c45)) := by
  obtain ⟨k, rfl⟩ : ∃ j, k = j + 1 := ⟨k - 1, by omega⟩
  have hj : ∀ b : Bool, lombardref18_Check.j0 (k + 1) b seq ev l = some (if b = true then 2 else if (l.length : Int) = 0 then 0 else chk (l.map c45)) := by
    intro b
    rw [lombardref18_Check.j0]
    by_cases c : b = true
    · rw [if_pos c, if_pos c]
    · rw [if_neg c, if_neg c]
      by_cases d : (l.length : Int) = 0
      · rw [if_pos d, if_pos d]
      · rw [if_neg d, if_neg d, rCheck_at k l (by omega)]; rfl
  unfold lombardref18_Check.f bchk
  rw [hj, hj, List.length_map]
  by_cases c1 : seq < 0
  · rw [if_pos c1, if_pos rfl, if_pos (show seq < 0 ∨ 2147483647 < seq ∨ ev < 0 ∨ 2147483647 < ev from .inl c1)]
  rw [if_neg c1]
  by_cases c2 : seq > 2147483647
  · rw [if_pos c2, if_pos rfl, if_pos (show seq < 0 ∨ 2147483647 < seq ∨ ev < 0 ∨ 2147483647 < ev from .inr (.inl c2))]
  rw [if_neg c2]
  by_cases c3 : ev < 0
  · rw [if_pos c3, if_pos rfl, if_pos (show seq < 0 ∨ 2147483647 < seq ∨ ev < 0 ∨ 2147483647 < ev from .inr (.inr (.inl c3)))]
  rw [if_neg c3]
  by_cases c4 : ev > 2147483647
  · rw [if_pos (show seq < 0 ∨ 2147483647 < seq ∨ ev < 0 ∨ 2147483647 < ev by omega), if_pos (by simpa using c4)]
  · rw [if_neg (show ¬ (seq < 0 ∨ 2147483647 < seq ∨ ev < 0 ∨ 2147483647 < ev) by omega), if_neg (by simpa using c4)]
theorem rPut_l0 (l : List S59) (hl : l.length ≤ 64) (m : Nat) (hm : 10000 ≤ m) : ∀ (d i : Nat) (acc : List Nat), i + d = l.length → acc.length + 9 * d ≤ 900 → (∀ x ∈ acc, x < 256) →
    lombardref18_Put.l0 (m + d + 1) (ints acc) l (l.length : Int) (i : Int) = some (ints ((acc ++ linesB ((l.drop i).map c45)) ++ leb 4 (sumN (acc ++ linesB ((l.drop i).map c45)))), 0) := by
  intro d
  induction d with
  | zero =>
    intro i acc hi ha hb
    have hs := sumN_lt acc hb
    rw [lombardref18_Put.l0, if_neg (by omega), List.drop_of_length_le (by omega), List.map_nil, linesB, List.append_nil, rSum_at _ acc (by omega) hb (by omega), Option.bind_some,
      u64w (Int.natCast_nonneg _) (by omega), show (4 : Int) = ((4 : Nat) : Int) from rfl, number_at _ _ 4 (by decide) (by omega), Option.bind_some, if_pos (by rw [ints_len, ints_len, leb_len]; omega), ints_append]
  | succ d ih =>
    intro i acc hi ha hb
    have c : i < l.length := by omega
    rw [lombardref18_Put.l0, if_pos (by omega), if_pos (by omega), if_pos (by omega), rd48 l i c, if_pos (by rw [ints_len]; omega), mod_ints, ints_append, Option.bind_some, u64N_at,
      show (8 : Int) = ((8 : Nat) : Int) from rfl, number_at _ _ 8 (by decide) (by omega), Option.bind_some, if_pos (by rw [ints_len, ints_len, leb_len]; simp; omega), ints_append, w64 (by omega) (by omega), show ((i : Int) + 1) = ((i + 1 : Nat) : Int) by omega]
    have e : acc ++ [(l[i].f0 % 256).toNat] ++ leb 8 (u64N l[i].f1) = acc ++ lineB (c45 l[i]) := by rw [List.append_assoc]; rfl
    rw [e, show m + (d + 1) = m + d + 1 from rfl, ih (i + 1) _ (by omega) (by rw [List.length_append, lineB_len]; omega) (by
      intro x hx
      rcases List.mem_append.mp hx with h | h
      · exact hb x h
      · exact lineB_lt _ x h), List.drop_eq_getElem_cons c, List.map_cons, linesB, ← List.append_assoc acc]
theorem rPut_at (k : Nat) (seq ev : Int) (l : List S59) (hk : 20000 ≤ k) : lombardref18_Put.f k seq ev l = some (putS seq ev (l.map c45)) := by
  unfold lombardref18_Put.f putS
  rw [r18Check_at k seq ev l (by omega), Option.bind_some]
  by_cases c : bchk seq ev (l.map c45) = 0
  · have hl := bchk_len c
    rw [List.length_map] at hl
    rw [if_pos c, if_pos c, show ([76, 66] : List Int) = ints [76, 66] from rfl, Option.bind_some, show (4 : Int) = ((4 : Nat) : Int) from rfl, u64N_at, number_at k _ 4 (by decide) (by omega), Option.bind_some,
      if_pos (by rw [ints_len, ints_len, leb_len]; decide), ints_append, Option.bind_some, u64N_at, number_at k _ 4 (by decide) (by omega), Option.bind_some, if_pos (by rw [ints_len, ints_len, leb_len]; simp [leb_len]), ints_append, Option.bind_some, if_pos (by rw [ints_len]; simp [leb_len])]
    have e : [((l.length : Int)) % 256] = ints [l.length % 256] := by
      rw [mod_ints]; congr 2
    obtain ⟨m, rfl⟩ : ∃ m, k = m + l.length + 1 := ⟨k - l.length - 1, by omega⟩
    have hlt : ∀ x ∈ headN (u64N seq) (u64N ev) l.length, x < 256 := fun x hx => bodyN_lt (u64N seq) (u64N ev) (l.map c45) x (by rw [bodyN, List.length_map]; exact List.mem_append_left _ hx)
    have := rPut_l0 l hl m (by omega) l.length 0 (headN (u64N seq) (u64N ev) l.length) (by omega) (by rw [headN_len]; omega) hlt
    rw [e, ints_append]
    unfold putN bodyN
    rw [List.length_map]
    exact this
  · rw [if_neg c, if_neg c]
def convG (r : Int × Int × List S53 × Int) : Int × Int × List S59 × Int := (r.1, r.2.1, r.2.2.1.map c48, r.2.2.2)
theorem back45 (l : List S53) : (l.map c48).map c45 = l := by
  rw [List.map_map]
  have : c45 ∘ c48 = id := by funext x; rfl
  rw [this, List.map_id]
/-! the same bytes, the same batches -/
theorem rd_g (l : List Int) (i : Nat) (h : i < l.length) : rd l (i : Int) = l[i] := by simp [rd, List.getElem?_eq_getElem h]
theorem Bytes_l0 (a b : List Int) (hl : a.length = b.length) (hm : a.length ≤ 8796093022208) : ∀ (k i : Nat), i ≤ a.length → a.length < k + i →
    lombardref18_Bytes.l0 k a b (a.length : Int) (i : Int) = some (decide (a.drop i = b.drop i)) := by
  intro k
  induction k with
  | zero => intro i h1 h2; omega
  | succ k ih =>
    intro i h1 h2
    by_cases c : i < a.length
    · have c' : i < b.length := by omega
      have := ih (i + 1) (by omega) (by omega)
      rw [Int.natCast_add, Int.natCast_one] at this
      rw [lombardref18_Bytes.l0, if_pos (by omega), if_pos (by omega), if_pos (by omega), if_pos (by omega), w64 (by omega) (by omega), rd_g a i c, rd_g b i c', this, List.drop_eq_getElem_cons c, List.drop_eq_getElem_cons c']
      have hd : ((a[i] :: a.drop (i + 1)) = (b[i] :: b.drop (i + 1))) ↔ (a[i] = b[i] ∧ a.drop (i + 1) = b.drop (i + 1)) := by rw [List.cons.injEq]
      have hd' : decide ((a[i] :: a.drop (i + 1)) = (b[i] :: b.drop (i + 1))) = decide (a[i] = b[i] ∧ a.drop (i + 1) = b.drop (i + 1)) := decide_eq_decide.mpr hd
      rw [hd']
      by_cases c0 : a[i] = b[i] <;> simp [c0]
    · rw [lombardref18_Bytes.l0, if_neg (by omega), List.drop_of_length_le (by omega), List.drop_of_length_le (by omega)]
      simp
theorem Bytes_at (k : Nat) (a b : List Int) (hm : a.length ≤ 8796093022208) (hk : a.length < k) : lombardref18_Bytes.f k a b = some (decide (a = b)) := by
  unfold lombardref18_Bytes.f
  by_cases c : a.length = b.length
  · rw [if_pos (by omega)]
    simpa using Bytes_l0 a b c hm k 0 (Nat.zero_le _) (by omega)
  · rw [if_neg (by omega)]
    have : a ≠ b := fun e => c (by rw [e])
    simp [this]
theorem Same18_at (k : Nat) (s e s' e' : Int) (l l' : List S59) (hm : l.length ≤ 8796093022208) (hk : l.length < k) : lombardref18_Same.f k s e l s' e' l' = some (decide (s = s' ∧ e = e' ∧ l = l')) := by
  unfold lombardref18_Same.f
  by_cases c : s = s'
  · by_cases d : e = e'
    · rw [if_pos c, if_pos d, Same_at k l l' hm hk, Option.bind_some]; simp [c, d]
    · rw [if_pos c, if_neg d]; simp [d]
  · rw [if_neg c]; simp [c]
/-- Any row of bytes is one of plain numbers. -/
theorem ints_of (l : List Int) (h : ∀ x ∈ l, 0 ≤ x ∧ x < 256) : ∃ b : List Nat, l = ints b ∧ b.length = l.length ∧ ∀ x ∈ b, x < 256 := by
  refine ⟨l.map Int.toNat, ?_, by simp, ?_⟩
  · unfold ints
    rw [List.map_map]
    conv => lhs; rw [← List.map_id l]
    apply List.map_congr_left
    intro x hx
    have := h x hx
    simp; omega
  · intro x hx
    obtain ⟨y, hy, rfl⟩ := List.mem_map.mp hx
    have := h y hy
    omega
end Go.Proofs.Ytepgponpnijonaa.Print
