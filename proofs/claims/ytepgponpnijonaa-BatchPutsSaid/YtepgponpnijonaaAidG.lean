import Derived.Test.YtepgponpnijonaaPrint7
import Derived.Test.YtepgponpnijonaaAidE
namespace Go.Proofs.Ytepgponpnijonaa.Print
open Go.RowKit Go.Proofs.YtepgponpnijonaaW.PrintWords Go.Proofs.YtepgponpnijonaaW.PrintLast Go.Proofs.YtepgponpnijonaaW.PrintMore
set_option linter.unusedVariables false
set_option linter.unusedSimpArgs false
/-- The accounts' names. -/
def nm (n : Int) : ByteArray := if n = 1 then ⟨#[99, 97, 115, 104]⟩ else if n = 2 then ⟨#[108, 111, 97, 110, 115]⟩ else if n = 3 then ⟨#[97, 108, 108, 111, 119, 97, 110, 99, 101]⟩ else if n = 4 then ⟨#[105, 110, 99, 111, 109, 101]⟩ else if n = 5 then ⟨#[101, 102, 102, 101, 99, 116, 115]⟩ else if n = 6 then ⟨#[105, 109, 112, 97, 105, 114, 101, 100]⟩ else if n = 7 then ⟨#[114, 101, 99, 111, 118, 101, 114, 101, 100]⟩ else ⟨#[]⟩
theorem find_acc (n : Int) : (chart_account_int.g ((chart_accounts.f).getD []) n).f1 = nm n := by
  unfold chart_account_int.g chart_accounts.f nm
  simp only [Option.getD_some, List.find?_cons]
  by_cases h1 : n = 1
  · subst h1; rfl
  by_cases h2 : n = 2
  · subst h2; rfl
  by_cases h3 : n = 3
  · subst h3; rfl
  by_cases h4 : n = 4
  · subst h4; rfl
  by_cases h5 : n = 5
  · subst h5; rfl
  by_cases h6 : n = 6
  · subst h6; rfl
  by_cases h7 : n = 7
  · subst h7; rfl
  have f : ∀ a : Int, n ≠ a → (a == n) = false := fun a h => by rw [beq_eq_false_iff_ne]; exact fun e => h e.symm
  simp only [f _ h1, f _ h2, f _ h3, f _ h4, f _ h5, f _ h6, f _ h7, if_neg h1, if_neg h2, if_neg h3, if_neg h4, if_neg h5, if_neg h6, if_neg h7]
  rfl
theorem Name_at (n : Int) : chart_Name.f n = some (nm n) := by
  rw [← find_acc]; rfl
theorem nm_empty (n : Int) : (nm n).toList = [] ↔ ¬ (1 ≤ n ∧ n ≤ 7) := by
  by_cases c : 1 ≤ n ∧ n ≤ 7
  · have : n = 1 ∨ n = 2 ∨ n = 3 ∨ n = 4 ∨ n = 5 ∨ n = 6 ∨ n = 7 := by omega
    rcases this with rfl | rfl | rfl | rfl | rfl | rfl | rfl <;> simp [nm, ByteArray.toList_eq]
  · have : nm n = ⟨#[]⟩ := by
      unfold nm
      rw [if_neg (by omega), if_neg (by omega), if_neg (by omega), if_neg (by omega), if_neg (by omega), if_neg (by omega), if_neg (by omega)]
    rw [this]
    simp only [c, not_false_iff, iff_true]
    rw [ByteArray.toList_eq]
theorem rd48 (l : List S59) (i : Nat) (h : i < l.length) : rd_T59 l (i : Int) = l[i] := by simp [rd_T59, List.getElem?_eq_getElem h]
theorem rd45 (l : List S53) (i : Nat) (h : i < l.length) : rd_T53 l (i : Int) = l[i] := by simp [rd_T53, List.getElem?_eq_getElem h]
def good (x : S53) : Prop := (1 ≤ x.f0 ∧ x.f0 ≤ 7) ∧ -1125899906842624 ≤ x.f1 ∧ x.f1 ≤ 1125899906842624 ∧ x.f1 ≠ 0
instance (x : S53) : Decidable (good x) := by unfold good; infer_instance
def chkGo : List S53 → Int → Int
  | [], s => if s = 0 then 0 else 2
  | x :: t, s => if good x then chkGo t (s + x.f1) else 2
def chk (l : List S53) : Int := if l.length > 64 then 10 else if l = [] then 2 else chkGo l 0
theorem Check_l0 (l : List S53) (hl : l.length ≤ 64) : ∀ (k i : Nat) (s : Int), i ≤ l.length → l.length < k + i → -(i * 1125899906842624 : Int) ≤ s → s ≤ i * 1125899906842624 →
    chart_Check.l0 k s l (l.length : Int) (i : Int) = some (chkGo (l.drop i) s) := by
  intro k
  induction k with
  | zero => intro i s h1 h2; omega
  | succ k ih =>
    intro i s h1 h2 h3 h4
    by_cases c : i < l.length
    · rw [chart_Check.l0, if_pos (by omega), if_pos (by omega), if_pos (by omega), rd45 l i c, Name_at, Option.bind_some, w64 (x := (i : Int) + 1) (by omega) (by omega), List.drop_eq_getElem_cons c, chkGo]
      by_cases c1 : 1 ≤ l[i].f0 ∧ l[i].f0 ≤ 7
      · rw [if_neg (fun z => (nm_empty _).mp z c1)]
        by_cases c2 : l[i].f1 = 0
        · rw [if_pos c2, if_neg (fun h => h.2.2.2 c2)]
        · rw [if_neg c2]
          by_cases c3 : l[i].f1 < -1125899906842624
          · rw [if_pos c3, if_neg (fun h => by have := h.2.1; omega)]
          · rw [if_neg c3]
            by_cases c4 : l[i].f1 > 1125899906842624
            · rw [if_pos c4, if_neg (fun h => by have := h.2.2.1; omega)]
            · rw [if_neg c4, if_pos ⟨c1, by omega, by omega, c2⟩, w64 (by omega) (by omega)]
              have := ih (i + 1) (s + l[i].f1) (by omega) (by omega) (by rw [Int.natCast_add, Int.add_mul]; omega) (by rw [Int.natCast_add, Int.add_mul]; omega)
              rw [Int.natCast_add, Int.natCast_one] at this
              exact this
      · rw [if_pos ((nm_empty _).mpr c1), if_neg (fun h => c1 h.1)]
    · rw [chart_Check.l0, if_neg (by omega), List.drop_of_length_le (by omega), chkGo]
      by_cases z : s = 0
      · rw [if_pos z, if_pos z]
      · rw [if_neg z, if_neg z]
theorem Check_at (k : Nat) (l : List S53) (hk : 65 ≤ k) : chart_Check.f k l = some (chk l) := by
  unfold chart_Check.f chk
  by_cases c : l.length > 64
  · rw [if_pos (by omega), if_pos c]
  · rw [if_neg (by omega), if_neg c]
    by_cases d : l = []
    · subst d; rfl
    · have : l.length ≠ 0 := fun h => d (List.eq_nil_of_length_eq_zero h)
      rw [if_neg (by omega), if_neg d]
      have := Check_l0 l (by omega) k 0 0 (by omega) (by omega) (by omega) (by omega)
      simpa using this

/-- May a batch be? -/
def bchk (seq ev : Int) (l : List S53) : Int := if seq < 0 ∨ 2147483647 < seq ∨ ev < 0 ∨ 2147483647 < ev then 2 else if (l.length : Int) = 0 then 0 else chk l
theorem bCheck_at (k : Nat) (seq ev : Int) (l : List S53) (hk : 65 ≤ k) : batch_Check.f k seq ev l = some (bchk seq ev l) := by
  unfold batch_Check.f bchk
  by_cases c : seq < 0 ∨ 2147483647 < seq ∨ ev < 0 ∨ 2147483647 < ev
  · rw [if_pos c, if_pos c]
  · rw [if_neg c, if_neg c]
    by_cases d : (l.length : Int) = 0
    · rw [if_pos d, if_pos d]
    · rw [if_neg d, if_neg d, Check_at k l hk]
theorem bchk_len {seq ev : Int} {l : List S53} (h : bchk seq ev l = 0) : l.length ≤ 64 := by
  unfold bchk at h
  split at h
  · exact absurd h (by decide)
  · split at h
    · omega
    · unfold chk at h
      split at h
      · exact absurd h (by decide)
      · omega
theorem chkGo_fine : ∀ (l : List S53) (s : Int), chkGo l s = 0 → ∀ x ∈ l, fine x
  | [], _, _, x, h => by cases h
  | y :: t, s, h, x, hx => by
    rw [chkGo] at h
    by_cases c : good y
    · rw [if_pos c] at h
      rcases List.mem_cons.mp hx with rfl | hx
      · obtain ⟨⟨c1, c2⟩, c3, c4, c5⟩ := c
        exact ⟨⟨by omega, by omega⟩, by omega, by omega⟩
      · exact chkGo_fine t _ h x hx
    · rw [if_neg c] at h; exact absurd h (by decide)
theorem bchk_zero {seq ev : Int} {l : List S53} (h : bchk seq ev l = 0) : (0 ≤ seq ∧ seq ≤ 2147483647 ∧ 0 ≤ ev ∧ ev ≤ 2147483647) ∧ ∀ x ∈ l, fine x := by
  unfold bchk at h
  by_cases c : seq < 0 ∨ 2147483647 < seq ∨ ev < 0 ∨ 2147483647 < ev
  · rw [if_pos c] at h; exact absurd h (by decide)
  · rw [if_neg c] at h
    refine ⟨by omega, ?_⟩
    by_cases d : (l.length : Int) = 0
    · have : l = [] := List.eq_nil_of_length_eq_zero (by omega)
      rw [this]; intro x hx; cases hx
    · rw [if_neg d] at h
      unfold chk at h
      split at h
      · exact absurd h (by decide)
      · split at h
        · exact absurd h (by decide)
        · exact chkGo_fine l 0 h
end Go.Proofs.Ytepgponpnijonaa.Print
