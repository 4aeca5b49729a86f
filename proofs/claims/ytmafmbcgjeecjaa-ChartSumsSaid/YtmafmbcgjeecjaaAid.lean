import Derived.Test.YtmafmbcgjeecjaaPrint9
import Derived.Test.YtmafmbcgjeecjaaOpen
namespace Go.Proofs.Ytmafmbcgjeecjaa.Print
open Go.RowKit Go.Proofs.YtmafmbcgjeecjaaW.PrintWords Go.Proofs.YtmafmbcgjeecjaaW.PrintLast Go.Proofs.YtmafmbcgjeecjaaW.PrintMore
set_option linter.unusedVariables false

instance : DecidableEq S45 := fun a b => if h : a.f0 = b.f0 ∧ a.f1 = b.f1 then isTrue (by cases a; cases b; simp at h; simp [h]) else isFalse (fun e => h (by rw [e]; exact ⟨rfl, rfl⟩))
instance : DecidableEq S48 := fun a b => if h : a.f0 = b.f0 ∧ a.f1 = b.f1 then isTrue (by cases a; cases b; simp at h; simp [h]) else isFalse (fun e => h (by rw [e]; exact ⟨rfl, rfl⟩))
theorem w64 {x : Int} (h0 : -9223372036854775808 ≤ x) (h1 : x ≤ 9223372036854775807) : wrap64 x = x := by unfold wrap64; omega
def c48 (x : S45) : S48 := ⟨x.f0, x.f1⟩
def c45 (x : S48) : S45 := ⟨x.f0, x.f1⟩
theorem From_l0 (l : List S45) (hl : l.length ≤ 8796093022208) : ∀ (k i : Nat) (acc : List S48), i ≤ l.length → l.length < k + i → acc.length = i →
    lombardlaw17_From.l0 k acc l (l.length : Int) (i : Int) = some (acc ++ (l.drop i).map c48) := by
  intro k
  induction k with
  | zero => intro i acc h1 h2; omega
  | succ k ih =>
    intro i acc h1 h2 h3
    by_cases c : i < l.length
    · have e : rd_T45 l (i : Int) = l[i] := by simp [rd_T45, List.getElem?_eq_getElem c]
      rw [lombardlaw17_From.l0, if_pos (by omega), if_pos (by omega), if_pos (by omega), if_pos (by omega), w64 (by omega) (by omega), e]
      have := ih (i + 1) (acc ++ [⟨l[i].f0, l[i].f1⟩]) (by omega) (by omega) (by simp [h3])
      rw [Int.natCast_add, Int.natCast_one] at this
      rw [this, List.drop_eq_getElem_cons c, List.map_cons, List.append_assoc]
      rfl
    · rw [lombardlaw17_From.l0, if_neg (by omega), List.drop_of_length_le (by omega)]
      simp
theorem From_at (k : Nat) (l : List S45) (hl : l.length ≤ 8796093022208) (hk : l.length < k) : lombardlaw17_From.f k l = some (l.map c48) := by
  have := From_l0 l hl k 0 [] (Nat.zero_le _) (by omega) rfl
  simpa [lombardlaw17_From.f] using this
theorem Same_l0 (a b : List S48) (hl : a.length = b.length) (hm : a.length ≤ 8796093022208) : ∀ (k i : Nat), i ≤ a.length → a.length < k + i →
    lombardref17_Same.l0 k a b (a.length : Int) (i : Int) = some (decide (a.drop i = b.drop i)) := by
  intro k
  induction k with
  | zero => intro i h1 h2; omega
  | succ k ih =>
    intro i h1 h2
    by_cases c : i < a.length
    · have c' : i < b.length := by omega
      have e : rd_T48 a (i : Int) = a[i] := by simp [rd_T48, List.getElem?_eq_getElem c]
      have e' : rd_T48 b (i : Int) = b[i] := by simp [rd_T48, List.getElem?_eq_getElem c']
      have := ih (i + 1) (by omega) (by omega)
      rw [Int.natCast_add, Int.natCast_one] at this
      rw [lombardref17_Same.l0, if_pos (by omega), if_pos (by omega), if_pos (by omega), if_pos (by omega), w64 (by omega) (by omega), e, e', this, List.drop_eq_getElem_cons c, List.drop_eq_getElem_cons c']
      have hx : (a[i] = b[i]) ↔ (a[i].f0 = b[i].f0 ∧ a[i].f1 = b[i].f1) := by
        cases ha : a[i]; cases hb : b[i]; simp
      have hd : ((a[i] :: a.drop (i + 1)) = (b[i] :: b.drop (i + 1))) ↔ ((a[i].f0 = b[i].f0 ∧ a[i].f1 = b[i].f1) ∧ a.drop (i + 1) = b.drop (i + 1)) := by rw [List.cons.injEq, hx]
      have hd' : decide ((a[i] :: a.drop (i + 1)) = (b[i] :: b.drop (i + 1))) = decide ((a[i].f0 = b[i].f0 ∧ a[i].f1 = b[i].f1) ∧ a.drop (i + 1) = b.drop (i + 1)) := decide_eq_decide.mpr hd
      rw [hd']
      by_cases c0 : a[i].f0 = b[i].f0 <;> by_cases c1 : a[i].f1 = b[i].f1 <;> simp [c0, c1]
    · rw [lombardref17_Same.l0, if_neg (by omega), List.drop_of_length_le (by omega), List.drop_of_length_le (by omega)]
      simp
theorem Same_at (k : Nat) (a b : List S48) (hm : a.length ≤ 8796093022208) (hk : a.length < k) : lombardref17_Same.f k a b = some (decide (a = b)) := by
  unfold lombardref17_Same.f
  by_cases c : a.length = b.length
  · rw [if_pos (by omega)]
    simpa using Same_l0 a b c hm k 0 (Nat.zero_le _) (by omega)
  · rw [if_neg (by omega)]
    have : a ≠ b := fun e => c (by rw [e])
    simp [this]
theorem alive_at (k : Nat) : lombardlaw17_alive.f (k + 3) = some true := by
  have h1 : chart_Post.f 1 100 = some ([⟨2, 100⟩, ⟨1, -100⟩], 0) := by rfl
  have h2 : chart_Name.f 1 = some ⟨#[99, 97, 115, 104]⟩ := rfl
  have h3 : chart_Check.f (k + 3) [⟨2, 100⟩, ⟨1, -100⟩] = some 0 := by
    have a1 : chart_Name.f 2 = some ⟨#[108, 111, 97, 110, 115]⟩ := rfl
    simp [chart_Check.f, chart_Check.l0, rd_T45, a1, h2, wrap64]
  simp only [lombardlaw17_alive.f, h1, h2, Option.bind_some]
  rw [From_at _ _ (by simp) (by simp)]
  simp only [Option.bind_some]
  rw [Same_at _ _ _ (by simp) (by simp)]
  simp [c48, h3]
/-- The accounts' names. -/
def nm (n : Int) : ByteArray := if n = 1 then ⟨#[99, 97, 115, 104]⟩ else if n = 2 then ⟨#[108, 111, 97, 110, 115]⟩ else if n = 3 then ⟨#[97, 108, 108, 111, 119, 97, 110, 99, 101]⟩ else if n = 4 then ⟨#[105, 110, 99, 111, 109, 101]⟩ else if n = 5 then ⟨#[101, 102, 102, 101, 99, 116, 115]⟩ else if n = 6 then ⟨#[105, 109, 112, 97, 105, 114, 101, 100]⟩ else if n = 7 then ⟨#[114, 101, 99, 111, 118, 101, 114, 101, 100]⟩ else ⟨#[]⟩
theorem find_acc (n : Int) : (chart_account_int.g ((chart_accounts.f).getD []) n).f1 = nm n := by
  unfold chart_account_int.g chart_accounts.f nm
  simp only [Option.getD_some, List.find?_cons]
  by_cases h1 : n = 1
  · subst h1; rfl
  by_cases h2 : n = 2
  · subst h2; rfl
  by_cases h3 : n = 3
  · subst h3; rfl
  by_cases h4 : n = 4
  · subst h4; rfl
  by_cases h5 : n = 5
  · subst h5; rfl
  by_cases h6 : n = 6
  · subst h6; rfl
  by_cases h7 : n = 7
  · subst h7; rfl
  have f : ∀ a : Int, n ≠ a → (a == n) = false := fun a h => by rw [beq_eq_false_iff_ne]; exact fun e => h e.symm
  simp only [f _ h1, f _ h2, f _ h3, f _ h4, f _ h5, f _ h6, f _ h7, if_neg h1, if_neg h2, if_neg h3, if_neg h4, if_neg h5, if_neg h6, if_neg h7]
  rfl
theorem Name_at (n : Int) : chart_Name.f n = some (nm n) := by
  rw [← find_acc]; rfl
theorem nm_empty (n : Int) : (nm n).toList = [] ↔ ¬ (1 ≤ n ∧ n ≤ 7) := by
  by_cases c : 1 ≤ n ∧ n ≤ 7
  · have : n = 1 ∨ n = 2 ∨ n = 3 ∨ n = 4 ∨ n = 5 ∨ n = 6 ∨ n = 7 := by omega
    rcases this with rfl | rfl | rfl | rfl | rfl | rfl | rfl <;> simp [nm, ByteArray.toList_eq]
  · have : nm n = ⟨#[]⟩ := by
      unfold nm
      rw [if_neg (by omega), if_neg (by omega), if_neg (by omega), if_neg (by omega), if_neg (by omega), if_neg (by omega), if_neg (by omega)]
    rw [this]
    simp only [c, not_false_iff, iff_true]
    rw [ByteArray.toList_eq]
end Go.Proofs.Ytmafmbcgjeecjaa.Print
