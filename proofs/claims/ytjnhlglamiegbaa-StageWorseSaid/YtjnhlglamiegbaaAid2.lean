import Derived.Test.YtjnhlglamiegbaaPrint7
import Derived.Test.YtjnhlglamiegbaaAid
namespace Go.Proofs.Ytjnhlglamiegbaa.Print
open Go.RowKit Go.Proofs.YtjnhlglamiegbaaW.PrintWords Go.Proofs.YtjnhlglamiegbaaW.PrintLast Go.Proofs.YtjnhlglamiegbaaW.PrintMore
set_option linter.unusedSimpArgs false

theorem drop_cons {α : Type} (l : List α) (z : α) (i : Nat) (h : i < l.length) : l.drop i = l.getD i z :: l.drop (i + 1) := by
  rw [List.drop_eq_getElem_cons h, List.getD_eq_getElem?_getD, List.getElem?_eq_getElem h]; rfl
abbrev Mk := Int × Int × Bool
def runK (N : Int × Int × Int) (r : List Int × Int) : List Int × Int := if N.2.2 = 0 then (if r.2 = 0 then (N.1 :: r.1, 0) else ([], r.2)) else ([], N.2.2)
def runL : Int → Int → List Mk → List Int × Int
  | _, _, [] => ([], 0)
  | s, g, m :: t => runK (nextS s g m.1 m.2.1 m.2.2) (runL (nextS s g m.1 m.2.1 m.2.2).1 (nextS s g m.1 m.2.1 m.2.2).2.1 t)
def mk31 (x : S31) : Mk := (x.f0, x.f1, x.f2)
def mk25 (x : S25) : Mk := (x.f0, x.f1, x.f2)
def fin (acc : List Int) (r : List Int × Int) : List Int × Int := if r.2 = 0 then (acc ++ r.1, 0) else ([], r.2)
theorem wr1 {i n : Nat} (h : i < n) (hn : n ≤ 1000000) : wrap64 ((i : Int) + 1) = ((i + 1 : Nat) : Int) := by rw [w64] <;> omega

theorem next_any (k : Nat) (h : 1 ≤ k) (s g p d : Int) (b : Bool) : stage_Next.f k s g p d b = some (nextS s g p d b) := by
  obtain ⟨k, rfl⟩ : ∃ m, k = m + 1 := ⟨k - 1, by omega⟩
  exact next_at ..
theorem rnext_any (k : Nat) (h : 2 ≤ k) (s g p d : Int) (b : Bool) : lombardref14_Next.f k s g p d b = some (nextS s g p d b) := by
  obtain ⟨k, rfl⟩ : ∃ m, k = m + 2 := ⟨k - 2, by omega⟩
  exact rnext_at ..

theorem run_l0 (l : List S31) (hl : l.length ≤ 1000000) (d : Nat) : ∀ (k i : Nat) (acc : List Int) (s g : Int), i + d = l.length → acc.length ≤ i → d + 2 ≤ k →
    stage_Run.l0 k acc l (l.length : Int) (i : Int) s g = some (fin acc (runL s g ((l.drop i).map mk31))) := by
  induction d with
  | zero =>
    intro k i acc s g hi ha hk
    obtain ⟨k, rfl⟩ : ∃ m, k = m + 1 := ⟨k - 1, by omega⟩
    rw [List.drop_of_length_le (by omega)]
    simp only [stage_Run.l0, List.map_nil, runL, fin]
    rw [if_neg (by omega)]; simp
  | succ d ih =>
    intro k i acc s g hi ha hk
    obtain ⟨k, rfl⟩ : ∃ m, k = m + 1 := ⟨k - 1, by omega⟩
    have hlt : i < l.length := by omega
    rw [drop_cons l z31 i hlt]
    simp only [stage_Run.l0, List.map_cons, runL]
    rw [if_pos (by omega), if_pos (by omega), if_pos (by omega)]
    rw [next_any k (by omega)]
    simp only [rd_T31, Int.toNat_natCast, Option.bind_some, mk31]
    by_cases c : (nextS s g (l.getD i z31).f0 (l.getD i z31).f1 (l.getD i z31).f2).2.2 = 0
    · rw [if_pos c, if_pos (by omega), wr1 hlt hl, ih k (i + 1) (acc ++ [(nextS s g (l.getD i z31).f0 (l.getD i z31).f1 (l.getD i z31).f2).1]) _ _ (by omega) (by simp; omega) (by omega)]
      unfold runK fin
      rw [if_pos c]
      split <;> simp_all
    · rw [if_neg c]
      unfold runK fin; rw [if_neg c, if_neg c]
theorem rrun_l0 (l : List S25) (hl : l.length ≤ 1000000) (d : Nat) : ∀ (k i : Nat) (acc : List Int) (s g : Int), i + d = l.length → acc.length ≤ i → d + 3 ≤ k →
    lombardref14_Run.l0 k acc l (l.length : Int) (i : Int) s g = some (fin acc (runL s g ((l.drop i).map mk25))) := by
  induction d with
  | zero =>
    intro k i acc s g hi ha hk
    obtain ⟨k, rfl⟩ : ∃ m, k = m + 1 := ⟨k - 1, by omega⟩
    rw [List.drop_of_length_le (by omega)]
    simp only [lombardref14_Run.l0, List.map_nil, runL, fin]
    rw [if_neg (by omega)]; simp
  | succ d ih =>
    intro k i acc s g hi ha hk
    obtain ⟨k, rfl⟩ : ∃ m, k = m + 1 := ⟨k - 1, by omega⟩
    have hlt : i < l.length := by omega
    rw [drop_cons l z25 i hlt]
    simp only [lombardref14_Run.l0, List.map_cons, runL]
    rw [if_pos (by omega), if_pos (by omega), if_pos (by omega)]
    rw [rnext_any k (by omega)]
    simp only [rd_T25, Int.toNat_natCast, Option.bind_some, mk25]
    by_cases c : (nextS s g (l.getD i z25).f0 (l.getD i z25).f1 (l.getD i z25).f2).2.2 = 0
    · rw [if_pos c, if_pos (by omega), wr1 hlt hl, ih k (i + 1) (acc ++ [(nextS s g (l.getD i z25).f0 (l.getD i z25).f1 (l.getD i z25).f2).1]) _ _ (by omega) (by simp; omega) (by omega)]
      unfold runK fin
      rw [if_pos c]
      split <;> simp_all
    · rw [if_neg c]
      unfold runK fin; rw [if_neg c, if_neg c]
def conv (x : S25) : S31 := ⟨x.f0, x.f1, x.f2⟩
theorem to_l0 (l : List S25) (hl : l.length ≤ 1000000) (d : Nat) : ∀ (k i : Nat) (acc : List S31), i + d = l.length → acc.length ≤ i → d + 1 ≤ k →
    lombardlaw14_to.l0 k acc l (l.length : Int) (i : Int) = some (acc ++ (l.drop i).map conv) := by
  induction d with
  | zero =>
    intro k i acc hi ha hk
    obtain ⟨k, rfl⟩ : ∃ m, k = m + 1 := ⟨k - 1, by omega⟩
    rw [List.drop_of_length_le (by omega)]
    simp only [lombardlaw14_to.l0]
    rw [if_neg (by omega)]; simp
  | succ d ih =>
    intro k i acc hi ha hk
    obtain ⟨k, rfl⟩ : ∃ m, k = m + 1 := ⟨k - 1, by omega⟩
    have hlt : i < l.length := by omega
    rw [drop_cons l z25 i hlt]
    simp only [lombardlaw14_to.l0]
    rw [if_pos (by omega), if_pos (by omega), if_pos (by omega), if_pos (by omega), wr1 hlt hl, ih k (i + 1) _ (by omega) (by simp; omega) (by omega)]
    simp [rd_T25, conv]
theorem to_at (l : List S25) (hl : l.length ≤ 1000000) (k : Nat) (hk : l.length + 1 ≤ k) : lombardlaw14_to.f k l = some (l.map conv) := by
  have := to_l0 l hl l.length k 0 [] (by omega) (by simp) (by omega)
  simpa [lombardlaw14_to.f] using this
def runAll (l : List Mk) : List Int × Int := if 600 < l.length then ([], 10) else fin [] (runL 1 0 l)
theorem mk_conv (l : List S25) : (l.map conv).map mk31 = l.map mk25 := by rw [List.map_map]; rfl
theorem run_at (l : List S31) (hl : l.length ≤ 1000000) (k : Nat) (hk : l.length + 2 ≤ k) : stage_Run.f k l = some (runAll (l.map mk31)) := by
  unfold stage_Run.f runAll
  by_cases c : 600 < l.length
  · rw [if_pos (by omega), if_pos (by simpa using c)]
  · rw [if_neg (by omega), if_neg (by simpa using c)]
    have := run_l0 l hl l.length k 0 [] 1 0 (by omega) (by simp) (by omega)
    simpa using this
theorem rrun_at (l : List S25) (hl : l.length ≤ 1000000) (k : Nat) (hk : l.length + 3 ≤ k) : lombardref14_Run.f k l = some (runAll (l.map mk25)) := by
  unfold lombardref14_Run.f runAll
  by_cases c : 600 < l.length
  · rw [if_pos (by omega), if_pos (by simpa using c)]
  · rw [if_neg (by omega), if_neg (by simpa using c)]
    have := rrun_l0 l hl l.length k 0 [] 1 0 (by omega) (by simp) (by omega)
    simpa using this
theorem ints_l0 (l : List Int) (hl : l.length ≤ 1000000) (d : Nat) : ∀ (k i : Nat), i + d = l.length → d + 1 ≤ k → lombardref06_Ints.l0 k l l (l.length : Int) (i : Int) = some true := by
  induction d with
  | zero =>
    intro k i hi hk
    obtain ⟨k, rfl⟩ : ∃ m, k = m + 1 := ⟨k - 1, by omega⟩
    simp only [lombardref06_Ints.l0]
    rw [if_neg (by omega)]
  | succ d ih =>
    intro k i hi hk
    obtain ⟨k, rfl⟩ : ∃ m, k = m + 1 := ⟨k - 1, by omega⟩
    have hlt : i < l.length := by omega
    simp only [lombardref06_Ints.l0]
    rw [if_pos (by omega), if_pos (by omega), if_pos (by omega), if_pos (by omega), if_pos trivial, wr1 hlt hl, ih k (i + 1) (by omega) (by omega)]
theorem ints_same (l : List Int) (hl : l.length ≤ 1000000) (k : Nat) (hk : l.length + 1 ≤ k) : lombardref06_Ints.f k l l = some true := by
  have := ints_l0 l hl l.length k 0 (by omega) (by omega)
  simpa [lombardref06_Ints.f] using this
theorem runL_len (l : List Mk) : ∀ s g, (runL s g l).1.length ≤ l.length ∧ ((runL s g l).2 = 0 → (runL s g l).1.length = l.length) := by
  induction l with
  | nil => intro s g; simp [runL]
  | cons m t ih =>
    intro s g
    simp only [runL, runK]
    by_cases c : (nextS s g m.1 m.2.1 m.2.2).2.2 = 0
    · rw [if_pos c]
      have := ih (nextS s g m.1 m.2.1 m.2.2).1 (nextS s g m.1 m.2.1 m.2.2).2.1
      by_cases e : (runL (nextS s g m.1 m.2.1 m.2.2).1 (nextS s g m.1 m.2.1 m.2.2).2.1 t).2 = 0
      · rw [if_pos e]; simp; exact ⟨this.1, this.2 e⟩
      · rw [if_neg e]; simp; exact e
    · rw [if_neg c]; simp; exact c
theorem runAll_len (l : List Mk) : (runAll l).1.length ≤ l.length := by
  unfold runAll fin
  have := (runL_len l 1 0).1
  split
  · simp
  · split <;> simp; exact this
theorem alive_any (k : Nat) (h : 20 ≤ k) : lombardlaw14_alive.f k = some true := at_rounds (fun k => lombardlaw14_alive.mono k) h alive_at
end Go.Proofs.Ytjnhlglamiegbaa.Print
