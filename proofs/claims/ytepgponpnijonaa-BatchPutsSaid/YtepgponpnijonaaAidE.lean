import Derived.Test.YtepgponpnijonaaAidC
namespace Go.Proofs.Ytepgponpnijonaa.Print
open Go.RowKit Go.Proofs.YtepgponpnijonaaW.PrintWords Go.Proofs.YtepgponpnijonaaW.PrintLast Go.Proofs.YtepgponpnijonaaW.PrintMore
set_option linter.unusedVariables false
set_option linter.unusedSimpArgs false

/-! batches as bytes, in plain numbers -/
def u64N (x : Int) : Nat := (x % 18446744073709551616).toNat
theorem u64N_at (x : Int) : IntKind.u64.wrap x = ((u64N x : Nat) : Int) := by
  show x % 18446744073709551616 = _
  unfold u64N
  omega
def lineB (x : S53) : List Nat := (x.f0 % 256).toNat :: leb 8 (u64N x.f1)
theorem lineB_len (x : S53) : (lineB x).length = 9 := by rw [lineB, List.length_cons, leb_len]
theorem lineB_lt (x : S53) : ∀ b ∈ lineB x, b < 256 := by
  intro b hb
  rcases List.mem_cons.mp hb with rfl | hb
  · omega
  · exact leb_lt _ _ b hb
def linesB : List S53 → List Nat
  | [] => []
  | x :: t => lineB x ++ linesB t
theorem linesB_len : ∀ l, (linesB l).length = 9 * l.length
  | [] => rfl
  | x :: t => by rw [linesB, List.length_append, lineB_len, linesB_len, List.length_cons]; omega
theorem linesB_lt : ∀ l, ∀ b ∈ linesB l, b < 256
  | [], b, h => by cases h
  | x :: t, b, h => by
    rw [linesB] at h
    rcases List.mem_append.mp h with h | h
    · exact lineB_lt x b h
    · exact linesB_lt t b h
theorem linesB_append (a b : List S53) : linesB (a ++ b) = linesB a ++ linesB b := by
  induction a with
  | nil => rfl
  | cons x t ih => rw [List.cons_append, linesB, ih, linesB, List.append_assoc]
def headN (seq ev n : Nat) : List Nat := [76, 66] ++ leb 4 seq ++ leb 4 ev ++ [n % 256]
theorem headN_len (a b c : Nat) : (headN a b c).length = 11 := by simp [headN, leb_len]
def bodyN (seq ev : Nat) (l : List S53) : List Nat := headN seq ev l.length ++ linesB l
def putN (seq ev : Nat) (l : List S53) : List Nat := bodyN seq ev l ++ leb 4 (sumN (bodyN seq ev l))
theorem bodyN_len (a b : Nat) (l : List S53) : (bodyN a b l).length = 11 + 9 * l.length := by rw [bodyN, List.length_append, headN_len, linesB_len]
theorem putN_len (a b : Nat) (l : List S53) : (putN a b l).length = 15 + 9 * l.length := by rw [putN, List.length_append, bodyN_len, leb_len]; omega
theorem bodyN_lt (a b : Nat) (l : List S53) : ∀ x ∈ bodyN a b l, x < 256 := by
  intro x hx
  rw [bodyN, headN] at hx
  simp only [List.mem_append, List.mem_cons, List.not_mem_nil, or_false] at hx
  rcases hx with ((((rfl | rfl) | h) | h) | rfl) | h
  · omega
  · omega
  · exact leb_lt _ _ x h
  · exact leb_lt _ _ x h
  · omega
  · exact linesB_lt _ x h
theorem putN_lt (a b : Nat) (l : List S53) : ∀ x ∈ putN a b l, x < 256 := by
  intro x hx
  rw [putN] at hx
  rcases List.mem_append.mp hx with h | h
  · exact bodyN_lt _ _ _ x h
  · exact leb_lt _ _ x h
/-- Lines out of bytes. -/
def parseN : Nat → List Nat → List S53
  | 0, _ => []
  | n + 1, b => ⟨((b.getD 0 0 : Nat) : Int), wrap64 ((val ((b.take 9).drop 1) : Nat) : Int)⟩ :: parseN n (b.drop 9)
def fine (x : S53) : Prop := (0 ≤ x.f0 ∧ x.f0 < 256) ∧ -9223372036854775808 ≤ x.f1 ∧ x.f1 ≤ 9223372036854775807
theorem parse_line (x : S53) (h : fine x) (t : List Nat) (n : Nat) : parseN (n + 1) (lineB x ++ t) = x :: parseN n t := by
  obtain ⟨⟨h1, h2⟩, h3, h4⟩ := h
  have hl := lineB_len x
  have e1 : (lineB x ++ t).drop 9 = t := by rw [← hl, List.drop_left]
  have e2 : (lineB x ++ t).take 9 = lineB x := by rw [← hl, List.take_left]
  have e3 : (lineB x).drop 1 = leb 8 (u64N x.f1) := rfl
  have e4 : (lineB x ++ t).getD 0 0 = (x.f0 % 256).toNat := rfl
  rw [parseN, e1, e2, e3, e4, val_leb]
  have e5 : u64N x.f1 % 256 ^ 8 = u64N x.f1 := by
    have : (256 : Nat) ^ 8 = 18446744073709551616 := by decide
    rw [this]
    unfold u64N
    omega
  rw [e5]
  have e6 : wrap64 ((u64N x.f1 : Nat) : Int) = x.f1 := by unfold u64N wrap64; omega
  rw [e6]
  have e7 : (((x.f0 % 256).toNat : Nat) : Int) = x.f0 := by omega
  rw [e7]
theorem parse_lines : ∀ (l : List S53), (∀ x ∈ l, fine x) → parseN l.length (linesB l) = l
  | [], _ => rfl
  | x :: t, h => by
    rw [linesB, List.length_cons, parse_line x (h x List.mem_cons_self), parse_lines t (fun y hy => h y (List.mem_cons_of_mem _ hy))]
theorem parse_back : ∀ (n : Nat) (b : List Nat), b.length = 9 * n → (∀ x ∈ b, x < 256) → linesB (parseN n b) = b
  | 0, b, h, _ => by
    have : b = [] := List.eq_nil_of_length_eq_zero (by omega)
    rw [this]; rfl
  | n + 1, b, h, hb => by
    have h9 : (b.take 9).length = 9 := by rw [List.length_take]; omega
    have ht : lineB ⟨((b.getD 0 0 : Nat) : Int), wrap64 ((val ((b.take 9).drop 1) : Nat) : Int)⟩ = b.take 9 := by
      have hd : ((b.take 9).drop 1).length = 8 := by rw [List.length_drop]; omega
      have hdl : ∀ x ∈ (b.take 9).drop 1, x < 256 := fun x hx => hb x (List.mem_of_mem_take (List.mem_of_mem_drop hx))
      have hv := val_lt _ hdl
      rw [hd] at hv
      have hp : (256 : Nat) ^ 8 = 18446744073709551616 := by decide
      rw [hp] at hv
      have h0 : b.getD 0 0 < 256 := by
        cases b with
        | nil => simp
        | cons c u => exact hb c List.mem_cons_self
      have e1 : u64N (wrap64 ((val ((b.take 9).drop 1) : Nat) : Int)) = val ((b.take 9).drop 1) := by
        unfold u64N wrap64; omega
      have e2 : ((((b.getD 0 0 : Nat) : Int)) % 256).toNat = b.getD 0 0 := by omega
      unfold lineB
      dsimp only
      rw [e1, e2]
      have := leb_val _ hdl
      rw [hd] at this
      rw [this]
      cases b with
      | nil => simp at h
      | cons c u => rfl
    rw [parseN, linesB, ht, parse_back n (b.drop 9) (by rw [List.length_drop]; omega) (fun x hx => hb x (List.mem_of_mem_drop hx)), List.take_append_drop]
theorem parseN_len : ∀ (n : Nat) (b : List Nat), (parseN n b).length = n
  | 0, _ => rfl
  | n + 1, b => by rw [parseN, List.length_cons, parseN_len]
/-! sums of bytes with one turned -/
theorem oneN_inj {a b c : Nat} (ha : a < 2 ^ 32) (hb : b < 2 ^ 32) (h : oneN a c = oneN b c) : a = b := by
  have h0 : stepsN 8 (a ^^^ b) = 0 := by
    have e : a ^^^ b = (a ^^^ c) ^^^ (b ^^^ c) := by rw [Nat.xor_assoc, ← Nat.xor_assoc c, Nat.xor_comm c b, Nat.xor_assoc b, Nat.xor_self, Nat.xor_zero]
    rw [e, stepsN_xor]
    unfold oneN at h
    rw [h, Nat.xor_self]
  have h1 := stepsN_inj (Nat.xor_lt_two_pow ha hb) h0
  have := congrArg (· ^^^ b) h1
  simp only [Nat.xor_assoc, Nat.xor_self, Nat.xor_zero, Nat.zero_xor] at this
  exact this
theorem crcN_inj : ∀ (l : List Nat) (a b : Nat), a < 2 ^ 32 → b < 2 ^ 32 → (∀ x ∈ l, x < 256) → crcN l a = crcN l b → a = b
  | [], a, b, _, _, _, h => h
  | c :: t, a, b, ha, hb, hl, h => by
    have hc := hl c List.mem_cons_self
    exact oneN_inj ha hb (crcN_inj t _ _ (oneN_lt ha hc) (oneN_lt hb hc) (fun x hx => hl x (List.mem_cons_of_mem _ hx)) h)
theorem crcN_turn : ∀ (l : List Nat) (i n : Nat) (y : Nat), n < 2 ^ 32 → (∀ x ∈ l, x < 256) → y < 256 → i < l.length → l[i]? ≠ some y → crcN (l.set i y) n ≠ crcN l n
  | [], i, n, y, _, _, _, h, _ => by simp at h
  | c :: t, 0, n, y, hn, hl, hy, _, hne => by
    intro h
    have hc := hl c List.mem_cons_self
    have h1 := crcN_inj t _ _ (oneN_lt hn hy) (oneN_lt hn hc) (fun x hx => hl x (List.mem_cons_of_mem _ hx)) h
    rw [show oneN n y = oneN (n ^^^ y) 0 by unfold oneN; rw [Nat.xor_zero], show oneN n c = oneN (n ^^^ c) 0 by unfold oneN; rw [Nat.xor_zero]] at h1
    have h2 := oneN_inj (Nat.xor_lt_two_pow hn (by omega)) (Nat.xor_lt_two_pow hn (by omega)) h1
    have := congrArg (n ^^^ ·) h2
    simp only [← Nat.xor_assoc, Nat.xor_self, Nat.zero_xor] at this
    exact hne (by simp [this])
  | c :: t, i + 1, n, y, hn, hl, hy, hi, hne => by
    have hc := hl c List.mem_cons_self
    exact crcN_turn t i (oneN n c) y (oneN_lt hn hc) (fun x hx => hl x (List.mem_cons_of_mem _ hx)) hy (by simpa using hi) (by simpa using hne)
theorem sumN_turn (l : List Nat) (i y : Nat) (hl : ∀ x ∈ l, x < 256) (hy : y < 256) (hi : i < l.length) (hne : l[i]? ≠ some y) : sumN (l.set i y) ≠ sumN l := by
  intro h
  unfold sumN at h
  have := congrArg (4294967295 ^^^ ·) h
  simp only [← Nat.xor_assoc, Nat.xor_self, Nat.zero_xor] at this
  exact crcN_turn l i _ y (by decide) hl hy hi hne this
end Go.Proofs.Ytepgponpnijonaa.Print
