import Derived.Test.YtepgponpnijonaaAidB
namespace Go.Proofs.Ytepgponpnijonaa.Print
open Go.RowKit Go.Proofs.YtepgponpnijonaaW.PrintWords Go.Proofs.YtepgponpnijonaaW.PrintLast Go.Proofs.YtepgponpnijonaaW.PrintMore
set_option linter.unusedVariables false
set_option linter.unusedSimpArgs false

theorem batch_put_int_l0 (v : Nat) (x : Int) (hx : IntKind.u64.wrap x = (v : Int)) (sz : Nat) (hs : sz ≤ 8) (m : Nat) : ∀ (d i : Nat) (acc : List Nat), i + d = sz → acc.length + d ≤ 1000000000 →
    batch_put_int.l0 (m + d + 1) (ints acc) x (sz : Int) (i : Int) = some (ints (acc ++ leb d (v / 256 ^ i))) := by
  intro d
  induction d with
  | zero =>
    intro i acc hi ha
    rw [batch_put_int.l0, if_neg (by omega), leb, List.append_nil]
  | succ d ih =>
    intro i acc hi ha
    have e8 : wrap64 (8 * (i : Int)) = ((8 * i : Nat) : Int) := by rw [w64 (by omega) (by omega)]; omega
    rw [batch_put_int.l0, if_pos (by omega), e8, if_pos (by omega), if_pos (by rw [ints_len]; omega), hx, shr_at v i (by omega), w64 (x := (i : Int) + 1) (by omega) (by omega), show ((i : Int) + 1) = ((i + 1 : Nat) : Int) by omega]
    have eb : [((v / 256 ^ i : Nat) : Int) % 256] = ints [v / 256 ^ i % 256] := by simp [ints]
    rw [eb, ints_append, show m + (d + 1) = m + d + 1 from rfl, ih (i + 1) _ (by omega) (by simp; omega), leb, pow_next, List.append_assoc]
    rfl
theorem batch_put_int_at (k : Nat) (v : Nat) (x : Int) (hx : IntKind.u64.wrap x = (v : Int)) (sz : Nat) (hs : sz ≤ 8) (acc : List Nat) (ha : acc.length ≤ 1000000) (hk : 9 ≤ k) : batch_put_int.f k (ints acc) x (sz : Int) = some (ints (acc ++ leb sz v)) := by
  obtain ⟨m, rfl⟩ : ∃ m, k = m + sz + 1 := ⟨k - sz - 1, by omega⟩
  have := batch_put_int_l0 v x hx sz hs m sz 0 acc (by omega) (by omega)
  rw [Nat.pow_zero, Nat.div_one] at this
  exact this

theorem batch_put_int64_l0 (v : Nat) (x : Int) (hx : IntKind.u64.wrap x = (v : Int)) (sz : Nat) (hs : sz ≤ 8) (m : Nat) : ∀ (d i : Nat) (acc : List Nat), i + d = sz → acc.length + d ≤ 1000000000 →
    batch_put_int64.l0 (m + d + 1) (ints acc) x (sz : Int) (i : Int) = some (ints (acc ++ leb d (v / 256 ^ i))) := by
  intro d
  induction d with
  | zero =>
    intro i acc hi ha
    rw [batch_put_int64.l0, if_neg (by omega), leb, List.append_nil]
  | succ d ih =>
    intro i acc hi ha
    have e8 : wrap64 (8 * (i : Int)) = ((8 * i : Nat) : Int) := by rw [w64 (by omega) (by omega)]; omega
    rw [batch_put_int64.l0, if_pos (by omega), e8, if_pos (by omega), if_pos (by rw [ints_len]; omega), hx, shr_at v i (by omega), w64 (x := (i : Int) + 1) (by omega) (by omega), show ((i : Int) + 1) = ((i + 1 : Nat) : Int) by omega]
    have eb : [((v / 256 ^ i : Nat) : Int) % 256] = ints [v / 256 ^ i % 256] := by simp [ints]
    rw [eb, ints_append, show m + (d + 1) = m + d + 1 from rfl, ih (i + 1) _ (by omega) (by simp; omega), leb, pow_next, List.append_assoc]
    rfl
theorem batch_put_int64_at (k : Nat) (v : Nat) (x : Int) (hx : IntKind.u64.wrap x = (v : Int)) (sz : Nat) (hs : sz ≤ 8) (acc : List Nat) (ha : acc.length ≤ 1000000) (hk : 9 ≤ k) : batch_put_int64.f k (ints acc) x (sz : Int) = some (ints (acc ++ leb sz v)) := by
  obtain ⟨m, rfl⟩ : ∃ m, k = m + sz + 1 := ⟨k - sz - 1, by omega⟩
  have := batch_put_int64_l0 v x hx sz hs m sz 0 acc (by omega) (by omega)
  rw [Nat.pow_zero, Nat.div_one] at this
  exact this

theorem batch_put_uint32_l0 (v : Nat) (x : Int) (hx : IntKind.u64.wrap x = (v : Int)) (sz : Nat) (hs : sz ≤ 8) (m : Nat) : ∀ (d i : Nat) (acc : List Nat), i + d = sz → acc.length + d ≤ 1000000000 →
    batch_put_uint32.l0 (m + d + 1) (ints acc) x (sz : Int) (i : Int) = some (ints (acc ++ leb d (v / 256 ^ i))) := by
  intro d
  induction d with
  | zero =>
    intro i acc hi ha
    rw [batch_put_uint32.l0, if_neg (by omega), leb, List.append_nil]
  | succ d ih =>
    intro i acc hi ha
    have e8 : wrap64 (8 * (i : Int)) = ((8 * i : Nat) : Int) := by rw [w64 (by omega) (by omega)]; omega
    rw [batch_put_uint32.l0, if_pos (by omega), e8, if_pos (by omega), if_pos (by rw [ints_len]; omega), hx, shr_at v i (by omega), w64 (x := (i : Int) + 1) (by omega) (by omega), show ((i : Int) + 1) = ((i + 1 : Nat) : Int) by omega]
    have eb : [((v / 256 ^ i : Nat) : Int) % 256] = ints [v / 256 ^ i % 256] := by simp [ints]
    rw [eb, ints_append, show m + (d + 1) = m + d + 1 from rfl, ih (i + 1) _ (by omega) (by simp; omega), leb, pow_next, List.append_assoc]
    rfl
theorem batch_put_uint32_at (k : Nat) (v : Nat) (x : Int) (hx : IntKind.u64.wrap x = (v : Int)) (sz : Nat) (hs : sz ≤ 8) (acc : List Nat) (ha : acc.length ≤ 1000000) (hk : 9 ≤ k) : batch_put_uint32.f k (ints acc) x (sz : Int) = some (ints (acc ++ leb sz v)) := by
  obtain ⟨m, rfl⟩ : ∃ m, k = m + sz + 1 := ⟨k - sz - 1, by omega⟩
  have := batch_put_uint32_l0 v x hx sz hs m sz 0 acc (by omega) (by omega)
  rw [Nat.pow_zero, Nat.div_one] at this
  exact this

theorem val_take (l : List Nat) (i : Nat) (h : i < l.length) : val (l.take (i + 1)) = val (l.take i) + 256 ^ i * l[i] := by
  rw [List.take_succ_eq_append_getElem h, val_append, List.length_take, Nat.min_eq_left (by omega), val, val]
  simp
theorem val_take_lt (l : List Nat) (hb : ∀ x ∈ l, x < 256) (hl : l.length ≤ 8) (i : Nat) : val (l.take i) < 18446744073709551616 := by
  have h := val_lt (l.take i) (fun x hx => hb x (List.mem_of_mem_take hx))
  have h2 : 256 ^ (l.take i).length ≤ 256 ^ 8 := Nat.pow_le_pow_right (by decide) (by rw [List.length_take]; omega)
  have e : (256 : Nat) ^ 8 = 18446744073709551616 := by decide
  omega
theorem value_l0 (l : List Nat) (hb : ∀ x ∈ l, x < 256) (hl : l.length ≤ 8) (m : Nat) : ∀ (d i : Nat), i + d = l.length →
    lombardref18_value.l0 (m + d + 1) ((val (l.take i) : Nat) : Int) (ints l) ((ints l).length : Int) (i : Int) = some ((val l : Nat) : Int) := by
  intro d
  induction d with
  | zero =>
    intro i hi
    rw [lombardref18_value.l0, if_neg (by rw [ints_len]; omega), List.take_of_length_le (by omega)]
  | succ d ih =>
    intro i hi
    have c : i < l.length := by omega
    have hc := hb _ (List.getElem_mem c)
    have e8 : IntKind.u64.wrap (wrap64 (8 * (i : Int))) = ((8 * i : Nat) : Int) := by rw [w64 (by omega) (by omega), u64w (by omega) (by omega)]; omega
    have hnext := val_take l i c
    have hlt := val_take_lt l hb hl (i + 1)
    have es : shl .u64 (IntKind.u64.wrap ((l[i] : Nat) : Int)) ((8 * i : Nat) : Int) = ((256 ^ i * l[i] : Nat) : Int) := by
      unfold shl
      have e : min ((8 * i : Nat) : Int).toNat IntKind.u64.bits = 8 * i := by
        have : IntKind.u64.bits = 64 := rfl
        rw [Int.toNat_natCast]; omega
      rw [e]
      have e0 : IntKind.u64.wrap ((l[i] : Nat) : Int) = ((l[i] : Nat) : Int) := u64w (by omega) (by omega)
      have e2 : ((l[i] : Nat) : Int) * 2 ^ (8 * i) = ((256 ^ i * l[i] : Nat) : Int) := by
        rw [show (256 : Nat) = 2 ^ 8 from rfl, ← Nat.pow_mul, Nat.mul_comm (2 ^ (8 * i)) l[i]]
        simp
      rw [e0, e2]
      have hq : 256 ^ i * l[i] < 18446744073709551616 := by omega
      exact u64w (Int.natCast_nonneg _) (by omega)
    rw [lombardref18_value.l0, if_pos (by rw [ints_len]; omega), if_pos (by omega), if_pos (by rw [ints_len]; omega), e8, if_pos (by omega), rd_ints l i c, es, w64 (x := (i : Int) + 1) (by omega) (by omega), show ((i : Int) + 1) = ((i + 1 : Nat) : Int) by omega]
    have ew : IntKind.u64.wrap (((val (l.take i) : Nat) : Int) + ((256 ^ i * l[i] : Nat) : Int)) = ((val (l.take (i + 1)) : Nat) : Int) := by
      rw [u64w (by omega) (by omega)]; omega
    rw [ew, show m + (d + 1) = m + d + 1 from rfl, ih (i + 1) (by omega)]
theorem value_at (k : Nat) (l : List Nat) (hb : ∀ x ∈ l, x < 256) (hl : l.length ≤ 8) (hk : 9 ≤ k) : lombardref18_value.f k (ints l) = some ((val l : Nat) : Int) := by
  obtain ⟨m, rfl⟩ : ∃ m, k = m + l.length + 1 := ⟨k - l.length - 1, by omega⟩
  have := value_l0 l hb hl m l.length 0 (by omega)
  exact this
theorem val_drop_lt (l : List Nat) (hb : ∀ x ∈ l, x < 256) (hl : l.length ≤ 8) (i : Nat) : val (l.drop i) < 18446744073709551616 := by
  have h := val_lt (l.drop i) (fun x hx => hb x (List.mem_of_mem_drop hx))
  have h2 : 256 ^ (l.drop i).length ≤ 256 ^ 8 := Nat.pow_le_pow_right (by decide) (by rw [List.length_drop]; omega)
  have e : (256 : Nat) ^ 8 = 18446744073709551616 := by decide
  omega
theorem or_join (x b : Nat) (hx : x * 256 + 255 < 18446744073709551616) (hb : b < 256) : Go.bits .or .u64 (IntKind.u64.wrap ((x : Int) * 256)) (IntKind.u64.wrap (b : Int)) = ((b + 256 * x : Nat) : Int) := by
  rw [u64w (by omega) (by omega), u64w (by omega) (by omega), bits_join .u64 64 (by decide) (fun n h0 h1 => u64w h0 (by omega)) 8 _ _ (by omega) (by omega) (by omega) (by omega) (by omega) (by omega)]
  omega

theorem batch_get_uint32_l0 (l : List Nat) (hb : ∀ x ∈ l, x < 256) (hl : l.length ≤ 8) (m : Nat) : ∀ (d : Nat), d ≤ l.length →
    batch_get_uint32.l0 (m + d + 1) (ints l) ((val (l.drop d) : Nat) : Int) ((d : Int) - 1) = some (((val l : Nat) : Int) % 4294967296) := by
  intro d
  induction d with
  | zero =>
    intro hd
    rw [batch_get_uint32.l0, if_neg (by omega), List.drop_zero]
  | succ d ih =>
    intro hd
    have c : d < l.length := by omega
    have hc := hb _ (List.getElem_mem c)
    have e : ((d + 1 : Nat) : Int) - 1 = (d : Int) := by omega
    have hv : val (l.drop d) = l[d] + 256 * val (l.drop (d + 1)) := by rw [List.drop_eq_getElem_cons c, val]
    have hlt := val_drop_lt l hb hl d
    rw [e, batch_get_uint32.l0, if_pos (by omega), if_pos (by omega), if_pos (by rw [ints_len]; omega), rd_ints l d c, or_join _ _ (by omega) hc, ← hv, w64 (by omega) (by omega), show m + (d + 1) = m + d + 1 from rfl, ih (by omega)]
theorem batch_get_uint32_at (k : Nat) (l : List Nat) (hb : ∀ x ∈ l, x < 256) (hl : l.length ≤ 8) (hk : 9 ≤ k) : batch_get_uint32.f k (ints l) = some (((val l : Nat) : Int) % 4294967296) := by
  obtain ⟨m, rfl⟩ : ∃ m, k = m + l.length + 1 := ⟨k - l.length - 1, by omega⟩
  have := batch_get_uint32_l0 l hb hl m l.length (Nat.le_refl _)
  rw [List.drop_length] at this
  unfold batch_get_uint32.f
  rw [ints_len, w64 (by omega) (by omega)]
  exact this

theorem batch_get_int_l0 (l : List Nat) (hb : ∀ x ∈ l, x < 256) (hl : l.length ≤ 8) (m : Nat) : ∀ (d : Nat), d ≤ l.length →
    batch_get_int.l0 (m + d + 1) (ints l) ((val (l.drop d) : Nat) : Int) ((d : Int) - 1) = some (wrap64 ((val l : Nat) : Int)) := by
  intro d
  induction d with
  | zero =>
    intro hd
    rw [batch_get_int.l0, if_neg (by omega), List.drop_zero]
  | succ d ih =>
    intro hd
    have c : d < l.length := by omega
    have hc := hb _ (List.getElem_mem c)
    have e : ((d + 1 : Nat) : Int) - 1 = (d : Int) := by omega
    have hv : val (l.drop d) = l[d] + 256 * val (l.drop (d + 1)) := by rw [List.drop_eq_getElem_cons c, val]
    have hlt := val_drop_lt l hb hl d
    rw [e, batch_get_int.l0, if_pos (by omega), if_pos (by omega), if_pos (by rw [ints_len]; omega), rd_ints l d c, or_join _ _ (by omega) hc, ← hv, w64 (by omega) (by omega), show m + (d + 1) = m + d + 1 from rfl, ih (by omega)]
theorem batch_get_int_at (k : Nat) (l : List Nat) (hb : ∀ x ∈ l, x < 256) (hl : l.length ≤ 8) (hk : 9 ≤ k) : batch_get_int.f k (ints l) = some (wrap64 ((val l : Nat) : Int)) := by
  obtain ⟨m, rfl⟩ : ∃ m, k = m + l.length + 1 := ⟨k - l.length - 1, by omega⟩
  have := batch_get_int_l0 l hb hl m l.length (Nat.le_refl _)
  rw [List.drop_length] at this
  unfold batch_get_int.f
  rw [ints_len, w64 (by omega) (by omega)]
  exact this

theorem batch_get_int64_l0 (l : List Nat) (hb : ∀ x ∈ l, x < 256) (hl : l.length ≤ 8) (m : Nat) : ∀ (d : Nat), d ≤ l.length →
    batch_get_int64.l0 (m + d + 1) (ints l) ((val (l.drop d) : Nat) : Int) ((d : Int) - 1) = some (wrap64 ((val l : Nat) : Int)) := by
  intro d
  induction d with
  | zero =>
    intro hd
    rw [batch_get_int64.l0, if_neg (by omega), List.drop_zero]
  | succ d ih =>
    intro hd
    have c : d < l.length := by omega
    have hc := hb _ (List.getElem_mem c)
    have e : ((d + 1 : Nat) : Int) - 1 = (d : Int) := by omega
    have hv : val (l.drop d) = l[d] + 256 * val (l.drop (d + 1)) := by rw [List.drop_eq_getElem_cons c, val]
    have hlt := val_drop_lt l hb hl d
    rw [e, batch_get_int64.l0, if_pos (by omega), if_pos (by omega), if_pos (by rw [ints_len]; omega), rd_ints l d c, or_join _ _ (by omega) hc, ← hv, w64 (by omega) (by omega), show m + (d + 1) = m + d + 1 from rfl, ih (by omega)]
theorem batch_get_int64_at (k : Nat) (l : List Nat) (hb : ∀ x ∈ l, x < 256) (hl : l.length ≤ 8) (hk : 9 ≤ k) : batch_get_int64.f k (ints l) = some (wrap64 ((val l : Nat) : Int)) := by
  obtain ⟨m, rfl⟩ : ∃ m, k = m + l.length + 1 := ⟨k - l.length - 1, by omega⟩
  have := batch_get_int64_l0 l hb hl m l.length (Nat.le_refl _)
  rw [List.drop_length] at this
  unfold batch_get_int64.f
  rw [ints_len, w64 (by omega) (by omega)]
  exact this

end Go.Proofs.Ytepgponpnijonaa.Print
