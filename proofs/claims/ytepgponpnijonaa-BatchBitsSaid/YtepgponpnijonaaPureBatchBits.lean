/- With a bit turned a batch isn't got. For every batch, every byte of it and every bit. -/
import Derived.Test.YtepgponpnijonaaStBatchBits
import Derived.Test.YtepgponpnijonaaAidH
namespace Go.Proofs.Ytepgponpnijonaa.Print
open Go.RowKit Go.Proofs.YtepgponpnijonaaW.PrintWords Go.Proofs.YtepgponpnijonaaW.PrintLast Go.Proofs.YtepgponpnijonaaW.PrintMore
set_option linter.unusedVariables false
set_option linter.unusedSimpArgs false

theorem wf_u16 {n : Int} (h : (Lit.int .u16 n).wf = true) : 0 ≤ n ∧ n ≤ 65535 := by
  simp only [Lit.wf, Bool.and_eq_true, decide_eq_true_eq] at h; exact h
theorem shl8 (t : Nat) (h : t < 8) : shl .u8 1 (t : Int) = ((2 ^ t : Nat) : Int) := by
  have : t = 0 ∨ t = 1 ∨ t = 2 ∨ t = 3 ∨ t = 4 ∨ t = 5 ∨ t = 6 ∨ t = 7 := by omega
  rcases this with rfl | rfl | rfl | rfl | rfl | rfl | rfl | rfl <;> rfl
theorem xor_ne (a b : Nat) (h : b ≠ 0) : a ^^^ b ≠ a := by
  intro e
  have := congrArg (a ^^^ ·) e
  simp only [← Nat.xor_assoc, Nat.xor_self, Nat.zero_xor] at this
  exact h this
theorem Pure.BatchBits : BatchBitsPure := by
  intro s a1 a2 ws w1 w2
  refine ⟨60000, ?_⟩
  have h1 := wf_u16 w1
  have h2 := wf_u8 w2
  unfold lombardlaw18_BatchBits.f
  rw [alive_at _ (by omega), Option.bind_some, if_pos rfl]
  by_cases c : (s.f2.length : Int) > 64
  · rw [if_pos c]
  rw [if_neg c, To18_at _ _ _ _ (by omega) (by omega), Option.bind_some]
  dsimp only
  rw [Put_at _ _ _ _ (by omega), Option.bind_some]
  by_cases d : (putS s.f0 s.f1 (s.f2.map c45)).2 = 0
  · obtain ⟨hc, hp⟩ := putS_ok d
    rw [if_pos d, hp]
    have hlen := putN_len (u64N s.f0) (u64N s.f1) (s.f2.map c45)
    rw [List.length_map] at hlen
    have hlt := putN_lt (u64N s.f0) (u64N s.f1) (s.f2.map c45)
    have hturn := get_turned (u64N s.f0) (u64N s.f1) (s.f2.map c45)
    generalize putN (u64N s.f0) (u64N s.f1) (s.f2.map c45) = b at hlen hlt hturn
    rw [ints_len, w64 (x := a1) (by omega) (by omega), if_neg (by omega)]
    obtain ⟨i, hi, hk⟩ : ∃ i : Nat, i < b.length ∧ Int.tmod a1 (b.length : Int) = i := by
      rw [Int.tmod_eq_emod_of_nonneg h1.1]
      have q1 := Int.emod_nonneg a1 (b := (b.length : Int)) (by omega)
      have q2 := Int.emod_lt_of_pos a1 (b := (b.length : Int)) (by omega)
      exact ⟨(a1 % (b.length : Int)).toNat, by omega, by omega⟩
    obtain ⟨t, ht, hk2⟩ : ∃ t : Nat, t < 8 ∧ Int.tmod a2 8 = t := by
      rw [Int.tmod_eq_emod_of_nonneg h2.1]
      exact ⟨(a2 % 8).toNat, by omega, by omega⟩
    have hb := hlt _ (List.getElem_mem hi)
    have h2t : 2 ^ t < 256 := by
      have : 2 ^ t < 2 ^ 8 := Nat.pow_lt_pow_right (by decide) ht
      omega
    rw [hk, hk2, if_pos (by omega), if_pos (by omega), if_pos (by omega), rd_ints b i hi, shl8 t ht, xor8 _ _ hb h2t, Int.toNat_natCast]
    have hset : (ints b).set i ((b[i] ^^^ 2 ^ t : Nat) : Int) = ints (b.set i (b[i] ^^^ 2 ^ t)) := by
      unfold ints; rw [List.map_set]
    have hy : b[i] ^^^ 2 ^ t < 256 := by
      have : b[i] ^^^ 2 ^ t < 2 ^ 8 := Nat.xor_lt_two_pow hb h2t
      omega
    obtain ⟨e, he, hg⟩ := hturn i _ hy hi (by
      rw [List.getElem?_eq_getElem hi]
      intro z
      exact xor_ne _ _ (by have := Nat.two_pow_pos t; omega) (Option.some.inj z).symm)
    rw [hset, Get_at _ _ (fun x hx => by
      rcases List.mem_or_eq_of_mem_set hx with h | rfl
      · exact hlt x h
      · exact hy) (by rw [List.length_set]; omega) (by omega), Option.bind_some, hg]
    dsimp only
    rw [if_neg he, if_pos (by simp)]
    rfl
  · rw [if_neg d]

end Go.Proofs.Ytepgponpnijonaa.Print
