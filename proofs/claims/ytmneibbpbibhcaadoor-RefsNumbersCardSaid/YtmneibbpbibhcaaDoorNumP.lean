/- Plain laws of numbers' references: digits gathered from the right; what a reference of such digits stands for. No program in sight. -/
import Derived.Test.YtmneibbpbibhcaaDoorMoreP
import Derived.Laws.BitsLemmas
set_option linter.unusedVariables false
namespace Go.Proofs.YtmneibbpbibhcaaDoor
open Go.RowKit Go.Proofs

theorem i64_mask (p : Nat) (hp : p ≤ 30) (m : Int) (hm : (BitVec.ofInt 64 m).toNat = 2 ^ p - 1) (n : Int) : bits .and .i64 n m = ((n % ((2 ^ 64 : Nat) : Int)).toNat % 2 ^ p : Nat) := by
  have key : (BitVec.ofInt 64 n &&& BitVec.ofInt 64 m).toNat = (n % ((2 ^ 64 : Nat) : Int)).toNat % 2 ^ p := by
    rw [BitVec.toNat_and, BitVec.toNat_ofInt, hm, Nat.and_two_pow_sub_one_eq_mod]
  show IntKind.i64.wrap ((BitVec.ofInt 64 n &&& BitVec.ofInt 64 m).toNat : Nat) = _
  rw [key, IntKind.wrap_i64]
  have h1 : (n % ((2 ^ 64 : Nat) : Int)).toNat % 2 ^ p < 2 ^ p := Nat.mod_lt _ (Nat.pow_pos (by decide))
  have h2 : 2 ^ p ≤ 2 ^ 30 := Nat.pow_le_pow_right (by decide) hp
  have h3 : (2 : Nat) ^ 30 = 1073741824 := by decide
  omega
theorem mask21 (n : Int) : ∃ k : Nat, bits .and .i64 n 2097151 = k ∧ k ≤ 2097151 := by
  refine ⟨_, i64_mask 21 (by decide) 2097151 (by decide) n, ?_⟩
  have : (n % ((2 ^ 64 : Nat) : Int)).toNat % 2 ^ 21 < 2 ^ 21 := Nat.mod_lt _ (by decide)
  have h3 : (2 : Nat) ^ 21 = 2097152 := by decide
  omega
theorem mask4 (n : Int) : ∃ k : Nat, bits .and .i64 n 15 = k ∧ k ≤ 15 := by
  refine ⟨_, i64_mask 4 (by decide) 15 (by decide) n, ?_⟩
  have : (n % ((2 ^ 64 : Nat) : Int)).toNat % 2 ^ 4 < 2 ^ 4 := Nat.mod_lt _ (by decide)
  have h3 : (2 : Nat) ^ 4 = 16 := by decide
  omega

theorem numFrom_pow (b : Nat) (l : List UInt8) : ∀ n, numFrom b n l = n * b ^ l.length + numFrom b 0 l := by
  induction l with
  | nil => intro n; simp [numFrom]
  | cons c l ih =>
    intro n
    rw [numFrom, ih, numFrom, ih (0 * b + digV c.toNat), List.length_cons, Nat.pow_succ, Nat.add_mul, Nat.zero_mul, Nat.zero_add, Nat.mul_assoc, Nat.mul_comm b, Nat.add_assoc]
theorem numN_cons (b : Nat) (c : UInt8) (l : List UInt8) : numN b (c :: l) = digV c.toNat * b ^ l.length + numN b l := by
  unfold numN
  rw [numFrom, numFrom_pow, Nat.zero_mul, Nat.zero_add]
/-- The digits s, i of them, are k's last ones; d is what is left of k. -/
def Digs (b i k d : Nat) (s : List UInt8) : Prop := s.all (fun c => digN b c.toNat) = true ∧ s.length = i ∧ numN b s + d * b ^ i = k
theorem Digs.step {b i k d : Nat} {s : List UInt8} (h : Digs b i k d s) (c : UInt8) (hc : digN b c.toNat = true) (hv : digV c.toNat = d % b) : Digs b (i + 1) k (d / b) (c :: s) := by
  obtain ⟨h1, h2, h3⟩ := h
  refine ⟨by simp [hc, h1], by simp [h2], ?_⟩
  rw [numN_cons, hv, h2, Nat.pow_succ, ← h3]
  have e : d / b * (b ^ i * b) = (b * (d / b)) * b ^ i := by rw [Nat.mul_comm (b ^ i) b, ← Nat.mul_assoc, Nat.mul_comm (d / b) b]
  rw [e]
  conv => rhs; rw [← Nat.mod_add_div d b, Nat.add_mul]
  omega
/-- Digits of k, with zeros ahead. -/
def Dg (b k : Nat) (s : List UInt8) : Prop := s.all (fun c => digN b c.toNat) = true ∧ numN b s = k
theorem Dg.zero {b k : Nat} {s : List UInt8} (h : Dg b k s) : Dg b k (48 :: s) := by
  obtain ⟨h1, h2⟩ := h
  refine ⟨?_, ?_⟩
  · have : digN b (48 : UInt8).toNat = true := decide_eq_true (.inl (by decide))
    simp only [List.all_cons, this, h1, Bool.and_self]
  · rw [numN_cons, h2]
    have : digV (48 : UInt8).toNat = 0 := by decide
    rw [this]
    omega
theorem Digs.dg {b i k d : Nat} {s : List UInt8} (h : Digs b i k d s) (hk : k < b ^ i) : Dg b k s := by
  obtain ⟨h1, h2, h3⟩ := h
  refine ⟨h1, ?_⟩
  rcases Nat.eq_zero_or_pos d with e | e
  · subst e; omega
  · have : 1 * b ^ i ≤ d * b ^ i := Nat.mul_le_mul_right _ e
    omega
theorem dig_lt {b : Nat} {c : UInt8} (h : digN b c.toNat = true) : c ≠ 59 ∧ c ≠ 120 ∧ c ≠ 88 := by
  have := of_decide_eq_true h
  refine ⟨?_, ?_, ?_⟩ <;> (intro e; subst e; simp at this)
theorem Dg.no {b k : Nat} {s : List UInt8} (h : Dg b k s) : (59 : UInt8) ∉ s := by
  intro hm
  have := h.1
  rw [List.all_eq_true] at this
  exact (dig_lt (this _ hm)).1 rfl
theorem Dg.digits {b k : Nat} {s : List UInt8} (h : Dg b k s) (hs : 0 < s.length) : digitsL b s = true := by
  unfold digitsL
  rw [h.1]
  cases s with
  | nil => simp at hs
  | cons c s => rfl
theorem meant_ten {k : Nat} {s : List UInt8} (h : Dg 10 k s) (hs : 0 < s.length) : meantL (35 :: s) = (codeL k, true) := by
  have hk : kindL (35 :: s) = 1 := by
    cases s with
    | nil => simp at hs
    | cons c s =>
      have hc := h.1
      rw [List.all_cons, Bool.and_eq_true] at hc
      obtain ⟨_, n1, n2⟩ := dig_lt hc.1
      simp [kindL, Lib.hasPrefix, List.isPrefixOf, Ne.symm n1, Ne.symm n2]
  unfold meantL
  rw [if_neg (by rw [hk]; decide), if_pos hk, List.tail_cons]
  unfold codedL
  rw [if_pos (h.digits hs), h.2]
theorem meant_six {k : Nat} {s : List UInt8} (h : Dg 16 k s) (hs : 0 < s.length) : meantL (35 :: 120 :: s) = (codeL k, true) := by
  have hk : kindL (35 :: 120 :: s) = 2 := by simp [kindL, Lib.hasPrefix, List.isPrefixOf]
  unfold meantL
  rw [if_pos hk]
  unfold codedL
  simp only [List.drop_succ_cons, List.drop_zero]
  rw [if_pos (h.digits hs), h.2]
theorem dec_ten {k : Nat} {s : List UInt8} (h : Dg 10 k s) (hs : 0 < s.length) : decL ([38, 35] ++ s ++ [59]) = codeL k := by
  have := decL_name (name := 35 :: s) (r := []) (by simp [h.no]) (meant_ten h hs)
  rw [decL_nil, List.append_nil] at this
  simpa using this
theorem dec_six {k : Nat} {s : List UInt8} (h : Dg 16 k s) (hs : 0 < s.length) : decL ([38, 35, 120] ++ s ++ [59]) = codeL k := by
  have := decL_name (name := 35 :: 120 :: s) (r := []) (by simp [h.no]) (meant_six h hs)
  rw [decL_nil, List.append_nil] at this
  simpa using this
def zeros18 : List UInt8 := [48, 48, 48, 48, 48, 48, 48, 48, 48, 48, 48, 48, 48, 48, 48, 48, 48, 48]
theorem dec_many {k : Nat} {s : List UInt8} (h : Dg 10 k s) : decL ([38, 35, 57] ++ s ++ (zeros18 ++ [59])) = codeL (-1) := by
  have hd : Dg 10 (numN 10 (57 :: (s ++ zeros18))) (57 :: (s ++ zeros18)) := by
    refine ⟨?_, rfl⟩
    rw [List.all_cons, List.all_append, h.1]
    decide
  have hbig : 1114111 < numN 10 (57 :: (s ++ zeros18)) := by
    rw [numN_cons]
    have h1 : 10 ^ 7 ≤ 10 ^ (s ++ zeros18).length := Nat.pow_le_pow_right (by decide) (by simp [zeros18])
    have h2 : digV (57 : UInt8).toNat = 9 := by decide
    rw [h2]
    omega
  have := decL_name (name := 35 :: 57 :: (s ++ zeros18)) (r := []) (by simp [h.no, zeros18]) (meant_ten hd (by simp))
  rw [decL_nil, List.append_nil, codeL_big _ (by omega)] at this
  rw [show codeL (-1) = [239, 191, 189] from by decide +kernel]
  simpa using this
theorem dec_open {b k : Nat} {s : List UInt8} (h : Dg b k s) : decL ([38, 35] ++ s) = [38, 35] ++ s := decL_semi0 _ (by simp [h.no])
end Go.Proofs.YtmneibbpbibhcaaDoor
