/- Contracts of refs.kind and refs.meant, and of strings.Cut at a byte. -/
import Derived.Test.YtcipgppjhhokbaaDoorDecP
import Derived.Test.YtcipgppjhhokbaaDoorBld
set_option linter.unusedVariables false
set_option linter.unusedSimpArgs false
namespace Go.Proofs.YtcipgppjhhokbaaDoor
open Go.RowKit Go.Proofs

theorem cut_c (l : List UInt8) (c : UInt8) (hl : l.length ≤ 1000000000) (w : World) (hS : Std w) :
    Calls Tryd.prog 55 #[.string ⟨l.toArray⟩, .string ⟨#[c]⟩] w fun e w' => e = .returned (.tuple #[.string ⟨(cut1 c l).1.toArray⟩, .string ⟨(cut1 c l).2.1.toArray⟩, .bool (cut1 c l).2.2]) ∧ Below w.heap.size w w' := by
  obtain ⟨m, hm⟩ := hS.maxLen
  refine (Tryd.strings_Cut ⟨l.toArray⟩ ⟨#[c]⟩ m w (by rw [Lib.size_eq]; simp; omega) hm).mono ?_
  rintro e w' ⟨rfl, n, rfl⟩
  refine ⟨?_, below_drewN (Below.refl _ _) n⟩
  rw [show (⟨l.toArray⟩ : ByteArray).data.toList = l from by simp, show (⟨#[c]⟩ : ByteArray).data.toList = [c] from rfl, cut_eq]
theorem prefix_c (l p : List UInt8) (w : World) :
    Calls Tryd.prog 47 #[.string ⟨l.toArray⟩, .string ⟨p.toArray⟩] w fun e w' => e = .returned (.bool (Lib.hasPrefix l p)) ∧ w = w' := by
  refine (Tryd.strings_HasPrefix ⟨l.toArray⟩ ⟨p.toArray⟩ w).mono ?_
  rintro e w' ⟨rfl, rfl⟩
  exact ⟨rfl, rfl⟩

set_option maxHeartbeats 1000000 in
set_option maxRecDepth 100000 in
theorem kind_c (l : List UInt8) (w : World) :
    Calls Tryd.prog 63 #[.string ⟨l.toArray⟩] w fun e w' => e = .returned (.int .i64 (kindL l)) ∧ Below w.heap.size w w' := by
  go_enter Tryd.func63, Tryd.ntmps63
  go_wp2_with (go_at_call 47; refine (prefix_c _ _ _).mono ?_; rintro e w' ⟨rfl, rfl⟩)
  all_goals go_ret
  all_goals (refine ⟨ret_i64 ?_, Below.refl _ _⟩; simp_all [kindL])

theorem drop_le (l : List UInt8) (n : Nat) : (l.drop n).length ≤ l.length := by simp
theorem pre_len {l p : List UInt8} (h : Lib.hasPrefix l p = true) : p.length ≤ l.length := (List.isPrefixOf_iff_prefix.1 h).length_le
theorem coded_l (base : Nat) (hb : base = 10 ∨ base = 16) (l : List UInt8) (hl : l.length ≤ 1000000000) (w : World) (hS : Std w) :
    Calls Tryd.prog 64 #[.string ⟨l.toArray⟩, .int .i64 base] w fun e w' => e = .returned (.tuple #[.string ⟨(codedL base l).1.toArray⟩, .bool (codedL base l).2]) ∧ Below w.heap.size w w' := by
  have h := coded_c base hb ⟨l.toArray⟩ (by rw [Lib.size_eq]; simpa using hl) w hS
  rwa [Lib.toList_data, show (⟨l.toArray⟩ : ByteArray).data.toList = l from by simp] at h
theorem named_l (l : List UInt8) (w : World) :
    Calls Tryd.prog 65 #[.string ⟨l.toArray⟩] w fun e w' => e = .returned (.tuple #[.string ⟨(namedL l).1.toArray⟩, .bool (namedL l).2]) ∧ w = w' := by
  have h := named_c ⟨l.toArray⟩ w
  rwa [Lib.toList_data, show (⟨l.toArray⟩ : ByteArray).data.toList = l from by simp] at h

theorem coded_10 (l : List UInt8) (hl : l.length ≤ 1000000000) (w : World) (hS : Std w) :
    Calls Tryd.prog 64 #[.string ⟨l.toArray⟩, .int .i64 10] w fun e w' => e = .returned (.tuple #[.string ⟨(codedL 10 l).1.toArray⟩, .bool (codedL 10 l).2]) ∧ Below w.heap.size w w' := coded_l 10 (.inl rfl) l hl w hS
theorem coded_16 (l : List UInt8) (hl : l.length ≤ 1000000000) (w : World) (hS : Std w) :
    Calls Tryd.prog 64 #[.string ⟨l.toArray⟩, .int .i64 16] w fun e w' => e = .returned (.tuple #[.string ⟨(codedL 16 l).1.toArray⟩, .bool (codedL 16 l).2]) ∧ Below w.heap.size w w' := coded_l 16 (.inr rfl) l hl w hS
set_option maxHeartbeats 1000000 in
set_option maxRecDepth 100000 in
theorem meant_c (l : List UInt8) (hl : l.length ≤ 1000000000) (w : World) (hS : Std w) :
    Calls Tryd.prog 56 #[.string ⟨l.toArray⟩] w fun e w' => e = .returned (.tuple #[.string ⟨(meantL l).1.toArray⟩, .bool (meantL l).2]) ∧ Below w.heap.size w w' := by
  by_cases h2 : kindL l = 2
  · have e1 := Lib.hid (show meantL l = codedL 16 (l.drop 2) by unfold meantL; rw [if_pos h2])
    have hk := Lib.hid (kind_c l w)
    rw [h2] at hk
    have hlen : 2 ≤ l.length := by
      unfold kindL at h2
      split at h2
      · rename_i h
        rw [Bool.or_eq_true] at h
        rcases h with h | h <;> exact pre_len h
      · split at h2 <;> cases h2
    clear h2
    have hc := Lib.hid (fun W hS => coded_16 (l.drop 2) (Nat.le_trans (drop_le l 2) hl) W hS)
    go_enter Tryd.func56, Tryd.ntmps56
    go_wp2_with (first
      | (go_at_call 63; ((with_reducible refine hk.out.mono ?_); rintro e w1 ⟨rfl, hb1⟩))
      | (go_at_call 64; ((with_reducible refine (hc.out _ (hS.below hb1)).mono ?_); rintro e w2 ⟨rfl, hb2⟩)))
    go_ret2
    exact ⟨by rw [e1.out]; rfl, below_seq hb1 hb2⟩
  · by_cases h1 : kindL l = 1
    · have e1 := Lib.hid (show meantL l = codedL 10 l.tail by unfold meantL; rw [if_neg h2, if_pos h1])
      have hk := Lib.hid (kind_c l w)
      rw [h1] at hk
      have hlen : 1 ≤ l.length := by
        unfold kindL at h1
        split at h1
        · cases h1
        · split at h1
          · rename_i h
            exact pre_len h
          · cases h1
      clear h2 h1
      have hc := Lib.hid (fun W hS => coded_10 l.tail (by have := List.length_tail (l := l); omega) W hS)
      go_enter Tryd.func56, Tryd.ntmps56
      go_wp2_with (first
        | (go_at_call 63; ((with_reducible refine hk.out.mono ?_); rintro e w1 ⟨rfl, hb1⟩))
        | (go_at_call 64; ((with_reducible refine (hc.out _ (hS.below hb1)).mono ?_); rintro e w2 ⟨rfl, hb2⟩)))
      go_ret2
      exact ⟨by rw [e1.out]; rfl, below_seq hb1 hb2⟩
    · have e1 := Lib.hid (show meantL l = namedL l by unfold meantL; rw [if_neg h2, if_neg h1])
      have hk := Lib.hid (kind_c l w)
      have h0 : kindL l = 0 := by
        unfold kindL at h2 h1 ⊢
        repeat' split
        all_goals simp_all
      rw [h0] at hk
      clear h2 h1 h0
      go_enter Tryd.func56, Tryd.ntmps56
      go_wp2_with (first
        | (go_at_call 63; ((with_reducible refine hk.out.mono ?_); rintro e w1 ⟨rfl, hb1⟩))
        | (go_at_call 65; ((with_reducible refine (named_l _ _).mono ?_); rintro e w2 ⟨rfl, rfl⟩)))
      go_ret2
      exact ⟨by rw [e1.out]; rfl, hb1⟩

theorem bytes_str (l : List UInt8) : Lib.strCells ⟨l.toArray⟩ = Lib.byteCells l := by
  unfold Lib.strCells Lib.byteCells
  simp
/-- WriteString, in lists of bytes. -/
theorem write_l (B b : Nat) (acc l : List UInt8) (w : World) (h : Lib.IsBuilderF 41 5 B b (Lib.byteCells acc) w) (hlen : acc.length + l.length ≤ 140737488355328) (hBw : B ≤ w.heap.size) :
    Calls Tryd.prog 21 #[.pointer (some ⟨b, 0, none⟩), .string ⟨l.toArray⟩] w fun e w' => e = .returned (.tuple #[.int .i64 l.length, .nilIface]) ∧ (Lib.IsBuilderF 41 5 B b (Lib.byteCells (acc ++ l)) w' ∧ Below B w w' ∧ Lib.OthersKept 5 (some b) w w') := by
  refine (writeString_k B b _ ⟨l.toArray⟩ w h (by rw [Lib.byteCells_length, mk_size]; exact hlen) hBw).mono ?_
  rintro e w' ⟨rfl, h1, h2, h3⟩
  rw [mk_size]
  rw [bytes_str, ← Lib.byteCells_append] at h1
  exact ⟨rfl, h1, h2, h3⟩
end Go.Proofs.YtcipgppjhhokbaaDoor
