/- Contracts of ParseInt (internal/strconv's and strconv's) at digits of the bases 10 and 16, and of refs.coded at these bases. -/
import Derived.Test.YtcipgppjhhokbaaDoorParse
import Derived.Test.YtcipgppjhhokbaaDoorStd
import Derived.Test.YtcipgppjhhokbaaDoorRefsA
import Derived.WalkLawsBesides
import Derived.Lib.IfaceNeq
set_option linter.unusedVariables false
set_option linter.unusedSimpArgs false
namespace Go.Proofs.YtcipgppjhhokbaaDoor
open Go.RowKit Go.Proofs

theorem head_dig {base : Nat} {s : ByteArray} (h : digitsL base s.toList = true) : ∃ (h0 : 0 < s.size), 48 ≤ (s[0]'h0).toNat := by
  have hne := dig_ne h
  have h0 : 0 < s.size := by
    rcases Nat.eq_zero_or_pos s.size with e | e
    · rw [Lib.toList_data] at hne
      have : s.data.toList = [] := by
        apply List.eq_nil_of_length_eq_zero
        simpa using e
      rw [this] at hne
      cases hne
    · exact e
  refine ⟨h0, ?_⟩
  have := of_decide_eq_true (dig_at h h0)
  have e : s.data.toList.getD 0 0 = s[0]'h0 := by simp [List.getD, h0, ByteArray.getElem_eq_getElem_data]
  rw [e] at this
  omega

set_option maxHeartbeats 4000000 in
set_option maxRecDepth 100000 in
theorem iparse_ok (base : Nat) (hb : base = 10 ∨ base = 16) (s : ByteArray) (hd : digitsL base s.toList = true) (hs : s.size ≤ 1000000000) (hn : numN base s.data.toList < 9223372036854775808) (w : World) :
    Calls Tryd.prog 81 #[.string s, .int .i64 base, .int .i64 64] w fun e w' => e = .returned (.tuple #[.int .i64 (numN base s.data.toList), .nilIface]) ∧ Below w.heap.size w w' := by
  obtain ⟨h0, h48⟩ := head_dig hd
  have hne := dig_ne hd
  have hc : Calls Tryd.prog 85 #[.string s, .int .i64 base, .int .i64 64] w fun e w' => e = .returned (pU 90 (numN base s.data.toList)) ∧ Below w.heap.size w w' := by
    rcases hb with rfl | rfl
    · exact parseUint_10 s hd (by omega) w
    · exact parseUint_16 s hd (by omega) w
  rw [pU_ok (by omega)] at hc
  obtain ⟨a, ha⟩ : ∃ a : Int, a = (numN base s.data.toList : Nat) := ⟨_, rfl⟩
  rw [← ha] at hc ⊢
  have hc := Lib.hid hc
  rename_i hc0
  clear hc0
  have hni : a < 9223372036854775808 := by omega
  have hn0 : 0 ≤ a := by omega
  clear ha hn
  have h48i : (48 : Int) ≤ (s[0]'h0).toNat := by omega
  clear hb hd h48
  generalize (base : Int) = b at *
  have hmv : IntKind.u64.wrap 9223372036854775808 = 9223372036854775808 := by rw [IntKind.wrap_u64]; decide
  go_enter Tryd.func81, Tryd.ntmps81
  go_wp2_with (go_at_call 85; refine hc.out.mono ?_; rintro e w' ⟨rfl, hb1⟩)
  all_goals first | (exfalso; omega) | skip
  go_ret2
  exact ⟨rfl, hb1⟩

set_option maxHeartbeats 4000000 in
set_option maxRecDepth 100000 in
theorem iparse_big (base : Nat) (hb : base = 10 ∨ base = 16) (s : ByteArray) (hd : digitsL base s.toList = true) (hs : s.size ≤ 1000000000) (hn : 9223372036854775808 ≤ numN base s.data.toList) (w : World) :
    Calls Tryd.prog 81 #[.string s, .int .i64 base, .int .i64 64] w fun e w' => e = .returned (.tuple #[.int .i64 9223372036854775807, .iface 90 (.int .i64 1)]) ∧ Below w.heap.size w w' := by
  obtain ⟨h0, h48⟩ := head_dig hd
  have hne := dig_ne hd
  have hc : Calls Tryd.prog 85 #[.string s, .int .i64 base, .int .i64 64] w fun e w' => e = .returned (pU 90 (numN base s.data.toList)) ∧ Below w.heap.size w w' := by
    rcases hb with rfl | rfl
    · exact parseUint_10 s hd (by omega) w
    · exact parseUint_16 s hd (by omega) w
  by_cases hlt : numN base s.data.toList < 18446744073709551616
  · rw [pU_ok hlt] at hc
    obtain ⟨a, ha⟩ : ∃ a : Int, a = (numN base s.data.toList : Nat) := ⟨_, rfl⟩
    rw [← ha] at hc
    have hc := Lib.hid hc
    rename_i hc0
    clear hc0
    have hni : 9223372036854775808 ≤ a := by omega
    have hn0 : a < 18446744073709551616 := by omega
    clear ha hn hlt
    have h48i : (48 : Int) ≤ (s[0]'h0).toNat := by omega
    clear hb hd h48
    generalize (base : Int) = b at *
    have hmv : IntKind.u64.wrap 9223372036854775808 = 9223372036854775808 := by rw [IntKind.wrap_u64]; decide
    go_enter Tryd.func81, Tryd.ntmps81
    go_wp2_with (go_at_call 85; refine hc.out.mono ?_; rintro e w' ⟨rfl, hb1⟩)
    all_goals first | (exfalso; omega) | skip
    go_ret2
    exact ⟨rfl, hb1⟩
  · rw [pU_big (by omega)] at hc
    have hc := Lib.hid hc
    rename_i hc0
    clear hc0 hn hlt
    have hq1 : ∀ W, (binOp .neq 43 (.iface 90 (.int .i64 1)) (.iface 90 (.int .i64 1))).run Tryd.prog W = .ok (.bool false) W := fun W => Lib.run_neq_iface_int W 1 1 Tryd.underlying43 (by kernel_rfl) Tryd.underlying90
    have h48i : (48 : Int) ≤ (s[0]'h0).toNat := by omega
    clear hb hd h48
    generalize (base : Int) = b at *
    have hmv : IntKind.u64.wrap 9223372036854775808 = 9223372036854775808 := by rw [IntKind.wrap_u64]; decide
    go_enter Tryd.func81, Tryd.ntmps81
    go_wp2_with (go_at_call 85; refine hc.out.mono ?_; rintro e w' ⟨rfl, hb1⟩)
    all_goals first | (exfalso; omega) | skip
    go_ret2
    exact ⟨rfl, hb1⟩

set_option maxHeartbeats 4000000 in
set_option maxRecDepth 100000 in
theorem parse_ok (base : Nat) (hb : base = 10 ∨ base = 16) (s : ByteArray) (hd : digitsL base s.toList = true) (hs : s.size ≤ 1000000000) (hn : numN base s.data.toList < 9223372036854775808) (w : World) :
    Calls Tryd.prog 70 #[.string s, .int .i64 base, .int .i64 64] w fun e w' => e = .returned (.tuple #[.int .i64 (numN base s.data.toList), .nilIface]) ∧ Below w.heap.size w w' := by
  have hc := Lib.hid (iparse_ok base hb s hd hs hn w)
  generalize numN base s.data.toList = n at *
  generalize (base : Int) = b at *
  generalize (n : Int) = a at *
  clear hn
  go_enter Tryd.func70, Tryd.ntmps70
  go_wp2_with (go_at_call 81; refine hc.out.mono ?_; rintro e w' ⟨rfl, hb1⟩)
  go_ret2
  exact ⟨rfl, hb1⟩

/-- strconv.ParseInt's end at a number that is too great. -/
def PBig (w : World) (e : Ending) (w' : World) : Prop := ∃ p, e = .returned (.tuple #[.int .i64 9223372036854775807, .iface 94 (.pointer (some p))]) ∧ Below w.heap.size w w'
set_option maxHeartbeats 4000000 in
set_option maxRecDepth 100000 in
theorem parse_big (base : Nat) (hb : base = 10 ∨ base = 16) (s : ByteArray) (hd : digitsL base s.toList = true) (hs : s.size ≤ 1000000000) (hn : 9223372036854775808 ≤ numN base s.data.toList) (w : World) (hS : Std w) :
    Calls Tryd.prog 70 #[.string s, .int .i64 base, .int .i64 64] w (PBig w) := by
  have hc := Lib.hid (iparse_big base hb s hd hs hn w)
  generalize (base : Int) = b at *
  clear hn
  go_enter Tryd.func70, Tryd.ntmps70
  go_wp2_with (go_at_call 81; refine hc.out.mono ?_; rintro e w1 ⟨rfl, hb1⟩)
  obtain ⟨te, pe, hev⟩ := (hS.below hb1).errRange
  refine (Tryd.strconv_toError_range _ s _ _ (.iface te pe) w1 (by omega) hev (.inr ⟨_, _, rfl⟩)).mono ?_
  rintro e w2 ⟨q, rfl, _, _, hb2⟩
  go_wp2
  go_ret2
  exact ⟨_, rfl, below_seq hb1 hb2⟩

/-- What digits of a base stand for. -/
def codedL (base : Nat) (l : List UInt8) : List UInt8 × Bool := if digitsL base l then (codeL (numN base l), true) else ([], false)
theorem codeL_big (n : Int) (h : 1114111 < n) : codeL n = [239, 191, 189] := by
  unfold codeL codeI
  rw [if_pos (by omega)]
  decide
set_option maxHeartbeats 4000000 in
set_option maxRecDepth 100000 in
theorem coded_c (base : Nat) (hb : base = 10 ∨ base = 16) (s : ByteArray) (hs : s.size ≤ 1000000000) (w : World) (hS : Std w) :
    Calls Tryd.prog 64 #[.string s, .int .i64 base] w fun e w' => e = .returned (.tuple #[.string ⟨(codedL base s.toList).1.toArray⟩, .bool (codedL base s.toList).2]) ∧ Below w.heap.size w w' := by
  cases hd : digitsL base s.toList with
  | false =>
    have e1 : codedL base s.toList = ([], false) := by unfold codedL; rw [hd]; rfl
    rw [e1]
    have hc := Lib.hid (digits_c base hb s w (by omega))
    clear e1
    generalize (base : Int) = b at *
    go_enter Tryd.func64, Tryd.ntmps64
    go_wp2_with (go_at_call 69; refine hc.out.mono ?_; rintro e w1 ⟨rfl, hb1⟩)
    go_ret2
    exact ⟨rfl, hb1⟩
  | true =>
    have e1 : codedL base s.toList = (codeL (numN base s.toList), true) := by unfold codedL; rw [hd]; rfl
    rw [e1, Lib.toList_data]
    have hc := Lib.hid (digits_c base hb s w (by omega))
    by_cases hn : numN base s.data.toList < 9223372036854775808
    · have hp := Lib.hid (fun W => parse_ok base hb s hd hs hn W)
      clear e1
      generalize numN base s.data.toList = n at *
      obtain ⟨a, ha⟩ : ∃ a : Int, a = (n : Nat) := ⟨_, rfl⟩
      rw [← ha] at hp ⊢
      have a0 : 0 ≤ a := by omega
      have a1 : a < 9223372036854775808 := by omega
      clear ha hn
      generalize (base : Int) = b at *
      go_enter Tryd.func64, Tryd.ntmps64
      go_wp2_with (first
        | (go_at_call 69; refine hc.out.mono ?_; rintro e w1 ⟨rfl, hb1⟩)
        | (go_at_call 70; refine (hp.out _).mono ?_; rintro e w2 ⟨rfl, hb2⟩)
        | (go_at_call 71; refine (code_c _ _ (by omega) (by omega)).mono ?_; rintro e w3 ⟨rfl, rfl⟩))
      go_ret2
      exact ⟨rfl, below_seq hb1 hb2⟩
    · have hp := Lib.hid (fun W hS => parse_big base hb s hd hs (by omega) W hS)
      rw [codeL_big _ (by omega)]
      clear e1 hn
      generalize (base : Int) = b at *
      go_enter Tryd.func64, Tryd.ntmps64
      go_wp2_with (first
        | (go_at_call 69; refine hc.out.mono ?_; rintro e w1 ⟨rfl, hb1⟩)
        | (go_at_call 70; refine (hp.out _ (hS.below hb1)).mono ?_; rintro e w2 ⟨p, rfl, hb2⟩))
      go_ret2
      exact ⟨rfl, below_seq hb1 hb2⟩
end Go.Proofs.YtcipgppjhhokbaaDoor
