/- Contracts of boltingref03's digit, value, end and meant. Nothing that lay in memory turns. -/
import Derived.Test.YtmneibbpbibhcaaDoorOwn
set_option linter.unusedVariables false
set_option linter.unusedSimpArgs false
namespace Go.Proofs.YtmneibbpbibhcaaDoor
open Go.RowKit Go.Proofs

theorem ret_ib {a b : Int} {x y : Bool} (h : a = b) (k : x = y) : Ending.returned (.tuple #[.int .i64 a, .bool x]) = .returned (.tuple #[.int .i64 b, .bool y]) := by rw [h, k]
def digI (c : Int) : Int := if 48 ≤ c ∧ c ≤ 57 then c - 48 else if 97 ≤ c ∧ c ≤ 102 then c - 87 else if 65 ≤ c ∧ c ≤ 70 then c - 55 else -1
set_option maxHeartbeats 1000000 in
set_option maxRecDepth 100000 in
theorem rdigit_c (c : Int) (h0 : 0 ≤ c) (h1 : c ≤ 255) (w : World) :
    Calls Tryd.prog 112 #[.int .u8 c] w fun e w' => e = .returned (.int .i64 (digI c)) ∧ w = w' := by
  go_enter Tryd.func112, Tryd.ntmps112
  go_wp2
  all_goals go_ret
  all_goals (refine ⟨ret_i64 ?_, rfl⟩; unfold digI)
  all_goals (try simp only [Bool.not_eq_true', Bool.not_eq_false', decide_eq_true_eq, decide_eq_false_iff_not] at *)
  all_goals first
    | (rw [if_pos (by omega)]; done)
    | (rw [if_neg (by omega), if_pos (by omega)]; done)
    | (rw [if_neg (by omega), if_neg (by omega), if_pos (by omega)]; done)
    | (rw [if_neg (by omega), if_neg (by omega), if_neg (by omega)]; done)
theorem digI_no {b c : Nat} (h : digN b c = false) (hb : b = 10 ∨ b = 16) : digI c < 0 ∨ (b : Int) ≤ digI c := by
  have := of_decide_eq_false h
  unfold digI
  rcases hb with rfl | rfl <;> (repeat' split) <;> omega
theorem digI_yes {b c : Nat} (h : digN b c = true) (hb : b = 10 ∨ b = 16) : digI c = digV c ∧ 0 ≤ digI c ∧ digI c < b := by
  have := of_decide_eq_true h
  unfold digI digV
  rcases hb with rfl | rfl <;> (repeat' split) <;> omega
def valL (b : Nat) (l : List UInt8) : Int × Bool := if l.all (fun c => digN b c.toNat) then (min (numN b l : Int) 1114112, !l.isEmpty) else (0, false)
theorem val_no {b : Nat} {l : List UInt8} {k : Nat} (hk : k < l.length) (h : digN b l[k].toNat = false) : valL b l = (0, false) := by
  unfold valL
  rw [if_neg]
  intro hh
  rw [List.all_eq_true] at hh
  rw [hh _ (List.getElem_mem hk)] at h
  cases h
theorem val_yes {b : Nat} {l : List UInt8} (h : ∀ j (hj : j < l.length), digN b l[j].toNat = true) : valL b l = (min (numN b l : Int) 1114112, !l.isEmpty) := by
  unfold valL
  rw [if_pos]
  rw [List.all_eq_true]
  intro x hx
  obtain ⟨j, hj, rfl⟩ := List.getElem_of_mem hx
  exact h j hj
theorem numFrom_app (b : Nat) (l : List UInt8) (c : UInt8) : ∀ n, numFrom b n (l ++ [c]) = numFrom b n l * b + digV c.toNat := by
  induction l with
  | nil => intro n; rfl
  | cons x l ih => intro n; exact ih _
theorem numN_take {b : Nat} {l : List UInt8} {k : Nat} (hk : k < l.length) : numN b (l.take (k + 1)) = numN b (l.take k) * b + digV l[k].toNat := by
  unfold numN
  rw [List.take_succ_eq_append_getElem hk, numFrom_app]

set_option maxHeartbeats 1000000 in
set_option maxRecDepth 100000 in
theorem rvalue_10 (l : List UInt8) (hl : l.length ≤ 1000000000) (w : World) :
    Calls Tryd.prog 89 #[.string ⟨l.toArray⟩, .int .i64 10] w fun e w' => e = .returned (.tuple #[.int .i64 (valL 10 l).1, .bool (valL 10 l).2]) ∧ w = w' := by
  go_enter Tryd.func89, Tryd.ntmps89
  go_wp2
  go_loop [6, 7] (fun vn vi => ∃ (k : Nat) (a : Int), vn = .int .i64 a ∧ vi = .int .i64 k ∧ k ≤ l.length ∧ 0 ≤ a ∧ a ≤ 1114112 ∧ Hid (a = min (numN 10 (l.take k) : Int) 1114112 ∧ ∀ j (hj : j < l.length), j < k → digN 10 l[j].toNat = true)) (fun _ vi => l.length - (intOf vi).toNat)
  case atStart => exact ⟨0, 0, rfl, rfl, by omega, by omega, by omega, by rw [List.take_zero]; decide, fun j _ h => by omega⟩
  case round =>
    obtain ⟨k, a, rfl, rfl, hk, ha0, ha1, hh⟩ := hrel
    by_cases hlt : k < l.length
    · obtain ⟨n, hn⟩ : ∃ n, l[k].toNat = n := ⟨_, rfl⟩
      have hn' := Lib.hid hn
      have hn255 : n ≤ 255 := by have := l[k].toNat_lt; omega
      cases hd : digN 10 n with
      | false =>
        have hv := Lib.hid (val_no hlt (by rw [hn, hd]))
        have hz := digI_no hd (by simp)
        have hz' : digI n < 0 ∨ 10 ≤ digI n := by simpa using hz
        clear hd hz
        have hdc := Lib.hid (fun W => rdigit_c n (by omega) (by omega) W)
        generalize digI (n : Int) = d at *
        rcases hz' with hz | hz
        all_goals
          go_wp2_with (go_at_call 112; ((with_reducible refine (hdc.out _).mono ?_); rintro e w1 ⟨rfl, rfl⟩))
          all_goals first | (exfalso; omega) | skip
          go_ret2
          rw [hv.out]
          exact ⟨rfl, rfl⟩
      | true =>
        obtain ⟨d1, d2, d3⟩ := digI_yes hd (by simp)
        have d3' : digI n < 10 := by simpa using d3
        have hnew : Hid (min (a * 10 + digI n) 1114112 = min (numN 10 (l.take (k + 1)) : Int) 1114112 ∧ ∀ j (hj : j < l.length), j < k + 1 → digN 10 l[j].toNat = true) := by
          refine ⟨?_, fun j hj hjk => ?_⟩
          · rw [numN_take hlt, hn, d1, hh.out.1]
            push_cast
            omega
          · by_cases e : j = k
            · subst e; rw [hn, hd]
            · exact hh.out.2 j hj (by omega)
        clear hd d1 d3
        have hdc := Lib.hid (fun W => rdigit_c n (by omega) (by omega) W)
        generalize digI (n : Int) = d at *
        go_wp2_with (go_at_call 112; ((with_reducible refine (hdc.out _).mono ?_); rintro e w1 ⟨rfl, rfl⟩))
        all_goals first | (exfalso; omega) | skip
        refine ⟨⟨k + 1, min (a * 10 + d) 1114112, rfl, rfl, by omega, by omega, by omega, hnew⟩, by simp [intOf]; omega⟩
    · have hv := Lib.hid ((val_yes (b := 10) (l := l) fun j hj => hh.out.2 j hj (by omega)))
      have ha := Lib.hid (show a = min (numN 10 l : Int) 1114112 by rw [hh.out.1, List.take_of_length_le (by omega)])
      go_wp2
      go_ret2
      rw [hv.out, ← ha.out]
      refine ⟨ret_ib rfl ?_, rfl⟩
      cases l <;> simp

set_option maxHeartbeats 1000000 in
set_option maxRecDepth 100000 in
theorem rvalue_16 (l : List UInt8) (hl : l.length ≤ 1000000000) (w : World) :
    Calls Tryd.prog 89 #[.string ⟨l.toArray⟩, .int .i64 16] w fun e w' => e = .returned (.tuple #[.int .i64 (valL 16 l).1, .bool (valL 16 l).2]) ∧ w = w' := by
  go_enter Tryd.func89, Tryd.ntmps89
  go_wp2
  go_loop [6, 7] (fun vn vi => ∃ (k : Nat) (a : Int), vn = .int .i64 a ∧ vi = .int .i64 k ∧ k ≤ l.length ∧ 0 ≤ a ∧ a ≤ 1114112 ∧ Hid (a = min (numN 16 (l.take k) : Int) 1114112 ∧ ∀ j (hj : j < l.length), j < k → digN 16 l[j].toNat = true)) (fun _ vi => l.length - (intOf vi).toNat)
  case atStart => exact ⟨0, 0, rfl, rfl, by omega, by omega, by omega, by rw [List.take_zero]; decide, fun j _ h => by omega⟩
  case round =>
    obtain ⟨k, a, rfl, rfl, hk, ha0, ha1, hh⟩ := hrel
    by_cases hlt : k < l.length
    · obtain ⟨n, hn⟩ : ∃ n, l[k].toNat = n := ⟨_, rfl⟩
      have hn' := Lib.hid hn
      have hn255 : n ≤ 255 := by have := l[k].toNat_lt; omega
      cases hd : digN 16 n with
      | false =>
        have hv := Lib.hid (val_no hlt (by rw [hn, hd]))
        have hz := digI_no hd (by simp)
        have hz' : digI n < 0 ∨ 16 ≤ digI n := by simpa using hz
        clear hd hz
        have hdc := Lib.hid (fun W => rdigit_c n (by omega) (by omega) W)
        generalize digI (n : Int) = d at *
        rcases hz' with hz | hz
        all_goals
          go_wp2_with (go_at_call 112; ((with_reducible refine (hdc.out _).mono ?_); rintro e w1 ⟨rfl, rfl⟩))
          all_goals first | (exfalso; omega) | skip
          go_ret2
          rw [hv.out]
          exact ⟨rfl, rfl⟩
      | true =>
        obtain ⟨d1, d2, d3⟩ := digI_yes hd (by simp)
        have d3' : digI n < 16 := by simpa using d3
        have hnew : Hid (min (a * 16 + digI n) 1114112 = min (numN 16 (l.take (k + 1)) : Int) 1114112 ∧ ∀ j (hj : j < l.length), j < k + 1 → digN 16 l[j].toNat = true) := by
          refine ⟨?_, fun j hj hjk => ?_⟩
          · rw [numN_take hlt, hn, d1, hh.out.1]
            push_cast
            omega
          · by_cases e : j = k
            · subst e; rw [hn, hd]
            · exact hh.out.2 j hj (by omega)
        clear hd d1 d3
        have hdc := Lib.hid (fun W => rdigit_c n (by omega) (by omega) W)
        generalize digI (n : Int) = d at *
        go_wp2_with (go_at_call 112; ((with_reducible refine (hdc.out _).mono ?_); rintro e w1 ⟨rfl, rfl⟩))
        all_goals first | (exfalso; omega) | skip
        refine ⟨⟨k + 1, min (a * 16 + d) 1114112, rfl, rfl, by omega, by omega, by omega, hnew⟩, by simp [intOf]; omega⟩
    · have hv := Lib.hid ((val_yes (b := 16) (l := l) fun j hj => hh.out.2 j hj (by omega)))
      have ha := Lib.hid (show a = min (numN 16 l : Int) 1114112 by rw [hh.out.1, List.take_of_length_le (by omega)])
      go_wp2
      go_ret2
      rw [hv.out, ← ha.out]
      refine ⟨ret_ib rfl ?_, rfl⟩
      cases l <;> simp
end Go.Proofs.YtmneibbpbibhcaaDoor
