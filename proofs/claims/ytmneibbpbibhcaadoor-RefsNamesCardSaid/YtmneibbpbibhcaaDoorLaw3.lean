/- Contracts of boltinglaw03.has and fixed: whether a byte stands in a text; fixed is true. Nothing that lay in memory turns. -/
import Derived.Test.YtmneibbpbibhcaaDoorWrite
set_option linter.unusedVariables false
set_option linter.unusedSimpArgs false
namespace Go.Proofs.YtmneibbpbibhcaaDoor
open Go.RowKit Go.Proofs

theorem fx1 : namedL [101, 117, 114, 111] = ([226, 130, 172], true) := by decide +kernel
theorem fx2 : namedL [69, 117, 114, 111] = ([], false) := by decide +kernel
theorem fx3 : codeL 65 = [65] := by decide +kernel
theorem fx4 : codeL 13 = [10] := by decide +kernel
theorem fx5 : codeL 0 = [239, 191, 189] := by decide +kernel
theorem fx7 : wrL true [34, 60] = [38, 113, 117, 111, 116, 59, 38, 108, 116, 59] := by decide +kernel
theorem fx8 : wrL false [34, 194, 160, 38, 62] = [34, 38, 110, 98, 115, 112, 59, 38, 97, 109, 112, 59, 38, 103, 116, 59] := by decide +kernel
theorem fx6 : decL [38, 108, 116, 59, 38, 35, 54, 53, 59, 38, 35, 120, 52, 50, 59, 38, 110, 111, 112, 101, 59, 38, 97, 109, 112, 59, 108, 116, 59] = [60, 65, 66, 38, 110, 111, 112, 101, 59, 38, 108, 116, 59] := by
  have m1 : meantL [108, 116] = ([60], true) := by decide +kernel
  have m2 : meantL [35, 54, 53] = ([65], true) := by decide +kernel
  have m3 : meantL [35, 120, 52, 50] = ([66], true) := by decide +kernel
  have m4 : meantL [110, 111, 112, 101] = ([], false) := by decide +kernel
  have m5 : meantL [97, 109, 112] = ([38], true) := by decide +kernel
  simp [decL_cons, decL_nil, cut1, m1, m2, m3, m4, m5]

def hasL (l : List UInt8) (c : Nat) : Bool := l.any fun x => x.toNat == c

theorem has_yes {l : List UInt8} {c k : Nat} (hk : k < l.length) (h : l[k].toNat = c) : hasL l c = true := by
  unfold hasL
  rw [List.any_eq_true]
  exact ⟨l[k], List.getElem_mem hk, by simp [h]⟩
theorem has_no {l : List UInt8} {c : Nat} (h : ∀ j (hj : j < l.length), l[j].toNat ≠ c) : hasL l c = false := by
  unfold hasL
  rw [List.any_eq_false]
  intro x hx
  obtain ⟨j, hj, rfl⟩ := List.getElem_of_mem hx
  simpa using h j hj

set_option maxHeartbeats 1000000 in
set_option maxRecDepth 100000 in
theorem has_c (l : List UInt8) (c : Nat) (hl : l.length ≤ 1000000000000) (w : World) :
    Calls Tryd.prog 36 #[.string ⟨l.toArray⟩, .int .u8 c] w fun e w' => e = .returned (.bool (hasL l c)) ∧ w = w' := by
  go_enter Tryd.func36, Tryd.ntmps36
  go_wp2
  go_loop [5] (fun v => ∃ (k : Nat), v = .int .i64 k ∧ k ≤ l.length ∧ Hid (∀ j (hj : j < l.length), j < k → l[j].toNat ≠ c)) (fun v => l.length - (intOf v).toNat)
  case atStart => exact ⟨0, rfl, by omega, fun j _ h => by omega⟩
  case round =>
    obtain ⟨k, rfl, hk, hno⟩ := hrel
    by_cases hlt : k < l.length
    · obtain ⟨n, hn⟩ : ∃ n, l[k].toNat = n := ⟨_, rfl⟩
      have hn' := Lib.hid hn
      go_wp2
      all_goals (simp only [beq_iff_eq, beq_eq_false_iff_ne, ne_eq] at *)
      · go_ret
        exact ⟨ret_b (has_yes hlt (by rw [hn'.out]; omega)).symm, rfl⟩
      · refine ⟨⟨k + 1, rfl, by omega, fun j hj hjk => ?_⟩, by simp [intOf]; omega⟩
        by_cases e : j = k
        · subst e
          rw [hn'.out]
          omega
        · exact hno.out j hj (by omega)
    · have h0 := Lib.hid (has_no (l := l) (c := c) fun j hj => hno.out j hj (by omega))
      go_wp2
      go_ret
      rw [h0.out]
      exact ⟨rfl, rfl⟩

theorem has_i (l : List UInt8) (c : Int) (hc : 0 ≤ c) (hl : l.length ≤ 1000000000000) (w : World) :
    Calls Tryd.prog 36 #[.string ⟨l.toArray⟩, .int .u8 c] w fun e w' => e = .returned (.bool (hasL l c.toNat)) ∧ w = w' := by
  obtain ⟨n, rfl⟩ := Int.eq_ofNat_of_zero_le hc
  exact has_c l n hl w

set_option maxHeartbeats 1000000 in
set_option maxRecDepth 100000 in
theorem fixed_c (w : World) (hS : Std w) :
    Calls Tryd.prog 28 #[] w fun e w' => e = .returned (.bool true) ∧ Below w.heap.size w w' := by
  have h1 := fx1
  have h2 := fx2
  have h3 := fx3
  have h4 := fx4
  have h5 := fx5
  have h6 := fx6
  have h7 := fx7
  have h8 := fx8
  go_enter Tryd.func28, Tryd.ntmps28
  go_wp2_with (first
    | (go_at_call 26; ((with_reducible refine (named_l _ _).mono ?_); rintro e w2 ⟨rfl, rfl⟩))
    | (go_at_call 29; ((with_reducible refine (code_c _ _ (by omega) (by omega)).mono ?_); rintro e w2 ⟨rfl, rfl⟩))
    | (go_at_call 31; ((with_reducible refine (decode_c _ (by simp) _ hS).mono ?_); rintro e w2 ⟨rfl, hb2⟩))
    | (go_at_call 35; ((with_reducible refine (value_c _ (by simp) _).mono ?_); rintro e w3 ⟨rfl, hb3⟩))
    | (go_at_call 33; ((with_reducible refine (text_c _ (by simp) _).mono ?_); rintro e w4 ⟨rfl, hb4⟩)))
  go_ret
  exact ⟨rfl, below_seq (below_seq hb2 hb3) hb4⟩
end Go.Proofs.YtmneibbpbibhcaaDoor
