/- Contracts of package names: among, Raw, Soft. Nothing that lay in memory turns. -/
import Derived.Test.YtcipgppjhhokbaaDoorTokP
import Derived.Test.YtcipgppjhhokbaaDoorOwn
set_option linter.unusedVariables false
set_option linter.unusedSimpArgs false
namespace Go.Proofs.YtcipgppjhhokbaaDoor
open Go.RowKit Go.Proofs

theorem among_yes {L : List Txt} {l : Txt} {k : Nat} (hk : k < L.length) (h : L.getD k [] = l) : inB L l = true := by
  unfold inB
  rw [List.contains_iff_mem, ← h]
  simp [List.getD, List.getElem?_eq_getElem hk]
theorem among_no {L : List Txt} {l : Txt} (h : ∀ k, k < L.length → L.getD k [] ≠ l) : inB L l = false := by
  unfold inB
  cases hc : L.contains l with
  | false => rfl
  | true =>
    rw [List.contains_iff_mem] at hc
    obtain ⟨k, hk, e⟩ := List.getElem_of_mem hc
    exact absurd (by simp [List.getD, List.getElem?_eq_getElem hk, e]) (h k hk)

set_option maxHeartbeats 1000000 in
set_option maxRecDepth 100000 in
theorem among_c (b n : Nat) (L : List Txt) (l : Txt) (hn : n = L.length) (hN : n ≤ 1000000) (w : World) (ht : TextsAt b n L w) :
    Calls Tryd.prog 34 #[.string ⟨l.toArray⟩, .slice (some ⟨b, 0, none⟩) n n] w fun e w' => e = .returned (.bool (inB L l)) ∧ w = w' := by
  go_enter Tryd.func34, Tryd.ntmps34
  go_wp2
  go_loop [6, 9] (fun _ v => ∃ (k : Nat), v = .int .i64 k ∧ k ≤ n ∧ Hid (∀ j, j < k → L.getD j [] ≠ l)) (fun _ v => n - (intOf v).toNat)
  case atStart => exact ⟨0, rfl, by omega, fun j h => by omega⟩
  case round =>
    obtain ⟨k, rfl, hk, hno⟩ := hrel
    by_cases hlt : k < n
    · have c1 := ht k hlt
      by_cases he : L.getD k [] = l
      · have hy := Lib.hid (among_yes (by omega) he)
        rw [he] at c1
        have hbe : (l == l) = true := by simp
        clear he
        go_wp2
        go_ret
        rw [hy.out]
        exact ⟨rfl, rfl⟩
      · have hno2 := Lib.hid (show ∀ j, j < k + 1 → L.getD j [] ≠ l by
          intro j hj
          by_cases e : j = k
          · subst e; exact he
          · exact hno.out j (by omega))
        have hbe : (L.getD k [] == l) = false := by simpa using he
        clear he
        generalize L.getD k [] = nm at *
        go_wp2
        refine ⟨⟨k + 1, rfl, by omega, hno2⟩, by simp [intOf]; omega⟩
    · have hm := Lib.hid (among_no (L := L) (l := l) fun k hk => hno.out k (by omega))
      go_wp2
      go_ret
      rw [hm.out]
      exact ⟨rfl, rfl⟩

set_option maxRecDepth 100000 in
theorem raw_c (l : Txt) (w : World) :
    Calls Tryd.prog 20 #[.string ⟨l.toArray⟩] w fun e w' => e = .returned (.bool (rawB l)) ∧ Below w.heap.size w w' := by
  go_enter Tryd.func20, Tryd.ntmps20
  go_wp2_with (go_at_call 34; ((refine (among_c _ 6 rawsL _ (by rfl) (by decide) _ (TextsAt.of (new_cells _ _ _) (by rfl) (by decide))).mono ?_); rintro e w1 ⟨rfl, rfl⟩))
  go_ret
  exact ⟨rfl, (Below.refl _ w).alloc (Nat.le_refl _) _⟩
set_option maxRecDepth 100000 in
theorem soft_c (l : Txt) (w : World) :
    Calls Tryd.prog 32 #[.string ⟨l.toArray⟩] w fun e w' => e = .returned (.bool (softB l)) ∧ Below w.heap.size w w' := by
  go_enter Tryd.func32, Tryd.ntmps32
  go_wp2_with (go_at_call 34; ((refine (among_c _ 2 softsL _ (by rfl) (by decide) _ (TextsAt.of (new_cells _ _ _) (by rfl) (by decide))).mono ?_); rintro e w1 ⟨rfl, rfl⟩))
  go_ret
  exact ⟨rfl, (Below.refl _ w).alloc (Nat.le_refl _) _⟩
end Go.Proofs.YtcipgppjhhokbaaDoor
