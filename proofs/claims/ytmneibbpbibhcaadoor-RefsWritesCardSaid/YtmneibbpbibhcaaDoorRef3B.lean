/- Contracts of boltingref03's names, numbers and Named: the table of names, looked up, is refs' own. Nothing that lay in memory turns. -/
import Derived.Test.YtmneibbpbibhcaaDoorRef3A
set_option linter.unusedVariables false
set_option linter.unusedSimpArgs false
namespace Go.Proofs.YtmneibbpbibhcaaDoor
open Go.RowKit Go.Proofs

def nmsL : List (List UInt8) := [[97, 109, 112], [108, 116], [103, 116], [113, 117, 111, 116], [97, 112, 111, 115], [110, 98, 115, 112], [99, 111, 112, 121], [114, 101, 103], [112, 97, 114, 97], [109, 105, 100, 100, 111, 116], [101, 97, 99, 117, 116, 101], [97, 117, 109, 108], [111, 117, 109, 108], [117, 117, 109, 108], [115, 122, 108, 105, 103], [101, 117, 114, 111], [104, 101, 108, 108, 105, 112], [110, 100, 97, 115, 104], [109, 100, 97, 115, 104], [98, 117, 108, 108], [84, 97, 98], [78, 101, 119, 76, 105, 110, 101], [99, 111, 108, 111, 110], [108, 112, 97, 114]]
def numsL : List Int := [38, 60, 62, 34, 39, 160, 169, 174, 182, 183, 233, 228, 246, 252, 223, 8364, 8230, 8211, 8212, 8226, 9, 10, 58, 40]
theorem new_cells (w : World) (cs : Array Value) (t : TypeId) : (w.alloc (.cells cs t)).heap[w.heap.size]? = some (.cells cs t (0, 0)) := by
  show (w.heap.push _)[w.heap.size]? = _
  simp
/-- A row of texts at a block. -/
def TextsAt (b n : Nat) (L : List (List UInt8)) (w : World) : Prop := ∀ k, k < n → w.cell? ⟨b, k, none⟩ = some (.string ⟨(L.getD k []).toArray⟩)
def IntsAt (b n : Nat) (L : List Int) (w : World) : Prop := ∀ k, k < n → w.cell? ⟨b, k, none⟩ = some (.int .i64 (L.getD k 0))
theorem TextsAt.below {b n : Nat} {L : List (List UInt8)} {w w' : World} (h : TextsAt b n L w) (hb : Below w.heap.size w w') : TextsAt b n L w' := fun k hk => cell_keep (h k hk) hb
theorem IntsAt.below {b n : Nat} {L : List Int} {w w' : World} (h : IntsAt b n L w) (hb : Below w.heap.size w w') : IntsAt b n L w' := fun k hk => cell_keep (h k hk) hb
theorem TextsAt.of {b n : Nat} {L : List (List UInt8)} {w : World} {cs : Array Value} {t : TypeId} {fr : Nat × Nat} (h : w.heap[b]? = some (.cells cs t fr)) (hc : cs.toList = L.map fun l => Value.string ⟨l.toArray⟩) (hn : n ≤ L.length) : TextsAt b n L w := by
  intro k hk
  rw [Lib.cell_of_heap h, ← Array.getElem?_toList, hc, List.getElem?_map, List.getElem?_eq_getElem (show k < L.length by omega)]
  simp [List.getD, List.getElem?_eq_getElem (show k < L.length by omega)]
theorem IntsAt.of {b n : Nat} {L : List Int} {w : World} {cs : Array Value} {t : TypeId} {fr : Nat × Nat} (h : w.heap[b]? = some (.cells cs t fr)) (hc : cs.toList = L.map fun l => Value.int .i64 l) (hn : n ≤ L.length) : IntsAt b n L w := by
  intro k hk
  rw [Lib.cell_of_heap h, ← Array.getElem?_toList, hc, List.getElem?_map, List.getElem?_eq_getElem (show k < L.length by omega)]
  simp [List.getD, List.getElem?_eq_getElem (show k < L.length by omega)]

set_option maxHeartbeats 1000000 in
set_option maxRecDepth 100000 in
theorem rnames_c (w : World) :
    Calls Tryd.prog 53 #[] w fun e w' => e = .returned (.slice (some ⟨w.heap.size, 0, none⟩) 24 24) ∧ TextsAt w.heap.size 24 nmsL w' ∧ Below w.heap.size w w' := by
  go_enter Tryd.func53, Tryd.ntmps53
  go_wp2
  go_ret
  exact ⟨rfl, TextsAt.of (new_cells _ _ _) rfl (by decide), (Below.refl _ _).alloc (Nat.le_refl _) _⟩
set_option maxHeartbeats 1000000 in
set_option maxRecDepth 100000 in
theorem rnumbers_c (w : World) :
    Calls Tryd.prog 54 #[] w fun e w' => e = .returned (.slice (some ⟨w.heap.size, 0, none⟩) 24 24) ∧ IntsAt w.heap.size 24 numsL w' ∧ Below w.heap.size w w' := by
  go_enter Tryd.func54, Tryd.ntmps54
  go_wp2
  go_ret
  exact ⟨rfl, IntsAt.of (new_cells _ _ _) rfl (by decide), (Below.refl _ _).alloc (Nat.le_refl _) _⟩

theorem nm_hit (k : Nat) (hk : k < 24) : namedL (nmsL.getD k []) = ((Utf8.encode (numsL.getD k 0)).data.toList, true) ∧ 0 ≤ numsL.getD k 0 ∧ numsL.getD k 0 ≤ 1114111 ∧ Utf8.valid (numsL.getD k 0) = true := by
  have h : ∀ k : Fin 24, namedL (nmsL.getD k []) = ((Utf8.encode (numsL.getD k 0)).data.toList, true) ∧ 0 ≤ numsL.getD k 0 ∧ numsL.getD k 0 ≤ 1114111 ∧ Utf8.valid (numsL.getD k 0) = true := by decide +kernel
  exact h ⟨k, hk⟩
theorem nm_miss (l : List UInt8) (h : ∀ k, k < 24 → nmsL.getD k [] ≠ l) : namedL l = ([], false) := by
  have : numberL l = 0 := by
    unfold numberL
    rw [if_neg (fun e => h 0 (by decide) e.symm), if_neg (fun e => h 1 (by decide) e.symm), if_neg (fun e => h 2 (by decide) e.symm), if_neg (fun e => h 3 (by decide) e.symm), if_neg (fun e => h 4 (by decide) e.symm), if_neg (fun e => h 5 (by decide) e.symm), if_neg (fun e => h 6 (by decide) e.symm), if_neg (fun e => h 7 (by decide) e.symm), if_neg (fun e => h 8 (by decide) e.symm), if_neg (fun e => h 9 (by decide) e.symm), if_neg (fun e => h 10 (by decide) e.symm), if_neg (fun e => h 11 (by decide) e.symm), if_neg (fun e => h 12 (by decide) e.symm), if_neg (fun e => h 13 (by decide) e.symm), if_neg (fun e => h 14 (by decide) e.symm), if_neg (fun e => h 15 (by decide) e.symm), if_neg (fun e => h 16 (by decide) e.symm), if_neg (fun e => h 17 (by decide) e.symm), if_neg (fun e => h 18 (by decide) e.symm), if_neg (fun e => h 19 (by decide) e.symm), if_neg (fun e => h 20 (by decide) e.symm), if_neg (fun e => h 21 (by decide) e.symm), if_neg (fun e => h 22 (by decide) e.symm), if_neg (fun e => h 23 (by decide) e.symm)]
  unfold namedL
  rw [if_pos this]

set_option maxHeartbeats 1000000 in
set_option maxRecDepth 100000 in
theorem rnamed_c (l : List UInt8) (w : World) :
    Calls Tryd.prog 27 #[.string ⟨l.toArray⟩] w fun e w' => e = .returned (.tuple #[.string ⟨(namedL l).1.toArray⟩, .bool (namedL l).2]) ∧ Below w.heap.size w w' := by
  go_enter Tryd.func27, Tryd.ntmps27
  go_wp2_with (first
    | (go_at_call 53; ((with_reducible refine (rnames_c _).mono ?_); rintro e w1 ⟨rfl, ht, hb1⟩))
    | (go_at_call 54; ((with_reducible refine (rnumbers_c _).mono ?_); rintro e w2 ⟨rfl, hi, hb2⟩)))
  have ht2 := ht.below hb2
  have hB := below_seq hb1 hb2
  go_loop [6] (fun v => ∃ (k : Nat), v = .int .i64 k ∧ k ≤ 24 ∧ Hid (∀ j, j < k → nmsL.getD j [] ≠ l)) (fun v => 24 - (intOf v).toNat)
  case atStart => exact ⟨0, rfl, by omega, fun j h => by omega⟩
  case round =>
    obtain ⟨k, rfl, hk, hno⟩ := hrel
    by_cases hlt : k < 24
    · have c1 := ht2 k hlt
      have c2 := hi k hlt
      obtain ⟨m1, m2, m3, m4⟩ := nm_hit k hlt
      have hch := Lib.hid (fun W => rchar_c (numsL.getD k 0) m2 m3 m4 W)
      by_cases he : nmsL.getD k [] = l
      · rw [he] at c1 m1
        have m1' := Lib.hid m1
        clear m1 m2 m3 m4 he ht ht2 hi
        generalize numsL.getD k 0 = n at *
        have hbe : (l == l) = true := by simp
        go_wp2_with (go_at_call 55; ((with_reducible refine (hch.out _).mono ?_); rintro e w3 ⟨rfl, hb3⟩))
        go_ret2
        refine ⟨?_, below_seq hB hb3⟩
        rw [m1'.out]
        exact ret_sb rfl rfl
      · have hno2 := Lib.hid (show ∀ j, j < k + 1 → nmsL.getD j [] ≠ l by
          intro j hj
          by_cases e : j = k
          · subst e; exact he
          · exact hno.out j (by omega))
        have hbe : (nmsL.getD k [] == l) = false := by simpa using he
        clear m1 m2 m3 m4 he ht ht2 hi hch
        generalize nmsL.getD k [] = nm at *
        generalize numsL.getD k 0 = n at *
        go_wp2
        refine ⟨⟨k + 1, rfl, by omega, hno2⟩, by simp [intOf]; omega⟩
    · have hm := Lib.hid (nm_miss l fun k hk => hno.out k (by omega))
      go_wp2
      go_ret2
      rw [hm.out]
      exact ⟨rfl, hB⟩
end Go.Proofs.YtmneibbpbibhcaaDoor
