/- Contract of refs.digits at the bases 10 and 16: whether all bytes are digits of the base, and there is one; nothing that lay in memory turns. -/
import Derived.Test.YtcipgppjhhokbaaDoorProg
import Derived.Test.YtcipgppjhhokbaaDoorBase
import Derived.Lib.OthersKept
import Derived.Laws.RangeAny
import Derived.Lib.Hide
import Derived.BigGuard
import Derived.BigGuardPart
set_option linter.unusedVariables false
set_option linter.unusedSimpArgs false
namespace Go.Proofs.YtcipgppjhhokbaaDoor
open Go.RowKit Go.Proofs

def digN (base c : Nat) : Bool := decide ((48 ≤ c ∧ c ≤ 57) ∨ (base = 16 ∧ ((97 ≤ c ∧ c ≤ 102) ∨ (65 ≤ c ∧ c ≤ 70))))
theorem digN_no {base c : Nat} (h : ¬ ((48 ≤ c ∧ c ≤ 57) ∨ (base = 16 ∧ ((97 ≤ c ∧ c ≤ 102) ∨ (65 ≤ c ∧ c ≤ 70))))) : digN base c = false := decide_eq_false h
theorem digN_yes {base c : Nat} (h : (48 ≤ c ∧ c ≤ 57) ∨ (base = 16 ∧ ((97 ≤ c ∧ c ≤ 102) ∨ (65 ≤ c ∧ c ≤ 70)))) : digN base c = true := decide_eq_true h
def digitsL (base : Nat) (l : List UInt8) : Bool := l.all (fun c => digN base c.toNat) && !l.isEmpty

theorem all_of_get {s : ByteArray} {p : UInt8 → Bool} (h : ∀ j (hj : j < s.size), p (s[j]'hj) = true) : s.toList.all p = true := by
  rw [Lib.toList_data, List.all_eq_true]
  intro x hx
  obtain ⟨j, hj, e⟩ := List.getElem_of_mem hx
  have hj' : j < s.size := by simpa using hj
  have := h j hj'
  rw [← e]
  simpa [ByteArray.getElem_eq_getElem_data] using this
theorem not_all_of_get {s : ByteArray} {p : UInt8 → Bool} {j : Nat} (hj : j < s.size) (h : p (s[j]'hj) = false) : s.toList.all p = false := by
  rw [Lib.toList_data, List.all_eq_false]
  exact ⟨s[j], by simp [ByteArray.getElem_eq_getElem_data], by simp [h]⟩

theorem digits_no {base : Nat} {s : ByteArray} {j : Nat} (hj : j < s.size) (h : digN base (s[j]'hj).toNat = false) : digitsL base s.toList = false := by
  unfold digitsL
  rw [not_all_of_get hj h]
  rfl
theorem digits_yes {base : Nat} {s : ByteArray} (h : ∀ j (hj : j < s.size), digN base (s[j]'hj).toNat = true) : digitsL base s.toList = !s.toList.isEmpty := by
  unfold digitsL
  rw [all_of_get h]
  rfl
theorem digits_step {base pos : Nat} {s : ByteArray} (h : ∀ j (hj : j < s.size), j < pos → digN base (s[j]'hj).toNat = true) (hp : pos < s.size) (hd : digN base (s[pos]'hp).toNat = true) :
    ∀ j (hj : j < s.size), j < pos + 1 → digN base (s[j]'hj).toNat = true := by
  intro j hj hlt
  by_cases e : j = pos
  · subst e; exact hd
  · exact h j hj (by omega)

set_option maxHeartbeats 4000000 in
set_option maxRecDepth 100000 in
theorem digits_c (base : Nat) (hb : base = 10 ∨ base = 16) (s : ByteArray) (w : World) (hs : s.size ≤ 9223372036854775807) :
    Calls Tryd.prog 69 #[.string s, .int .i64 base] w fun e w' => e = .returned (.bool (digitsL base s.toList)) ∧ Below w.heap.size w w' := by
  go_enter Tryd.func69, Tryd.ntmps69
  go_wp2
  go_loopw [] (fun wr => ∃ (pos : Nat), pos ≤ s.size ∧ wr.heap[w.heap.size]? = some (.stringIter s pos) ∧ Below w.heap.size w wr ∧ Hid (∀ j (hj : j < s.size), j < pos → digN base (s[j]'hj).toNat = true)) (fun wr => s.size - wr.iterPos w.heap.size)
  case atStart =>
    refine ⟨0, by omega, by simpa using World.iter_heap w s 0, (Below.refl _ w).alloc (Nat.le_refl _) _, fun j _ h => by omega⟩
  case round =>
    obtain ⟨pos, hp, hit, hbw, hall⟩ := hrel
    by_cases hlt : pos < s.size
    · by_cases ha : (s[pos]'hlt).toNat < 128
      · have hnx : ∀ ty, (Instr.next (.pointer (some ⟨w.heap.size, 0, none⟩)) true ty).run Tryd.prog wr = _ := fun ty => Lib.run_next_ascii_at wr w.heap.size s pos ty hit hlt ha
        generalize hc : (s[pos]'hlt).toNat = c at *
        have hc' := Lib.hid hc
        clear hc
        rcases hb with rfl | rfl
        all_goals
          go_wp2
          all_goals (try simp only [Bool.not_eq_true', Bool.not_eq_false', Bool.not_true, Bool.not_false, decide_eq_true_eq, decide_eq_false_iff_not] at *)
          all_goals first
            | (go_ret; refine ⟨ret_b (digits_no hlt ?_).symm, Lib.below_iterAt hbw (Nat.le_refl _) _ _⟩; rw [hc'.out]; refine digN_no ?_; omega)
            | (refine ⟨⟨pos + 1, ?_, Lib.iterAt_heap _ _ _ _ _ hit, Lib.below_iterAt hbw (Nat.le_refl _) _ _, digits_step hall.out hlt ?_⟩, ?_⟩; omega; rw [hc'.out]; refine digN_yes ?_; omega; simp only [World.iterPos, Lib.iterAt_heap _ _ _ _ _ hit, hit]; omega)
            | skip
      · have hh := decode_high s pos hlt (by omega)
        obtain ⟨hh1, hh2⟩ := hh
        have hnx : ∀ ty, (Instr.next (.pointer (some ⟨w.heap.size, 0, none⟩)) true ty).run Tryd.prog wr = _ := fun ty => Lib.run_next_any_at wr w.heap.size s pos ty hit hlt
        have h64 : (128 : Int) ≤ (Utf8.decode s pos).1 := by omega
        have hle := decode_le s pos
        generalize (Utf8.decode s pos).1 = c at *
        generalize (Utf8.decode s pos).2 = d at *
        have hno : digN base (s[pos]'hlt).toNat = false := by
          refine digN_no ?_; omega
        have hno := Lib.hid hno
        rename_i hno0 
        clear hno0
        rcases hb with rfl | rfl
        all_goals
          go_wp2
          all_goals (try simp only [Bool.not_eq_true', Bool.not_eq_false', Bool.not_true, Bool.not_false, decide_eq_true_eq, decide_eq_false_iff_not] at *)
          all_goals first
            | (go_ret; refine ⟨ret_b (digits_no hlt hno.out).symm, Lib.below_iterAt hbw (Nat.le_refl _) _ _⟩)
            | (exfalso; omega)
    · have hnx : ∀ ty, (Instr.next (.pointer (some ⟨w.heap.size, 0, none⟩)) true ty).run Tryd.prog wr = _ := fun ty => Lib.run_next_end_at wr w.heap.size s pos ty hit hlt
      have hy := Lib.hid (digits_yes fun j hj => hall.out j hj (by omega))
      go_wp2
      go_ret
      refine ⟨ret_b ?_, hbw⟩
      rw [hy.out]
end Go.Proofs.YtcipgppjhhokbaaDoor
