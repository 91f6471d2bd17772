/- Contracts of fold.Lower, Same, Trim and token.letter. Nothing that lay in memory turns. -/
import Derived.Test.YtcipgppjhhokbaaDoorSpan
import Derived.Lib.ConvBytes
set_option linter.unusedVariables false
set_option linter.unusedSimpArgs false
namespace Go.Proofs.YtcipgppjhhokbaaDoor
open Go.RowKit Go.Proofs

def lowI (n : Int) : Int := if 65 ≤ n ∧ n ≤ 90 then n + 32 else n
theorem lowI_u8 (c : UInt8) : lowI c.toNat = (lowB c).toNat := by
  have := all_u8 (p := fun c => decide (lowI c.toNat = (lowB c).toNat)) (by decide +kernel) c
  simpa using this
/-- A row of bytes that may be written. -/
def BRow (w : World) (g n : Nat) (f : Nat → Int) : Prop := ∀ j, j < n → w.cell? ⟨g, j, none⟩ = some (.int .u8 (f j)) ∧ w.frozen? ⟨g, j, none⟩ = false
def lowF (l : Txt) (k j : Nat) : Int := if j < k then lowI (l.getD j 0).toNat else (l.getD j 0).toNat
theorem BRow.conv (w : World) (l : Txt) : BRow (Lib.bytesWorld w 5 ⟨l.toArray⟩) w.heap.size l.length (lowF l 0) := by
  intro j hj
  refine ⟨?_, ?_⟩
  · rw [Lib.bytesWorld_cell _ _ _ _ (by rw [mk_size]; exact hj), mk_data_list]
    rfl
  · unfold World.frozen?
    rw [Lib.bytesWorld_at_new]
    have : l.length ≤ (Lib.bytesCells w 5 ⟨l.toArray⟩).size := by simp [Lib.bytesCells]
    simp
    omega
theorem below_bytes (w : World) (l : Txt) : Below w.heap.size w (Lib.bytesWorld w 5 ⟨l.toArray⟩) :=
  ⟨rfl, rfl, rfl, by rw [Lib.bytesWorld_size]; omega, fun i hi => Lib.bytesWorld_at_old w _ _ i hi⟩
theorem BRow.set {w : World} {g n : Nat} {f f' : Nat → Int} (h : BRow w g n f) (k : Nat) (v : Int) (hk : f' k = v) (ho : ∀ j, j ≠ k → f' j = f j) : BRow (w.setCell ⟨g, k, none⟩ (.int .u8 v)) g n f' := by
  intro j hj
  obtain ⟨h1, h2⟩ := h j hj
  refine ⟨?_, by rw [World.frozen?_setCell]; exact h2⟩
  by_cases e : j = k
  · subst e
    rw [World.cell?_setCell_same _ _ _ h1, hk]
  · rw [World.cell?_setCell_other _ _ _ _ (by intro e'; injection e' with _ e''; omega), ho j e]
    exact h1
theorem BRow.same {w : World} {g n : Nat} {f f' : Nat → Int} (h : BRow w g n f) (ho : ∀ j, f' j = f j) : BRow w g n f' := fun j hj => by rw [ho j]; exact h j hj
theorem lowF_other (l : Txt) (k j : Nat) (h : j ≠ k) : lowF l (k + 1) j = lowF l k j := by
  unfold lowF
  by_cases e : j < k
  · rw [if_pos e, if_pos (by omega)]
  · rw [if_neg e, if_neg (by omega)]
theorem lowF_at (l : Txt) (k : Nat) : lowF l (k + 1) k = lowI (l.getD k 0).toNat := by
  unfold lowF
  rw [if_pos (by omega)]
theorem lowF_here (l : Txt) (k : Nat) : lowF l k k = (l.getD k 0).toNat := by
  unfold lowF
  rw [if_neg (by omega)]
theorem low_conv {w : World} {g cap k : Nat} {l : Txt} (hk : l.length ≤ k) (h : BRow w g l.length (lowF l k)) : (convert 39 9 (.slice (some ⟨g, 0, none⟩) l.length cap)).run Tryd.prog w = .ok (.string ⟨(lowL l).toArray⟩) w := by
  have hl : (lowL l).length = l.length := by simp [lowL]
  rw [← hl]
  refine run_convert_bytes_back (P := Tryd.prog) w 39 9 5 ⟨g, 0, none⟩ cap (lowL l) Tryd.underlying39 Tryd.underlying5 Tryd.underlying9 (fun j hj => ?_)
  have ha : (⟨g, 0, none⟩ : Addr).add j = ⟨g, j, none⟩ := by unfold Addr.add; split <;> simp_all
  have hj' : j < l.length := by rw [← hl]; exact hj
  rw [ha, (h j hj').1]
  simp [lowF, lowL, show j < k by omega, List.getD, hj', lowI_u8]

set_option maxHeartbeats 1000000 in
set_option maxRecDepth 100000 in
theorem flower_c (l : Txt) (hl : l.length ≤ 1000000000) (w : World) :
    Calls Tryd.prog 54 #[.string ⟨l.toArray⟩] w fun e w' => e = .returned (.string ⟨(lowL l).toArray⟩) ∧ Below w.heap.size w w' := by
  have hcv := Lib.run_convert_string_bytes (P := Tryd.prog) w 9 39 5 ⟨l.toArray⟩ Tryd.underlying9 Tryd.underlying39 Tryd.underlying5
  have hrow := BRow.conv w l
  have hbel := below_bytes w l
  rw [mk_size] at hcv
  generalize Lib.bytesWorld w 5 ⟨l.toArray⟩ = w1 at *
  generalize grownCap w l.length 0 5 = cap at *
  go_enter Tryd.func54, Tryd.ntmps54
  go_wp2
  clear hcv
  go_loopw [4, 5, 10] (fun _ _ vk wr => ∃ (k : Nat), vk = .int .i64 k ∧ k ≤ l.length ∧ BRow wr w.heap.size l.length (lowF l k) ∧ Below w.heap.size w wr) (fun _ _ vk _ => l.length - (intOf vk).toNat)
  case atStart => exact ⟨0, rfl, by omega, hrow, hbel⟩
  case round =>
    obtain ⟨k, rfl, hk, hI, hbw⟩ := hrel
    by_cases hlt : k < l.length
    · obtain ⟨c1, c2⟩ := hI k hlt
      have hat := lowF_at l k
      have hother := lowF_other l k
      rw [lowF_here] at c1
      obtain ⟨n, hn⟩ : ∃ n, ((l.getD k 0).toNat : Int) = n := ⟨_, rfl⟩
      rw [hn] at hat c1
      have hn0 : 0 ≤ n := by omega
      have hn1 : n ≤ 255 := by have := (l.getD k 0).toNat_lt; omega
      have hh := lowF_here l k
      rw [hn] at hh
      clear hn
      have hst := Lib.hid (fun (v : Int) (hv : lowI n = v) => hI.set (f' := lowF l (k + 1)) k v (by rw [hat]; exact hv) hother)
      have hsame := Lib.hid (fun (hv : lowI n = n) => hI.same (f' := lowF l (k + 1)) (fun j => by
        by_cases e : j = k
        · subst e; rw [hat, hh, hv]
        · exact hother j e))
      clear hat hother hh
      go_wp2
      all_goals (try simp only [decide_eq_true_eq, decide_eq_false_iff_not] at *)
      all_goals first
        | (refine ⟨⟨k + 1, rfl, by omega, hst.out _ (by unfold lowI; rw [if_pos ⟨by omega, by omega⟩]; omega), hbw.setCell (p := ⟨w.heap.size, k, none⟩) (Nat.le_refl _) _⟩, by simp [intOf]; omega⟩)
        | (refine ⟨⟨k + 1, rfl, by omega, hsame.out (by unfold lowI; rw [if_neg (by omega)]), hbw⟩, by simp [intOf]; omega⟩)
    · have hcv := low_conv (cap := cap) (by omega) hI
      go_wp2
      go_ret
      exact ⟨rfl, hbw⟩
end Go.Proofs.YtcipgppjhhokbaaDoor
