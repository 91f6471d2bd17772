/- Contract of token.attribute: an attribute that stands at the beginning, what follows it, whether it ended. Nothing that lay in memory turns. -/
import Derived.Test.YtcipgppjhhokbaaDoorTrim
import Derived.Test.YtcipgppjhhokbaaDoorTokH
import Derived.Test.YtcipgppjhhokbaaDoorTokQ
set_option linter.unusedVariables false
set_option linter.unusedSimpArgs false
namespace Go.Proofs.YtcipgppjhhokbaaDoor
open Go.RowKit Go.Proofs

@[go_sem] theorem tail_go (c : UInt8) (t : Txt) : (⟨(c :: t).toArray⟩ : ByteArray).extract 1 (t.length + 1) = ⟨t.toArray⟩ := tail_string
theorem two_facts {w : World} {b : Nat} {x y : Value} {t : TypeId} (h : w.heap[b]? = some (.cells #[x, y] t (0, 0))) : w.cell? ⟨b, 0, none⟩ = some x ∧ w.cell? ⟨b, 1, none⟩ = some y ∧ w.frozen? ⟨b, 0, none⟩ = false ∧ w.frozen? ⟨b, 1, none⟩ = false := by
  refine ⟨?_, ?_, ?_, ?_⟩
  · rw [Lib.cell_of_heap h]; rfl
  · rw [Lib.cell_of_heap h]; rfl
  · exact frozen_of_row w b 0 _ _ h
  · exact frozen_of_row w b 1 _ _ h

theorem two_alloc {w : World} {b : Nat} {x y : Value} {t : TypeId} (h : w.heap[b]? = some (.cells #[x, y] t (0, 0))) : (∀ o, (w.alloc o).cell? ⟨b, 0, none⟩ = some x) ∧ (∀ o, (w.alloc o).cell? ⟨b, 1, none⟩ = some y) ∧ (∀ o, (w.alloc o).frozen? ⟨b, 0, none⟩ = false) ∧ (∀ o, (w.alloc o).frozen? ⟨b, 1, none⟩ = false) := by
  have hlt : b < w.heap.size := (Array.getElem?_eq_some_iff.1 h).1
  have h' : ∀ o, (w.alloc o).heap[b]? = some (.cells #[x, y] t (0, 0)) := fun o => (heap_alloc_old w _ hlt).trans h
  exact ⟨fun o => (two_facts (h' o)).1, fun o => (two_facts (h' o)).2.1, fun o => (two_facts (h' o)).2.2.1, fun o => (two_facts (h' o)).2.2.2⟩
theorem attrK_le {l : Txt} (h : 0 < l.length) : ∃ k, attrK l = 1 + k ∧ l.tail.findIdx (fun c => slashedB c || c == 61) = k ∧ 1 + k ≤ l.length := by
  refine ⟨_, rfl, rfl, ?_⟩
  have := List.findIdx_le_length (p := fun c => slashedB c || c == 61) (xs := l.tail)
  rw [List.length_tail] at this
  omega
theorem skipS_get {s t : Txt} {c : UInt8} (h : skipS s = c :: t) : ∃ k, s.findIdx (fun c => !spaceB c) = k ∧ k < s.length ∧ (∀ h : k < s.length, s[k] = c) ∧ s.drop (k + 1) = t := by
  unfold skipS at h
  refine ⟨_, rfl, ?_⟩
  generalize s.findIdx (fun c => !spaceB c) = k at *
  have hlt : k < s.length := by
    have := congrArg List.length h
    simp at this
    omega
  rw [List.drop_eq_getElem_cons hlt] at h
  injection h with h1 h2
  exact ⟨hlt, fun _ => h1, h2⟩
theorem skipS_end {s : Txt} (h : skipS s = []) : s.findIdx (fun c => !spaceB c) = s.length := by
  have h1 := List.findIdx_le_length (p := fun c => !spaceB c) (xs := s)
  have h2 := List.drop_eq_nil_iff.1 h
  omega

set_option maxHeartbeats 1000000 in
set_option maxRecDepth 100000 in
theorem attribute_A (l nm s1 : Txt) (k : Nat) (hl : l.length ≤ 1000000000) (hk : 1 + k ≤ l.length) (hK : l.tail.findIdx (fun c => slashedB c || c == 61) = k) (hnm : lowL (l.take (1 + k)) = nm) (hs1 : l.drop (1 + k) = s1) (hsk : skipS s1 = []) (w : World) (hS : Std w) :
    Calls Tryd.prog 67 #[.string ⟨l.toArray⟩] w fun e w' => e = .returned (.tuple #[.agg #[.string ⟨nm.toArray⟩, .string ⟨([] : Txt).toArray⟩], .string ⟨([] : Txt).toArray⟩, .bool false]) ∧ Below w.heap.size w w' := by
  have hsl : s1.length ≤ 1000000000 := by rw [← hs1]; simp; omega
  have hc1 := Lib.hid (fun W => span_at1 l.tail (by simp; omega) W)
  have hc2 := Lib.hid (fun W => flower_c (l.take (1 + k)) (by simp; omega) W)
  have hc3 := Lib.hid (fun W => span_at2 s1 hsl W)
  rw [hK] at hc1
  rw [hnm] at hc2
  rw [skipS_end hsk] at hc3
  clear hsk
  clear hK hnm
  go_enter Tryd.func67, Tryd.ntmps67
  go_wp2_with (first
    | (go_at_call 38; first
      | ((with_reducible refine (hc1.out _).mono ?_); rintro e w1 ⟨rfl, rfl⟩)
      | ((with_reducible refine (hc3.out _).mono ?_); rintro e w1 ⟨rfl, rfl⟩))
    | (go_at_call 54; ((with_reducible refine (hc2.out _).mono ?_); rintro e w1 ⟨rfl, hb⟩; have hB1 := below_then ((Below.refl w.heap.size w).alloc (Nat.le_refl _) _) (by simp) hb; have r0 := (hb.block w.heap.size (by simp)).trans (new_cells _ _ _); obtain ⟨q1, q2, q3, q4⟩ := two_alloc r0; have hz1 := hb.size; simp at hz1; have hS1 := hS.below hB1; have hne1 : w1.heap.size ≠ w.heap.size := (by omega); have hne2 : w.heap.size ≠ w1.heap.size := (by omega); clear hb)))
  refine bodyPost_ret (v := .tuple #[.agg #[.string ⟨nm.toArray⟩, .string ⟨([] : Txt).toArray⟩], .string ⟨([] : Txt).toArray⟩, .bool false]) (by simp [results, Tryd.results67, go_sem, q1, q2]) rfl ⟨rfl, below_set (below_set (hB1.alloc (by omega) _) (Nat.le_refl _) _) (Nat.le_refl _) _⟩

set_option maxHeartbeats 1000000 in
set_option maxRecDepth 100000 in
theorem attribute_B (l nm s1 t2 : Txt) (c : UInt8) (k : Nat) (hl : l.length ≤ 1000000000) (hk : 1 + k ≤ l.length) (hK : l.tail.findIdx (fun c => slashedB c || c == 61) = k) (hnm : lowL (l.take (1 + k)) = nm) (hs1 : l.drop (1 + k) = s1) (hsk : skipS s1 = c :: t2) (hc61 : c ≠ 61) (w : World) (hS : Std w) :
    Calls Tryd.prog 67 #[.string ⟨l.toArray⟩] w fun e w' => e = .returned (.tuple #[.agg #[.string ⟨nm.toArray⟩, .string ⟨([] : Txt).toArray⟩], .string ⟨(s1 : Txt).toArray⟩, .bool true]) ∧ Below w.heap.size w w' := by
  have hsl : s1.length ≤ 1000000000 := by rw [← hs1]; simp; omega
  have hc1 := Lib.hid (fun W => span_at1 l.tail (by simp; omega) W)
  have hc2 := Lib.hid (fun W => flower_c (l.take (1 + k)) (by simp; omega) W)
  have hc3 := Lib.hid (fun W => span_at2 s1 hsl W)
  rw [hK] at hc1
  rw [hnm] at hc2
  obtain ⟨k2, h21, h22, h23, h24⟩ := skipS_get hsk
  rw [h21] at hc3
  have h23 := h23 h22
  obtain ⟨n, hn⟩ : ∃ n, (c.toNat : Int) = n := ⟨_, rfl⟩
  have hn61 : n ≠ 61 := by
    intro e
    exact hc61 (u8_eq (n := 61) (by omega) (by omega))
  clear hsk h21 h24 hc61
  clear hK hnm
  go_enter Tryd.func67, Tryd.ntmps67
  go_wp2_with (first
    | (go_at_call 38; first
      | ((with_reducible refine (hc1.out _).mono ?_); rintro e w1 ⟨rfl, rfl⟩)
      | ((with_reducible refine (hc3.out _).mono ?_); rintro e w1 ⟨rfl, rfl⟩))
    | (go_at_call 54; ((with_reducible refine (hc2.out _).mono ?_); rintro e w1 ⟨rfl, hb⟩; have hB1 := below_then ((Below.refl w.heap.size w).alloc (Nat.le_refl _) _) (by simp) hb; have r0 := (hb.block w.heap.size (by simp)).trans (new_cells _ _ _); obtain ⟨q1, q2, q3, q4⟩ := two_alloc r0; have hz1 := hb.size; simp at hz1; have hS1 := hS.below hB1; have hne1 : w1.heap.size ≠ w.heap.size := (by omega); have hne2 : w.heap.size ≠ w1.heap.size := (by omega); clear hb)))
  refine bodyPost_ret (v := .tuple #[.agg #[.string ⟨nm.toArray⟩, .string ⟨([] : Txt).toArray⟩], .string ⟨(s1 : Txt).toArray⟩, .bool true]) (by simp [results, Tryd.results67, go_sem, q1, q2]) rfl ⟨rfl, below_set (below_set (hB1.alloc (by omega) _) (Nat.le_refl _) _) (Nat.le_refl _) _⟩

set_option maxHeartbeats 1000000 in
set_option maxRecDepth 100000 in
theorem attribute_C (l nm s1 t2 : Txt) (k : Nat) (hl : l.length ≤ 1000000000) (hk : 1 + k ≤ l.length) (hK : l.tail.findIdx (fun c => slashedB c || c == 61) = k) (hnm : lowL (l.take (1 + k)) = nm) (hs1 : l.drop (1 + k) = s1) (hsk : skipS s1 = 61 :: t2) (hsk2 : skipS t2 = []) (w : World) (hS : Std w) :
    Calls Tryd.prog 67 #[.string ⟨l.toArray⟩] w fun e w' => e = .returned (.tuple #[.agg #[.string ⟨nm.toArray⟩, .string ⟨([] : Txt).toArray⟩], .string ⟨([] : Txt).toArray⟩, .bool false]) ∧ Below w.heap.size w w' := by
  have hsl : s1.length ≤ 1000000000 := by rw [← hs1]; simp; omega
  have hc1 := Lib.hid (fun W => span_at1 l.tail (by simp; omega) W)
  have hc2 := Lib.hid (fun W => flower_c (l.take (1 + k)) (by simp; omega) W)
  have hc3 := Lib.hid (fun W => span_at2 s1 hsl W)
  rw [hK] at hc1
  rw [hnm] at hc2
  obtain ⟨k2, h21, h22, h23, h24⟩ := skipS_get hsk
  rw [h21] at hc3
  have h23 := h23 h22
  have ht2 : t2.length ≤ 1000000000 := by rw [← h24]; simp; omega
  have hc4 := Lib.hid (fun W => span_at3 t2 ht2 W)
  rw [skipS_end hsk2] at hc4
  clear hsk h21 hsk2
  clear hK hnm
  go_enter Tryd.func67, Tryd.ntmps67
  go_wp2_with (first
    | (go_at_call 38; first
      | ((with_reducible refine (hc1.out _).mono ?_); rintro e w1 ⟨rfl, rfl⟩)
      | ((with_reducible refine (hc3.out _).mono ?_); rintro e w1 ⟨rfl, rfl⟩)
      | ((with_reducible refine (hc4.out _).mono ?_); rintro e w1 ⟨rfl, rfl⟩))
    | (go_at_call 54; ((with_reducible refine (hc2.out _).mono ?_); rintro e w1 ⟨rfl, hb⟩; have hB1 := below_then ((Below.refl w.heap.size w).alloc (Nat.le_refl _) _) (by simp) hb; have r0 := (hb.block w.heap.size (by simp)).trans (new_cells _ _ _); obtain ⟨q1, q2, q3, q4⟩ := two_alloc r0; have hz1 := hb.size; simp at hz1; have hS1 := hS.below hB1; have hne1 : w1.heap.size ≠ w.heap.size := (by omega); have hne2 : w.heap.size ≠ w1.heap.size := (by omega); clear hb)))
  refine bodyPost_ret (v := .tuple #[.agg #[.string ⟨nm.toArray⟩, .string ⟨([] : Txt).toArray⟩], .string ⟨([] : Txt).toArray⟩, .bool false]) (by simp [results, Tryd.results67, go_sem, q1, q2]) rfl ⟨rfl, below_set (below_set (hB1.alloc (by omega) _) (Nat.le_refl _) _) (Nat.le_refl _) _⟩

set_option maxHeartbeats 1000000 in
set_option maxRecDepth 100000 in
theorem attribute_D34 (l nm s1 t2 t3 : Txt) (k : Nat) (hl : l.length ≤ 1000000000) (hk : 1 + k ≤ l.length) (hK : l.tail.findIdx (fun c => slashedB c || c == 61) = k) (hnm : lowL (l.take (1 + k)) = nm) (hs1 : l.drop (1 + k) = s1) (hsk : skipS s1 = 61 :: t2) (hsk2 : skipS t2 = 34 :: t3) (w : World) (hS : Std w) :
    Calls Tryd.prog 67 #[.string ⟨l.toArray⟩] w fun e w' => e = .returned (.tuple #[.agg #[.string ⟨nm.toArray⟩, .string ⟨(decL (cut1 34 t3).1 : Txt).toArray⟩], .string ⟨((cut1 34 t3).2.1 : Txt).toArray⟩, .bool (cut1 34 t3).2.2]) ∧ Below w.heap.size w w' := by
  have hsl : s1.length ≤ 1000000000 := by rw [← hs1]; simp; omega
  have hc1 := Lib.hid (fun W => span_at1 l.tail (by simp; omega) W)
  have hc2 := Lib.hid (fun W => flower_c (l.take (1 + k)) (by simp; omega) W)
  have hc3 := Lib.hid (fun W => span_at2 s1 hsl W)
  rw [hK] at hc1
  rw [hnm] at hc2
  obtain ⟨k2, h21, h22, h23, h24⟩ := skipS_get hsk
  rw [h21] at hc3
  have h23 := h23 h22
  have ht2 : t2.length ≤ 1000000000 := by rw [← h24]; simp; omega
  have hc4 := Lib.hid (fun W => span_at3 t2 ht2 W)
  obtain ⟨k3, h31⟩ : ∃ k3, t2.findIdx (fun c => !spaceB c) = k3 := ⟨_, rfl⟩
  rw [h31] at hc4
  have h3le : k3 ≤ t2.length := by rw [← h31]; exact List.findIdx_le_length
  have h32 : t2.drop k3 = 34 :: t3 := by rw [← h31]; exact hsk2
  have h3l := congrArg List.length h32
  simp only [List.length_drop, List.length_cons] at h3l
  have hcut := Lib.hid (fun W hS => cut_c t3 34 (by omega) W hS)
  have hcl := cut1_len 34 t3
  generalize cut1 34 t3 = cc at *
  obtain ⟨v1, v2, fd⟩ := cc
  have hdec := Lib.hid (fun W hS => decode_c v1 (by simp only at hcl; omega) W hS)
  simp only at hcut
  clear hsk h21 hsk2 h31 hcl
  clear hK hnm
  go_enter Tryd.func67, Tryd.ntmps67
  go_wp2_with (first
    | (go_at_call 38; first
      | ((with_reducible refine (hc1.out _).mono ?_); rintro e w1 ⟨rfl, rfl⟩)
      | ((with_reducible refine (hc3.out _).mono ?_); rintro e w1 ⟨rfl, rfl⟩)
      | ((with_reducible refine (hc4.out _).mono ?_); rintro e w1 ⟨rfl, rfl⟩))
    | (go_at_call 54; ((with_reducible refine (hc2.out _).mono ?_); rintro e w1 ⟨rfl, hb⟩; have hB1 := below_then ((Below.refl w.heap.size w).alloc (Nat.le_refl _) _) (by simp) hb; have r0 := (hb.block w.heap.size (by simp)).trans (new_cells _ _ _); obtain ⟨q1, q2, q3, q4⟩ := two_alloc r0; have hz1 := hb.size; simp at hz1; have hS1 := hS.below hB1; have hne1 : w1.heap.size ≠ w.heap.size := (by omega); have hne2 : w.heap.size ≠ w1.heap.size := (by omega); clear hb))
    | (go_at_call 55; ((with_reducible refine (hcut.out _ (hS1.alloc _)).mono ?_); rintro e w2 ⟨rfl, hb2⟩; have hB2 := below_then (hB1.alloc (by omega) _) (by simp; omega) hb2; have r02 := (hb2.block w.heap.size (by simp; omega)).trans ((heap_alloc_old w1 _ (by omega)).trans r0); have r12 := (hb2.block w1.heap.size (by simp)).trans (new_cells _ _ _); have hz2 := hb2.size; simp at hz2; have hS2 := hS.below hB2; clear hb2))
    | (go_at_call 45; ((with_reducible refine (hdec.out _ hS2).mono ?_); rintro e w3 ⟨rfl, hb3⟩; have hB3 := below_then hB2 (by omega) hb3; obtain ⟨p1, p2, p3, p4⟩ := two_facts ((hb3.block w.heap.size (by omega)).trans r02); obtain ⟨p5, p6, p7, p8⟩ := two_facts ((hb3.block w1.heap.size (by omega)).trans r12); clear hb3)))
  refine bodyPost_ret (v := .tuple #[.agg #[.string ⟨nm.toArray⟩, .string ⟨(decL v1 : Txt).toArray⟩], .string ⟨(v2 : Txt).toArray⟩, .bool fd]) (by simp [results, Tryd.results67, go_sem, p1, p2, hne1, hne2]) rfl ⟨rfl, below_set (below_set (below_set hB3 (by omega) _) (Nat.le_refl _) _) (Nat.le_refl _) _⟩

set_option maxHeartbeats 1000000 in
set_option maxRecDepth 100000 in
theorem attribute_D39 (l nm s1 t2 t3 : Txt) (k : Nat) (hl : l.length ≤ 1000000000) (hk : 1 + k ≤ l.length) (hK : l.tail.findIdx (fun c => slashedB c || c == 61) = k) (hnm : lowL (l.take (1 + k)) = nm) (hs1 : l.drop (1 + k) = s1) (hsk : skipS s1 = 61 :: t2) (hsk2 : skipS t2 = 39 :: t3) (w : World) (hS : Std w) :
    Calls Tryd.prog 67 #[.string ⟨l.toArray⟩] w fun e w' => e = .returned (.tuple #[.agg #[.string ⟨nm.toArray⟩, .string ⟨(decL (cut1 39 t3).1 : Txt).toArray⟩], .string ⟨((cut1 39 t3).2.1 : Txt).toArray⟩, .bool (cut1 39 t3).2.2]) ∧ Below w.heap.size w w' := by
  have hsl : s1.length ≤ 1000000000 := by rw [← hs1]; simp; omega
  have hc1 := Lib.hid (fun W => span_at1 l.tail (by simp; omega) W)
  have hc2 := Lib.hid (fun W => flower_c (l.take (1 + k)) (by simp; omega) W)
  have hc3 := Lib.hid (fun W => span_at2 s1 hsl W)
  rw [hK] at hc1
  rw [hnm] at hc2
  obtain ⟨k2, h21, h22, h23, h24⟩ := skipS_get hsk
  rw [h21] at hc3
  have h23 := h23 h22
  have ht2 : t2.length ≤ 1000000000 := by rw [← h24]; simp; omega
  have hc4 := Lib.hid (fun W => span_at3 t2 ht2 W)
  obtain ⟨k3, h31⟩ : ∃ k3, t2.findIdx (fun c => !spaceB c) = k3 := ⟨_, rfl⟩
  rw [h31] at hc4
  have h3le : k3 ≤ t2.length := by rw [← h31]; exact List.findIdx_le_length
  have h32 : t2.drop k3 = 39 :: t3 := by rw [← h31]; exact hsk2
  have h3l := congrArg List.length h32
  simp only [List.length_drop, List.length_cons] at h3l
  have hcut := Lib.hid (fun W hS => cut_c t3 39 (by omega) W hS)
  have hcl := cut1_len 39 t3
  generalize cut1 39 t3 = cc at *
  obtain ⟨v1, v2, fd⟩ := cc
  have hdec := Lib.hid (fun W hS => decode_c v1 (by simp only at hcl; omega) W hS)
  simp only at hcut
  clear hsk h21 hsk2 h31 hcl
  clear hK hnm
  go_enter Tryd.func67, Tryd.ntmps67
  go_wp2_with (first
    | (go_at_call 38; first
      | ((with_reducible refine (hc1.out _).mono ?_); rintro e w1 ⟨rfl, rfl⟩)
      | ((with_reducible refine (hc3.out _).mono ?_); rintro e w1 ⟨rfl, rfl⟩)
      | ((with_reducible refine (hc4.out _).mono ?_); rintro e w1 ⟨rfl, rfl⟩))
    | (go_at_call 54; ((with_reducible refine (hc2.out _).mono ?_); rintro e w1 ⟨rfl, hb⟩; have hB1 := below_then ((Below.refl w.heap.size w).alloc (Nat.le_refl _) _) (by simp) hb; have r0 := (hb.block w.heap.size (by simp)).trans (new_cells _ _ _); obtain ⟨q1, q2, q3, q4⟩ := two_alloc r0; have hz1 := hb.size; simp at hz1; have hS1 := hS.below hB1; have hne1 : w1.heap.size ≠ w.heap.size := (by omega); have hne2 : w.heap.size ≠ w1.heap.size := (by omega); clear hb))
    | (go_at_call 55; ((with_reducible refine (hcut.out _ (hS1.alloc _)).mono ?_); rintro e w2 ⟨rfl, hb2⟩; have hB2 := below_then (hB1.alloc (by omega) _) (by simp; omega) hb2; have r02 := (hb2.block w.heap.size (by simp; omega)).trans ((heap_alloc_old w1 _ (by omega)).trans r0); have r12 := (hb2.block w1.heap.size (by simp)).trans (new_cells _ _ _); have hz2 := hb2.size; simp at hz2; have hS2 := hS.below hB2; clear hb2))
    | (go_at_call 45; ((with_reducible refine (hdec.out _ hS2).mono ?_); rintro e w3 ⟨rfl, hb3⟩; have hB3 := below_then hB2 (by omega) hb3; obtain ⟨p1, p2, p3, p4⟩ := two_facts ((hb3.block w.heap.size (by omega)).trans r02); obtain ⟨p5, p6, p7, p8⟩ := two_facts ((hb3.block w1.heap.size (by omega)).trans r12); clear hb3)))
  refine bodyPost_ret (v := .tuple #[.agg #[.string ⟨nm.toArray⟩, .string ⟨(decL v1 : Txt).toArray⟩], .string ⟨(v2 : Txt).toArray⟩, .bool fd]) (by simp [results, Tryd.results67, go_sem, p1, p2, hne1, hne2]) rfl ⟨rfl, below_set (below_set (below_set hB3 (by omega) _) (Nat.le_refl _) _) (Nat.le_refl _) _⟩
end Go.Proofs.YtcipgppjhhokbaaDoor
