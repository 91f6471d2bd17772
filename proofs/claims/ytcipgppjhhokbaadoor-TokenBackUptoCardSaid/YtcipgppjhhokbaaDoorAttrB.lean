/- Contract of token.attribute, the last cases, and all of it: an attribute that stands at the beginning, what follows it, whether it ended. Nothing that lay in memory turns. -/
import Derived.Test.YtcipgppjhhokbaaDoorAttr
set_option linter.unusedVariables false
set_option linter.unusedSimpArgs false
namespace Go.Proofs.YtcipgppjhhokbaaDoor
open Go.RowKit Go.Proofs


set_option maxHeartbeats 1000000 in
set_option maxRecDepth 100000 in
theorem attribute_DnT (l nm s1 t2 s3 t3 : Txt) (q : UInt8) (m : Nat) (k : Nat) (hl : l.length ≤ 1000000000) (hk : 1 + k ≤ l.length) (hK : l.tail.findIdx (fun c => slashedB c || c == 61) = k) (hnm : lowL (l.take (1 + k)) = nm) (hs1 : l.drop (1 + k) = s1) (hsk : skipS s1 = 61 :: t2) (hs3 : s3 = q :: t3) (hsk2 : skipS t2 = q :: t3) (hq1 : q ≠ 34) (hq2 : q ≠ 39) (hm : wordK s3 = m) (hlt : m < s3.length) (w : World) (hS : Std w) :
    Calls Tryd.prog 67 #[.string ⟨l.toArray⟩] w fun e w' => e = .returned (.tuple #[.agg #[.string ⟨nm.toArray⟩, .string ⟨(decL (s3.take m) : Txt).toArray⟩], .string ⟨(s3.drop m : Txt).toArray⟩, .bool true]) ∧ Below w.heap.size w w' := by
  have hsl : s1.length ≤ 1000000000 := by rw [← hs1]; simp; omega
  have hc1 := Lib.hid (fun W => span_at1 l.tail (by simp; omega) W)
  have hc2 := Lib.hid (fun W => flower_c (l.take (1 + k)) (by simp; omega) W)
  have hc3 := Lib.hid (fun W => span_at2 s1 hsl W)
  rw [hK] at hc1
  rw [hnm] at hc2
  obtain ⟨k2, h21, h22, h23, h24⟩ := skipS_get hsk
  rw [h21] at hc3
  have h23 := h23 h22
  have ht2 : t2.length ≤ 1000000000 := by rw [← h24]; simp; omega
  have hc4 := Lib.hid (fun W => span_at3 t2 ht2 W)
  obtain ⟨k3, h31⟩ : ∃ k3, t2.findIdx (fun c => !spaceB c) = k3 := ⟨_, rfl⟩
  rw [h31] at hc4
  have h3le : k3 ≤ t2.length := by rw [← h31]; exact List.findIdx_le_length
  have h32 : t2.drop k3 = s3 := by rw [← h31, hs3]; exact hsk2
  have h3l := congrArg List.length h32
  simp only [List.length_drop] at h3l
  have hc5 := Lib.hid (fun W => span_at4 s3 (by omega) W)
  rw [show s3.findIdx (fun c => spaceB c || c == 62) = m from hm] at hc5
  have hml : m ≤ s3.length := by rw [← hm]; unfold wordK; exact List.findIdx_le_length
  have hdec := Lib.hid (fun W hS => decode_c (s3.take m) (by simp; omega) W hS)
  have hs31 : s3.take 1 = [q] := by rw [hs3]; rfl
  have hs30 : 0 < s3.length := by rw [hs3]; simp
  have hbe : (s3 == []) = false := by rw [hs3]; rfl
  generalize decL (s3.take m) = dv at *
  have hb1 : ¬ q = 34 := hq1
  have hb2 : (q == 39) = false := by simpa using hq2
  clear hsk h21 hsk2 h31 hs3 hm hq1 hq2
  clear hK hnm
  go_enter Tryd.func67, Tryd.ntmps67
  go_wp2_with (first
    | (go_at_call 38; first
      | ((with_reducible refine (hc1.out _).mono ?_); rintro e w1 ⟨rfl, rfl⟩)
      | ((with_reducible refine (hc3.out _).mono ?_); rintro e w1 ⟨rfl, rfl⟩)
      | ((with_reducible refine (hc4.out _).mono ?_); rintro e w1 ⟨rfl, rfl⟩)
      | ((with_reducible refine (hc5.out _).mono ?_); rintro e w1 ⟨rfl, rfl⟩))
    | (go_at_call 54; ((with_reducible refine (hc2.out _).mono ?_); rintro e w1 ⟨rfl, hb⟩; have hB1 := below_then ((Below.refl w.heap.size w).alloc (Nat.le_refl _) _) (by simp) hb; have r0 := (hb.block w.heap.size (by simp)).trans (new_cells _ _ _); obtain ⟨q1, q2, q3, q4⟩ := two_alloc r0; have hz1 := hb.size; simp at hz1; have hS1 := hS.below hB1; have hne1 : w1.heap.size ≠ w.heap.size := (by omega); have hne2 : w.heap.size ≠ w1.heap.size := (by omega); clear hb))
    | (go_at_call 45; ((with_reducible refine (hdec.out _ (hS1.alloc _)).mono ?_); rintro e w3 ⟨rfl, hb3⟩; have hB3 := below_then (hB1.alloc (by omega) _) (by simp; omega) hb3; obtain ⟨p1, p2, p3, p4⟩ := two_facts ((hb3.block w.heap.size (by simp; omega)).trans ((heap_alloc_old w1 _ (by omega)).trans r0)); obtain ⟨p5, p6, p7, p8⟩ := two_facts ((hb3.block w1.heap.size (by simp)).trans (new_cells _ _ _)); clear hb3)))
  go_region
  all_goals (go_wp2_with fail)
  all_goals
    refine bodyPost_ret (v := .tuple #[.agg #[.string ⟨nm.toArray⟩, .string ⟨(dv : Txt).toArray⟩], .string ⟨(s3.drop m : Txt).toArray⟩, .bool true]) (by simp [results, Tryd.results67, go_sem, p1, p2, hne1, hne2]) rfl ⟨rfl, (below_set (below_set (below_set hB3 (by omega) _) (Nat.le_refl _) _) (Nat.le_refl _) _).drew⟩

set_option maxHeartbeats 1000000 in
set_option maxRecDepth 100000 in
theorem attribute_DnF (l nm s1 t2 s3 t3 : Txt) (q : UInt8) (m : Nat) (k : Nat) (hl : l.length ≤ 1000000000) (hk : 1 + k ≤ l.length) (hK : l.tail.findIdx (fun c => slashedB c || c == 61) = k) (hnm : lowL (l.take (1 + k)) = nm) (hs1 : l.drop (1 + k) = s1) (hsk : skipS s1 = 61 :: t2) (hs3 : s3 = q :: t3) (hsk2 : skipS t2 = q :: t3) (hq1 : q ≠ 34) (hq2 : q ≠ 39) (hm : wordK s3 = m) (hlt : ¬ m < s3.length) (w : World) (hS : Std w) :
    Calls Tryd.prog 67 #[.string ⟨l.toArray⟩] w fun e w' => e = .returned (.tuple #[.agg #[.string ⟨nm.toArray⟩, .string ⟨(decL (s3.take m) : Txt).toArray⟩], .string ⟨(s3.drop m : Txt).toArray⟩, .bool false]) ∧ Below w.heap.size w w' := by
  have hsl : s1.length ≤ 1000000000 := by rw [← hs1]; simp; omega
  have hc1 := Lib.hid (fun W => span_at1 l.tail (by simp; omega) W)
  have hc2 := Lib.hid (fun W => flower_c (l.take (1 + k)) (by simp; omega) W)
  have hc3 := Lib.hid (fun W => span_at2 s1 hsl W)
  rw [hK] at hc1
  rw [hnm] at hc2
  obtain ⟨k2, h21, h22, h23, h24⟩ := skipS_get hsk
  rw [h21] at hc3
  have h23 := h23 h22
  have ht2 : t2.length ≤ 1000000000 := by rw [← h24]; simp; omega
  have hc4 := Lib.hid (fun W => span_at3 t2 ht2 W)
  obtain ⟨k3, h31⟩ : ∃ k3, t2.findIdx (fun c => !spaceB c) = k3 := ⟨_, rfl⟩
  rw [h31] at hc4
  have h3le : k3 ≤ t2.length := by rw [← h31]; exact List.findIdx_le_length
  have h32 : t2.drop k3 = s3 := by rw [← h31, hs3]; exact hsk2
  have h3l := congrArg List.length h32
  simp only [List.length_drop] at h3l
  have hc5 := Lib.hid (fun W => span_at4 s3 (by omega) W)
  rw [show s3.findIdx (fun c => spaceB c || c == 62) = m from hm] at hc5
  have hml : m ≤ s3.length := by rw [← hm]; unfold wordK; exact List.findIdx_le_length
  have hdec := Lib.hid (fun W hS => decode_c (s3.take m) (by simp; omega) W hS)
  have hs31 : s3.take 1 = [q] := by rw [hs3]; rfl
  have hs30 : 0 < s3.length := by rw [hs3]; simp
  have hbe : (s3 == []) = false := by rw [hs3]; rfl
  generalize decL (s3.take m) = dv at *
  have hb1 : ¬ q = 34 := hq1
  have hb2 : (q == 39) = false := by simpa using hq2
  clear hsk h21 hsk2 h31 hs3 hm hq1 hq2
  clear hK hnm
  go_enter Tryd.func67, Tryd.ntmps67
  go_wp2_with (first
    | (go_at_call 38; first
      | ((with_reducible refine (hc1.out _).mono ?_); rintro e w1 ⟨rfl, rfl⟩)
      | ((with_reducible refine (hc3.out _).mono ?_); rintro e w1 ⟨rfl, rfl⟩)
      | ((with_reducible refine (hc4.out _).mono ?_); rintro e w1 ⟨rfl, rfl⟩)
      | ((with_reducible refine (hc5.out _).mono ?_); rintro e w1 ⟨rfl, rfl⟩))
    | (go_at_call 54; ((with_reducible refine (hc2.out _).mono ?_); rintro e w1 ⟨rfl, hb⟩; have hB1 := below_then ((Below.refl w.heap.size w).alloc (Nat.le_refl _) _) (by simp) hb; have r0 := (hb.block w.heap.size (by simp)).trans (new_cells _ _ _); obtain ⟨q1, q2, q3, q4⟩ := two_alloc r0; have hz1 := hb.size; simp at hz1; have hS1 := hS.below hB1; have hne1 : w1.heap.size ≠ w.heap.size := (by omega); have hne2 : w.heap.size ≠ w1.heap.size := (by omega); clear hb))
    | (go_at_call 45; ((with_reducible refine (hdec.out _ (hS1.alloc _)).mono ?_); rintro e w3 ⟨rfl, hb3⟩; have hB3 := below_then (hB1.alloc (by omega) _) (by simp; omega) hb3; obtain ⟨p1, p2, p3, p4⟩ := two_facts ((hb3.block w.heap.size (by simp; omega)).trans ((heap_alloc_old w1 _ (by omega)).trans r0)); obtain ⟨p5, p6, p7, p8⟩ := two_facts ((hb3.block w1.heap.size (by simp)).trans (new_cells _ _ _)); clear hb3)))
  go_region
  all_goals (go_wp2_with fail)
  all_goals
    refine bodyPost_ret (v := .tuple #[.agg #[.string ⟨nm.toArray⟩, .string ⟨(dv : Txt).toArray⟩], .string ⟨(s3.drop m : Txt).toArray⟩, .bool false]) (by simp [results, Tryd.results67, go_sem, p1, p2, hne1, hne2]) rfl ⟨rfl, (below_set (below_set (below_set hB3 (by omega) _) (Nat.le_refl _) _) (Nat.le_refl _) _).drew⟩

theorem attribute_c (l : Txt) (h0 : 0 < l.length) (hl : l.length ≤ 1000000000) (w : World) (hS : Std w) :
    Calls Tryd.prog 67 #[.string ⟨l.toArray⟩] w fun e w' => e = .returned (.tuple #[.agg #[.string ⟨(attrF l).1.1.toArray⟩, .string ⟨(attrF l).1.2.toArray⟩], .string ⟨(attrF l).2.1.toArray⟩, .bool (attrF l).2.2]) ∧ Below w.heap.size w w' := by
  obtain ⟨k, hK, hk, hkl⟩ := attrK_le h0
  unfold attrF
  rw [hK]
  generalize hnm : lowL (l.take (1 + k)) = nm
  generalize hs1 : l.drop (1 + k) = s1
  unfold attrR
  cases hsk : skipS s1 with
  | nil => exact attribute_A l nm s1 k hl hkl hk hnm hs1 hsk w hS
  | cons c t2 =>
    simp only
    by_cases hc : c = 61
    · subst hc
      rw [if_pos rfl]
      unfold valF
      cases hsk2 : skipS t2 with
      | nil => exact attribute_C l nm s1 t2 k hl hkl hk hnm hs1 hsk hsk2 w hS
      | cons q t3 =>
        simp only
        by_cases hq : q = 34 ∨ q = 39
        · rw [if_pos hq]
          rcases hq with rfl | rfl
          · exact attribute_D34 l nm s1 t2 t3 k hl hkl hk hnm hs1 hsk hsk2 w hS
          · exact attribute_D39 l nm s1 t2 t3 k hl hkl hk hnm hs1 hsk hsk2 w hS
        · rw [if_neg hq]
          simp only [not_or] at hq
          by_cases hm : wordK (q :: t3) < (q :: t3).length
          · simp only [hm, decide_true]
            exact attribute_DnT l nm s1 t2 (q :: t3) t3 q _ k hl hkl hk hnm hs1 hsk rfl hsk2 hq.1 hq.2 rfl hm w hS
          · simp only [hm, decide_false]
            exact attribute_DnF l nm s1 t2 (q :: t3) t3 q _ k hl hkl hk hnm hs1 hsk rfl hsk2 hq.1 hq.2 rfl hm w hS
    · rw [if_neg hc]
      exact attribute_B l nm s1 t2 c k hl hkl hk hnm hs1 hsk hc w hS
end Go.Proofs.YtcipgppjhhokbaaDoor
