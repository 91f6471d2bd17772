/- Lemmas and walks, part 8: QTokQ, QAttr, QAttrB. -/
import Derived.Test.YtkcmghlhpbepcaaGreatDoorN85
import Derived.Test.YtkcmghlhpbepcaaGreatDoorN87
set_option linter.unusedVariables false
set_option linter.unusedSimpArgs false

/- Plain: the cutting of bytes to tokens ends: the fuel does not count; the rest is no longer than what was. No program in sight. -/
namespace Go.Proofs.YtkcmghlhpbepcaaGreatDoor
open Go.Proofs
theorem cut1_le (c : UInt8) (l : Txt) : (cut1 c l).2.1.length ≤ l.length := by
 have := cut1_len c l
 omega
theorem skipS_le (s : Txt) : (skipS s).length ≤ s.length := by
 unfold skipS
 simp
theorem valF_le (nm s : Txt) : (valF nm s).2.1.length ≤ s.length := by
 unfold valF
 split
 ·simp
 ·rename_i q t
  split
  ·have := cut1_le q t
   simp only [List.length_cons]
   omega
  ·simp only [List.length_drop]
   omega
theorem attrR_le (nm s : Txt) : (attrR nm s).2.1.length ≤ s.length := by
 have h1 := skipS_le s
 unfold attrR
 split
 ·simp
 ·rename_i c t h
  rw [h] at h1
  simp only [List.length_cons] at h1
  split
  ·have h2 := valF_le nm (skipS t)
   have h3 := skipS_le t
   omega
  ·simp
theorem attrF_lt (c : UInt8) (s : Txt) : (attrF (c :: s)).2.1.length ≤ s.length := by
 have h := attrR_le (lowL ((c :: s).take (attrK (c :: s)))) ((c :: s).drop (attrK (c :: s)))
 have : 1 ≤ attrK (c :: s) := by unfold attrK; omega
 unfold attrF
 simp only [List.length_drop, List.length_cons] at h
 omega
theorem attrsN_fuel : ∀ (n m : Nat) (acc : List (Txt × Txt)) (s : Txt), s.length < n → s.length < m → attrsN n acc s = attrsN m acc s
 | 0, _, _, _, h, _ => absurd h (Nat.not_lt_zero _)
 | _, 0, _, _, _, h => absurd h (Nat.not_lt_zero _)
 | n + 1, m + 1, acc, s, hn, hm => by
   unfold attrsN
   cases h : s.drop (gapF s) with
   | nil => rfl
   | cons c s1 =>
     have h1 : s1.length < s.length := by
      have := congrArg List.length h
      simp at this
      omega
     have h2 := attrF_lt c s1
     simp only
     split
     ·rfl
     ·split
      ·exact attrsN_fuel n m _ _ (by omega) (by omega)
      ·rfl
theorem attrsF_eq (acc : List (Txt × Txt)) (s : Txt) : attrsF acc s = match s.drop (gapF s) with
 | [] => none
 | c :: s1 => if c = 62 then some (acc, slashF s, s1) else if (attrF (c :: s1)).2.2 then attrsF (addA acc (attrF (c :: s1)).1) (attrF (c :: s1)).2.1 else none := by
 unfold attrsF
 rw [attrsN]
 cases h : s.drop (gapF s) with
 | nil => rfl
 | cons c s1 =>
   have h1 : s1.length < s.length := by
    have := congrArg List.length h
    simp at this
    omega
   have h2 := attrF_lt c s1
   simp only
   split
   ·rfl
   ·split
    ·exact attrsN_fuel _ _ _ _ (by omega) (by omega)
    ·rfl
theorem attrsN_le : ∀ (n : Nat) (acc : List (Txt × Txt)) (s : Txt) r, attrsN n acc s = some r → r.2.2.length ≤ s.length
 | 0, _, _, _, h => by simp [attrsN] at h
 | n + 1, acc, s, r, h => by
   unfold attrsN at h
   cases hd : s.drop (gapF s) with
   | nil => rw [hd] at h; simp at h
   | cons c s1 =>
     rw [hd] at h
     have h1 : s1.length < s.length := by
      have := congrArg List.length hd
      simp at this
      omega
     have h2 := attrF_lt c s1
     simp only at h
     split at h
     ·simp at h
      subst h
      simp only
      omega
     ·split at h
      ·have := attrsN_le n _ _ r h
       omega
      ·simp at h
theorem openedF_le {s : Txt} {r : Tok × Txt} (h : openedF s = some r) : r.2.length ≤ s.length := by
 unfold openedF at h
 cases ha : attrsF [] (s.drop (s.findIdx slashedB)) with
 | none => rw [ha] at h; simp at h
 | some q =>
   rw [ha] at h
   simp at h
   have := attrsN_le _ _ _ _ ha
   subst h
   simp only [List.length_drop] at *
   omega
theorem tagF_le (k : Int) (s : Txt) : (tagF k s).2.length ≤ s.length := by
 unfold tagF
 cases ho : openedF s with
 | none => simp
 | some r =>
   have := openedF_le ho
   simp only
   split
   ·simpa using this
   ·split
    ·simp only [insideR, List.length_drop]
     omega
    ·simpa using this
theorem cut_le (s e : Txt) : (Lib.cut s e).2.1.length ≤ s.length := by
 unfold Lib.cut
 split
 ·simp
 ·simp
theorem noteF_le (k : Int) (s e : Txt) : (noteF k s e).2.length ≤ s.length := cut_le s e
theorem commentF_le (s : Txt) : (commentF s).2.length ≤ s.length := by
 unfold commentF
 split
 ·simp
 ·split
  ·simp
  ·exact noteF_le _ _ _
theorem openF_le {s : Txt} {r : List Tok × Txt} (h : openF s = some r) : r.2.length ≤ s.length := by
 unfold openF at h
 have hd : ∀ n, (s.drop n).length ≤ s.length := by simp
 have ht : s.tail.length ≤ s.length := by simp
 split at h
 ·simp at h; subst h; exact tagF_le _ _
 ·split at h
  ·simp at h; subst h; exact Nat.le_trans (tagF_le _ _) ht
  ·split at h
   ·simp at h; subst h; exact hd 2
   ·split at h
    ·simp at h; subst h; exact Nat.le_trans (commentF_le _) (hd 3)
    ·split at h
     ·simp at h; subst h; exact Nat.le_trans (noteF_le _ _ _) (hd 8)
     ·split at h
      ·simp at h; subst h; exact Nat.le_trans (noteF_le _ _ _) ht
      ·split at h
       ·simp at h; subst h; exact noteF_le _ _ _
       ·split at h
        ·simp at h; subst h; exact Nat.le_trans (noteF_le _ _ _) ht
        ·simp at h
theorem runN_fuel : ∀ (n m : Nat) (t s : Txt), s.length < n → s.length < m → runN n t s = runN m t s
 | 0, _, _, _, h, _ => absurd h (Nat.not_lt_zero _)
 | _, 0, _, _, _, h => absurd h (Nat.not_lt_zero _)
 | n + 1, m + 1, t, s, hn, hm => by
   unfold runN
   cases h : s.drop (textF s) with
   | nil => rfl
   | cons c s1 =>
     have h1 : s1.length < s.length := by
      have := congrArg List.length h
      simp at this
      omega
     simp only
     cases ho : openF s1 with
     | none => exact runN_fuel n m _ _ (by omega) (by omega)
     | some r =>
       have := openF_le ho
       obtain ⟨ts, r⟩ := r
       simp only at *
       rw [runN_fuel n m _ _ (by omega) (by omega)]
theorem runF_eq (t s : Txt) : runF t s = match s.drop (textF s) with
 | [] => tellF (t ++ s.take (textF s))
 | _ :: s1 =>
   match openF s1 with
   | none => runF (t ++ s.take (textF s) ++ [60]) s1
   | some (ts, r) => tellF (t ++ s.take (textF s)) ++ ts ++ runF [] r := by
 unfold runF
 rw [runN]
 cases h : s.drop (textF s) with
 | nil => rfl
 | cons c s1 =>
   have h1 : s1.length < s.length := by
    have := congrArg List.length h
    simp at this
    omega
   simp only
   cases ho : openF s1 with
   | none => exact runN_fuel _ _ _ _ (by omega) (by omega)
   | some r =>
     have := openF_le ho
     obtain ⟨ts, r⟩ := r
     simp only at *
     rw [runN_fuel s.length (r.length + 1) [] r (by omega) (by omega)]
end Go.Proofs.YtkcmghlhpbepcaaGreatDoor

/- Contract of token.attribute: an attribute that stands at the beginning, what follows it, whether it ended. Nothing that lay in memory turns. -/
namespace Go.Proofs.YtkcmghlhpbepcaaGreatDoor
open Go.RowKit Go.Proofs
@[go_sem] theorem tail_go (c : UInt8) (t : Txt) : (⟨(c :: t).toArray⟩ : ByteArray).extract 1 (t.length + 1) = ⟨t.toArray⟩ := tail_string
theorem two_facts {w : World} {b : Nat} {x y : Value} {t : TypeId} (h : w.heap[b]? = some (.cells #[x, y] t (0, 0))) : w.cell? ⟨b, 0, none⟩ = some x ∧ w.cell? ⟨b, 1, none⟩ = some y ∧ w.frozen? ⟨b, 0, none⟩ = false ∧ w.frozen? ⟨b, 1, none⟩ = false := by
 refine ⟨?_, ?_, ?_, ?_⟩
 ·rw [Lib.cell_of_heap h]; rfl
 ·rw [Lib.cell_of_heap h]; rfl
 ·exact frozen_of_row w b 0 _ _ h
 ·exact frozen_of_row w b 1 _ _ h
theorem two_alloc {w : World} {b : Nat} {x y : Value} {t : TypeId} (h : w.heap[b]? = some (.cells #[x, y] t (0, 0))) : (∀ o, (w.alloc o).cell? ⟨b, 0, none⟩ = some x) ∧ (∀ o, (w.alloc o).cell? ⟨b, 1, none⟩ = some y) ∧ (∀ o, (w.alloc o).frozen? ⟨b, 0, none⟩ = false) ∧ (∀ o, (w.alloc o).frozen? ⟨b, 1, none⟩ = false) := by
 have hlt : b < w.heap.size := (Array.getElem?_eq_some_iff.1 h).1
 have h' : ∀ o, (w.alloc o).heap[b]? = some (.cells #[x, y] t (0, 0)) := fun o => (heap_alloc_old w _ hlt).trans h
 exact ⟨fun o => (two_facts (h' o)).1, fun o => (two_facts (h' o)).2.1, fun o => (two_facts (h' o)).2.2.1, fun o => (two_facts (h' o)).2.2.2⟩
theorem attrK_le {l : Txt} (h : 0 < l.length) : ∃ k, attrK l = 1 + k ∧ l.tail.findIdx (fun c => slashedB c || c == 61) = k ∧ 1 + k ≤ l.length := by
 refine ⟨_, rfl, rfl, ?_⟩
 have := List.findIdx_le_length (p := fun c => slashedB c || c == 61) (xs := l.tail)
 rw [List.length_tail] at this
 omega
theorem skipS_get {s t : Txt} {c : UInt8} (h : skipS s = c :: t) : ∃ k, s.findIdx (fun c => !spaceB c) = k ∧ k < s.length ∧ (∀ h : k < s.length, s[k] = c) ∧ s.drop (k + 1) = t := by
 unfold skipS at h
 refine ⟨_, rfl, ?_⟩
 generalize s.findIdx (fun c => !spaceB c) = k at *
 have hlt : k < s.length := by
  have := congrArg List.length h
  simp at this
  omega
 rw [List.drop_eq_getElem_cons hlt] at h
 injection h with h1 h2
 exact ⟨hlt, fun _ => h1, h2⟩
theorem skipS_end {s : Txt} (h : skipS s = []) : s.findIdx (fun c => !spaceB c) = s.length := by
 have h1 := List.findIdx_le_length (p := fun c => !spaceB c) (xs := s)
 have h2 := List.drop_eq_nil_iff.1 h
 omega
set_option maxHeartbeats 1000000 in
set_option maxRecDepth 100000 in
theorem attribute_A (l nm s1 : Txt) (k : Nat) (hl : l.length ≤ 1000000000) (hk : 1 + k ≤ l.length) (hK : l.tail.findIdx (fun c => slashedB c || c == 61) = k) (hnm : lowL (l.take (1 + k)) = nm) (hs1 : l.drop (1 + k) = s1) (hsk : skipS s1 = []) (w : World) (hS : Std w) :
 Calls Tryz.prog 230 #[.string ⟨l.toArray⟩] w fun e w' => e = .returned (.tuple #[.agg #[.string ⟨nm.toArray⟩, .string ⟨([] : Txt).toArray⟩], .string ⟨([] : Txt).toArray⟩, .bool false]) ∧ Below w.heap.size w w' := by
 have hsl : s1.length ≤ 1000000000 := by rw [← hs1]; simp; omega
 have hc1 := Lib.hid (fun W => span_at1 l.tail (by simp; omega) W)
 have hc2 := Lib.hid (fun W => flower_c (l.take (1 + k)) (by simp; omega) W)
 have hc3 := Lib.hid (fun W => span_at2 s1 hsl W)
 rw [hK] at hc1
 rw [hnm] at hc2
 rw [skipS_end hsk] at hc3
 clear hsk
 clear hK hnm
 go_enter Tryz.func230, Tryz.ntmps230
 go_wp2_with (first
  | (go_at_call 156; first
    | ((with_reducible refine (hc1.out _).mono ?_); rintro e w1 ⟨rfl, rfl⟩)
    | ((with_reducible refine (hc3.out _).mono ?_); rintro e w1 ⟨rfl, rfl⟩))
  | (go_at_call 187; ((with_reducible refine (hc2.out _).mono ?_); rintro e w1 ⟨rfl, hb⟩; have hB1 := below_then ((Below.refl w.heap.size w).alloc (Nat.le_refl _) _) (by simp) hb; have r0 := (hb.block w.heap.size (by simp)).trans (new_cells _ _ _); obtain ⟨q1, q2, q3, q4⟩ := two_alloc r0; have hz1 := hb.size; simp at hz1; have hS1 := hS.below hB1; have hne1 : w1.heap.size ≠ w.heap.size := (by omega); have hne2 : w.heap.size ≠ w1.heap.size := (by omega); clear hb)))
 refine bodyPost_ret (v := .tuple #[.agg #[.string ⟨nm.toArray⟩, .string ⟨([] : Txt).toArray⟩], .string ⟨([] : Txt).toArray⟩, .bool false]) (by simp [results, Tryz.results230, go_sem, q1, q2]) rfl ⟨rfl, below_set (below_set (hB1.alloc (by omega) _) (Nat.le_refl _) _) (Nat.le_refl _) _⟩
set_option maxHeartbeats 1000000 in
set_option maxRecDepth 100000 in
theorem attribute_B (l nm s1 t2 : Txt) (c : UInt8) (k : Nat) (hl : l.length ≤ 1000000000) (hk : 1 + k ≤ l.length) (hK : l.tail.findIdx (fun c => slashedB c || c == 61) = k) (hnm : lowL (l.take (1 + k)) = nm) (hs1 : l.drop (1 + k) = s1) (hsk : skipS s1 = c :: t2) (hc61 : c ≠ 61) (w : World) (hS : Std w) :
 Calls Tryz.prog 230 #[.string ⟨l.toArray⟩] w fun e w' => e = .returned (.tuple #[.agg #[.string ⟨nm.toArray⟩, .string ⟨([] : Txt).toArray⟩], .string ⟨(s1 : Txt).toArray⟩, .bool true]) ∧ Below w.heap.size w w' := by
 have hsl : s1.length ≤ 1000000000 := by rw [← hs1]; simp; omega
 have hc1 := Lib.hid (fun W => span_at1 l.tail (by simp; omega) W)
 have hc2 := Lib.hid (fun W => flower_c (l.take (1 + k)) (by simp; omega) W)
 have hc3 := Lib.hid (fun W => span_at2 s1 hsl W)
 rw [hK] at hc1
 rw [hnm] at hc2
 obtain ⟨k2, h21, h22, h23, h24⟩ := skipS_get hsk
 rw [h21] at hc3
 have h23 := h23 h22
 obtain ⟨n, hn⟩ : ∃ n, (c.toNat : Int) = n := ⟨_, rfl⟩
 have hn61 : n ≠ 61 := by
  intro e
  exact hc61 (u8_eq (n := 61) (by omega) (by omega))
 clear hsk h21 h24 hc61
 clear hK hnm
 go_enter Tryz.func230, Tryz.ntmps230
 go_wp2_with (first
  | (go_at_call 156; first
    | ((with_reducible refine (hc1.out _).mono ?_); rintro e w1 ⟨rfl, rfl⟩)
    | ((with_reducible refine (hc3.out _).mono ?_); rintro e w1 ⟨rfl, rfl⟩))
  | (go_at_call 187; ((with_reducible refine (hc2.out _).mono ?_); rintro e w1 ⟨rfl, hb⟩; have hB1 := below_then ((Below.refl w.heap.size w).alloc (Nat.le_refl _) _) (by simp) hb; have r0 := (hb.block w.heap.size (by simp)).trans (new_cells _ _ _); obtain ⟨q1, q2, q3, q4⟩ := two_alloc r0; have hz1 := hb.size; simp at hz1; have hS1 := hS.below hB1; have hne1 : w1.heap.size ≠ w.heap.size := (by omega); have hne2 : w.heap.size ≠ w1.heap.size := (by omega); clear hb)))
 refine bodyPost_ret (v := .tuple #[.agg #[.string ⟨nm.toArray⟩, .string ⟨([] : Txt).toArray⟩], .string ⟨(s1 : Txt).toArray⟩, .bool true]) (by simp [results, Tryz.results230, go_sem, q1, q2]) rfl ⟨rfl, below_set (below_set (hB1.alloc (by omega) _) (Nat.le_refl _) _) (Nat.le_refl _) _⟩
set_option maxHeartbeats 1000000 in
set_option maxRecDepth 100000 in
theorem attribute_C (l nm s1 t2 : Txt) (k : Nat) (hl : l.length ≤ 1000000000) (hk : 1 + k ≤ l.length) (hK : l.tail.findIdx (fun c => slashedB c || c == 61) = k) (hnm : lowL (l.take (1 + k)) = nm) (hs1 : l.drop (1 + k) = s1) (hsk : skipS s1 = 61 :: t2) (hsk2 : skipS t2 = []) (w : World) (hS : Std w) :
 Calls Tryz.prog 230 #[.string ⟨l.toArray⟩] w fun e w' => e = .returned (.tuple #[.agg #[.string ⟨nm.toArray⟩, .string ⟨([] : Txt).toArray⟩], .string ⟨([] : Txt).toArray⟩, .bool false]) ∧ Below w.heap.size w w' := by
 have hsl : s1.length ≤ 1000000000 := by rw [← hs1]; simp; omega
 have hc1 := Lib.hid (fun W => span_at1 l.tail (by simp; omega) W)
 have hc2 := Lib.hid (fun W => flower_c (l.take (1 + k)) (by simp; omega) W)
 have hc3 := Lib.hid (fun W => span_at2 s1 hsl W)
 rw [hK] at hc1
 rw [hnm] at hc2
 obtain ⟨k2, h21, h22, h23, h24⟩ := skipS_get hsk
 rw [h21] at hc3
 have h23 := h23 h22
 have ht2 : t2.length ≤ 1000000000 := by rw [← h24]; simp; omega
 have hc4 := Lib.hid (fun W => span_at3 t2 ht2 W)
 rw [skipS_end hsk2] at hc4
 clear hsk h21 hsk2
 clear hK hnm
 go_enter Tryz.func230, Tryz.ntmps230
 go_wp2_with (first
  | (go_at_call 156; first
    | ((with_reducible refine (hc1.out _).mono ?_); rintro e w1 ⟨rfl, rfl⟩)
    | ((with_reducible refine (hc3.out _).mono ?_); rintro e w1 ⟨rfl, rfl⟩)
    | ((with_reducible refine (hc4.out _).mono ?_); rintro e w1 ⟨rfl, rfl⟩))
  | (go_at_call 187; ((with_reducible refine (hc2.out _).mono ?_); rintro e w1 ⟨rfl, hb⟩; have hB1 := below_then ((Below.refl w.heap.size w).alloc (Nat.le_refl _) _) (by simp) hb; have r0 := (hb.block w.heap.size (by simp)).trans (new_cells _ _ _); obtain ⟨q1, q2, q3, q4⟩ := two_alloc r0; have hz1 := hb.size; simp at hz1; have hS1 := hS.below hB1; have hne1 : w1.heap.size ≠ w.heap.size := (by omega); have hne2 : w.heap.size ≠ w1.heap.size := (by omega); clear hb)))
 refine bodyPost_ret (v := .tuple #[.agg #[.string ⟨nm.toArray⟩, .string ⟨([] : Txt).toArray⟩], .string ⟨([] : Txt).toArray⟩, .bool false]) (by simp [results, Tryz.results230, go_sem, q1, q2]) rfl ⟨rfl, below_set (below_set (hB1.alloc (by omega) _) (Nat.le_refl _) _) (Nat.le_refl _) _⟩
set_option maxHeartbeats 1000000 in
set_option maxRecDepth 100000 in
theorem attribute_D34 (l nm s1 t2 t3 : Txt) (k : Nat) (hl : l.length ≤ 1000000000) (hk : 1 + k ≤ l.length) (hK : l.tail.findIdx (fun c => slashedB c || c == 61) = k) (hnm : lowL (l.take (1 + k)) = nm) (hs1 : l.drop (1 + k) = s1) (hsk : skipS s1 = 61 :: t2) (hsk2 : skipS t2 = 34 :: t3) (w : World) (hS : Std w) :
 Calls Tryz.prog 230 #[.string ⟨l.toArray⟩] w fun e w' => e = .returned (.tuple #[.agg #[.string ⟨nm.toArray⟩, .string ⟨(decL (cut1 34 t3).1 : Txt).toArray⟩], .string ⟨((cut1 34 t3).2.1 : Txt).toArray⟩, .bool (cut1 34 t3).2.2]) ∧ Below w.heap.size w w' := by
 have hsl : s1.length ≤ 1000000000 := by rw [← hs1]; simp; omega
 have hc1 := Lib.hid (fun W => span_at1 l.tail (by simp; omega) W)
 have hc2 := Lib.hid (fun W => flower_c (l.take (1 + k)) (by simp; omega) W)
 have hc3 := Lib.hid (fun W => span_at2 s1 hsl W)
 rw [hK] at hc1
 rw [hnm] at hc2
 obtain ⟨k2, h21, h22, h23, h24⟩ := skipS_get hsk
 rw [h21] at hc3
 have h23 := h23 h22
 have ht2 : t2.length ≤ 1000000000 := by rw [← h24]; simp; omega
 have hc4 := Lib.hid (fun W => span_at3 t2 ht2 W)
 obtain ⟨k3, h31⟩ : ∃ k3, t2.findIdx (fun c => !spaceB c) = k3 := ⟨_, rfl⟩
 rw [h31] at hc4
 have h3le : k3 ≤ t2.length := by rw [← h31]; exact List.findIdx_le_length
 have h32 : t2.drop k3 = 34 :: t3 := by rw [← h31]; exact hsk2
 have h3l := congrArg List.length h32
 simp only [List.length_drop, List.length_cons] at h3l
 have hcut := Lib.hid (fun W hS => cut_c t3 34 (by omega) W hS)
 have hcl := cut1_len 34 t3
 generalize cut1 34 t3 = cc at *
 obtain ⟨v1, v2, fd⟩ := cc
 have hdec := Lib.hid (fun W hS => decode_c v1 (by simp only at hcl; omega) W hS)
 simp only at hcut
 clear hsk h21 hsk2 h31 hcl
 clear hK hnm
 go_enter Tryz.func230, Tryz.ntmps230
 go_wp2_with (first
  | (go_at_call 156; first
    | ((with_reducible refine (hc1.out _).mono ?_); rintro e w1 ⟨rfl, rfl⟩)
    | ((with_reducible refine (hc3.out _).mono ?_); rintro e w1 ⟨rfl, rfl⟩)
    | ((with_reducible refine (hc4.out _).mono ?_); rintro e w1 ⟨rfl, rfl⟩))
  | (go_at_call 187; ((with_reducible refine (hc2.out _).mono ?_); rintro e w1 ⟨rfl, hb⟩; have hB1 := below_then ((Below.refl w.heap.size w).alloc (Nat.le_refl _) _) (by simp) hb; have r0 := (hb.block w.heap.size (by simp)).trans (new_cells _ _ _); obtain ⟨q1, q2, q3, q4⟩ := two_alloc r0; have hz1 := hb.size; simp at hz1; have hS1 := hS.below hB1; have hne1 : w1.heap.size ≠ w.heap.size := (by omega); have hne2 : w.heap.size ≠ w1.heap.size := (by omega); clear hb))
  | (go_at_call 188; ((with_reducible refine (hcut.out _ (hS1.alloc _)).mono ?_); rintro e w2 ⟨rfl, hb2⟩; have hB2 := below_then (hB1.alloc (by omega) _) (by simp; omega) hb2; have r02 := (hb2.block w.heap.size (by simp; omega)).trans ((heap_alloc_old w1 _ (by omega)).trans r0); have r12 := (hb2.block w1.heap.size (by simp)).trans (new_cells _ _ _); have hz2 := hb2.size; simp at hz2; have hS2 := hS.below hB2; clear hb2))
  | (go_at_call 155; ((with_reducible refine (hdec.out _ hS2).mono ?_); rintro e w3 ⟨rfl, hb3⟩; have hB3 := below_then hB2 (by omega) hb3; obtain ⟨p1, p2, p3, p4⟩ := two_facts ((hb3.block w.heap.size (by omega)).trans r02); obtain ⟨p5, p6, p7, p8⟩ := two_facts ((hb3.block w1.heap.size (by omega)).trans r12); clear hb3)))
 refine bodyPost_ret (v := .tuple #[.agg #[.string ⟨nm.toArray⟩, .string ⟨(decL v1 : Txt).toArray⟩], .string ⟨(v2 : Txt).toArray⟩, .bool fd]) (by simp [results, Tryz.results230, go_sem, p1, p2, hne1, hne2]) rfl ⟨rfl, below_set (below_set (below_set hB3 (by omega) _) (Nat.le_refl _) _) (Nat.le_refl _) _⟩
set_option maxHeartbeats 1000000 in
set_option maxRecDepth 100000 in
theorem attribute_D39 (l nm s1 t2 t3 : Txt) (k : Nat) (hl : l.length ≤ 1000000000) (hk : 1 + k ≤ l.length) (hK : l.tail.findIdx (fun c => slashedB c || c == 61) = k) (hnm : lowL (l.take (1 + k)) = nm) (hs1 : l.drop (1 + k) = s1) (hsk : skipS s1 = 61 :: t2) (hsk2 : skipS t2 = 39 :: t3) (w : World) (hS : Std w) :
 Calls Tryz.prog 230 #[.string ⟨l.toArray⟩] w fun e w' => e = .returned (.tuple #[.agg #[.string ⟨nm.toArray⟩, .string ⟨(decL (cut1 39 t3).1 : Txt).toArray⟩], .string ⟨((cut1 39 t3).2.1 : Txt).toArray⟩, .bool (cut1 39 t3).2.2]) ∧ Below w.heap.size w w' := by
 have hsl : s1.length ≤ 1000000000 := by rw [← hs1]; simp; omega
 have hc1 := Lib.hid (fun W => span_at1 l.tail (by simp; omega) W)
 have hc2 := Lib.hid (fun W => flower_c (l.take (1 + k)) (by simp; omega) W)
 have hc3 := Lib.hid (fun W => span_at2 s1 hsl W)
 rw [hK] at hc1
 rw [hnm] at hc2
 obtain ⟨k2, h21, h22, h23, h24⟩ := skipS_get hsk
 rw [h21] at hc3
 have h23 := h23 h22
 have ht2 : t2.length ≤ 1000000000 := by rw [← h24]; simp; omega
 have hc4 := Lib.hid (fun W => span_at3 t2 ht2 W)
 obtain ⟨k3, h31⟩ : ∃ k3, t2.findIdx (fun c => !spaceB c) = k3 := ⟨_, rfl⟩
 rw [h31] at hc4
 have h3le : k3 ≤ t2.length := by rw [← h31]; exact List.findIdx_le_length
 have h32 : t2.drop k3 = 39 :: t3 := by rw [← h31]; exact hsk2
 have h3l := congrArg List.length h32
 simp only [List.length_drop, List.length_cons] at h3l
 have hcut := Lib.hid (fun W hS => cut_c t3 39 (by omega) W hS)
 have hcl := cut1_len 39 t3
 generalize cut1 39 t3 = cc at *
 obtain ⟨v1, v2, fd⟩ := cc
 have hdec := Lib.hid (fun W hS => decode_c v1 (by simp only at hcl; omega) W hS)
 simp only at hcut
 clear hsk h21 hsk2 h31 hcl
 clear hK hnm
 go_enter Tryz.func230, Tryz.ntmps230
 go_wp2_with (first
  | (go_at_call 156; first
    | ((with_reducible refine (hc1.out _).mono ?_); rintro e w1 ⟨rfl, rfl⟩)
    | ((with_reducible refine (hc3.out _).mono ?_); rintro e w1 ⟨rfl, rfl⟩)
    | ((with_reducible refine (hc4.out _).mono ?_); rintro e w1 ⟨rfl, rfl⟩))
  | (go_at_call 187; ((with_reducible refine (hc2.out _).mono ?_); rintro e w1 ⟨rfl, hb⟩; have hB1 := below_then ((Below.refl w.heap.size w).alloc (Nat.le_refl _) _) (by simp) hb; have r0 := (hb.block w.heap.size (by simp)).trans (new_cells _ _ _); obtain ⟨q1, q2, q3, q4⟩ := two_alloc r0; have hz1 := hb.size; simp at hz1; have hS1 := hS.below hB1; have hne1 : w1.heap.size ≠ w.heap.size := (by omega); have hne2 : w.heap.size ≠ w1.heap.size := (by omega); clear hb))
  | (go_at_call 188; ((with_reducible refine (hcut.out _ (hS1.alloc _)).mono ?_); rintro e w2 ⟨rfl, hb2⟩; have hB2 := below_then (hB1.alloc (by omega) _) (by simp; omega) hb2; have r02 := (hb2.block w.heap.size (by simp; omega)).trans ((heap_alloc_old w1 _ (by omega)).trans r0); have r12 := (hb2.block w1.heap.size (by simp)).trans (new_cells _ _ _); have hz2 := hb2.size; simp at hz2; have hS2 := hS.below hB2; clear hb2))
  | (go_at_call 155; ((with_reducible refine (hdec.out _ hS2).mono ?_); rintro e w3 ⟨rfl, hb3⟩; have hB3 := below_then hB2 (by omega) hb3; obtain ⟨p1, p2, p3, p4⟩ := two_facts ((hb3.block w.heap.size (by omega)).trans r02); obtain ⟨p5, p6, p7, p8⟩ := two_facts ((hb3.block w1.heap.size (by omega)).trans r12); clear hb3)))
 refine bodyPost_ret (v := .tuple #[.agg #[.string ⟨nm.toArray⟩, .string ⟨(decL v1 : Txt).toArray⟩], .string ⟨(v2 : Txt).toArray⟩, .bool fd]) (by simp [results, Tryz.results230, go_sem, p1, p2, hne1, hne2]) rfl ⟨rfl, below_set (below_set (below_set hB3 (by omega) _) (Nat.le_refl _) _) (Nat.le_refl _) _⟩
end Go.Proofs.YtkcmghlhpbepcaaGreatDoor

/- Contract of token.attribute, the last cases, and all of it: an attribute that stands at the beginning, what follows it, whether it ended. Nothing that lay in memory turns. -/
namespace Go.Proofs.YtkcmghlhpbepcaaGreatDoor
open Go.RowKit Go.Proofs
set_option maxHeartbeats 1000000 in
set_option maxRecDepth 100000 in
theorem attribute_DnT (l nm s1 t2 s3 t3 : Txt) (q : UInt8) (m : Nat) (k : Nat) (hl : l.length ≤ 1000000000) (hk : 1 + k ≤ l.length) (hK : l.tail.findIdx (fun c => slashedB c || c == 61) = k) (hnm : lowL (l.take (1 + k)) = nm) (hs1 : l.drop (1 + k) = s1) (hsk : skipS s1 = 61 :: t2) (hs3 : s3 = q :: t3) (hsk2 : skipS t2 = q :: t3) (hq1 : q ≠ 34) (hq2 : q ≠ 39) (hm : wordK s3 = m) (hlt : m < s3.length) (w : World) (hS : Std w) :
 Calls Tryz.prog 230 #[.string ⟨l.toArray⟩] w fun e w' => e = .returned (.tuple #[.agg #[.string ⟨nm.toArray⟩, .string ⟨(decL (s3.take m) : Txt).toArray⟩], .string ⟨(s3.drop m : Txt).toArray⟩, .bool true]) ∧ Below w.heap.size w w' := by
 have hsl : s1.length ≤ 1000000000 := by rw [← hs1]; simp; omega
 have hc1 := Lib.hid (fun W => span_at1 l.tail (by simp; omega) W)
 have hc2 := Lib.hid (fun W => flower_c (l.take (1 + k)) (by simp; omega) W)
 have hc3 := Lib.hid (fun W => span_at2 s1 hsl W)
 rw [hK] at hc1
 rw [hnm] at hc2
 obtain ⟨k2, h21, h22, h23, h24⟩ := skipS_get hsk
 rw [h21] at hc3
 have h23 := h23 h22
 have ht2 : t2.length ≤ 1000000000 := by rw [← h24]; simp; omega
 have hc4 := Lib.hid (fun W => span_at3 t2 ht2 W)
 obtain ⟨k3, h31⟩ : ∃ k3, t2.findIdx (fun c => !spaceB c) = k3 := ⟨_, rfl⟩
 rw [h31] at hc4
 have h3le : k3 ≤ t2.length := by rw [← h31]; exact List.findIdx_le_length
 have h32 : t2.drop k3 = s3 := by rw [← h31, hs3]; exact hsk2
 have h3l := congrArg List.length h32
 simp only [List.length_drop] at h3l
 have hc5 := Lib.hid (fun W => span_at4 s3 (by omega) W)
 rw [show s3.findIdx (fun c => spaceB c || c == 62) = m from hm] at hc5
 have hml : m ≤ s3.length := by rw [← hm]; unfold wordK; exact List.findIdx_le_length
 have hdec := Lib.hid (fun W hS => decode_c (s3.take m) (by simp; omega) W hS)
 have hs31 : s3.take 1 = [q] := by rw [hs3]; rfl
 have hs30 : 0 < s3.length := by rw [hs3]; simp
 have hbe : (s3 == []) = false := by rw [hs3]; rfl
 generalize decL (s3.take m) = dv at *
 have hb1 : ¬ q = 34 := hq1
 have hb2 : (q == 39) = false := by simpa using hq2
 clear hsk h21 hsk2 h31 hs3 hm hq1 hq2
 clear hK hnm
 go_enter Tryz.func230, Tryz.ntmps230
 go_wp2_with (first
  | (go_at_call 156; first
    | ((with_reducible refine (hc1.out _).mono ?_); rintro e w1 ⟨rfl, rfl⟩)
    | ((with_reducible refine (hc3.out _).mono ?_); rintro e w1 ⟨rfl, rfl⟩)
    | ((with_reducible refine (hc4.out _).mono ?_); rintro e w1 ⟨rfl, rfl⟩)
    | ((with_reducible refine (hc5.out _).mono ?_); rintro e w1 ⟨rfl, rfl⟩))
  | (go_at_call 187; ((with_reducible refine (hc2.out _).mono ?_); rintro e w1 ⟨rfl, hb⟩; have hB1 := below_then ((Below.refl w.heap.size w).alloc (Nat.le_refl _) _) (by simp) hb; have r0 := (hb.block w.heap.size (by simp)).trans (new_cells _ _ _); obtain ⟨q1, q2, q3, q4⟩ := two_alloc r0; have hz1 := hb.size; simp at hz1; have hS1 := hS.below hB1; have hne1 : w1.heap.size ≠ w.heap.size := (by omega); have hne2 : w.heap.size ≠ w1.heap.size := (by omega); clear hb))
  | (go_at_call 155; ((with_reducible refine (hdec.out _ (hS1.alloc _)).mono ?_); rintro e w3 ⟨rfl, hb3⟩; have hB3 := below_then (hB1.alloc (by omega) _) (by simp; omega) hb3; obtain ⟨p1, p2, p3, p4⟩ := two_facts ((hb3.block w.heap.size (by simp; omega)).trans ((heap_alloc_old w1 _ (by omega)).trans r0)); obtain ⟨p5, p6, p7, p8⟩ := two_facts ((hb3.block w1.heap.size (by simp)).trans (new_cells _ _ _)); clear hb3)))
 go_region
 all_goals (go_wp2_with fail)
 all_goals
  refine bodyPost_ret (v := .tuple #[.agg #[.string ⟨nm.toArray⟩, .string ⟨(dv : Txt).toArray⟩], .string ⟨(s3.drop m : Txt).toArray⟩, .bool true]) (by simp [results, Tryz.results230, go_sem, p1, p2, hne1, hne2]) rfl ⟨rfl, (below_set (below_set (below_set hB3 (by omega) _) (Nat.le_refl _) _) (Nat.le_refl _) _).drew⟩
set_option maxHeartbeats 1000000 in
set_option maxRecDepth 100000 in
theorem attribute_DnF (l nm s1 t2 s3 t3 : Txt) (q : UInt8) (m : Nat) (k : Nat) (hl : l.length ≤ 1000000000) (hk : 1 + k ≤ l.length) (hK : l.tail.findIdx (fun c => slashedB c || c == 61) = k) (hnm : lowL (l.take (1 + k)) = nm) (hs1 : l.drop (1 + k) = s1) (hsk : skipS s1 = 61 :: t2) (hs3 : s3 = q :: t3) (hsk2 : skipS t2 = q :: t3) (hq1 : q ≠ 34) (hq2 : q ≠ 39) (hm : wordK s3 = m) (hlt : ¬ m < s3.length) (w : World) (hS : Std w) :
 Calls Tryz.prog 230 #[.string ⟨l.toArray⟩] w fun e w' => e = .returned (.tuple #[.agg #[.string ⟨nm.toArray⟩, .string ⟨(decL (s3.take m) : Txt).toArray⟩], .string ⟨(s3.drop m : Txt).toArray⟩, .bool false]) ∧ Below w.heap.size w w' := by
 have hsl : s1.length ≤ 1000000000 := by rw [← hs1]; simp; omega
 have hc1 := Lib.hid (fun W => span_at1 l.tail (by simp; omega) W)
 have hc2 := Lib.hid (fun W => flower_c (l.take (1 + k)) (by simp; omega) W)
 have hc3 := Lib.hid (fun W => span_at2 s1 hsl W)
 rw [hK] at hc1
 rw [hnm] at hc2
 obtain ⟨k2, h21, h22, h23, h24⟩ := skipS_get hsk
 rw [h21] at hc3
 have h23 := h23 h22
 have ht2 : t2.length ≤ 1000000000 := by rw [← h24]; simp; omega
 have hc4 := Lib.hid (fun W => span_at3 t2 ht2 W)
 obtain ⟨k3, h31⟩ : ∃ k3, t2.findIdx (fun c => !spaceB c) = k3 := ⟨_, rfl⟩
 rw [h31] at hc4
 have h3le : k3 ≤ t2.length := by rw [← h31]; exact List.findIdx_le_length
 have h32 : t2.drop k3 = s3 := by rw [← h31, hs3]; exact hsk2
 have h3l := congrArg List.length h32
 simp only [List.length_drop] at h3l
 have hc5 := Lib.hid (fun W => span_at4 s3 (by omega) W)
 rw [show s3.findIdx (fun c => spaceB c || c == 62) = m from hm] at hc5
 have hml : m ≤ s3.length := by rw [← hm]; unfold wordK; exact List.findIdx_le_length
 have hdec := Lib.hid (fun W hS => decode_c (s3.take m) (by simp; omega) W hS)
 have hs31 : s3.take 1 = [q] := by rw [hs3]; rfl
 have hs30 : 0 < s3.length := by rw [hs3]; simp
 have hbe : (s3 == []) = false := by rw [hs3]; rfl
 generalize decL (s3.take m) = dv at *
 have hb1 : ¬ q = 34 := hq1
 have hb2 : (q == 39) = false := by simpa using hq2
 clear hsk h21 hsk2 h31 hs3 hm hq1 hq2
 clear hK hnm
 go_enter Tryz.func230, Tryz.ntmps230
 go_wp2_with (first
  | (go_at_call 156; first
    | ((with_reducible refine (hc1.out _).mono ?_); rintro e w1 ⟨rfl, rfl⟩)
    | ((with_reducible refine (hc3.out _).mono ?_); rintro e w1 ⟨rfl, rfl⟩)
    | ((with_reducible refine (hc4.out _).mono ?_); rintro e w1 ⟨rfl, rfl⟩)
    | ((with_reducible refine (hc5.out _).mono ?_); rintro e w1 ⟨rfl, rfl⟩))
  | (go_at_call 187; ((with_reducible refine (hc2.out _).mono ?_); rintro e w1 ⟨rfl, hb⟩; have hB1 := below_then ((Below.refl w.heap.size w).alloc (Nat.le_refl _) _) (by simp) hb; have r0 := (hb.block w.heap.size (by simp)).trans (new_cells _ _ _); obtain ⟨q1, q2, q3, q4⟩ := two_alloc r0; have hz1 := hb.size; simp at hz1; have hS1 := hS.below hB1; have hne1 : w1.heap.size ≠ w.heap.size := (by omega); have hne2 : w.heap.size ≠ w1.heap.size := (by omega); clear hb))
  | (go_at_call 155; ((with_reducible refine (hdec.out _ (hS1.alloc _)).mono ?_); rintro e w3 ⟨rfl, hb3⟩; have hB3 := below_then (hB1.alloc (by omega) _) (by simp; omega) hb3; obtain ⟨p1, p2, p3, p4⟩ := two_facts ((hb3.block w.heap.size (by simp; omega)).trans ((heap_alloc_old w1 _ (by omega)).trans r0)); obtain ⟨p5, p6, p7, p8⟩ := two_facts ((hb3.block w1.heap.size (by simp)).trans (new_cells _ _ _)); clear hb3)))
 go_region
 all_goals (go_wp2_with fail)
 all_goals
  refine bodyPost_ret (v := .tuple #[.agg #[.string ⟨nm.toArray⟩, .string ⟨(dv : Txt).toArray⟩], .string ⟨(s3.drop m : Txt).toArray⟩, .bool false]) (by simp [results, Tryz.results230, go_sem, p1, p2, hne1, hne2]) rfl ⟨rfl, (below_set (below_set (below_set hB3 (by omega) _) (Nat.le_refl _) _) (Nat.le_refl _) _).drew⟩
theorem attribute_c (l : Txt) (h0 : 0 < l.length) (hl : l.length ≤ 1000000000) (w : World) (hS : Std w) :
 Calls Tryz.prog 230 #[.string ⟨l.toArray⟩] w fun e w' => e = .returned (.tuple #[.agg #[.string ⟨(attrF l).1.1.toArray⟩, .string ⟨(attrF l).1.2.toArray⟩], .string ⟨(attrF l).2.1.toArray⟩, .bool (attrF l).2.2]) ∧ Below w.heap.size w w' := by
 obtain ⟨k, hK, hk, hkl⟩ := attrK_le h0
 unfold attrF
 rw [hK]
 generalize hnm : lowL (l.take (1 + k)) = nm
 generalize hs1 : l.drop (1 + k) = s1
 unfold attrR
 cases hsk : skipS s1 with
 | nil => exact attribute_A l nm s1 k hl hkl hk hnm hs1 hsk w hS
 | cons c t2 =>
   simp only
   by_cases hc : c = 61
   ·subst hc
    rw [if_pos rfl]
    unfold valF
    cases hsk2 : skipS t2 with
    | nil => exact attribute_C l nm s1 t2 k hl hkl hk hnm hs1 hsk hsk2 w hS
    | cons q t3 =>
      simp only
      by_cases hq : q = 34 ∨ q = 39
      ·rw [if_pos hq]
       rcases hq with rfl | rfl
       ·exact attribute_D34 l nm s1 t2 t3 k hl hkl hk hnm hs1 hsk hsk2 w hS
       ·exact attribute_D39 l nm s1 t2 t3 k hl hkl hk hnm hs1 hsk hsk2 w hS
      ·rw [if_neg hq]
       simp only [not_or] at hq
       by_cases hm : wordK (q :: t3) < (q :: t3).length
       ·simp only [hm, decide_true]
        exact attribute_DnT l nm s1 t2 (q :: t3) t3 q _ k hl hkl hk hnm hs1 hsk rfl hsk2 hq.1 hq.2 rfl hm w hS
       ·simp only [hm, decide_false]
        exact attribute_DnF l nm s1 t2 (q :: t3) t3 q _ k hl hkl hk hnm hs1 hsk rfl hsk2 hq.1 hq.2 rfl hm w hS
   ·rw [if_neg hc]
    exact attribute_B l nm s1 t2 c k hl hkl hk hnm hs1 hsk hc w hS
end Go.Proofs.YtkcmghlhpbepcaaGreatDoor
