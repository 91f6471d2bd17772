/- Contract of token.tagged: a tag, written. Nothing that lay in memory turns. -/
import Derived.Test.YtcipgppjhhokbaaDoorSame
import Derived.Test.YtcipgppjhhokbaaDoorTokW
import Derived.Deep.RegionWith
set_option linter.unusedVariables false
set_option linter.unusedSimpArgs false
namespace Go.Proofs.YtcipgppjhhokbaaDoor
open Go.RowKit Go.Proofs

theorem attrsW_app (a b : List (Txt × Txt)) : attrsW (a ++ b) = attrsW a ++ attrsW b := by simp only [attrsW, List.flatMap_append]
theorem attrsW_take {l : List (Txt × Txt)} {i : Nat} (h : i < l.length) : attrsW (l.take (i + 1)) = attrsW (l.take i) ++ 32 :: (l[i].1 ++ 61 :: 34 :: (wrL true l[i].2 ++ [34])) := by
  rw [List.take_add_one, List.getElem?_eq_getElem h, attrsW_app]
  simp [attrsW]
theorem attrsW_part0 {a b c d : Txt} (x y : Txt) (e : a = (b ++ 32 :: (x ++ 61 :: 34 :: (y ++ [34]))) ++ d) : b.length + (x.length + y.length + 4) ≤ a.length := by
  rw [e]
  simp only [List.length_append, List.length_cons, List.length_nil]
  omega
theorem step_str (acc an wv : Txt) : (⟨acc.toArray⟩ : ByteArray) ++ (⟨#[32]⟩ ++ ⟨an.toArray⟩ ++ ⟨#[61, 34]⟩ ++ ⟨wv.toArray⟩ ++ ⟨#[34]⟩) = ⟨(acc ++ 32 :: (an ++ 61 :: 34 :: (wv ++ [34]))).toArray⟩ := by
  apply ByteArray.ext
  simp
theorem attrsW_part {l : List (Txt × Txt)} {i : Nat} (h : i < l.length) : (attrsW (l.take i)).length + (l[i].1.length + (wrL true l[i].2).length + 4) ≤ (attrsW l).length := by
  have e : attrsW l = attrsW (l.take (i + 1)) ++ attrsW (l.drop (i + 1)) := by
    conv => lhs; rw [← List.take_append_drop (i + 1) l]
    exact attrsW_app _ _
  rw [attrsW_take h] at e
  exact attrsW_part0 (c := []) _ _ e

set_option maxHeartbeats 4000000 in
set_option maxRecDepth 100000 in
theorem tagged_c (o nm d : Txt) (k : Int) (at0 : List (Txt × Txt)) (sf : Bool) (va : Value) (hz : (taggedW o ⟨k, nm, at0, d, sf⟩).length ≤ 1000000000) (hat : at0.length ≤ 1000000000000) (w : World) (hA : RdA w va at0) :
    Calls Tryd.prog 23 #[.string ⟨o.toArray⟩, .agg #[.int .i64 k, .string ⟨nm.toArray⟩, .string ⟨d.toArray⟩, va, .bool sf]] w fun e w' => e = .returned (.string ⟨(taggedW o ⟨k, nm, at0, d, sf⟩).toArray⟩) ∧ Below w.heap.size w w' := by
  have hW : taggedW o ⟨k, nm, at0, d, sf⟩ = o ++ nm ++ attrsW at0 ++ selfW sf ++ [62] := rfl
  rw [hW] at hz ⊢
  simp only [List.length_append] at hz
  obtain ⟨ad, cp, rfl, hA0⟩ := id hA
  have hnb := new_cells w #[.int .i64 k, .string ⟨nm.toArray⟩, .string ⟨d.toArray⟩, .slice ad at0.length cp, .bool sf] 30
  have hb0 := (Below.refl w.heap.size w).alloc (Nat.le_refl _) (.cells #[.int .i64 k, .string ⟨nm.toArray⟩, .string ⟨d.toArray⟩, .slice ad at0.length cp, .bool sf] 30)
  obtain ⟨⟨g0, g1, g2, g3, g4⟩, g5⟩ := five_facts hnb
  go_enter Tryd.func23, Tryd.ntmps23
  go_wp2
  go_loopw [5, 7, 15] (fun vs _ vi wr => ∃ (i : Nat), vi = .int .i64 i ∧ vs = .string ⟨(o ++ nm ++ attrsW (at0.take i)).toArray⟩ ∧ i ≤ at0.length ∧ Below w.heap.size w wr ∧ wr.heap[w.heap.size]? = some (.cells #[.int .i64 k, .string ⟨nm.toArray⟩, .string ⟨d.toArray⟩, .slice ad at0.length cp, .bool sf] 30 (0, 0))) (fun _ _ vi _ => at0.length - (intOf vi).toNat)
  case atStart => exact ⟨0, rfl, by rw [str_app]; simp [attrsW], by omega, hb0, hnb⟩
  case round =>
    obtain ⟨i, rfl, rfl, hi, hB, hh⟩ := hrel
    obtain ⟨⟨p0, p1, p2, p3, p4⟩, p5⟩ := five_facts hh
    by_cases hlt : i < at0.length
    · obtain ⟨g, o2, rfl, z0, z1⟩ := hA0 i hlt
      replace z0 := cell_keep z0 hB
      replace z1 := cell_keep z1 hB
      have hlI : (i : Int) < at0.length := by omega
      have hp := attrsW_part hlt
      have hs := Lib.hid (attrsW_take hlt)
      generalize at0[i] = av at *
      obtain ⟨an, av⟩ := av
      simp only at z0 z1 hp hs
      have hwl := wr_ge true av
      have cv := Lib.hid (fun W => value_c av (by omega) W)
      generalize wrL true av = wv at *
      generalize hacc : o ++ nm ++ attrsW (at0.take i) = acc at *
      have Z0 := cell_al z0
      have Z1 := cell_al z1
      have hg := cell_lt z0
      have hn1 : g ≠ wr.heap.size := by omega
      obtain ⟨m0, m1, m2, m3⟩ := two_facts (new_cells wr #[.string ⟨an.toArray⟩, .string ⟨av.toArray⟩] 33)
      have s1 : ¬ 9223372036854775807 < 1 + an.length := by omega
      have s2 : ¬ 9223372036854775807 < 1 + an.length + 2 := by omega
      have s3 : ¬ 9223372036854775807 < 1 + an.length + 2 + wv.length := by omega
      have s4 : ¬ 9223372036854775807 < 1 + an.length + 2 + wv.length + 1 := by omega
      have hal : acc.length ≤ 1000000000 := by rw [← hacc]; simp only [List.length_append]; omega
      have s5 : ¬ 9223372036854775807 < acc.length + (1 + an.length + 2 + wv.length + 1) := by omega
      go_wp2
      go_region_law (go_simp; go_at_call 37; ((with_reducible refine (cv.out _).mono ?_); rintro e w2 ⟨rfl, hb2⟩; have hq := (hb2.block wr.heap.size (by show wr.heap.size < (wr.alloc _).heap.size; rw [World.size_alloc]; omega)).trans (new_cells wr #[.string ⟨an.toArray⟩, .string ⟨av.toArray⟩] 33); obtain ⟨y0, y1, y2, y3⟩ := two_facts hq))
      all_goals
        have hb3 : Below wr.heap.size wr w2 := below_then ((Below.refl _ wr).alloc (Nat.le_refl _) (.cells #[.string ⟨an.toArray⟩, .string ⟨av.toArray⟩] 33)).drew (by show wr.heap.size ≤ (wr.alloc _).heap.size; rw [World.size_alloc]; omega) hb2
        have hb4 := below_seq hB hb3
        have hh4 := heap_below hh hb3
        go_wp2
        refine ⟨⟨i + 1, rfl, ?_, by omega, by first | exact hb4 | exact hb4.drew, hh4⟩, by simp [intOf]; omega⟩
        rw [step_str, hs.out, ← hacc]
        simp only [List.append_assoc]
    · obtain rfl : i = at0.length := by omega
      rw [List.take_length] at *
      have hfin : ∀ x : Txt, (⟨(o ++ nm ++ attrsW at0).toArray⟩ : ByteArray) ++ ⟨x.toArray⟩ ++ ⟨#[62]⟩ = ⟨(o ++ nm ++ attrsW at0 ++ x ++ [62]).toArray⟩ := by
        intro x
        apply ByteArray.ext
        simp
      generalize hacc : o ++ nm ++ attrsW at0 = acc at *
      have hal : acc.length ≤ 1000000000 := by rw [← hacc]; simp only [List.length_append]; omega
      cases sf with
      | false =>
        go_wp2
        go_ret
        refine ⟨?_, hB⟩
        rw [show selfW false = [] from rfl, List.append_nil, hacc]
        exact congrArg (fun b => Ending.returned (Value.string b)) (str_app acc [62])
      | true =>
        go_wp2
        go_ret
        refine ⟨?_, hB⟩
        exact congrArg (fun x : Txt => Ending.returned (Value.string ⟨x.toArray⟩)) (show acc ++ [32, 47, 62] = o ++ nm ++ attrsW at0 ++ selfW true ++ [62] by rw [hacc]; simp [selfW])
end Go.Proofs.YtcipgppjhhokbaaDoor
