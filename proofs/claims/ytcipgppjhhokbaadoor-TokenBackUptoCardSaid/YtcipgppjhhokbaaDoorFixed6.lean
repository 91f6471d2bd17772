/- Contract of boltinglaw06.fixed: it is true. Nothing that lay in memory turns. -/
import Derived.Test.YtcipgppjhhokbaaDoorTWrite
set_option linter.unusedVariables false
set_option linter.unusedSimpArgs false
namespace Go.Proofs.YtcipgppjhhokbaaDoor
open Go.RowKit Go.Proofs

theorem flat_at : ∀ (ps : List (Tok × Value)) (i : Nat) (hi : i < ps.length) (j : Nat), j < 5 → (ps.flatMap fun p => tokV p.1 p.2)[i * 5 + j]? = (tokV ps[i].1 ps[i].2)[j]? := by
  intro l
  induction l with
  | nil => intro i hi; simp at hi
  | cons a l ih =>
    intro i hi j hj
    have hlen : (tokV a.1 a.2).length = 5 := rfl
    cases i with
    | zero =>
      rw [List.flatMap_cons, List.getElem?_append_left (by omega), Nat.zero_mul, Nat.zero_add]
      rfl
    | succ i =>
      have := ih i (by simpa using hi) j hj
      rw [show (i + 1) * 5 + j = 5 + (i * 5 + j) from by omega, List.flatMap_cons, List.getElem?_append_right (by omega), hlen, Nat.add_sub_cancel_left, this]
      rfl
/-- A row of tokens that was just laid can be read. -/
theorem rd_new (w : World) (ps : List (Tok × Value)) (t : TypeId) (n : Nat) (cs : Array Value) (hcs : cs = (ps.flatMap fun p => tokV p.1 p.2).toArray) (hn : n = ps.length) (h : ∀ p ∈ ps, RdA w p.2 p.1.attrs) : RdT (w.alloc (.cells cs t)) (.slice (some ⟨w.heap.size, 0, none⟩) n n) (ps.map Prod.fst) := by
  subst hcs hn
  refine ⟨some ⟨w.heap.size, 0, none⟩, ps.length, by rw [List.length_map], fun i hi => ?_⟩
  rw [List.length_map] at hi
  have hh := new_cells w (ps.flatMap fun p => tokV p.1 p.2).toArray t
  have hk : ∀ j, j < 5 → (w.alloc (.cells (ps.flatMap fun p => tokV p.1 p.2).toArray t)).cell? ⟨w.heap.size, i * 5 + j, none⟩ = (tokV ps[i].1 ps[i].2)[j]? := by
    intro j hj
    rw [Lib.cell_of_heap hh, ← Array.getElem?_toList, ← flat_at ps i hi j hj]
  have h0 := hk 0 (by omega)
  have h1 := hk 1 (by omega)
  have h2 := hk 2 (by omega)
  have h3 := hk 3 (by omega)
  have h4 := hk 4 (by omega)
  rw [List.getElem_map]
  refine ⟨w.heap.size, 0, ps[i].2, rfl, ?_, ?_, ?_, ?_, ?_, (h _ (List.getElem_mem hi)).below ((Below.refl _ w).alloc (Nat.le_refl _) _)⟩ <;> rw [Nat.zero_add]
  · exact h0
  · exact h1
  · exact h2
  · exact h3
  · exact h4
/-- One attribute that was just laid. -/
theorem rd_one (w : World) (x y : Txt) (t : TypeId) : RdA (w.alloc (.cells #[.string ⟨x.toArray⟩, .string ⟨y.toArray⟩] t)) (.slice (some ⟨w.heap.size, 0, none⟩) 1 1) [(x, y)] := by
  obtain ⟨h0, h1, _⟩ := two_facts (new_cells w #[.string ⟨x.toArray⟩, .string ⟨y.toArray⟩] t)
  refine ⟨_, _, rfl, fun i hi => ?_⟩
  obtain rfl : i = 0 := by simp at hi; omega
  exact ⟨w.heap.size, 0, rfl, h0, h1⟩
theorem rd_al {w : World} {v : Value} {l : List Tok} (h : RdT w v l) (o : Obj) : RdT (w.alloc o) v l := h.below ((Below.refl _ w).alloc (Nat.le_refl _) o)
theorem ra_al {w : World} {v : Value} {l : List (Txt × Txt)} (h : RdA w v l) (o : Obj) : RdA (w.alloc o) v l := h.below ((Below.refl _ w).alloc (Nat.le_refl _) o)


theorem wk1 : writeL [⟨0, [], [], [97], false⟩, ⟨1, [98], [([99], [100])], [], false⟩, ⟨0, [], [], [120], false⟩, ⟨2, [98], [], [], false⟩] = [97, 60, 98, 32, 99, 61, 34, 100, 34, 62, 120, 60, 47, 98, 62] := by decide +kernel
theorem wk2 : writeL [⟨1, [115, 99, 114, 105, 112, 116], [], [], false⟩, ⟨0, [], [], [60, 98, 62], false⟩, ⟨2, [115, 99, 114, 105, 112, 116], [], [], false⟩] = [60, 115, 99, 114, 105, 112, 116, 62, 60, 98, 62, 60, 47, 115, 99, 114, 105, 112, 116, 62] := by decide +kernel

set_option maxHeartbeats 4000000 in
set_option maxRecDepth 100000 in
theorem fixed6_c (w : World) (hS : Std w) :
    Calls Tryd.prog 11 #[] w fun e w' => e = .returned (.bool true) ∧ Below w.heap.size w w' := by
  have k1 := Lib.hid (fun W hS => cut_g [97, 60, 66, 32, 99, 61, 100, 62, 120, 60, 47, 98, 32, 62] (by simp) W hS)
  have k2 := Lib.hid (fun W hS => cut_g [60, 115, 99, 114, 105, 112, 116, 62, 60, 98, 62, 60, 47, 115, 99, 114, 105, 112, 116, 62] (by simp) W hS)
  have k3 := Lib.hid (fun W hS => cut_g [49, 32, 60, 32, 50] (by simp) W hS)
  have k4 := Lib.hid (fun W hS => in_g [97, 60, 98, 62, 38, 97, 109, 112, 59, 60, 47, 116, 105, 116, 108, 101, 62] [116, 105, 116, 108, 101] (by simp) (by simp) W hS)
  rw [ck1] at k1
  rw [ck2] at k2
  rw [ck3] at k3
  rw [ck4] at k4
  have m1 := Lib.hid (fun v1 v2 W h1 h2 => same_c v1 v2 [⟨0, [], [], [97], false⟩, ⟨1, [98], [([99], [100])], [], false⟩, ⟨0, [], [], [120], false⟩, ⟨2, [98], [], [], false⟩] (by simp) (by simp) W h1 h2)
  have m2 := Lib.hid (fun v1 v2 W h1 h2 => same_c v1 v2 [⟨1, [115, 99, 114, 105, 112, 116], [], [], false⟩, ⟨0, [], [], [60, 98, 62], false⟩, ⟨2, [115, 99, 114, 105, 112, 116], [], [], false⟩] (by simp) (by simp) W h1 h2)
  have m3 := Lib.hid (fun v1 v2 W h1 h2 => same_c v1 v2 [⟨0, [], [], [49, 32, 60, 32, 50], false⟩] (by simp) (by simp) W h1 h2)
  have m4 := Lib.hid (fun v1 v2 W h1 h2 => same_c v1 v2 [⟨0, [], [], [97, 60, 98, 62, 38], false⟩, ⟨2, [116, 105, 116, 108, 101], [], [], false⟩] (by simp) (by simp) W h1 h2)
  have n1 := Lib.hid (fun v W h => write_g v [⟨0, [], [], [97], false⟩, ⟨1, [98], [([99], [100])], [], false⟩, ⟨0, [], [], [120], false⟩, ⟨2, [98], [], [], false⟩] (by simp) (by rw [wk1]; simp) W h)
  have n2 := Lib.hid (fun v W h => write_g v [⟨1, [115, 99, 114, 105, 112, 116], [], [], false⟩, ⟨0, [], [], [60, 98, 62], false⟩, ⟨2, [115, 99, 114, 105, 112, 116], [], [], false⟩] (by simp) (by rw [wk2]; simp) W h)
  rw [wk1] at n1
  rw [wk2] at n2
  go_enter Tryd.func11, Tryd.ntmps11
  go_wp2_with (first
    | (go_at_call 14; first
      | ((with_reducible refine (k1.out _ hS).mono ?_); rintro e w1 ⟨v1, rfl, hT1, hb1⟩; have hS1 := hS.below hb1; have hR1 := hT1.rd)
      | ((with_reducible refine (k2.out _ hS1).mono ?_); rintro e w2 ⟨v2, rfl, hT2, hb2⟩; have hS2 := hS1.below hb2; have hR2 := hT2.rd; replace hR1 := hR1.below hb2; have hB2 := below_seq hb1 hb2)
      | ((with_reducible refine (k3.out _ hS2).mono ?_); rintro e w3 ⟨v3, rfl, hT3, hb3⟩; have hS3 := hS2.below hb3; have hR3 := hT3.rd; replace hR1 := hR1.below hb3; replace hR2 := hR2.below hb3; have hB3 := below_seq hB2 hb3))
    | (go_at_call 19; (with_reducible refine (k4.out _ hS3).mono ?_); rintro e w4 ⟨v4, rfl, hT4, hb4⟩; have hR4 := hT4.rd; replace hR1 := hR1.below hb4; replace hR2 := hR2.below hb4; replace hR3 := hR3.below hb4; have hB4 := below_seq hB3 hb4; clear hS hS1 hS2 hS3 hT1 hT2 hT3 hT4 hb1 hb2 hb3 hb4 hB2 hB3;
        have hl1 : RdT ((w4.alloc (.cells #[.string ⟨#[99]⟩, .string ⟨#[100]⟩] 33)).alloc (.cells #[.int .i64 0, .string ⟨#[]⟩, .string ⟨#[97]⟩, .slice none 0 0, .bool false, .int .i64 1, .string ⟨#[98]⟩, .string ⟨#[]⟩, .slice (some ⟨w4.heap.size, 0, none⟩) 1 1, .bool false, .int .i64 0, .string ⟨#[]⟩, .string ⟨#[120]⟩, .slice none 0 0, .bool false, .int .i64 2, .string ⟨#[98]⟩, .string ⟨#[]⟩, .slice none 0 0, .bool false] 30)) (.slice (some ⟨(w4.alloc (.cells #[.string ⟨#[99]⟩, .string ⟨#[100]⟩] 33)).heap.size, 0, none⟩) 4 4) [⟨0, [], [], [97], false⟩, ⟨1, [98], [([99], [100])], [], false⟩, ⟨0, [], [], [120], false⟩, ⟨2, [98], [], [], false⟩] := (rd_new (w4.alloc (.cells #[.string ⟨#[99]⟩, .string ⟨#[100]⟩] 33)) [(⟨0, [], [], [97], false⟩, .slice none 0 0), (⟨1, [98], [([99], [100])], [], false⟩, .slice (some ⟨w4.heap.size, 0, none⟩) 1 1), (⟨0, [], [], [120], false⟩, .slice none 0 0), (⟨2, [98], [], [], false⟩, .slice none 0 0)] _ 4 _ rfl rfl (by
          intro p hp
          simp only [List.mem_cons, List.not_mem_nil, or_false] at hp
          rcases hp with rfl | rfl | rfl | rfl
          · exact RdA.nil _
          · exact rd_one w4 [99] [100] _
          · exact RdA.nil _
          · exact RdA.nil _)); rw [World.size_alloc] at hl1)
    | (go_at_call 16; first
      | ((with_reducible refine (m1.out _ _ _ (rd_al (rd_al hR1 _) _) hl1).mono ?_); rintro e w5 ⟨rfl, hb5⟩; replace hR1 := (rd_al (rd_al hR1 _) _).below hb5; replace hR2 := (rd_al (rd_al hR2 _) _).below hb5; replace hR3 := (rd_al (rd_al hR3 _) _).below hb5; replace hR4 := (rd_al (rd_al hR4 _) _).below hb5; have hB5 := below_then ((hB4.alloc hB4.size _).alloc (by rw [World.size_alloc]; have := hB4.size; omega) _) (by rw [World.size_alloc, World.size_alloc]; have := hB4.size; omega) hb5; clear hb5 hl1; have hl2 : RdT (w5.alloc (.cells #[.int .i64 1, .string ⟨#[115, 99, 114, 105, 112, 116]⟩, .string ⟨#[]⟩, .slice none 0 0, .bool false, .int .i64 0, .string ⟨#[]⟩, .string ⟨#[60, 98, 62]⟩, .slice none 0 0, .bool false, .int .i64 2, .string ⟨#[115, 99, 114, 105, 112, 116]⟩, .string ⟨#[]⟩, .slice none 0 0, .bool false] 30)) (.slice (some ⟨w5.heap.size, 0, none⟩) 3 3) [⟨1, [115, 99, 114, 105, 112, 116], [], [], false⟩, ⟨0, [], [], [60, 98, 62], false⟩, ⟨2, [115, 99, 114, 105, 112, 116], [], [], false⟩] := (rd_new w5 [(⟨1, [115, 99, 114, 105, 112, 116], [], [], false⟩, .slice none 0 0), (⟨0, [], [], [60, 98, 62], false⟩, .slice none 0 0), (⟨2, [115, 99, 114, 105, 112, 116], [], [], false⟩, .slice none 0 0)] _ 3 _ rfl rfl (by intro p hp; simp only [List.mem_cons, List.not_mem_nil, or_false] at hp; rcases hp with rfl | rfl | rfl <;> exact RdA.nil _)))
      | ((with_reducible refine (m2.out _ _ _ (rd_al hR2 _) hl2).mono ?_); rintro e w6 ⟨rfl, hb6⟩; replace hR1 := (rd_al hR1 _).below hb6; replace hR2 := (rd_al hR2 _).below hb6; replace hR3 := (rd_al hR3 _).below hb6; replace hR4 := (rd_al hR4 _).below hb6; have hB6 := below_then (hB5.alloc hB5.size _) (by rw [World.size_alloc]; have := hB5.size; omega) hb6; clear hb6 hl2; have hl3 : RdT (w6.alloc (.cells #[.int .i64 0, .string ⟨#[]⟩, .string ⟨#[49, 32, 60, 32, 50]⟩, .slice none 0 0, .bool false] 30)) (.slice (some ⟨w6.heap.size, 0, none⟩) 1 1) [⟨0, [], [], [49, 32, 60, 32, 50], false⟩] := (rd_new w6 [(⟨0, [], [], [49, 32, 60, 32, 50], false⟩, .slice none 0 0)] _ 1 _ rfl rfl (by intro p hp; simp only [List.mem_cons, List.not_mem_nil, or_false] at hp; rcases hp with rfl <;> exact RdA.nil _)))
      | ((with_reducible refine (m3.out _ _ _ (rd_al hR3 _) hl3).mono ?_); rintro e w7 ⟨rfl, hb7⟩; replace hR1 := (rd_al hR1 _).below hb7; replace hR2 := (rd_al hR2 _).below hb7; replace hR3 := (rd_al hR3 _).below hb7; replace hR4 := (rd_al hR4 _).below hb7; have hB7 := below_then (hB6.alloc hB6.size _) (by rw [World.size_alloc]; have := hB6.size; omega) hb7; clear hb7 hl3; have hl4 : RdT (w7.alloc (.cells #[.int .i64 0, .string ⟨#[]⟩, .string ⟨#[97, 60, 98, 62, 38]⟩, .slice none 0 0, .bool false, .int .i64 2, .string ⟨#[116, 105, 116, 108, 101]⟩, .string ⟨#[]⟩, .slice none 0 0, .bool false] 30)) (.slice (some ⟨w7.heap.size, 0, none⟩) 2 2) [⟨0, [], [], [97, 60, 98, 62, 38], false⟩, ⟨2, [116, 105, 116, 108, 101], [], [], false⟩] := (rd_new w7 [(⟨0, [], [], [97, 60, 98, 62, 38], false⟩, .slice none 0 0), (⟨2, [116, 105, 116, 108, 101], [], [], false⟩, .slice none 0 0)] _ 2 _ rfl rfl (by intro p hp; simp only [List.mem_cons, List.not_mem_nil, or_false] at hp; rcases hp with rfl | rfl <;> exact RdA.nil _)))
      | ((with_reducible refine (m4.out _ _ _ (rd_al hR4 _) hl4).mono ?_); rintro e w8 ⟨rfl, hb8⟩; replace hR1 := (rd_al hR1 _).below hb8; replace hR2 := (rd_al hR2 _).below hb8; replace hR3 := (rd_al hR3 _).below hb8; replace hR4 := (rd_al hR4 _).below hb8; have hB8 := below_then (hB7.alloc hB7.size _) (by rw [World.size_alloc]; have := hB7.size; omega) hb8; clear hb8 hl4))
    | (go_at_call 12; first
      | ((with_reducible refine (n1.out _ _ hR1).mono ?_); rintro e w9 ⟨rfl, hb9⟩; replace hR2 := hR2.below hb9; have hB9 := below_seq hB8 hb9)
      | ((with_reducible refine (n2.out _ _ hR2).mono ?_); rintro e w10 ⟨rfl, hb10⟩)))
  go_ret
  exact ⟨rfl, below_seq hB9 hb10⟩
end Go.Proofs.YtcipgppjhhokbaaDoor
