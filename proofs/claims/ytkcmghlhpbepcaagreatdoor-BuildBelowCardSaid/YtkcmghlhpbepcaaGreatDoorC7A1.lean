/- Lemmas and walks, part 1: QW7L, QKOpn, QKOp7, QLBuildBelow. -/
import Derived.Test.YtkcmghlhpbepcaaGreatDoorB727
import Derived.Test.YtkcmghlhpbepcaaGreatDoorB725
import Derived.Test.YtkcmghlhpbepcaaGreatDoorRows
import Derived.Test.YtkcmghlhpbepcaaGreatDoorB77
import Derived.WalkKit
import Derived.ProofKit
import Derived.OpenShut
import Derived.ChangeArms
import Derived.Test.YtkcmghlhpbepcaaGreatDoorB79
import Derived.Test.YtkcmghlhpbepcaaGreatDoorB726
set_option linter.unusedVariables false
set_option linter.unusedSimpArgs false

/- Nesting below others, in lists alone. -/
namespace Go.Proofs.YtkcmghlhpbepcaaGreatDoorH.W7
open Go.RowKit Go.Proofs Go.Proofs.YtkcmghlhpbepcaaGreatDoorH Go.Proofs.YtkcmghlhpbepcaaGreatDoor Go.Proofs.YtkcmghlhpbepcaaGreatDoorW.PrintWords
theorem nmOk (s : ByteArray) : NmOk s := nmB_ok (nmB_all s)
theorem up_to {α : Type} {f : Nat → Option α} (hm : ∀ k, LeO (f k) (f (k + 1))) {n : Nat} {b : α} (h : f n = some b) : ∀ k, n ≤ k → f k = some b := by
 intro k hk
 obtain ⟨d, rfl⟩ : ∃ d, k = n + d := ⟨k - n, by omega⟩
 induction d with
 | zero => exact h
 | succ d ih => exact hm (n + d) _ (ih (by omega))
theorem closesL_f (s : ByteArray) (k : Nat) (hk : 200 ≤ k) : names_Closes.f k s = some (closesL s) := up_to (f := fun k => names_Closes.f k s) (fun k => names_Closes.mono s k) (nmOk s).closes k hk
theorem wallsL_f (s : ByteArray) (k : Nat) (hk : 200 ≤ k) : names_Walls.f k s = some (wallsL s) := up_to (f := fun k => names_Walls.f k s) (fun k => names_Walls.mono s k) (nmOk s).walls k hk
def nestB (s : ByteArray) (l : List ByteArray) : Bool := !(parL s && decide (0 ≤ foundK l [pN] (wallsL pN) l.length)) && decide (foundK l (closesL s) (wallsL s) l.length < 0)
theorem nested_val (s : ByteArray) (l : List ByteArray) (k : Nat) (hk : 200 ≤ k) : build_Nested.f k s l = some (nestB s l) := by
 unfold build_Nested.f build_found.f nestB
 rw [(nmOk s).par, Option.bind_some, closesL_f s k hk, Option.bind_some, wallsL_f s k hk, Option.bind_some, wallsL_f ⟨#[112]⟩ k hk, Option.bind_some, Option.bind_some, Option.bind_some]
 cases parL s with
 | false => simp
 | true =>
   rw [if_pos rfl]
   by_cases h : 0 ≤ foundK l [pN] (wallsL pN) l.length
   ·rw [if_pos h]; simp [h]
   ·rw [if_neg h]; simp [h]
theorem found_drop (xs a b : List ByteArray) (j : Nat) : ∀ k, 0 ≤ foundK (xs.drop j) a b k → 0 ≤ foundK xs a b (j + k)
 | 0, h => by simp [foundK] at h
 | k + 1, h => by
   have e : (xs.drop j).getD k ⟨#[]⟩ = xs.getD (j + k) ⟨#[]⟩ := by simp [List.getD_eq_getElem?_getD, List.getElem?_drop]
   rw [show j + (k + 1) = (j + k) + 1 from by omega]
   simp only [foundK] at h ⊢
   rw [e] at h
   split
   ·omega
   ·rename_i h1
    rw [if_neg h1] at h
    split
    ·rename_i h2
     rw [if_pos h2] at h
     omega
    ·rename_i h2
     rw [if_neg h2] at h
     exact found_drop xs a b j k h
theorem found_below (xs a b : List ByteArray) (j : Nat) (hj : j ≤ xs.length) (h : 0 ≤ foundK (xs.drop j) a b (xs.drop j).length) : 0 ≤ foundK xs a b xs.length := by
 have := found_drop xs a b j _ h
 rw [List.length_drop] at this
 rwa [show j + (xs.length - j) = xs.length from by omega] at this
theorem nest_below (s : ByteArray) (l : List ByteArray) (j : Nat) (hj : j ≤ l.length) (h : nestB s l = true) : nestB s (l.drop j) = true := by
 unfold nestB at h ⊢
 simp only [Bool.and_eq_true, Bool.not_eq_true', Bool.and_eq_false_iff, decide_eq_true_eq, decide_eq_false_iff_not] at h ⊢
 refine ⟨?_, ?_⟩
 ·rcases h.1 with h1 | h1
  ·exact Or.inl h1
  ·exact Or.inr (fun g => h1 (found_below l _ _ j hj g))
 ·by_cases g : 0 ≤ foundK (l.drop j) (closesL s) (wallsL s) (l.drop j).length
  ·have := found_below l _ _ j hj g
   omega
  ·omega
theorem nest_nil (s : ByteArray) : nestB s [] = true := by simp [nestB, foundK]
end Go.Proofs.YtkcmghlhpbepcaaGreatDoorH.W7

/- What came in, in the words of the printed walks: kind by kind, what a datum's cells say, how much it is at the least, and that its numbers fit. -/
namespace Go.Proofs.YtkcmghlhpbepcaaGreatDoorH
open Go.RowKit Go.Proofs Go.Proofs.YtkcmghlhpbepcaaGreatDoorW.PrintWords
open Go.ChangeShapes Go.WideShapes Go.ChangeAt
open Go.Proofs.YtkcmghlhpbepcaaGreatDoor (Rows.uptoBulk Rows.uptoBulkAll)
theorem cells_at {w : World} {base n : Nat} {a : Addr} {cs : List Value} (h : w.cells? base a n = some cs) : cs.length = n ∧ ∀ j, j < n → w.cell? (a.add j) = cs[j]? := by
 unfold World.cells? at h
 split at h
 ·have hl := mapM_some_length h
  refine ⟨by simpa using hl, fun j hj => ?_⟩
  have := mapM_some_get h j j (by simp [hj])
  exact this
 ·cases h
theorem add_add (a : Addr) (n m : Nat) : (a.add n).add m = a.add (n + m) := by
 unfold Addr.add
 by_cases hm : m = 0
 ·subst hm; simp
 ·by_cases hn : n = 0
  ·subst hn; simp
  ·simp [hm, hn, Nat.add_assoc]
theorem list_of {α : Type} (P : Nat → α → Prop) : ∀ (n : Nat), (∀ i, i < n → ∃ x, P i x) → ∃ L : List α, L.length = n ∧ ∀ i (h : i < L.length), P i L[i]
 | 0, _ => ⟨[], rfl, fun i h => by simp at h⟩
 | n + 1, h => by
   obtain ⟨L, hl, hp⟩ := list_of P n (fun i hi => h i (by omega))
   obtain ⟨x, hx⟩ := h n (by omega)
   refine ⟨L ++ [x], by simp [hl], fun i hi => ?_⟩
   rcases Nat.lt_or_ge i L.length with e | e
   ·rw [List.getElem_append_left e]
    exact hp i e
   ·have e2 : i = L.length := by simp at hi; omega
    subst e2
    rw [List.getElem_append_right (by omega)]
    simp only [Nat.sub_self, List.getElem_cons_zero]
    rw [hl]
    exact hx
def Opn {α : Type} (P : Program) (t : TypeId) (d : Kd α) (wt : α → Nat) (Wf : α → Prop) : Prop :=
 ∀ {H : Type} {enc : TypeId × Value → H} {w : World} {base : Nat} {spare : Nat → Bool} {held : Bool} {fuel : Nat} {cs : List Value} {x : DataW H × List MemPlace},
  DataW.trod enc P w base spare held fuel t cs = some x → ∃ a : α, d.K w a cs ∧ wt a ≤ Rows.uptoBulk x.1 ∧ Wf a
section
variable {P : Program} {t e : TypeId}
theorem opn_string (hu : P.underlying t = some .string) : Opn P t Kd.string (fun s => s.size + 1) (fun s => s.size ≤ maxLen) := by
 intro H enc w base spare held fuel cs x h
 obtain ⟨s, rfl, rfl, hs⟩ := DataW.trod_string hu h
 refine ⟨s, rfl, ?_, hs⟩
 simp only [Rows.uptoBulk, Array.length_toList]
 exact Nat.le_refl _
theorem bulk_all {H : Type} {α : Type} (wt : α → Nat) : ∀ (l : List α) (es : List (DataW H × List MemPlace)), l.length = es.length → (∀ i (h : i < l.length) (h' : i < es.length), wt l[i] ≤ Rows.uptoBulk es[i].1) → (l.map wt).sum ≤ Rows.uptoBulkAll (es.map (·.1))
 | [], _, _, _ => by simp
 | _ :: _, [], h, _ => by simp at h
 | a :: l, y :: es, h, hp => by
   have h0 := hp 0 (by simp) (by simp)
   have ih := bulk_all wt l es (by simpa using h) (fun i h1 h2 => by
    have := hp (i + 1) (by simp; omega) (by simp; omega)
    simpa using this)
   simp only [List.map_cons, List.sum_cons, Rows.uptoBulkAll]
   simp only [List.getElem_cons_zero] at h0
   omega
theorem opn_slice {α : Type} {d : Kd α} {wt : α → Nat} {Wf : α → Prop} (hu : P.underlying t = some (.slice e)) (hsz : P.cellsOf e = d.sz) (ho : Opn P e d wt Wf) :
 Opn P t (Kd.slice e d) (fun l => (l.map wt).sum + 1) (fun l => ∀ x ∈ l, Wf x) := by
 intro H enc w base spare held fuel cs x h
 rcases DataW.trod_slice hu h with ⟨rfl, rfl⟩ | ⟨a, len, cap, elems, rest, n, _, rfl, rfl, hb, hle, hc, hlen, hel, _, _⟩
 ·exact ⟨[], ⟨none, 0, rfl, Nat.le_refl _, ⟨rfl, by simp, fun h => by simp at h⟩⟩, by simp [Rows.uptoBulk], by simp⟩
 ·obtain ⟨L, hL, hp⟩ := list_of (fun i (y : α) => ∃ c : List Value, c.length = d.sz ∧ d.K w y c ∧ (∀ j u, c[j]? = some u → w.cell? (a.add (i * d.sz + j)) = some u) ∧ (∀ (h' : i < elems.length), wt y ≤ Rows.uptoBulk elems[i].1) ∧ Wf y) len (by
   intro i hi
   have h1 := hel i hi
   have hi2 : i < elems.length := by omega
   rw [List.getElem?_eq_getElem hi2, Option.bind_eq_some_iff] at h1
   obtain ⟨c, h2, h3⟩ := h1
   obtain ⟨y, hK, hw, hf⟩ := ho h3
   obtain ⟨hcl, h6⟩ := cells_at h2
   rw [hsz] at h2 hcl h6
   refine ⟨y, c, hcl, hK, fun j u hj => ?_, fun _ => hw, hf⟩
   have hjl : j < c.length := by
    rcases Nat.lt_or_ge j c.length with h7 | h7
    ·exact h7
    ·rw [List.getElem?_eq_none h7] at hj; cases hj
   have := h6 j (by omega)
   rw [add_add] at this
   exact this.trans hj)
  refine ⟨L, ⟨some a, cap, by rw [hL], by rw [hL]; exact hle, ⟨rfl, ?_, fun _ => ⟨a, rfl, fun j p hj => ?_⟩⟩⟩, ?_, fun y hy => ?_⟩
  ·unfold maxLen at hc; omega
  ·obtain ⟨hj1, rfl⟩ := List.getElem?_eq_some_iff.1 hj
   obtain ⟨c, g1, g2, g3, _⟩ := hp j hj1
   exact ⟨c, g1, g2, g3⟩
  ·have := bulk_all wt L elems (by omega) (fun i h1 h2 => by obtain ⟨_, _, _, _, g4, _⟩ := hp i h1; exact g4 h2)
   simp only [Rows.uptoBulk]
   omega
  ·obtain ⟨i, hi, rfl⟩ := List.getElem_of_mem hy
   obtain ⟨_, _, _, _, _, g⟩ := hp i hi
   exact g
end
end Go.Proofs.YtkcmghlhpbepcaaGreatDoorH

/- What came in: openings of the types that the statements of layer 7 take. -/
namespace Go.Proofs.YtkcmghlhpbepcaaGreatDoorH.W7
open Go.RowKit Go.Proofs Go.Proofs.YtkcmghlhpbepcaaGreatDoorH Go.Proofs.YtkcmghlhpbepcaaGreatDoorW.PrintWords
open Go.Proofs.YtkcmghlhpbepcaaGreatDoor (Rows.uptoBulk Rows.uptoBulkAll)
theorem opn9 : Opn Tryz.prog 9 Kd.string (fun s => s.size + 1) (fun s => s.size ≤ maxLen) := opn_string Tryz.underlying9
theorem opn41 : Opn Tryz.prog 41 (Kd.slice 9 Kd.string) (fun l => (l.map (fun s => s.size + 1)).sum + 1) (fun l => ∀ x ∈ l, x.size ≤ maxLen) := opn_slice Tryz.underlying41 (by kernel_rfl) opn9
end Go.Proofs.YtkcmghlhpbepcaaGreatDoorH.W7

/- An element that may stand within others may stand within the last ones of these alone: BuildBelow is true. -/
namespace Go.Proofs.YtkcmghlhpbepcaaGreatDoor
open Go.RowKit Go.Proofs Go.Proofs.YtkcmghlhpbepcaaGreatDoorH Go.Proofs.YtkcmghlhpbepcaaGreatDoorH.W7 Go.Proofs.YtkcmghlhpbepcaaGreatDoorW.PrintWords
set_option maxHeartbeats 1600000 in
set_option maxRecDepth 100000 in
theorem buildBelow_w (s : ByteArray) (hs : s.size ≤ maxLen) (A : Option Addr) (c : Nat) (l : List ByteArray) {W : World} (hr : Kd.string.C W A l.length l) (hc : l.length ≤ c) (wf : ∀ x ∈ l, x.size ≤ maxLen) (hS : Std W) :
 Calls Tryz.prog 9 #[.string s, .slice A l.length c] W fun e w' => e = .returned (.bool true) ∧ Below W.heap.size W w' := by
 obtain ⟨n, hmin⟩ : ∃ n : Nat, min (l.length : Int) 30 = (n : Int) := ⟨(min (l.length : Int) 30).toNat, by omega⟩
 have hn1 : n ≤ l.length ∧ n ≤ 30 := by omega
 have hmn : (if 30 < (l.length : Int) then 30 else (l.length : Int)) = (n : Int) := by split <;> omega
 obtain ⟨i0, hi0, _, hsz0, _⟩ := info_parts info9
 obtain ⟨hcut, hA, hC⟩ := print_take_of (P := Tryz.prog) Value.string (⟨#[]⟩ : ByteArray) 41 9 .i64 Tryz.underlying41 hi0 hsz0 A c l n (by omega) (by omega) hc
 have hR := Kd.C_of_reads (h1 := fun _ => rfl) (hA _ (Kd.reads_of_C hr))
 rw [Int.toNat_natCast] at hcut hR hC
 have hz : (l.take n).length = n := by rw [List.length_take]; omega
 generalize l.take n = m at *
 subst hz
 clear hA hr hi0 hsz0
 have HB := Below.refl W.heap.size W
 have hcall := Lib.hid (build_Nested.calls 1000 s A c m (nestB s m) W hR hC (nested_val s m 1000 (by omega)))
 go_enter Tryz.func9, Tryz.ntmps9
 go_wp2_with (go_at_call 27; ((with_reducible refine hcall.out.mono ?_); rintro e w1 ⟨rfl, hb⟩))
 go_loopw [6] (fun vi wr => ∃ (i : Nat), vi = .int .i64 i ∧ i ≤ m.length + 1 ∧ Below W.heap.size W wr) (fun vi _ => m.length + 1 - (intOf vi).toNat)
 case atStart => exact ⟨0, rfl, Nat.zero_le _, hb⟩
 case round =>
  obtain ⟨i, rfl, hi, HBr⟩ := hrel
  clear hcall hb
  by_cases hlt : i ≤ m.length
  ·have q7 : ((i : Int) ≤ (m.length : Int)) = True := eq_true (by omega)
   obtain ⟨i1, hi1, _, hsz1, _⟩ := info_parts info9
   obtain ⟨A2, hcut2, hA2, hC2⟩ := print_drop_of (P := Tryz.prog) Value.string (⟨#[]⟩ : ByteArray) 41 9 .i64 Tryz.underlying41 hi1 hsz1 A c m i (by omega) (by omega) hC
   have hR2 := Kd.C_of_reads (h1 := fun _ => rfl) (hA2 _ (Kd.reads_of_C hR))
   rw [Int.toNat_natCast] at hcut2 hR2 hC2
   clear hA2 hi1 hsz1
   have hnb := nest_below s m i hlt
   cases his : nestB s m with
   | false =>
     go_wp2
     exact ⟨⟨i + 1, rfl, by omega, HBr⟩, by simp [intOf]; omega⟩
   | true =>
     have hcall := Lib.hid (build_Nested.calls 1000 s A2 (c - i) (m.drop i) true wr (Kd.C_below hR2 HBr) hC2 (by rw [nested_val s _ 1000 (by omega), hnb his]))
     have hdl : (m.drop i).length = m.length - i := List.length_drop
     rw [hdl] at hcall hcut2
     clear hR2 hC2 hnb hdl
     go_wp2_with (go_at_call 27; ((with_reducible refine hcall.out.mono ?_); rintro e w2 ⟨rfl, hb2⟩))
     exact ⟨⟨i + 1, rfl, by omega, HBr.trans (hb2.mono HBr.size)⟩, by simp [intOf]; omega⟩
  ·have q7 : ((i : Int) ≤ (m.length : Int)) = False := eq_false (by omega)
   have hcall : Hid (Calls Tryz.prog 27 #[.string s, .slice none 0 0] wr fun e w' => e = .returned (.bool true) ∧ Below wr.heap.size wr w') := Lib.hid (build_Nested.calls 1000 s none 0 [] true wr (Kd.C_nil _ _) (Nat.le_refl _) (by rw [nested_val s _ 1000 (by omega), nest_nil]))
   go_wp2_with (first
    | (go_at_call 27; ((with_reducible refine hcall.out.mono ?_); rintro e w2 ⟨rfl, hb2⟩; have HB2 := HBr.trans (hb2.mono HBr.size)))
    | (go_at_call 23; ((with_reducible refine (fixed7_c _ (hS.below HB2)).mono ?_); rintro e w3 ⟨rfl, hb3⟩)))
   go_ret
   exact ⟨rfl, HB2.trans (hb3.mono HB2.size)⟩
end Go.Proofs.YtkcmghlhpbepcaaGreatDoor
