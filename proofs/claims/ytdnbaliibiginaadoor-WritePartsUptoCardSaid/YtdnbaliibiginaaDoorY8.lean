/- Lemmas and walks, part 8: QE8K, QRWrite, QE8V, QVal, QStd8. -/
import Derived.Test.YtdnbaliibiginaaDoorY7
import Derived.Test.YtdnbaliibiginaaDoorY6
import Derived.Laws.Strings2
import Derived.Test.YtdnbaliibiginaaDoorY4
import Derived.Test.YtdnbaliibiginaaDoorProg
import Derived.Shelf.Unicode.ValidAny
import Derived.Test.YtdnbaliibiginaaDoorY5
set_option linter.unusedVariables false
set_option linter.unusedSimpArgs false

/- Contract of rows.Kids: its loop over a function. Nothing that lay in memory turns. -/
namespace Go.Proofs.YtdnbaliibiginaaDoorH.W8
open Go.RowKit Go.Shelf Go.Proofs Go.Proofs.YtdnbaliibiginaaDoor
attribute [local go_sem] Oper.semAt_some
set_option maxHeartbeats 1000000 in
theorem kids_in (n : Nat) (A : Option Addr) (len c : Nat) (i : Int) (w : World) :
  CallsIn Fence.wide n Tryd.prog 75 #[.slice A len c, .int .i64 i] w fun e w' => e = .returned (.func (.func 100) #[] #[.pointer (some ⟨w.heap.size, 0, none⟩), .pointer (some ⟨w.heap.size + 1, 0, none⟩)]) ∧ w' = (w.alloc (.cells #[.slice A len c] 22)).alloc (.cells #[.int .i64 i] 3) := by
 refine callsIn_of_wp Tryd.func75 rfl trivial ?_ rfl
 simp only [Tryd.ntmps75, List.size_toArray, List.length_cons, List.length_nil, Nat.reduceAdd, Nat.reduceSub, Array.replicate_succ, Array.replicate_zero, List.push_toArray, List.append_toArray, List.nil_append, List.cons_append]
 gi_wp2
 go_ret
 exact ⟨rfl, rfl⟩
theorem kids_stops (n : Nat) (hn : 1 ≤ n) (B1 B2 : Nat) (A : Option Addr) (c : Nat) (xs : List Rw) (i : Int) (hi : i = -1 ∨ 0 ≤ i ∧ i < xs.length) (hcap : xs.length ≤ c) (w0 w : World) (hr : k35.C w0 A xs.length xs) (hB : Below w0.heap.size w0 w)
  (b1 : Boxed w B1 22 (.slice A xs.length c)) (b2 : Boxed w B2 3 (.int .i64 i)) :
  SeqStopsK Fence.wide n Tryd.prog 100 #[.pointer (some ⟨B1, 0, none⟩), .pointer (some ⟨B2, 0, none⟩)] (fun x : Nat => #[Value.int .i64 x]) (KpK w0.heap.size B1 (.slice A xs.length c)) (fun ys => ys = kidsF xs i) (fun pre => pre <+: kidsF xs i) xs.length w := fun l J Jx W hW hJ _ hY h0 =>
 kids1_in n hn l B1 B2 A c xs i hi hcap w0 hr J Jx hY W hJ (hB.trans (hW.mono hB.size)) ((hW.block B1 b1.lt).trans b1) (show W.cell? ⟨B2, 0, none⟩ = _ from (hW.cell (p := ⟨B2, 0, none⟩) b2.lt).trans b2.cell) h0
theorem int_info : (Tryd.prog.info? 3).map (fun i => (i.zero, i.size, i.bytes)) = some (some (.int .i64 0), 1, 8) := by kernel_rfl
def rows_Kids.f (l0 : List Rw) (a1 : Int) : Option (List Int) := if l0.length * 8 ≤ 140737488355328 then some ((kidsF l0 a1).map (fun x : Nat => (x : Int))) else none
theorem kids_len (xs : List Rw) (i : Int) (hi : i = -1 ∨ 0 ≤ i ∧ i < xs.length) : (kidsF xs i).length ≤ xs.length := by
 have h : ∀ (d t j : Nat), xs.length - j ≤ d → (kidsW xs t j).length ≤ xs.length - j := by
  intro d
  induction d with
  | zero =>
   intro t j hd
   by_cases e : j < t ∧ j < xs.length
   ·omega
   ·rw [kidsW, dif_neg e]
    exact Nat.zero_le _
  | succ d ih =>
   intro t j hd
   by_cases e : j < t ∧ j < xs.length
   ·rw [kidsW, dif_pos e, List.length_cons]
    have := ih t (endN xs j) (by have := endN_gt xs j; omega)
    have := endN_gt xs j
    omega
   ·rw [kidsW, dif_neg e]
    exact Nat.zero_le _
 rw [kidsF_at hi]
 exact Nat.le_trans (h _ _ _ (Nat.le_refl _)) (by omega)
set_option maxHeartbeats 2000000 in
set_option maxRecDepth 100000 in
theorem kidsM_in (n : Nat) (hn : 3 ≤ n) (A : Option Addr) (c : Nat) (xs : List Rw) (i : Int) (hi : i = -1 ∨ 0 ≤ i ∧ i < xs.length) (hcap : xs.length ≤ c) (hsz : xs.length * 8 ≤ 140737488355328) (w : World) (hr : k35.C w A xs.length xs) :
  CallsIn Fence.wide n Tryd.prog 49 #[.slice A xs.length c, .int .i64 i] w fun e w' => ∃ v, e = .returned v ∧ w'.ownsRow w.heap.size 3 1 v (kidsF xs i).length ((kidsF xs i).map (fun x : Nat => Value.int .i64 x)) ∧ Below w.heap.size w w' := by
 have hxl := hr.2.1
 have h1 : 1 ≤ n := by omega
 obtain ⟨i0, hi0, hz0, hz1, hz2⟩ := info_parts int_info
 have hfn : Fence.wide.fn 74 := trivial
 have hfn2 : Fence.wide.fn 75 := trivial
 refine callsIn_of_wp_marks Tryd.func49 rfl trivial ?_ rfl
 simp only [Tryd.ntmps49, List.size_toArray, List.length_cons, List.length_nil, Nat.reduceAdd, Nat.reduceSub, Array.replicate_succ, Array.replicate_zero, List.push_toArray, List.append_toArray, List.nil_append, List.cons_append]
 rcases hi with rfl | hi
 ·gi_wp2_with (gi_at_call 75; refine (kids_in _ _ _ _ _ _).mono ?_; rintro e w' ⟨rfl, rfl⟩)
  have bO : Boxed (w.alloc (.cells #[.slice none 0 0] 29)) w.heap.size 29 (.slice none 0 0) := Boxed.new w 29 (.slice none 0 0)
  have hBa : Below w.heap.size w (w.alloc (.cells #[.slice none 0 0] 29)) := (Below.refl _ w).alloc (Nat.le_refl _) _
  have bL : Boxed ((w.alloc (.cells #[.slice none 0 0] 29)).alloc (.cells #[.slice A xs.length c] 22)) (w.heap.size + 1) 22 (.slice A xs.length c) := by have h := Boxed.new (w.alloc (.cells #[.slice none 0 0] 29)) 22 (.slice A xs.length c); rw [World.size_alloc] at h; exact h
  have bI : Boxed (((w.alloc (.cells #[.slice none 0 0] 29)).alloc (.cells #[.slice A xs.length c] 22)).alloc (.cells #[.int .i64 (-1)] 3)) (w.heap.size + 1 + 1) 3 (.int .i64 (-1)) := by have h := Boxed.new ((w.alloc (.cells #[.slice none 0 0] 29)).alloc (.cells #[.slice A xs.length c] 22)) 3 (.int .i64 (-1)); rw [World.size_alloc, World.size_alloc] at h; exact h
  have hB0 : Below w.heap.size w (((w.alloc (.cells #[.slice none 0 0] 29)).alloc (.cells #[.slice A xs.length c] 22)).alloc (.cells #[.int .i64 (-1)] 3)) := (hBa.alloc hBa.size _).alloc (hBa.alloc hBa.size _).size _
  have bL3 := (bL.alloc (.cells #[.int .i64 (-1)] 3)).lt
  refine wpIn_rangeFunc_ownG rfl h1 (gf := 100) (lb := #[.pointer (some ⟨w.heap.size + 1, 0, none⟩), .pointer (some ⟨w.heap.size + 1 + 1, 0, none⟩)]) rfl trivial (enters_of Tryd.func100 (by kernel_rfl) rfl)
   (kids_stops (n - 1) (by omega) (w.heap.size + 1) (w.heap.size + 1 + 1) A c xs (-1) (.inl rfl) hcap w _ hr hB0 (bL.alloc _) bI) (fun h k => kpK_t h k) (kpK_b hB0.size bL3) (Below.refl _ _) (fun _ => rfl)
   (fun pre W => (∃ v, Boxed W w.heap.size 29 v ∧ W.ownsRow w.heap.size 3 1 v pre.length (pre.map (fun x : Nat => Value.int .i64 x)) ∧ True) ∧ Below w.heap.size w W)
   (fun _ _ _ => False)
   (OwnFrom.and (Own.from (holdsRow_own w.heap.size w.heap.size 29 3 1 (fun pre : List Nat => pre.length) (fun pre => pre.map (fun x : Nat => Value.int .i64 x)) (fun _ _ => True)) _) (ownFrom_below (Nat.le_refl _) hB0.size))
   (fun _ _ _ _ _ hs _ _ => hs.elim)
   ⟨⟨_, (bO.alloc _).alloc _, World.ownsRow_nil _ _ _ _, trivial⟩, hB0⟩
   ?a1 ?assign ?body ?done ?stop
  case assign =>
   intro l x W K hK
   gi_wp2
   exact hK
  case body =>
   rintro l pre x W ⟨⟨v, hv, hrow, _⟩, hB⟩ hlt
   have hc := hv.cell
   gi_wp2_with (gi_at_builtin; refine wpListIn_append_own _ rfl _ _ 29 rfl w.heap.size 3 i0 (.int .i64 0) 1 8 Tryd.underlying29 hi0 hz0 hz1 hz2 rfl (by decide) _ _ _ rfl (hrow.alloc _) ⟨W.heap.size, 0, none⟩ 1 1 [.int .i64 x] rfl rfl (cell_one_new _ _ _) (by simp [Value.oneCell']) (by unfold maxLen; omega) (by omega) (by have := hB.size; simp; omega) ?_; intro v' w1 hown' hgrow _; obtain ⟨g', cap', rfl⟩ := ownsRow_succ hown'; obtain ⟨hv1, hv2, hr2, hk2, hb2⟩ := hv.appended (by decide) hrow hB.size (Nat.le_refl _) hown' hgrow; have hc1 := hv1.cell; have hf1 := hv1.frozen)
   exact ⟨hk2.from _, ⟨hb2, fun e => ((e.alloc _).kept hgrow (e.not_row (by decide) hrow)).kept (grownBy_setCell' _ _ _) (by simp)⟩, ⟨⟨_, hv2, by simpa using hr2, trivial⟩, hB.trans hb2⟩⟩
  case done =>
   rintro D ys W hD rfl ⟨⟨v, hv, hrow, _⟩, hB⟩ hK
   have hc := hv.cell
   gi_wp2
   refine ⟨by simp, .inl ⟨_, _, rfl, run_takeDeferred hK, ?_⟩⟩
   exact ⟨_, results_tmp rfl _ _ _, v, rfl, ownsRow_putObj hrow _ hK rfl, hB.trans (belowK_b (w := w) (Nat.le_refl _) W D _ _ (Nat.le_trans hB0.size hD) hK rfl rfl)⟩
  case stop =>
   rintro D c pre W _ _ h _
   exact h.elim
 ·have hne : (i != -1) = true := by rw [bne_iff_ne]; omega
  have his := Lib.hid ((rows_is.calls A c xs i true w hr hcap (by unfold rows_is.f; rw [if_pos (by omega), decide_eq_true (by omega)])).mono (R' := fun e w' => e = .returned (.bool true) ∧ ∃ m, w' = w.drewN m) (fun e w' h => ⟨h.1, h.2.out⟩))
  have hid := Lib.hid hi
  clear hi
  gi_wp2_with (first | (gi_at_call 74; refine (callsIn_wide.2 his.out).mono ?_; rintro e w' ⟨rfl, m1, rfl⟩) | (gi_at_call 75; refine (kids_in _ _ _ _ _ _).mono ?_; rintro e w' ⟨rfl, rfl⟩))
  have bO : Boxed ((w.drewN m1).alloc (.cells #[.slice none 0 0] 29)) w.heap.size 29 (.slice none 0 0) := Boxed.new (w.drewN m1) 29 (.slice none 0 0)
  have hBa : Below w.heap.size w ((w.drewN m1).alloc (.cells #[.slice none 0 0] 29)) := (Go.Proofs.YtdnbaliibiginaaDoorW.PrintWords.pw_below_drewN (Below.refl _ w) m1).alloc (Nat.le_refl _) _
  have bL : Boxed (((w.drewN m1).alloc (.cells #[.slice none 0 0] 29)).alloc (.cells #[.slice A xs.length c] 22)) (w.heap.size + 1) 22 (.slice A xs.length c) := by have h := Boxed.new ((w.drewN m1).alloc (.cells #[.slice none 0 0] 29)) 22 (.slice A xs.length c); rw [World.size_alloc] at h; exact h
  have bI : Boxed ((((w.drewN m1).alloc (.cells #[.slice none 0 0] 29)).alloc (.cells #[.slice A xs.length c] 22)).alloc (.cells #[.int .i64 i] 3)) (w.heap.size + 1 + 1) 3 (.int .i64 i) := by have h := Boxed.new (((w.drewN m1).alloc (.cells #[.slice none 0 0] 29)).alloc (.cells #[.slice A xs.length c] 22)) 3 (.int .i64 i); rw [World.size_alloc, World.size_alloc] at h; exact h
  have hB0 : Below w.heap.size w ((((w.drewN m1).alloc (.cells #[.slice none 0 0] 29)).alloc (.cells #[.slice A xs.length c] 22)).alloc (.cells #[.int .i64 i] 3)) := (hBa.alloc hBa.size _).alloc (hBa.alloc hBa.size _).size _
  have bL3 := (bL.alloc (.cells #[.int .i64 i] 3)).lt
  refine wpIn_rangeFunc_ownG rfl h1 (gf := 100) (lb := #[.pointer (some ⟨w.heap.size + 1, 0, none⟩), .pointer (some ⟨w.heap.size + 1 + 1, 0, none⟩)]) rfl trivial (enters_of Tryd.func100 (by kernel_rfl) rfl)
   (kids_stops (n - 1) (by omega) (w.heap.size + 1) (w.heap.size + 1 + 1) A c xs i (.inr hid.out) hcap w _ hr hB0 (bL.alloc _) bI) (fun h k => kpK_t h k) (kpK_b hB0.size bL3) (Below.refl _ _) (fun _ => rfl)
   (fun pre W => (∃ v, Boxed W w.heap.size 29 v ∧ W.ownsRow w.heap.size 3 1 v pre.length (pre.map (fun x : Nat => Value.int .i64 x)) ∧ True) ∧ Below w.heap.size w W)
   (fun _ _ _ => False)
   (OwnFrom.and (Own.from (holdsRow_own w.heap.size w.heap.size 29 3 1 (fun pre : List Nat => pre.length) (fun pre => pre.map (fun x : Nat => Value.int .i64 x)) (fun _ _ => True)) _) (ownFrom_below (Nat.le_refl _) hB0.size))
   (fun _ _ _ _ _ hs _ _ => hs.elim)
   ⟨⟨_, (bO.alloc _).alloc _, World.ownsRow_nil _ _ _ _, trivial⟩, hB0⟩
   ?a2 ?assign ?body ?done ?stop
  case assign =>
   intro l x W K hK
   gi_wp2
   exact hK
  case body =>
   rintro l pre x W ⟨⟨v, hv, hrow, _⟩, hB⟩ hlt
   have hc := hv.cell
   gi_wp2_with (gi_at_builtin; refine wpListIn_append_own _ rfl _ _ 29 rfl w.heap.size 3 i0 (.int .i64 0) 1 8 Tryd.underlying29 hi0 hz0 hz1 hz2 rfl (by decide) _ _ _ rfl (hrow.alloc _) ⟨W.heap.size, 0, none⟩ 1 1 [.int .i64 x] rfl rfl (cell_one_new _ _ _) (by simp [Value.oneCell']) (by unfold maxLen; omega) (by omega) (by have := hB.size; simp; omega) ?_; intro v' w1 hown' hgrow _; obtain ⟨g', cap', rfl⟩ := ownsRow_succ hown'; obtain ⟨hv1, hv2, hr2, hk2, hb2⟩ := hv.appended (by decide) hrow hB.size (Nat.le_refl _) hown' hgrow; have hc1 := hv1.cell; have hf1 := hv1.frozen)
   exact ⟨hk2.from _, ⟨hb2, fun e => ((e.alloc _).kept hgrow (e.not_row (by decide) hrow)).kept (grownBy_setCell' _ _ _) (by simp)⟩, ⟨⟨_, hv2, by simpa using hr2, trivial⟩, hB.trans hb2⟩⟩
  case done =>
   rintro D ys W hD rfl ⟨⟨v, hv, hrow, _⟩, hB⟩ hK
   have hc := hv.cell
   gi_wp2
   refine ⟨by simp, .inl ⟨_, _, rfl, run_takeDeferred hK, ?_⟩⟩
   exact ⟨_, results_tmp rfl _ _ _, v, rfl, ownsRow_putObj hrow _ hK rfl, hB.trans (belowK_b (w := w) (Nat.le_refl _) W D _ _ (Nat.le_trans hB0.size hD) hK rfl rfl)⟩
  case stop =>
   rintro D c pre W _ _ h _
   exact h.elim
set_option maxHeartbeats 2000000 in
set_option maxRecDepth 100000 in
theorem kidsO_in (n : Nat) (hn : 1 ≤ n) (A : Option Addr) (c : Nat) (xs : List Rw) (i : Int) (hi : ¬ (i = -1 ∨ 0 ≤ i ∧ i < xs.length)) (hcap : xs.length ≤ c) (w : World) (hr : k35.C w A xs.length xs) :
  CallsIn Fence.wide n Tryd.prog 49 #[.slice A xs.length c, .int .i64 i] w fun e w' => e = .returned (.slice none 0 0) ∧ Below w.heap.size w w' := by
 have hfn : Fence.wide.fn 74 := trivial
 have hne : (i != -1) = true := by rw [bne_iff_ne]; omega
 have his := Lib.hid ((rows_is.calls A c xs i false w hr hcap (by unfold rows_is.f; split; rw [decide_eq_false (by omega)]; rfl)).mono (R' := fun e w' => e = .returned (.bool false) ∧ ∃ m, w' = w.drewN m) (fun e w' h => ⟨h.1, h.2.out⟩))
 clear hi
 refine callsIn_of_wp_marks Tryd.func49 rfl trivial ?_ rfl
 simp only [Tryd.ntmps49, List.size_toArray, List.length_cons, List.length_nil, Nat.reduceAdd, Nat.reduceSub, Array.replicate_succ, Array.replicate_zero, List.push_toArray, List.append_toArray, List.nil_append, List.cons_append]
 have his2 := Lib.hid ((callsIn_wide (n := n - 1)).2 his.out)
 gi_wp2_with (gi_at_call 74; refine his2.out.mono ?_; rintro e w' ⟨rfl, m1, rfl⟩)
 exact ⟨_, results_tmp rfl _ _ _, rfl, Go.Proofs.YtdnbaliibiginaaDoorW.PrintWords.pw_below_drewN (Below.refl _ w) m1⟩
theorem rows_Kids.calls (A0 : Option Addr) (c0 : Nat) (l0 : List Rw) (a1 : Int) (r : List Int) (w : World) (hr0 : k35.C w A0 l0.length l0) (hc0 : l0.length ≤ c0) (h : rows_Kids.f l0 a1 = some r) :
  Calls Tryd.prog 49 #[.slice A0 l0.length c0, .int .i64 a1] w fun e w' => ∃ v0_ : Value, e = .returned (v0_) ∧ (Go.Proofs.YtdnbaliibiginaaDoorW.PrintWords.Kd.int .i64).R 3 w' w.heap.size (fun _ => True) v0_ r ∧ Below w.heap.size w w' := by
 unfold rows_Kids.f at h
 by_cases hs : l0.length * 8 ≤ 140737488355328
 ·rw [if_pos hs] at h
  obtain rfl := Option.some.inj h
  by_cases hi : a1 = -1 ∨ 0 ≤ a1 ∧ a1 < l0.length
  ·refine ((callsIn_wide (n := 3)).1 (kidsM_in 3 (Nat.le_refl _) A0 c0 l0 a1 hi hc0 hs w hr0)).mono ?_
   rintro e w' ⟨v, rfl, ho, hb⟩
   refine ⟨v, rfl, Go.Proofs.YtdnbaliibiginaaDoorW.PrintWords.Kd.R_of_own ?_ (fun _ _ => trivial), hb⟩
   unfold Go.Proofs.YtdnbaliibiginaaDoorW.PrintWords.encs
   rw [List.length_map, List.map_map]
   exact ho
  ·refine ((callsIn_wide (n := 3)).1 (kidsO_in 3 (by omega) A0 c0 l0 a1 hi hc0 w hr0)).mono ?_
   rintro e w' ⟨rfl, hb⟩
   have hn : kidsF l0 a1 = [] := by
    unfold kidsF
    rw [if_neg (fun e => hi (.inl e)), if_neg (fun e => hi (.inr e))]
   rw [hn]
   exact ⟨_, rfl, Go.Proofs.YtdnbaliibiginaaDoorW.PrintWords.Kd.R_nil _ _ _ _ _, hb⟩
 ·rw [if_neg hs] at h
  cases h
end Go.Proofs.YtdnbaliibiginaaDoorH.W8

/- Contract of boltingref03.Write: a text with what may not stand so written out, as refs has it. Nothing that lay in memory turns. -/
namespace Go.Proofs.YtdnbaliibiginaaDoor
open Go.RowKit Go.Proofs
end Go.Proofs.YtdnbaliibiginaaDoor

/- refs.Value, refs.Text and the document's Write, given to the printed walk. -/
namespace Go.Proofs.YtdnbaliibiginaaDoorH.W8
open Go.RowKit Go.Proofs Go.Proofs.YtdnbaliibiginaaDoor
def wrB (b : Bool) (a : ByteArray) : Option ByteArray := if a.data.toList.length ≤ 1000000000 then some ⟨(wrL b a.data.toList).toArray⟩ else none
theorem wrB_some {b : Bool} {a r : ByteArray} (h : wrB b a = some r) : ∃ l : List UInt8, a = ⟨l.toArray⟩ ∧ l.length ≤ 1000000000 ∧ r = ⟨(wrL b l).toArray⟩ := by
 unfold wrB at h
 split at h
 ·rename_i hl
  exact ⟨a.data.toList, by simp, hl, (Option.some.inj h).symm⟩
 ·cases h
def refs_Value.f (a0 : ByteArray) : Option ByteArray := wrB true a0
theorem refs_Value.calls (a0 r : ByteArray) (w : World) (h : refs_Value.f a0 = some r) :
  Calls Tryd.prog 73 #[.string a0] w fun e w' => e = .returned (.string r) ∧ Below w.heap.size w w' := by
 obtain ⟨l, rfl, hl, rfl⟩ := wrB_some h
 exact value_c l hl w
def refs_Text.f (a0 : ByteArray) : Option ByteArray := wrB false a0
theorem refs_Text.calls (a0 r : ByteArray) (w : World) (h : refs_Text.f a0 = some r) :
  Calls Tryd.prog 44 #[.string a0] w fun e w' => e = .returned (.string r) ∧ Below w.heap.size w w' := by
 obtain ⟨l, rfl, hl, rfl⟩ := wrB_some h
 exact text_c l hl w
def boltingref03_Write.f (a0 : ByteArray) (a1 : Bool) : Option ByteArray := wrB a1 a0
end Go.Proofs.YtdnbaliibiginaaDoorH.W8

/- The shelf's contract of utf8.ValidString, laid over this dump. -/
namespace Go.Proofs.YtdnbaliibiginaaDoor
open Go.RowKit Go.Proofs
def valid_ren : Go.Shelf.Ren := ⟨fun | 196 => 80 | 259 => 103 | n => n, fun | 0 => 0 | 3 => 3 | 4 => 4 | 5 => 5 | 9 => 9 | 12 => 12 | 46 => 104 | 53 => 119 | 119 => 100 | 138 => 102 | 139 => 103 | n => n, fun | 3 => 0 | 4 => 1 | n => n⟩
theorem valid_lays : Go.Proofs.Lays.n196 Tryd.prog valid_ren := {
 mixed := by kernel_rfl
 f196 := Tryd.func80.trans (congrArg some (by kernel_rfl))
 f259 := Tryd.func103.trans (congrArg some (by kernel_rfl))
 t0 := Tryd.underlying0
 a0 := Tryd.isAgg0
 z0 := Tryd.sizeOf0
 v0 := Tryd.zeroValue0
 t3 := Tryd.underlying3
 a3 := Tryd.isAgg3
 z3 := Tryd.sizeOf3
 v3 := Tryd.zeroValue3
 t4 := Tryd.underlying4
 a4 := Tryd.isAgg4
 z4 := Tryd.sizeOf4
 v4 := Tryd.zeroValue4
 t5 := Tryd.underlying5
 a5 := Tryd.isAgg5
 z5 := Tryd.sizeOf5
 v5 := Tryd.zeroValue5
 t9 := Tryd.underlying9
 a9 := Tryd.isAgg9
 z9 := Tryd.sizeOf9
 v9 := Tryd.zeroValue9
 t12 := Tryd.underlying12
 a12 := Tryd.isAgg12
 z12 := Tryd.sizeOf12
 v12 := Tryd.zeroValue12
 t46 := Tryd.underlying104
 a46 := Tryd.isAgg104
 z46 := Tryd.sizeOf104
 v46 := Tryd.zeroValue104
 t53 := Tryd.underlying119
 a53 := Tryd.isAgg119
 z53 := Tryd.sizeOf119
 v53 := Tryd.zeroValue119
 t119 := Tryd.underlying100
 a119 := Tryd.isAgg100
 z119 := Tryd.sizeOf100
 t138 := Tryd.underlying102
 a138 := Tryd.isAgg102
 z138 := Tryd.sizeOf102
 v138 := Tryd.zeroValue102
 t139 := Tryd.underlying103
 a139 := Tryd.isAgg103
 z139 := Tryd.sizeOf103
 v139 := Tryd.zeroValue103
 g3 := by kernel_rfl
 g4 := by kernel_rfl }
theorem valid_c (s : ByteArray) (w : World) (hs : s.size ≤ 9223372036854775807) (hT : Lib.Utf8Tabs 0 1 w) :
  Calls Tryd.prog 80 #[.string s] w fun e w' => e = .returned (.bool (Lib.validD s.data.toList)) ∧ Below w.heap.size w w' := Any.utf8_ValidString valid_lays s w hs hT
end Go.Proofs.YtdnbaliibiginaaDoor

/- What the walks of layer 8 ask of the package-level variables of Go's library; it stands while nothing that lay in memory turns. -/
namespace Go.Proofs.YtdnbaliibiginaaDoor
open Go.RowKit Go.Proofs
structure Std8 (w : World) : Prop where
 maxLen : ∃ m, w.cell? ⟨2, 0, none⟩ = some (.int .i64 m)
 tabs : Lib.Utf8Tabs 0 1 w
theorem Std8.below {w w' : World} (h : Std8 w) (hb : Below w.heap.size w w') : Std8 w' := by
 obtain ⟨⟨m, hm⟩, h1, h2⟩ := h
 exact ⟨⟨m, cell_keep hm hb⟩, fun c hc => cell_keep (h1 c hc) hb, fun i hi => ⟨cell_keep (h2 i hi).1 hb, cell_keep (h2 i hi).2 hb⟩⟩
end Go.Proofs.YtdnbaliibiginaaDoor
