/- Lemmas and walks, part 28: QW8G, QE8J, QW8D, QW8P, QKOpn. -/
import Derived.Test.YtdnbaliibiginaaDoorU18
import Derived.Test.YtdnbaliibiginaaDoorU19
import Derived.Test.YtdnbaliibiginaaDoorU20
import Derived.Test.YtdnbaliibiginaaDoorU22
import Derived.Test.YtdnbaliibiginaaDoorU27
import Derived.Deep.RegionHeld3
import Derived.Test.YtdnbaliibiginaaDoorU11
import Derived.Test.YtdnbaliibiginaaDoorU8
import Derived.Test.YtdnbaliibiginaaDoorRows
import Derived.Test.YtdnbaliibiginaaDoorU1
import Derived.WalkKit
import Derived.ProofKit
import Derived.OpenShut
import Derived.ChangeArms
set_option linter.unusedVariables false
set_option linter.unusedSimpArgs false

/- Legal rows, in numbers and lists alone, part 1: rows by themselves, what an element has, and texts side by side. -/
namespace Go.Proofs.YtdnbaliibiginaaDoorH.W8
open Go.RowKit Go.Proofs Go.Proofs.YtdnbaliibiginaaDoorH Go.Proofs.YtdnbaliibiginaaDoor Go.Proofs.YtdnbaliibiginaaDoorW.PrintWords
noncomputable def evB (f : Nat → Option Bool) : Bool := open Classical in if h : ∃ b, ∃ n, ∀ k, n ≤ k → f k = some b then h.choose else false
theorem evB_of {f : Nat → Option Bool} {n : Nat} (h : ∃ b, ∀ k, n ≤ k → f k = some b) : ∀ k, n ≤ k → f k = some (evB f) := by
 obtain ⟨b, hb⟩ := h
 have h2 : ∃ b, ∃ n, ∀ k, n ≤ k → f k = some b := ⟨b, n, hb⟩
 obtain ⟨m, hm⟩ := h2.choose_spec
 intro k hk
 have e : evB f = h2.choose := by unfold evB; rw [dif_pos h2]
 have a := hb (max n m) (Nat.le_max_left _ _)
 rw [hm (max n m) (Nat.le_max_right _ _)] at a
 rw [hb k hk, e, Option.some.inj a]
def cleanB (s : ByteArray) : Bool := Lib.validD s.data.toList && !Lib.containsAny s.data.toList nulcr.data.toList
theorem clean_f (s : ByteArray) (h : s.size < 1000000000) : write_clean.f s = some (cleanB s) := by
 unfold write_clean.f chars_Right.f cleanB
 rw [if_pos (by omega), Option.bind_some]
 cases Lib.validD s.data.toList with
 | false => rw [if_neg (by decide)]; rfl
 | true =>
  rw [if_pos rfl]
  unfold strings_ContainsAny.f
  rw [if_pos ⟨rfl, by omega⟩, Option.bind_some]
  rfl
def commB (s : ByteArray) : Bool := cleanB s && !Lib.contains s.data.toList [45, 45, 62] && !Lib.contains s.data.toList [45, 45, 33, 62] && !Lib.hasPrefix s.data.toList [62] && !Lib.hasPrefix s.data.toList [45, 62]
theorem comment_f (s : ByteArray) (h : s.size < 1000000000) : write_comment.f s = some (commB s) := by
 unfold write_comment.f commB
 rw [clean_f s h, Option.bind_some]
 cases cleanB s with
 | false => rw [if_neg (by decide)]; rfl
 | true =>
  rw [if_pos rfl]
  unfold strings_Contains.f strings_HasPrefix.f
  rw [if_pos (by omega), Option.bind_some]
  cases h1 : Lib.contains s.data.toList [45, 45, 62] with
  | true => rw [if_pos rfl]; rfl
  | false =>
   rw [if_neg (by decide), if_pos (by omega), Option.bind_some]
   cases h2 : Lib.contains s.data.toList [45, 45, 33, 62] with
   | true => rw [if_pos rfl]; rfl
   | false =>
    rw [if_neg (by decide), Option.bind_some]
    cases h3 : Lib.hasPrefix s.data.toList [62] with
    | true => rw [if_pos rfl]; rfl
    | false =>
     rw [if_neg (by decide), Option.bind_some]
     rfl
structure SzR (M : Nat) (x : Rw) : Prop where
 name : x.f2.size ≤ M
 data : x.f3.size ≤ M
 atts : ∀ a ∈ x.f4, a.f0.size ≤ M ∧ a.f1.size ≤ M
 few : x.f4.length ≤ 6
theorem elem_l0 (l : List S45) (M : Nat) (hM : M < 1000000000) (hl : l.length ≤ 6) (ha : ∀ a ∈ l, a.f0.size ≤ M ∧ a.f1.size ≤ M) : ∀ d i : Nat, i + d = l.length → ∃ b, ∀ k, 200 * M + 2 + d ≤ k → write_element.l0 k l (l.length : Int) i = some b := by
 intro d
 induction d with
 | zero =>
  intro i hi
  refine ⟨true, fun k hk => ?_⟩
  obtain ⟨k, rfl⟩ : ∃ m, k = m + 1 := ⟨k - 1, by omega⟩
  simp only [write_element.l0]
  rw [if_neg (by omega)]
 | succ d ih =>
  intro i hi
  have hlt : i < l.length := by omega
  obtain ⟨b, hb⟩ := ih (i + 1) (by omega)
  have hm := ha l[i] (List.getElem_mem hlt)
  refine ⟨attrB l[i].f0 && cleanB l[i].f0 && cleanB l[i].f1 && b, fun k hk => ?_⟩
  obtain ⟨k, rfl⟩ : ∃ m, k = m + 1 := ⟨k - 1, by omega⟩
  simp only [write_element.l0]
  rw [if_pos (by omega), if_pos (by omega), if_pos (by omega), rd45_at l i hlt, nattr_f _ (by omega) k (by omega), Option.bind_some]
  cases attrB l[i].f0 with
  | false => rw [if_neg (by decide)]; rfl
  | true =>
   rw [if_pos rfl, clean_f _ (by omega), Option.bind_some]
   cases cleanB l[i].f0 with
   | false => rw [if_neg (by decide)]; rfl
   | true =>
    rw [if_pos rfl, clean_f _ (by omega), Option.bind_some]
    cases cleanB l[i].f1 with
    | false => rw [if_neg (by decide)]; rfl
    | true => rw [if_pos rfl, wN (by omega), hb k (by omega)]; rfl
theorem elem_ev (x : Rw) (M : Nat) (hM : M < 1000000000) (hx : SzR M x) (ar : List ByteArray) : ∃ b, ∀ k, 200 * M + 300 ≤ k → write_element.f k x.f0 x.f1 x.f2 x.f3 x.f4 ar = some b := by
 have hn := hx.name
 have hj : ∀ c, ∃ b, ∀ k, 200 * M + 300 ≤ k → write_element.j0 k c x.f0 x.f1 x.f2 x.f3 x.f4 = some b := by
  intro c
  obtain ⟨b, hb⟩ := elem_l0 x.f4 M hM hx.few hx.atts x.f4.length 0 (by omega)
  have := hx.few
  refine ⟨!c && b, fun k hk => ?_⟩
  obtain ⟨k, rfl⟩ : ∃ m, k = m + 1 := ⟨k - 1, by omega⟩
  simp only [write_element.j0]
  cases c with
  | true => rw [if_pos rfl]; rfl
  | false => rw [if_neg (by decide)]; exact hb k (by omega)
 unfold write_element.f
 refine bind_ev ⟨_, fun k hk => nright_f _ (by omega) k (by omega)⟩ fun b => ite_ev (bind_ev ⟨_, fun k hk => gone_f _ k (by omega)⟩ fun b => ite_ev (hj _) (bind_ev ⟨_, fun k hk => clean_f _ (by omega)⟩ fun b => ite_ev (bind_ev ⟨_, fun k hk => nested_f _ _ k (by omega)⟩ fun b => hj _) (hj _))) (hj _)
noncomputable def elemB (x : Rw) (ar : List ByteArray) : Bool := evB fun k => write_element.f k x.f0 x.f1 x.f2 x.f3 x.f4 ar
theorem elem_f (x : Rw) (M : Nat) (hM : M < 1000000000) (hx : SzR M x) (ar : List ByteArray) (k : Nat) (hk : 200 * M + 300 ≤ k) : write_element.f k x.f0 x.f1 x.f2 x.f3 x.f4 ar = some (elemB x ar) := evB_of (elem_ev x M hM hx ar) k hk
theorem rows_loops (y0 y1 : Int) (y2 y3 : ByteArray) (l : List S45) (hn : l.length ≤ 6) : ∀ k : Nat,
  (∀ d i : Nat, i + d = l.length → d * 9 + 1 ≤ k → ∃ b, rows_row.l0 k l (l.length : Int) i y0 y1 y2 y3 l = some b) ∧
  (∀ d e i j : Nat, ∀ (a0 a1 : ByteArray), i + d + 1 = l.length → j + e = i → e + 2 + d * 9 ≤ k → ∃ b, rows_row.l1 k l (l.length : Int) i (l.take i) (i : Int) j y0 y1 y2 y3 l a0 a1 = some b) := by
 intro k
 induction k with
 | zero => exact ⟨fun d i _ h => by omega, fun d e i j a0 a1 _ _ h => by omega⟩
 | succ k ih =>
  refine ⟨?_, ?_⟩
  ·intro d i hd hk
   cases d with
   | zero =>
    simp only [rows_row.l0]
    rw [if_neg (by omega)]
    exact ⟨_, rfl⟩
   | succ d =>
    simp only [rows_row.l0]
    rw [if_pos (by omega), if_pos (by omega), if_pos (by omega), if_pos (by omega), Option.bind_some]
    have h1 : (l.take ((i : Int) : Int).toNat) = l.take i := by rw [Int.toNat_natCast]
    rw [h1]
    have h2 : ((l.take i).length : Int) = (i : Int) := by rw [List.length_take]; omega
    rw [h2]
    exact ih.2 d i i 0 _ _ (by omega) (by omega) (by omega)
  ·intro d e i j a0 a1 hd he hk
   cases e with
   | zero =>
    simp only [rows_row.l1]
    rw [if_neg (by omega), wN (by omega)]
    exact ih.1 d (i + 1) (by omega) (by omega)
   | succ e =>
    simp only [rows_row.l1]
    rw [if_pos (by omega), if_pos (by omega), if_pos (by rw [List.length_take]; omega), wN (by omega)]
    split
    ·exact ⟨_, rfl⟩
    ·exact ih.2 d e i (j + 1) a0 a1 (by omega) (by omega) (by omega)
theorem rows_j1 (x : Rw) (hn : x.f4.length ≤ 6) (c : Bool) (k : Nat) (hk : 60 ≤ k) : ∃ b, rows_row.j1 k c x.f0 x.f1 x.f2 x.f3 x.f4 = some b ∧ (b = true → c = false) := by
 obtain ⟨k, rfl⟩ : ∃ m, k = m + 1 := ⟨k - 1, by omega⟩
 simp only [rows_row.j1]
 cases c with
 | true => rw [if_pos rfl]; exact ⟨false, rfl, by decide⟩
 | false =>
  rw [if_neg (by decide)]
  obtain ⟨b, hb⟩ := (rows_loops x.f0 x.f1 x.f2 x.f3 x.f4 hn k).1 x.f4.length 0 (by omega) (by omega)
  exact ⟨b, hb, fun _ => rfl⟩
theorem rows_one (x : Rw) (hn : x.f4.length ≤ 6) (k : Nat) (hk : 70 ≤ k) : ∃ b, rows_row.f k x.f0 x.f1 x.f2 x.f3 x.f4 = some b ∧ (b = true → x.f1 = 0 ∨ x.f1 = 1 ∨ x.f1 = 2) := by
 obtain ⟨k, rfl⟩ : ∃ m, k = m + 1 := ⟨k - 1, by omega⟩
 unfold rows_row.f
 simp only [rows_row.j0]
 by_cases h1 : x.f1 = 1
 ·simp only [if_pos h1, if_true]
  split
  ·exact ⟨_, rfl, fun _ => .inr (.inl h1)⟩
  ·exact ⟨_, rfl, fun _ => .inr (.inl h1)⟩
 ·rw [if_neg h1]
  by_cases h2 : x.f1 = 2
  ·rw [if_pos (by simpa using h2)]
   split
   ·exact ⟨_, rfl, fun _ => .inr (.inr h2)⟩
   ·exact ⟨_, rfl, fun _ => .inr (.inr h2)⟩
  ·rw [if_neg (by simpa using h2)]
   by_cases h0 : x.f1 = 0
   ·rw [if_pos h0]
    split
    ·obtain ⟨b, hb, _⟩ := rows_j1 x hn true k (by omega)
     exact ⟨b, hb, fun _ => .inl h0⟩
    ·obtain ⟨b, hb, _⟩ := rows_j1 x hn (x.f3.toList != []) k (by omega)
     exact ⟨b, hb, fun _ => .inl h0⟩
   ·rw [if_neg h0]
    obtain ⟨b, hb, hc⟩ := rows_j1 x hn true k (by omega)
    exact ⟨b, hb, fun e => by have := hc e; cases this⟩
theorem mono_up {α : Type} {f : Nat → Option α} (hm : ∀ k, LeO (f k) (f (k + 1))) {n : Nat} {b : α} (h : f n = some b) : ∀ k, n ≤ k → f k = some b := by
 intro k hk
 induction k with
 | zero => rw [show 0 = n from by omega]; exact h
 | succ k ih =>
  by_cases e : n = k + 1
  ·rw [← e]; exact h
  ·exact hm k b (ih (by omega))
noncomputable def rowB (x : Rw) : Bool := evB fun k => rows_row.f k x.f0 x.f1 x.f2 x.f3 x.f4
theorem row_all (x : Rw) (hn : x.f4.length ≤ 6) : (∀ k, 70 ≤ k → rows_row.f k x.f0 x.f1 x.f2 x.f3 x.f4 = some (rowB x)) ∧ (rowB x = true → x.f1 = 0 ∨ x.f1 = 1 ∨ x.f1 = 2) := by
 obtain ⟨b, hb, hk⟩ := rows_one x hn 70 (Nat.le_refl _)
 have h1 := mono_up (f := fun k => rows_row.f k x.f0 x.f1 x.f2 x.f3 x.f4) (rows_row.mono x.f0 x.f1 x.f2 x.f3 x.f4) hb
 have h2 := evB_of (n := 70) ⟨b, h1⟩
 refine ⟨h2, fun e => hk ?_⟩
 have := h2 70 (Nat.le_refl _)
 rw [show rowB x = evB fun k => rows_row.f k x.f0 x.f1 x.f2 x.f3 x.f4 from rfl] at e
 rw [e] at this
 exact Option.some.inj (hb.symm.trans this)
noncomputable def rightGo : List Rw → Int → Bool
 | [], _ => true
 | x :: r, dp => if x.f0 < 0 ∨ dp < x.f0 then false else if rowB x then rightGo r (if x.f1 = 0 then x.f0 + 1 else x.f0) else false
theorem rightg_l0 (xs : List Rw) (hl : xs.length < 100000) (ha : ∀ x ∈ xs, x.f4.length ≤ 6) : ∀ (d i k : Nat) (dp : Int), i + d = xs.length → 2 * d + 100 ≤ k → 0 ≤ dp → dp ≤ i → rows_right.l0 k dp xs (xs.length : Int) i = some (rightGo (xs.drop i) dp) := by
 intro d
 induction d with
 | zero =>
  intro i k dp hi hk h0 hdp
  obtain ⟨k, rfl⟩ : ∃ m, k = m + 1 := ⟨k - 1, by omega⟩
  simp only [rows_right.l0]
  rw [if_neg (by omega), List.drop_of_length_le (by omega)]
  rfl
 | succ d ih =>
  intro i k dp hi hk h0 hdp
  obtain ⟨k, rfl⟩ : ∃ m, k = m + 1 + 1 := ⟨k - 2, by omega⟩
  have hlt : i < xs.length := by omega
  rw [List.drop_eq_getElem_cons hlt]
  simp only [rows_right.l0, rightGo]
  rw [if_pos (by omega), if_pos (by omega), if_pos (by omega), rd35_at xs i hlt]
  have hr := (row_all xs[i] (ha _ (List.getElem_mem hlt))).1
  by_cases h1 : xs[i].f0 < 0
  ·rw [if_pos h1, if_pos (.inl h1)]
   simp only [rows_right.j1, if_true]
  ·rw [if_neg h1]
   by_cases h2 : xs[i].f0 > dp
   ·rw [if_pos h2, if_pos (.inr h2)]
    simp only [rows_right.j1, if_true]
   ·rw [if_neg h2, if_neg (by omega), hr (k + 1) (by omega), Option.bind_some]
    simp only [rows_right.j1]
    cases rowB xs[i] with
    | false => rw [if_pos (by decide), if_neg (by decide)]
    | true =>
     rw [if_neg (by decide), if_pos rfl]
     by_cases h3 : xs[i].f1 = 0
     ·rw [if_pos h3, if_pos h3, wN (by omega), w64 (by omega) (by omega)]
      exact ih (i + 1) k _ (by omega) (by omega) (by omega) (by omega)
     ·rw [if_neg h3, if_neg h3, wN (by omega)]
      exact ih (i + 1) k _ (by omega) (by omega) (by omega) (by omega)
theorem rightg_f (xs : List Rw) (hl : xs.length < 100000) (ha : ∀ x ∈ xs, x.f4.length ≤ 6) (k : Nat) (hk : 2 * xs.length + 100 ≤ k) : rows_right.f k xs = some (rightGo xs 0) := by
 unfold rows_right.f
 have := rightg_l0 xs hl ha xs.length 0 k 0 (by omega) hk (by omega) (by omega)
 rwa [List.drop_zero] at this
theorem rightGo_ok (xs : List Rw) (ha : ∀ x ∈ xs, x.f4.length ≤ 6) : ∀ (d i : Nat) (dp : Int), i + d = xs.length → 0 ≤ dp → dp ≤ i → (0 < i → dp ≤ depthAt xs (i - 1) + 1) → rightGo (xs.drop i) dp = true → ∀ j, i ≤ j → j < xs.length → OkAt xs j := by
 intro d
 induction d with
 | zero => intro i dp hi _ _ _ _ j h1 h2; omega
 | succ d ih =>
  intro i dp hi h0 hdp hs h j hij hj
  have hlt : i < xs.length := by omega
  rw [List.drop_eq_getElem_cons hlt] at h
  simp only [rightGo] at h
  by_cases c : xs[i].f0 < 0 ∨ dp < xs[i].f0
  ·rw [if_pos c] at h; cases h
  ·rw [if_neg c] at h
   by_cases c2 : rowB xs[i] = true
   ·rw [if_pos c2] at h
    have hk := (row_all xs[i] (ha _ (List.getElem_mem hlt))).2 c2
    have hd := depth_at xs i hlt
    have ok : OkAt xs i := by
     refine ⟨by rw [rd35_at xs i hlt]; exact hk, by omega, by omega, fun h => ?_⟩
     have := hs h
     omega
    by_cases e : j = i
    ·subst e; exact ok
    ·refine ih (i + 1) _ (by omega) ?_ ?_ ?_ h j (by omega) hj
     ·split <;> omega
     ·split <;> omega
     ·intro _
      rw [Nat.add_sub_cancel]
      split <;> omega
   ·rw [if_neg c2] at h; cases h
theorem rightGo_P (xs : List Rw) (ha : ∀ x ∈ xs, x.f4.length ≤ 6) (h : rightGo xs 0 = true) : RightP xs := fun j hj => rightGo_ok xs ha xs.length 0 0 (by omega) (by omega) (by omega) (fun a => by omega) (by rw [List.drop_zero]; exact h) j (Nat.zero_le _) hj
def dropB (p : Option Rw) (x : Rw) : Bool := decide (x.f1 = 1) && (decide (x.f3.data.toList = []) || match p with | none => false | some y => decide (y.f1 = 1) && decide (y.f0 = x.f0))
def njGo : Option Rw → List Rw → Bool
 | _, [] => true
 | p, x :: r => !dropB p x && njGo (some x) r
def lastS (outs : List Rw) : Nat := match outs.getLast? with | none => 0 | some y => y.f3.size
theorem last_rd (outs : List Rw) (h : 0 < outs.length) : outs.getLast? = some (rd_T35 outs ((outs.length : Int) - 1)) := by
 have e : (((outs.length : Int) - 1)) = ((outs.length - 1 : Nat) : Int) := by omega
 rw [e, rd35_at outs (outs.length - 1) (by omega), List.getLast?_eq_getElem?, List.getElem?_eq_getElem (by omega)]
theorem step_app (outs : List Rw) (x : Rw) (h : dropB outs.getLast? x = false) (hl : outs.length < 1000000000000) : normStep outs x = some (outs ++ [x]) := by
 unfold normStep
 rw [if_neg, if_neg, if_pos hl]
 ·rintro ⟨h1, h2, h3, h4⟩
  rw [last_rd outs h2] at h
  simp [dropB, h1, h3, h4] at h
 ·rintro ⟨h1, h2⟩
  simp [dropB, h1, h2] at h
theorem step_drop (outs : List Rw) (x : Rw) (h : dropB outs.getLast? x = true) (hs : lastS outs + x.f3.size ≤ 9223372036854775807) : ∃ o, normStep outs x = some o ∧ o.length = outs.length ∧ lastS o ≤ lastS outs + x.f3.size := by
 unfold normStep
 by_cases h1 : x.f1 = 1 ∧ x.f3.data.toList = []
 ·rw [if_pos h1]
  exact ⟨_, rfl, rfl, by omega⟩
 ·rw [if_neg h1]
  have hk : x.f1 = 1 := by
   by_cases c : x.f1 = 1
   ·exact c
   ·simp [dropB, c] at h
  have hne : x.f3.data.toList ≠ [] := fun e => h1 ⟨hk, e⟩
  have hlen : 0 < outs.length := by
   cases outs with
   | nil => simp [dropB, hne] at h
   | cons a l => simp
  have hL := last_rd outs hlen
  have hz : lastS outs = (rd_T35 outs ((outs.length : Int) - 1)).f3.size := by unfold lastS; rw [hL]
  rw [hL] at h
  simp only [dropB, hk, decide_true, Bool.true_and, hne, decide_false, Bool.false_or, Bool.and_eq_true, decide_eq_true_eq] at h
  rw [if_pos ⟨hk, hlen, h.1, h.2⟩, if_pos (by omega)]
  refine ⟨_, rfl, by simp, ?_⟩
  have : ∀ (y : Rw), (outs.set (outs.length - 1) y).getLast? = some y := by
   intro y
   rw [List.getLast?_eq_getElem?, List.length_set, List.getElem?_set_self (by omega)]
  unfold lastS
  rw [this]
  show (_ : ByteArray).size ≤ _
  rw [ByteArray.size_append, hL]
  exact Nat.le_refl _
theorem last_app (outs : List Rw) (x : Rw) : (outs ++ [x]).getLast? = some x := by simp
def sumS (xs : List Rw) : Nat := (xs.map fun x => x.f3.size).sum
theorem norm_all : ∀ (xs outs : List Rw), outs.length + xs.length ≤ 1000000 → lastS outs + sumS xs ≤ 10000000000 →
  ∃ r, normAll outs xs = some r ∧ r.length ≤ outs.length + xs.length ∧ (njGo outs.getLast? xs = true → r = outs ++ xs) ∧ (njGo outs.getLast? xs = false → r.length < outs.length + xs.length)
 | [], outs, h1, h2 => ⟨outs, rfl, by simp, fun _ => by simp, fun h => by simp [njGo] at h⟩
 | x :: xs, outs, h1, h2 => by
  have hs : sumS (x :: xs) = x.f3.size + sumS xs := by simp [sumS]
  rw [hs] at h2
  simp only [List.length_cons] at h1
  simp only [normAll, njGo]
  cases hd : dropB outs.getLast? x with
  | false =>
   rw [step_app outs x hd (by omega), Option.bind_some]
   have hl2 : lastS (outs ++ [x]) = x.f3.size := by unfold lastS; rw [last_app]
   obtain ⟨r, e, a, b, c⟩ := norm_all xs (outs ++ [x]) (by simp; omega) (by rw [hl2]; omega)
   rw [last_app] at b c
   simp only [List.length_append, List.length_cons, List.length_nil] at a c
   refine ⟨r, e, by simp only [List.length_cons]; omega, fun h => ?_, fun h => ?_⟩
   ·rw [b (by simpa using h)]
    simp
   ·have := c (by simpa using h)
    simp only [List.length_cons]
    omega
  | true =>
   obtain ⟨o, e, a, b⟩ := step_drop outs x hd (by omega)
   rw [e, Option.bind_some]
   obtain ⟨r, e2, a2, -, -⟩ := norm_all xs o (by omega) (by omega)
   refine ⟨r, e2, by simp only [List.length_cons]; omega, fun h => by simp at h, fun _ => by simp only [List.length_cons]; omega⟩
theorem moved_l0 (xs : List Rw) (hl : xs.length < 1000000) (hd : ∀ x ∈ xs, 0 ≤ x.f0 ∧ x.f0 ≤ 1000000) (ha : ∀ x ∈ xs, x.f4.length ≤ 6) : ∀ (d i k : Nat) (acc : List Rw), i + d = xs.length → acc.length = i → d < k → rows_moved.l0 k 0 acc xs (xs.length : Int) i = some (acc ++ xs.drop i) := by
 intro d
 induction d with
 | zero =>
  intro i k acc hi hacc hk
  obtain ⟨k, rfl⟩ : ∃ m, k = m + 1 := ⟨k - 1, by omega⟩
  simp only [rows_moved.l0]
  rw [if_neg (by omega), List.drop_of_length_le (by omega), List.append_nil]
 | succ d ih =>
  intro i k acc hi hacc hk
  obtain ⟨k, rfl⟩ : ∃ m, k = m + 1 := ⟨k - 1, by omega⟩
  have hlt : i < xs.length := by omega
  have h0 := hd xs[i] (List.getElem_mem hlt)
  have h4 := ha xs[i] (List.getElem_mem hlt)
  simp only [rows_moved.l0]
  rw [if_pos (by omega), if_pos (by omega), if_pos (by omega), rd35_at xs i hlt]
  unfold api_Attr.f
  rw [if_pos (by omega), Option.bind_some, if_pos (by omega), wN (by omega), w64 (by omega) (by omega), Int.add_zero]
  rw [ih (i + 1) k _ (by omega) (by simp [hacc]) (by omega), List.append_assoc, List.drop_eq_getElem_cons hlt]
  rfl
theorem moved_f (xs : List Rw) (hl : xs.length < 1000000) (hd : ∀ x ∈ xs, 0 ≤ x.f0 ∧ x.f0 ≤ 1000000) (ha : ∀ x ∈ xs, x.f4.length ≤ 6) (k : Nat) (hk : xs.length < k) : rows_moved.f k xs 0 = some xs := by
 unfold rows_moved.f
 have := moved_l0 xs hl hd ha xs.length 0 k [] (by omega) rfl hk
 simpa using this
theorem norm_f (xs : List Rw) (hl : xs.length < 1000000) (hd : ∀ x ∈ xs, 0 ≤ x.f0 ∧ x.f0 ≤ 1000000) (ha : ∀ x ∈ xs, x.f4.length ≤ 6) (hs : sumS xs ≤ 10000000000) : ∃ r, rows_Normal.f xs = some r ∧ rows_Same.f r xs = some (njGo none xs) := by
 unfold rows_Normal.f
 rw [moved_f xs hl hd ha _ (by omega), Option.bind_some]
 obtain ⟨r, e, a, b, c⟩ := norm_all xs [] (by simp; omega) (by simpa [lastS] using hs)
 refine ⟨r, e, ?_⟩
 unfold rows_Same.f
 congr 1
 simp only [List.getLast?_nil, List.length_nil, Nat.zero_add, List.nil_append] at b c
 cases h : njGo none xs with
 | true => rw [b h]; simp
 | false =>
  refine decide_eq_false (fun e => ?_)
  have := congrArg List.length e
  simp only [List.length_map] at this
  have := c h
  omega
theorem within_ev (xs : List Rw) (M : Nat) (hM : M < 1000000000) (hl : xs.length < 100000) (hx : ∀ x ∈ xs, SzR M x) (i : Nat) (hi : i < xs.length) : ∃ b, write_within.f xs i = some b := by
 unfold write_within.f
 rw [dif_pos ⟨by omega, by omega⟩]
 unfold rows_Kids.f
 rw [if_pos (by omega), Option.bind_some, void_f _ _ (by omega), Option.bind_some, raw_f _ _ (by omega), Option.bind_some, soft_f _ _ (by omega), Option.bind_some]
 have hk := kids_lt xs i
 generalize kidsF xs i = ks at *
 rcases ks with _ | ⟨k0, _ | ⟨k1, ks⟩⟩
 ·exact ⟨_, rfl⟩
 ·simp only [List.map_cons, List.map_nil, wiF]
  have h0 := hk k0 (by simp)
  split
  ·exact ⟨_, rfl⟩
  ·split
   ·exact ⟨_, rfl⟩
   ·unfold wiOne
    rw [dif_pos ⟨by omega, by omega⟩]
    have hd := (hx xs[(k0 : Int).toNat] (List.getElem_mem _)).data
    split
    ·split
     ·exact ⟨_, rfl⟩
     ·unfold strings_Contains.f strings_HasSuffix.f
      rw [if_pos (by omega), if_pos (by omega), Option.bind_some, Option.bind_some]
      split <;> exact ⟨_, rfl⟩
    ·exact ⟨_, rfl⟩
 ·simp only [List.map_cons, wiF]
  split
  ·exact ⟨_, rfl⟩
  ·split <;> exact ⟨_, rfl⟩
def withB (xs : List Rw) (i : Nat) : Bool := (write_within.f xs i).getD false
theorem withb_f (xs : List Rw) (M : Nat) (hM : M < 1000000000) (hl : xs.length < 100000) (hx : ∀ x ∈ xs, SzR M x) (i : Nat) (hi : i < xs.length) : write_within.f xs i = some (withB xs i) := by
 obtain ⟨b, hb⟩ := within_ev xs M hM hl hx i hi
 unfold withB
 rw [hb]
 rfl
noncomputable def legGo (xs : List Rw) : List Rw → Nat → List ByteArray → Bool
 | [], _, _ => true
 | x :: r, i, ar =>
  if x.f1 = 1 then cleanB x.f3 && legGo xs r (i + 1) (ar.take x.f0.toNat)
  else if x.f1 = 2 then commB x.f3 && legGo xs r (i + 1) (ar.take x.f0.toNat)
  else elemB x (ar.take x.f0.toNat) && withB xs i && legGo xs r (i + 1) (ar.take x.f0.toNat ++ [x.f2])
theorem take_mn {α : Type} (l : List α) (d : Int) (h : 0 ≤ d) : l.take (mn (l.length : Int) d).toNat = l.take d.toNat := by
 unfold mn
 split
 ·rfl
 ·rw [Int.toNat_natCast, List.take_of_length_le (Nat.le_refl _), List.take_of_length_le (by omega)]
theorem mn_in (n : Nat) (d : Int) (h : 0 ≤ d) : 0 ≤ mn (n : Int) d ∧ mn (n : Int) d ≤ n := by unfold mn; split <;> omega
theorem leg_l0 (xs : List Rw) (M : Nat) (hM : M < 1000000000) (hl : xs.length < 100000) (hx : ∀ x ∈ xs, SzR M x) (hd : ∀ x ∈ xs, 0 ≤ x.f0 ∧ x.f0 ≤ 1000000) : ∀ (d i k : Nat) (ar : List ByteArray), i + d = xs.length → 200 * M + 301 + d ≤ k → ar.length ≤ i → write_Legal.l0 k xs ar xs (xs.length : Int) i = some (legGo xs (xs.drop i) i ar) := by
 intro d
 induction d with
 | zero =>
  intro i k ar hi hk har
  obtain ⟨k, rfl⟩ : ∃ m, k = m + 1 := ⟨k - 1, by omega⟩
  simp only [write_Legal.l0]
  rw [if_neg (by omega), List.drop_of_length_le (by omega)]
  rfl
 | succ d ih =>
  intro i k ar hi hk har
  obtain ⟨k, rfl⟩ : ∃ m, k = m + 1 := ⟨k - 1, by omega⟩
  have hlt : i < xs.length := by omega
  have h0 := hd xs[i] (List.getElem_mem hlt)
  have hz := hx xs[i] (List.getElem_mem hlt)
  have hz3 := hz.data
  have hm := mn_in ar.length xs[i].f0 h0.1
  have hal : (ar.take xs[i].f0.toNat).length ≤ i := by rw [List.length_take]; omega
  rw [List.drop_eq_getElem_cons hlt]
  simp only [write_Legal.l0, legGo]
  rw [if_pos (by omega), if_pos (by omega), if_pos (by omega), rd35_at xs i hlt, if_pos hm.1, if_pos hm.2, take_mn ar _ h0.1, Option.bind_some, wN (by omega)]
  by_cases h1 : xs[i].f1 = 1
  ·rw [if_pos h1, if_pos h1, clean_f _ (by omega), Option.bind_some]
   cases cleanB xs[i].f3 with
   | false => rw [if_neg (by decide)]; rfl
   | true => rw [if_pos rfl, ih (i + 1) k _ (by omega) (by omega) (by omega)]; rfl
  ·rw [if_neg h1, if_neg h1]
   by_cases h2 : xs[i].f1 = 2
   ·rw [if_pos h2, if_pos h2, comment_f _ (by omega), Option.bind_some]
    cases commB xs[i].f3 with
    | false => rw [if_neg (by decide)]; rfl
    | true => rw [if_pos rfl, ih (i + 1) k _ (by omega) (by omega) (by omega)]; rfl
   ·rw [if_neg h2, if_neg h2, elem_f xs[i] M hM hz _ k (by omega), Option.bind_some]
    cases elemB xs[i] (ar.take xs[i].f0.toNat) with
    | false => rw [if_neg (by decide)]; rfl
    | true =>
     rw [if_pos rfl, withb_f xs M hM hl hx i hlt, Option.bind_some]
     cases withB xs i with
     | false => rw [if_neg (by decide)]; rfl
     | true => rw [if_pos rfl, if_pos (by omega), ih (i + 1) k _ (by omega) (by omega) (by simp; omega)]; rfl
noncomputable def legalB (xs : List Rw) : Bool := !(decide (4096 < xs.length) || xs.any deepB) && rightGo xs 0 && njGo none xs && legGo xs xs 0 []
theorem legal_f (xs : List Rw) (M : Nat) (hM : M < 1000000000) (hl : xs.length < 100000) (hx : ∀ x ∈ xs, SzR M x) (hs : sumS xs ≤ 10000000000) (k : Nat) (hk : 200 * M + 400 + 2 * xs.length ≤ k) : write_Legal.f k xs = some (legalB xs) := by
 have ha : ∀ x ∈ xs, x.f4.length ≤ 6 := fun x h => (hx x h).few
 have hj : ∀ b, write_Legal.j0 k xs b = if b then some false else write_Legal.l0 (k - 1) xs [] xs (xs.length : Int) 0 := by
  intro b
  obtain ⟨k, rfl⟩ : ∃ m, k = m + 1 := ⟨k - 1, by omega⟩
  simp only [write_Legal.j0]
  rfl
 unfold write_Legal.f rows_Check.f legalB rows_big.f
 rw [Option.bind_some]
 cases hb : (decide (4096 < xs.length) || xs.any deepB) with
 | true => rw [if_pos rfl, Option.bind_some, if_neg (by decide), hj]; rfl
 | false =>
  rw [if_neg (by decide), rightg_f xs hl ha k (by omega), Option.bind_some]
  cases hr : rightGo xs 0 with
  | false => rw [if_neg (by decide), Option.bind_some, if_neg (by decide), hj]; rfl
  | true =>
   rw [if_pos rfl, Option.bind_some, if_pos rfl]
   have hp := rightGo_P xs ha hr
   have hd : ∀ x ∈ xs, 0 ≤ x.f0 ∧ x.f0 ≤ 1000000 := by
    intro x hm
    obtain ⟨j, hj, rfl⟩ := List.getElem_of_mem hm
    have h1 := (hp j hj).low
    have h2 := (hp j hj).high
    rw [depth_at xs j hj] at h1 h2
    omega
   obtain ⟨r, e1, e2⟩ := norm_f xs (by omega) hd ha hs
   rw [e1, Option.bind_some, e2, Option.bind_some, hj]
   cases njGo none xs with
   | false => rfl
   | true =>
    have := leg_l0 xs M hM hl hx hd xs.length 0 (k - 1) [] (by omega) (by omega) (by simp)
    rw [List.drop_zero] at this
    exact this
end Go.Proofs.YtdnbaliibiginaaDoorH.W8

/- Contract of the document's Within: what a node has, written. Nothing that lay in memory turns. -/
namespace Go.Proofs.YtdnbaliibiginaaDoorH.W8
open Go.RowKit Go.Proofs Go.Proofs.YtdnbaliibiginaaDoor Go.Proofs.YtdnbaliibiginaaDoorW.PrintWords Go.Proofs.YtdnbaliibiginaaDoorW.PrintLast Go.Proofs.YtdnbaliibiginaaDoorW.PrintMore
def loopB (f : Int → Option ByteArray) : ByteArray → List Int → Option ByteArray
 | acc, [] => some acc
 | acc, j :: js => (f j).bind fun t => if acc.size + t.size ≤ 9223372036854775807 then loopB f (acc ++ t) js else none
def nodeB (xs : List Rw) (raw : Bool) (again : Int → Option ByteArray) (j : Int) : Option ByteArray :=
 if 0 ≤ j ∧ j < (xs.length : Int) then
  if (rd_T35 xs j).f1 = 1 then (if raw then some (rd_T35 xs j).f3 else boltingref03_Write.f (rd_T35 xs j).f3 false)
  else if (rd_T35 xs j).f1 = 2 then (if (rd_T35 xs j).f3.size ≤ 1000000000000 then some (((⟨#[60, 33, 45, 45]⟩ : ByteArray) ++ (rd_T35 xs j).f3) ++ (⟨#[45, 45, 62]⟩ : ByteArray)) else none)
  else (boltingref05_Void.f).bind fun vs => (boltingref02_Has.f 100 vs (rd_T35 xs j).f2).bind fun v =>
   (boltingref08_tag.f ((rd_T35 xs j).f4.length + 1) (rd_T35 xs j).f0 (rd_T35 xs j).f1 (rd_T35 xs j).f2 (rd_T35 xs j).f3 (rd_T35 xs j).f4).bind fun t =>
    if v then some t else (again j).bind fun u => if t.size + u.size + (rd_T35 xs j).f2.size ≤ 1000000000000 then some ((((t ++ u) ++ (⟨#[60, 47]⟩ : ByteArray)) ++ (rd_T35 xs j).f2) ++ (⟨#[62]⟩ : ByteArray)) else none
 else none
def rawW (xs : List Rw) (i : Int) : Option Bool := if 0 ≤ i then (if i < (xs.length : Int) then (boltingref05_Raw.f).bind fun rs => boltingref02_Has.f 100 rs (rd_T35 xs i).f2 else none) else if i = -1 then some false else none
def withN (xs : List Rw) : Nat → Int → Option ByteArray
 | 0, _ => none
 | d + 1, i => (boltingref04_Kids.f xs i).bind fun ks => (rawW xs i).bind fun raw => loopB (nodeB xs raw (withN xs d)) ⟨#[]⟩ ks
def boltingref08_Within.f (l0 : List Rw) (a1 : Int) : Option ByteArray := withN l0 (l0.length + 1) a1
def WithC (A : Option Addr) (c : Nat) (xs : List Rw) (w0 : World) (f : Int → Option ByteArray) : Prop := ∀ (j : Int) (r : ByteArray) (W : World), Below w0.heap.size w0 W → f j = some r →
 Calls Tryd.prog 11 #[.slice A xs.length c, .int .i64 j] W fun e w' => e = .returned (.string r) ∧ Below W.heap.size W w'
def wi_T3 : Bool × List (List Nat × List Nat) := (true, [([], []), ([0], [0]), ([1], [1]), ([2, 2], [2]), ([2], [2]), ([2], [2]), ([4, 5, 2], [2, 4, 5]), ([6, 2], [2, 6]), ([7, 2], [2, 7]), ([3, 8, 3, 2], [2, 3, 8]), ([2, 9], [2, 9]), ([10, 9, 0, 1, 2, 3, 4, 5, 6, 7, 8, 9, 10], [10])])
def wi_B3 : List Nat := [0, 1, 3, 7, 7, 7, 55, 119, 247, 511, 1023, 2047]
end Go.Proofs.YtdnbaliibiginaaDoorH.W8

/- What is written of right rows, by both, is one text: the document's side. Plain. -/
namespace Go.Proofs.YtdnbaliibiginaaDoorH.W8
open Go.RowKit Go.Proofs Go.Proofs.YtdnbaliibiginaaDoorH Go.Proofs.YtdnbaliibiginaaDoor Go.Proofs.YtdnbaliibiginaaDoorW.PrintWords
def Valid (xs : List Rw) (i : Int) : Prop := i = -1 ∨ 0 ≤ i ∧ i < xs.length
def WithinP (xs : List Rw) (d : Nat) : Prop := ∀ (i : Int), Valid xs i → (∀ j ∈ kidsF xs i, xs.length - j ≤ d) → ∃ r, withN xs (d + 1) i = some r ∧ r.data.toList = (kidsF xs i).flatMap (nodeT xs d (rawAt xs i))
end Go.Proofs.YtdnbaliibiginaaDoorH.W8

/- A part of rows that no row behind it belongs to, in numbers and lists alone: its trees end, and are written, as they are alone. -/
namespace Go.Proofs.YtdnbaliibiginaaDoorH.W8
open Go.RowKit Go.Proofs Go.Proofs.YtdnbaliibiginaaDoorH Go.Proofs.YtdnbaliibiginaaDoor Go.Proofs.YtdnbaliibiginaaDoorW.PrintWords
structure Part (xs ys : List Rw) (p : Nat) : Prop where
 len : p + ys.length ≤ xs.length
 at_ : ∀ j, j < ys.length → rd_T35 xs ((p + j : Nat) : Int) = rd_T35 ys (j : Int)
 low : ∀ j, j < ys.length → 0 ≤ depthAt ys j
 next : p + ys.length < xs.length → depthAt xs (p + ys.length) ≤ 0
theorem Part.depth {xs ys : List Rw} {p : Nat} (h : Part xs ys p) (j : Nat) (hj : j < ys.length) : depthAt xs (p + j) = depthAt ys j := by unfold depthAt; rw [h.at_ j hj]
theorem Part.end_ {xs ys : List Rw} {p : Nat} (h : Part xs ys p) (j : Nat) (hj : j < ys.length) : endN xs (p + j) = p + endN ys j := by
 have hl := h.len
 have e1 := endN_gt ys j
 have e2 := endN_le ys j hj
 have f1 := endN_gt xs (p + j)
 have f2 := endN_le xs (p + j) (by omega)
 have hd := h.depth j hj
 by_cases c1 : endN xs (p + j) < p + endN ys j
 ·have a := in_tree ys j (endN xs (p + j) - p) (by omega) (by omega) (by omega)
  have b := at_end xs (p + j) (by omega)
  have c := h.depth (endN xs (p + j) - p) (by omega)
  rw [show p + (endN xs (p + j) - p) = endN xs (p + j) from by omega] at c
  omega
 ·by_cases c2 : p + endN ys j < endN xs (p + j)
  ·have a := in_tree xs (p + j) (p + endN ys j) (by omega) (by omega) (by omega)
   by_cases c3 : endN ys j < ys.length
   ·have b := at_end ys j c3
    have c := h.depth _ c3
    omega
   ·have b := h.next (by omega)
    rw [show endN ys j = ys.length from by omega] at a
    have := h.low j hj
    omega
  ·omega
theorem Part.kidsW {xs ys : List Rw} {p : Nat} (h : Part xs ys p) (t : Nat) (ht : t ≤ ys.length) : ∀ (d j : Nat), ys.length - j ≤ d → kidsW xs (p + t) (p + j) = (kidsW ys t j).map (p + ·) := by
 have hl := h.len
 intro d
 induction d with
 | zero =>
  intro j hd
  rw [kidsW_no (by omega), kidsW_no (by omega)]
  rfl
 | succ d ih =>
  intro j hd
  by_cases c : j < t
  ·have := endN_gt ys j
   rw [kidsW_yes (by omega) (by omega), kidsW_yes c (by omega), h.end_ j (by omega), ih _ (by omega)]
   rfl
  ·rw [kidsW_no (by omega), kidsW_no c]
   rfl
theorem Part.kids {xs ys : List Rw} {p : Nat} (h : Part xs ys p) (k : Nat) (hk : k < ys.length) : kidsF xs ((p + k : Nat) : Int) = (kidsF ys (k : Int)).map (p + ·) := by
 have hl := h.len
 rw [kidsF_nat xs (p + k) (by omega), kidsF_nat ys k hk, h.end_ k hk]
 exact h.kidsW _ (endN_le ys k hk) ys.length (k + 1) (by omega)
theorem flat_map {α β : Type} (l : List α) (g : α → β) (f : β → Txt) : (l.map g).flatMap f = l.flatMap fun x => f (g x) := by
 induction l with
 | nil => rfl
 | cons a l ih => simp only [List.map_cons, List.flatMap_cons, ih]
theorem flat_congr {α : Type} (f g : α → Txt) : ∀ (l : List α), (∀ a ∈ l, f a = g a) → l.flatMap f = l.flatMap g
 | [], _ => rfl
 | a :: l, h => by rw [List.flatMap_cons, List.flatMap_cons, h a (by simp), flat_congr f g l (fun b hb => h b (by simp [hb]))]
theorem Part.node {xs ys : List Rw} {p : Nat} (h : Part xs ys p) : ∀ (d d' : Nat) (raw : Bool) (k : Nat), k < ys.length → ys.length - k ≤ d → ys.length - k ≤ d' → nodeT xs d raw (p + k) = nodeT ys d' raw k := by
 intro d
 induction d with
 | zero => intro d' raw k hk hd; omega
 | succ d ih =>
  intro d' raw k hk hd hd'
  obtain ⟨d', rfl⟩ : ∃ m, d' = m + 1 := ⟨d' - 1, by omega⟩
  have hk2 : (kidsF xs ((p + k : Nat) : Int)).flatMap (nodeT xs d (memS raws (rd_T35 ys (k : Int)).f2)) = (kidsF ys (k : Int)).flatMap (nodeT ys d' (memS raws (rd_T35 ys (k : Int)).f2)) := by
   rw [h.kids k hk, flat_map]
   refine flat_congr _ _ _ (fun j hj => ?_)
   have h1 := kids_gt ys k hk j hj
   have h2 := kids_lt ys _ j hj
   exact ih d' _ j h2 (by omega) (by omega)
  simp only [nodeT]
  rw [h.at_ k hk, hk2]
theorem Part.refl (xs : List Rw) (h : ∀ j, j < xs.length → 0 ≤ depthAt xs j) : Part xs xs 0 := ⟨by omega, fun j _ => by rw [Nat.zero_add], h, fun a => by omega⟩
theorem RightP.low {xs : List Rw} (h : RightP xs) : ∀ j, j < xs.length → 0 ≤ depthAt xs j := fun j hj => (h j hj).low
theorem roots_filter (xs : List Rw) (h : RightP xs) : kidsF xs (-1) = (List.range' 0 xs.length).filter fun k : Nat => decide (depthAt xs k = 0) := by
 rw [kidsF_at (.inl rfl), show toI xs (-1) = xs.length from rfl, show fromI (-1) = 0 from rfl]
 refine kidsW_filter xs 0 xs.length (Nat.le_refl _) xs.length 0 (by omega) (by omega) (fun m _ hm => (h m hm).low) (fun h0 => ?_)
 have := (h 0 h0).low
 have := (h 0 h0).high
 omega
theorem Part.roots {xs ys : List Rw} {p : Nat} (h : Part xs ys p) : ((List.range' p ys.length).filter fun k : Nat => decide (depthAt xs k = 0)) = ((List.range' 0 ys.length).filter fun k : Nat => decide (depthAt ys k = 0)).map (p + ·) := by
 have e : List.range' p ys.length = (List.range' 0 ys.length).map (p + ·) := by
  have := List.map_add_range' (a := p) (s := 0) (n := ys.length) (step := 1)
  rw [this, Nat.add_zero]
 rw [e, List.filter_map]
 congr 1
 refine List.filter_congr (fun k hk => ?_)
 rw [List.mem_range'_1] at hk
 simp only [Function.comp]
 rw [h.depth k (by omega)]
theorem Part.flat {xs ys : List Rw} {p : Nat} (h : Part xs ys p) (hr : RightP ys) (d : Nat) (hd : ys.length ≤ d) (raw : Bool) : ((List.range' p ys.length).filter fun k : Nat => decide (depthAt xs k = 0)).flatMap (nodeT xs d raw) = (kidsF ys (-1)).flatMap (nodeT ys ys.length raw) := by
 rw [h.roots, flat_map, roots_filter ys hr]
 refine flat_congr _ _ _ (fun j hj => ?_)
 rw [List.mem_filter, List.mem_range'_1] at hj
 exact h.node d ys.length raw j (by omega) (by omega) (by omega)
end Go.Proofs.YtdnbaliibiginaaDoorH.W8

/- What came in, in the words of the printed walks: kind by kind, what a datum's cells say, how much it is at the least, and that its numbers fit. -/
namespace Go.Proofs.YtdnbaliibiginaaDoorH
open Go.RowKit Go.Proofs Go.Proofs.YtdnbaliibiginaaDoorW.PrintWords
open Go.ChangeShapes Go.WideShapes Go.ChangeAt
open Go.Proofs.YtdnbaliibiginaaDoor (Rows.uptoBulk Rows.uptoBulkAll)
theorem cells_at {w : World} {base n : Nat} {a : Addr} {cs : List Value} (h : w.cells? base a n = some cs) : cs.length = n ∧ ∀ j, j < n → w.cell? (a.add j) = cs[j]? := by
 unfold World.cells? at h
 split at h
 ·have hl := mapM_some_length h
  refine ⟨by simpa using hl, fun j hj => ?_⟩
  have := mapM_some_get h j j (by simp [hj])
  exact this
 ·cases h
theorem add_add (a : Addr) (n m : Nat) : (a.add n).add m = a.add (n + m) := by
 unfold Addr.add
 by_cases hm : m = 0
 ·subst hm; simp
 ·by_cases hn : n = 0
  ·subst hn; simp
  ·simp [hm, hn, Nat.add_assoc]
theorem list_of {α : Type} (P : Nat → α → Prop) : ∀ (n : Nat), (∀ i, i < n → ∃ x, P i x) → ∃ L : List α, L.length = n ∧ ∀ i (h : i < L.length), P i L[i]
 | 0, _ => ⟨[], rfl, fun i h => by simp at h⟩
 | n + 1, h => by
  obtain ⟨L, hl, hp⟩ := list_of P n (fun i hi => h i (by omega))
  obtain ⟨x, hx⟩ := h n (by omega)
  refine ⟨L ++ [x], by simp [hl], fun i hi => ?_⟩
  rcases Nat.lt_or_ge i L.length with e | e
  ·rw [List.getElem_append_left e]
   exact hp i e
  ·have e2 : i = L.length := by simp at hi; omega
   subst e2
   rw [List.getElem_append_right (by omega)]
   simp only [Nat.sub_self, List.getElem_cons_zero]
   rw [hl]
   exact hx
def Opn {α : Type} (P : Program) (t : TypeId) (d : Kd α) (wt : α → Nat) (Wf : α → Prop) : Prop :=
 ∀ {H : Type} {enc : TypeId × Value → H} {w : World} {base : Nat} {spare : Nat → Bool} {held : Bool} {fuel : Nat} {cs : List Value} {x : DataW H × List MemPlace},
  DataW.trod enc P w base spare held fuel t cs = some x → ∃ a : α, d.K w a cs ∧ wt a ≤ Rows.uptoBulk x.1 ∧ Wf a
section
variable {P : Program} {t e : TypeId}
theorem opn_int {k : IntKind} (hu : P.underlying t = some (.int k)) : Opn P t (Kd.int k) (fun _ => 1) (fun n => (Lit.int k n).wf = true) := by
 intro H enc w base spare held fuel cs x h
 obtain ⟨n, rfl, rfl, hw⟩ := DataW.trod_int hu h
 exact ⟨n, rfl, by simp [Rows.uptoBulk], hw⟩
theorem opn_string (hu : P.underlying t = some .string) : Opn P t Kd.string (fun s => s.size + 1) (fun s => s.size ≤ maxLen) := by
 intro H enc w base spare held fuel cs x h
 obtain ⟨s, rfl, rfl, hs⟩ := DataW.trod_string hu h
 refine ⟨s, rfl, ?_, hs⟩
 simp only [Rows.uptoBulk, Array.length_toList]
 exact Nat.le_refl _
theorem bulk_all {H : Type} {α : Type} (wt : α → Nat) : ∀ (l : List α) (es : List (DataW H × List MemPlace)), l.length = es.length → (∀ i (h : i < l.length) (h' : i < es.length), wt l[i] ≤ Rows.uptoBulk es[i].1) → (l.map wt).sum ≤ Rows.uptoBulkAll (es.map (·.1))
 | [], _, _, _ => by simp
 | _ :: _, [], h, _ => by simp at h
 | a :: l, y :: es, h, hp => by
  have h0 := hp 0 (by simp) (by simp)
  have ih := bulk_all wt l es (by simpa using h) (fun i h1 h2 => by
   have := hp (i + 1) (by simp; omega) (by simp; omega)
   simpa using this)
  simp only [List.map_cons, List.sum_cons, Rows.uptoBulkAll]
  simp only [List.getElem_cons_zero] at h0
  omega
theorem opn_slice {α : Type} {d : Kd α} {wt : α → Nat} {Wf : α → Prop} (hu : P.underlying t = some (.slice e)) (hsz : P.cellsOf e = d.sz) (ho : Opn P e d wt Wf) :
  Opn P t (Kd.slice e d) (fun l => (l.map wt).sum + 1) (fun l => ∀ x ∈ l, Wf x) := by
 intro H enc w base spare held fuel cs x h
 rcases DataW.trod_slice hu h with ⟨rfl, rfl⟩ | ⟨a, len, cap, elems, rest, n, _, rfl, rfl, hb, hle, hc, hlen, hel, _, _⟩
 ·exact ⟨[], ⟨none, 0, rfl, Nat.le_refl _, ⟨rfl, by simp, fun h => by simp at h⟩⟩, by simp [Rows.uptoBulk], by simp⟩
 ·obtain ⟨L, hL, hp⟩ := list_of (fun i (y : α) => ∃ c : List Value, c.length = d.sz ∧ d.K w y c ∧ (∀ j u, c[j]? = some u → w.cell? (a.add (i * d.sz + j)) = some u) ∧ (∀ (h' : i < elems.length), wt y ≤ Rows.uptoBulk elems[i].1) ∧ Wf y) len (by
   intro i hi
   have h1 := hel i hi
   have hi2 : i < elems.length := by omega
   rw [List.getElem?_eq_getElem hi2, Option.bind_eq_some_iff] at h1
   obtain ⟨c, h2, h3⟩ := h1
   obtain ⟨y, hK, hw, hf⟩ := ho h3
   obtain ⟨hcl, h6⟩ := cells_at h2
   rw [hsz] at h2 hcl h6
   refine ⟨y, c, hcl, hK, fun j u hj => ?_, fun _ => hw, hf⟩
   have hjl : j < c.length := by
    rcases Nat.lt_or_ge j c.length with h7 | h7
    ·exact h7
    ·rw [List.getElem?_eq_none h7] at hj; cases hj
   have := h6 j (by omega)
   rw [add_add] at this
   exact this.trans hj)
  refine ⟨L, ⟨some a, cap, by rw [hL], by rw [hL]; exact hle, ⟨rfl, ?_, fun _ => ⟨a, rfl, fun j p hj => ?_⟩⟩⟩, ?_, fun y hy => ?_⟩
  ·unfold maxLen at hc; omega
  ·obtain ⟨hj1, rfl⟩ := List.getElem?_eq_some_iff.1 hj
   obtain ⟨c, g1, g2, g3, _⟩ := hp j hj1
   exact ⟨c, g1, g2, g3⟩
  ·have := bulk_all wt L elems (by omega) (fun i h1 h2 => by obtain ⟨_, _, _, _, g4, _⟩ := hp i h1; exact g4 h2)
   simp only [Rows.uptoBulk]
   omega
  ·obtain ⟨i, hi, rfl⟩ := List.getElem_of_mem hy
   obtain ⟨_, _, _, _, _, g⟩ := hp i hi
   exact g
theorem pair_at {α β : Type} {d1 : Kd α} {d2 : Kd β} {w : World} {a : α} {b : β} {cs : List Value} {o s : Nat} (h1 : d1.K w a ((cs.drop o).take s)) (h2 : d2.K w b (cs.drop (o + s))) : (Kd.pair d1 d2).K w (a, b) (cs.drop o) :=
 ⟨(cs.drop o).take s, cs.drop (o + s), by rw [← List.drop_drop, List.take_append_drop], h1, h2⟩
theorem last_at {α : Type} {d : Kd α} {w : World} {a : α} {cs : List Value} {o s : Nat} (hl : cs.length = o + s) (h : d.K w a ((cs.drop o).take s)) : d.K w a (cs.drop o) := by
 rw [List.take_of_length_le (by simp; omega)] at h
 exact h
theorem ex_of {α : Type} {cs : List α} {n : Nat} (i : Nat) (h : cs.length = n) (hi : i < n) : ∃ a, cs[i]? = some a := ⟨cs[i], List.getElem?_eq_getElem (by omega)⟩
end
end Go.Proofs.YtdnbaliibiginaaDoorH
