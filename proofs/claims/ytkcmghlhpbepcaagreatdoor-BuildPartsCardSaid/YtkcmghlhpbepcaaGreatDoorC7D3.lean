/- Lemmas and walks, part 3: QW0F, QW7L, QPW7x43, QPW7x44. -/
import Derived.Test.YtkcmghlhpbepcaaGreatDoorB727
import Derived.Test.YtkcmghlhpbepcaaGreatDoorC7D2
import Derived.Test.YtkcmghlhpbepcaaGreatDoorB72
import Derived.Test.YtkcmghlhpbepcaaGreatDoorB725
import Derived.Test.YtkcmghlhpbepcaaGreatDoorB79
set_option linter.unusedVariables false
set_option linter.unusedSimpArgs false

/- Names, byte by byte: what the printed questions whether a text may be a name come to. -/
namespace Go.Proofs.YtkcmghlhpbepcaaGreatDoorH.W7
open Go.RowKit Go.Proofs Go.Proofs.YtkcmghlhpbepcaaGreatDoorH Go.Proofs.YtkcmghlhpbepcaaGreatDoor Go.Proofs.YtkcmghlhpbepcaaGreatDoorW.PrintWords
def spaceB (c : Int) : Bool := decide (c = 32) || decide (c = 9) || decide (c = 10) || decide (c = 12) || decide (c = 13)
theorem space_fq (c : Int) : fold_Space.f c = some (spaceB c) := by
 unfold fold_Space.f spaceB
 by_cases h1 : c = 32
 ·rw [if_pos h1]; simp [h1]
 rw [if_neg h1]
 by_cases h2 : c = 9
 ·rw [if_pos h2]; simp [h2]
 rw [if_neg h2]
 by_cases h3 : c = 10
 ·rw [if_pos h3]; simp [h3]
 rw [if_neg h3]
 by_cases h4 : c = 12
 ·rw [if_pos h4]; simp [h4]
 rw [if_neg h4]
 congr 1
 by_cases h5 : c = 13
 ·simp [h5]
 ·simp [h1, h2, h3, h4, h5]
def badC (c : Int) : Bool := spaceB c || (decide (65 ≤ c) && decide (c ≤ 90)) || decide (c = 0)
def inC (t : ByteArray) (c : Int) : Nat → Nat → Bool
 | 0, _ => false
 | d + 1, j => decide (c = bt t j) || inC t c d (j + 1)
def okC (t : ByteArray) (c : Int) : Bool := !badC c && !inC t c t.size 0
def okFrom (s t : ByteArray) : Nat → Nat → Bool
 | 0, _ => s.toList != []
 | d + 1, i => okC t (bt s i) && okFrom s t d (i + 1)
theorem plain_l (s t : ByteArray) (hs : s.size < 1000000000) (ht : t.size < 1000000000) : ∀ k : Nat,
 (∀ d i : Nat, i + d = s.size → d * (t.size + 4) + 1 ≤ k → names_plain.l0 k s t (s.size : Int) i = some (okFrom s t d i)) ∧
 (∀ (d i : Nat) (b : Bool), i + d + 1 = s.size → t.size + 3 + d * (t.size + 4) ≤ k → names_plain.j1 k s t i (s.size : Int) i b = some (!b && !inC t (bt s i) t.size 0 && okFrom s t d (i + 1))) ∧
 (∀ d e i j : Nat, i + d + 1 = s.size → j + e = t.size → e + 2 + d * (t.size + 4) ≤ k → names_plain.l1 k s t i (s.size : Int) i (t.size : Int) j = some (!inC t (bt s i) e j && okFrom s t d (i + 1))) := by
 intro k
 induction k with
 | zero => exact ⟨fun d i _ h => by omega, fun d i b _ h => by omega, fun d e i j _ _ h => by omega⟩
 | succ k ih =>
   refine ⟨?_, ?_, ?_⟩
   ·intro d i hd hk
    cases d with
    | zero =>
      simp only [names_plain.l0]
      rw [if_neg (by omega)]
      rfl
    | succ d =>
      have h1 : (d + 1) * (t.size + 4) = d * (t.size + 4) + t.size + 4 := by rw [Nat.succ_mul]; omega
      simp only [names_plain.l0]
      rw [if_pos (by omega), if_pos (by omega), if_pos (by omega), space_fq, Option.bind_some]
      have hj : ∀ b, b = badC (bt s i) → names_plain.j1 k s t i (s.size : Int) i b = some (okFrom s t (d + 1) i) := by
       intro b hb
       rw [ih.2.1 d i b (by omega) (by omega), hb]
       rfl
      unfold badC at hj
      by_cases h2 : spaceB (bt s i) = true
      ·rw [if_pos h2]
       exact hj true (by rw [h2]; rfl)
      ·rw [if_neg h2]
       rw [Bool.not_eq_true] at h2
       rw [h2] at hj
       by_cases h3 : bt s i ≥ 65
       ·rw [if_pos h3]
        by_cases h4 : bt s i ≤ 90
        ·rw [if_pos h4]
         exact hj true (by simp [h4]; omega)
        ·rw [if_neg h4]
         exact hj _ (by simp [h4]; rfl)
       ·rw [if_neg h3]
        have h5 : ¬ 65 ≤ bt s i := by omega
        exact hj _ (by simp [h5]; rfl)
   ·intro d i b hd hk
    simp only [names_plain.j1]
    cases b with
    | true => rw [if_pos rfl]; rfl
    | false =>
      rw [if_neg (by decide)]
      exact ih.2.2 d t.size i 0 (by omega) (by omega) (by omega)
   ·intro d e i j hd he hk
    cases e with
    | zero =>
      simp only [names_plain.l1]
      rw [if_neg (by omega), wN (by omega)]
      rw [ih.1 d (i + 1) (by omega) (by omega)]
      rfl
    | succ e =>
      simp only [names_plain.l1]
      rw [if_pos (by omega), if_pos (by omega), if_pos (by omega), if_pos (by omega), if_pos (by omega)]
      by_cases h1 : bt s i = bt t j
      ·rw [if_pos h1]
       simp [inC, h1]
      ·rw [if_neg h1, wN (by omega), ih.2.2 d e i (j + 1) (by omega) (by omega) (by omega)]
       simp [inC, h1]
def plainB (s t : ByteArray) : Bool := okFrom s t s.size 0
theorem plain_f (s t : ByteArray) (hs : s.size < 1000000000) (ht : t.size < 100) (k : Nat) (hk : 200 * s.size + 1 ≤ k) : names_plain.f k s t = some (plainB s t) :=
 (plain_l s t hs (by omega) k).1 s.size 0 (by omega) (Nat.le_trans (Nat.add_le_add_right (by rw [Nat.mul_comm]; exact Nat.mul_le_mul_right _ (by omega)) 1) hk)
theorem letter_fq (c : Int) : ∃ b, fold_Letter.f c = some b ∧ b = ((decide (97 ≤ c) && decide (c ≤ 122)) || (decide (65 ≤ c) && decide (c ≤ 90))) := by
 unfold fold_Letter.f
 by_cases h1 : c ≥ 97
 ·rw [if_pos h1]
  by_cases h2 : c ≤ 122
  ·rw [if_pos h2]; exact ⟨_, rfl, by simp [h1, h2]⟩
  ·rw [if_neg h2, if_pos (by omega)]; exact ⟨_, rfl, by simp [h2]; omega⟩
 ·rw [if_neg h1]
  by_cases h2 : c ≥ 65
  ·rw [if_pos h2]
   refine ⟨_, rfl, ?_⟩
   have h3 : ¬ 97 ≤ c := by omega
   have h4 : 65 ≤ c := h2
   simp [h3, h4]
  ·rw [if_neg h2]
   refine ⟨_, rfl, ?_⟩
   have h3 : ¬ 97 ≤ c := by omega
   have h4 : ¬ 65 ≤ c := by omega
   simp [h3, h4]
def letterB (c : Int) : Bool := (decide (97 ≤ c) && decide (c ≤ 122)) || (decide (65 ≤ c) && decide (c ≤ 90))
theorem letter_f (c : Int) : fold_Letter.f c = some (letterB c) := by obtain ⟨b, h1, h2⟩ := letter_fq c; rw [h1, h2]; rfl
theorem okFrom_nil (s t : ByteArray) : ∀ d i, okFrom s t d i = true → s.toList ≠ []
 | 0, i, h => bne_iff_ne.1 h
 | d + 1, i, h => by
   simp only [okFrom, Bool.and_eq_true] at h
   exact okFrom_nil s t d (i + 1) h.2
theorem size_pos (s : ByteArray) (h : s.toList ≠ []) : 0 < s.size := by
 rw [Lib.toList_data] at h
 show 0 < s.data.size
 rw [← Array.length_toList]
 exact List.length_pos_iff.2 h
def rightB (s : ByteArray) : Bool := plainB s ⟨#[47, 62]⟩ && letterB (bt s 0)
theorem nright_f (s : ByteArray) (hs : s.size < 1000000000) (k : Nat) (hk : 200 * s.size + 1 ≤ k) : names_Right.f k s = some (rightB s) := by
 unfold names_Right.f rightB
 rw [plain_f s _ hs (by decide) k hk, Option.bind_some]
 cases h : plainB s ⟨#[47, 62]⟩ with
 | false => rw [if_neg (by decide)]; rfl
 | true =>
   have := size_pos s (okFrom_nil _ _ _ _ h)
   rw [if_pos rfl, if_pos (by omega), letter_f, Option.bind_some]
   rfl
end Go.Proofs.YtkcmghlhpbepcaaGreatDoorH.W7

/- Nesting below others, in lists alone. -/
namespace Go.Proofs.YtkcmghlhpbepcaaGreatDoorH.W7
open Go.RowKit Go.Proofs Go.Proofs.YtkcmghlhpbepcaaGreatDoorH Go.Proofs.YtkcmghlhpbepcaaGreatDoor Go.Proofs.YtkcmghlhpbepcaaGreatDoorW.PrintWords
theorem nmOk (s : ByteArray) : NmOk s := nmB_ok (nmB_all s)
theorem up_to {α : Type} {f : Nat → Option α} (hm : ∀ k, LeO (f k) (f (k + 1))) {n : Nat} {b : α} (h : f n = some b) : ∀ k, n ≤ k → f k = some b := by
 intro k hk
 obtain ⟨d, rfl⟩ : ∃ d, k = n + d := ⟨k - n, by omega⟩
 induction d with
 | zero => exact h
 | succ d ih => exact hm (n + d) _ (ih (by omega))
theorem closesL_f (s : ByteArray) (k : Nat) (hk : 200 ≤ k) : names_Closes.f k s = some (closesL s) := up_to (f := fun k => names_Closes.f k s) (fun k => names_Closes.mono s k) (nmOk s).closes k hk
theorem wallsL_f (s : ByteArray) (k : Nat) (hk : 200 ≤ k) : names_Walls.f k s = some (wallsL s) := up_to (f := fun k => names_Walls.f k s) (fun k => names_Walls.mono s k) (nmOk s).walls k hk
def nestB (s : ByteArray) (l : List ByteArray) : Bool := !(parL s && decide (0 ≤ foundK l [pN] (wallsL pN) l.length)) && decide (foundK l (closesL s) (wallsL s) l.length < 0)
theorem nested_val (s : ByteArray) (l : List ByteArray) (k : Nat) (hk : 200 ≤ k) : build_Nested.f k s l = some (nestB s l) := by
 unfold build_Nested.f build_found.f nestB
 rw [(nmOk s).par, Option.bind_some, closesL_f s k hk, Option.bind_some, wallsL_f s k hk, Option.bind_some, wallsL_f ⟨#[112]⟩ k hk, Option.bind_some, Option.bind_some, Option.bind_some]
 cases parL s with
 | false => simp
 | true =>
   rw [if_pos rfl]
   by_cases h : 0 ≤ foundK l [pN] (wallsL pN) l.length
   ·rw [if_pos h]; simp [h]
   ·rw [if_neg h]; simp [h]
theorem found_drop (xs a b : List ByteArray) (j : Nat) : ∀ k, 0 ≤ foundK (xs.drop j) a b k → 0 ≤ foundK xs a b (j + k)
 | 0, h => by simp [foundK] at h
 | k + 1, h => by
   have e : (xs.drop j).getD k ⟨#[]⟩ = xs.getD (j + k) ⟨#[]⟩ := by simp [List.getD_eq_getElem?_getD, List.getElem?_drop]
   rw [show j + (k + 1) = (j + k) + 1 from by omega]
   simp only [foundK] at h ⊢
   rw [e] at h
   split
   ·omega
   ·rename_i h1
    rw [if_neg h1] at h
    split
    ·rename_i h2
     rw [if_pos h2] at h
     omega
    ·rename_i h2
     rw [if_neg h2] at h
     exact found_drop xs a b j k h
theorem found_below (xs a b : List ByteArray) (j : Nat) (hj : j ≤ xs.length) (h : 0 ≤ foundK (xs.drop j) a b (xs.drop j).length) : 0 ≤ foundK xs a b xs.length := by
 have := found_drop xs a b j _ h
 rw [List.length_drop] at this
 rwa [show j + (xs.length - j) = xs.length from by omega] at this
theorem nest_below (s : ByteArray) (l : List ByteArray) (j : Nat) (hj : j ≤ l.length) (h : nestB s l = true) : nestB s (l.drop j) = true := by
 unfold nestB at h ⊢
 simp only [Bool.and_eq_true, Bool.not_eq_true', Bool.and_eq_false_iff, decide_eq_true_eq, decide_eq_false_iff_not] at h ⊢
 refine ⟨?_, ?_⟩
 ·rcases h.1 with h1 | h1
  ·exact Or.inl h1
  ·exact Or.inr (fun g => h1 (found_below l _ _ j hj g))
 ·by_cases g : 0 ≤ foundK (l.drop j) (closesL s) (wallsL s) (l.drop j).length
  ·have := found_below l _ _ j hj g
   omega
  ·omega
theorem nest_nil (s : ByteArray) : nestB s [] = true := by simp [nestB, foundK]
end Go.Proofs.YtkcmghlhpbepcaaGreatDoorH.W7

/- Words and walks used below. -/
namespace Go.Proofs.YtkcmghlhpbepcaaGreatDoorH.W7
open Go.RowKit Go.Proofs.YtkcmghlhpbepcaaGreatDoorW.PrintWords Go.Proofs.YtkcmghlhpbepcaaGreatDoorW.PrintLast Go.Proofs.YtkcmghlhpbepcaaGreatDoorW.PrintMore
attribute [local go_sem] max2_int min2_int max_two min_two max_three min_three max_four min_four   -- for this text's walks alone
def boltingref04_Moved.l0 : Nat → List (S34) → Int → List (S34) → Int → Option ((List (S34)))
 | 0, _, _, _, _ => none
 | k + 1, x0, x1, x5, x6 => if x6 < (x0.length : Int) then (if 0 ≤ x6 then ((some (([] : List (S36)) : List (S36))).bind fun y383 => (if y383.length + ((rd_T34 x0 x6).f4).length < 4398046511104 then (if x5.length < 1954687338268 then (boltingref04_Moved.l0 k x0 x1 (x5 ++ [(⟨wrap64 (((rd_T34 x0 x6).f0) + x1), (rd_T34 x0 x6).f1, (rd_T34 x0 x6).f2, (rd_T34 x0 x6).f3, (y383 ++ ((rd_T34 x0 x6).f4))⟩ : S34)]) (wrap64 (x6 + 1))) else (none)) else (none))) else (none)) else (some x5)
def boltingref04_Moved.f (k : Nat) (l0 : List (S34)) (a1 : Int) : Option ((List (S34))) := boltingref04_Moved.l0 k l0 a1 (([] : List (S34))) 0
set_option maxHeartbeats 8000000 in
set_option maxRecDepth 100000 in
theorem boltingref04_Moved.calls (k : Nat) (A0 : Option Addr) (c0 : Nat) (l0 : List (S34)) (a1 : Int) (r : List (S34)) (w : World) (hr0 : Kd.C k34 w A0 l0.length l0) (hc0 : l0.length ≤ c0) (h : boltingref04_Moved.f k l0 a1 = some r) :
 Calls Tryz.prog 44 #[.slice A0 l0.length c0, .int .i64 a1] w fun e w' => ∃ v0_ : Value, e = .returned (v0_) ∧ Kd.R k34 34 w' w.heap.size (fun _ => True) v0_ r ∧ Below w.heap.size w w' := by
 have hu34 := Tryz.underlying34
 have HR0 := Aside0.mk hr0
 have HC0 := Aside0.mk hc0
 clear hr0 hc0
 have HB := Aside0.mk (Below.refl w.heap.size w)
 have H : (boltingref04_Moved.l0 k l0 a1 (([] : List (S34))) 0) = some r := h
 clear h
 obtain ⟨y378, hy378⟩ : ∃ y_ : List (S34), y_ = (([] : List (S34))) := ⟨_, rfl⟩
 replace H : (boltingref04_Moved.l0 k l0 a1 y378 0) = some r := by first | (rw [hy378]; with_reducible exact H) | (have H2_ := (Option.bind_some _ _).symm.trans H; rw [hy378]; with_reducible exact H2_) | (have H2_ := (Option.bind_some _ _).symm.trans H; with_reducible exact H2_) | with_reducible exact H | (rw [hy378]; exact H) | exact H
 have Ny378 := Aside0.mk hy378
 clear hy378
 have H' := Aside0.mk H
 clear H
 go_enter Tryz.func44, Tryz.ntmps44
 go_wp2_with (first | ((with_reducible refine gate_dst (N := 8) rfl ?_); refine Kd.R_lit k34 _ 34 ?hg (N := 8) ?hd (xs := ([] : List (S34))) (inner := []) (ok := fun _ => True) (okp := fun _ => True) ?hr ?hp (fun _ hk => hk) trivial (Below.refl _ _) (Nat.le_refl _) (by simp) ?_; (case hd => rfl); (case hg => rfl); (case hr => first | (go_simp; done) | (go_simp; rfl)); (case hp => exact (Reps.none _ _)); intro v379 w3 ho4 hb hg_ hnew_; clear hg_ hnew_; (first | rw [← Ny378.out] at ho4 | (simp only [Int.reduceToNat] at ho4; rw [← Ny378.out] at ho4)); have n0_ := Aside0.mk (Kd.R_lower ho4 (below_size bz)); have n1_ := Aside0.mk (below_step bz hb); clear HB; have HO380 := n0_; have HB := n1_; clear n0_ n1_; clear hb ho4))
 go_loopg [5, 6] k (fun kq v5 v6 w' => ∃ (x5_1 : List (S34)) (x6_1 : Int), v6 = .int .i64 x6_1 ∧ Aside0 (boltingref04_Moved.l0 kq l0 a1 x5_1 x6_1 = some r) ∧ Aside0 (kq ≤ k) ∧ Aside0 (Kd.R k34 34 w' w.heap.size (fun _ => True) v5 x5_1) ∧ Aside0 (Below w.heap.size w w'))
 case atStart => exact ⟨(y378), (0), (by first | rfl | (simp; done) | (simp [*]; done) | (simp; generalize ByteArray.toList _ = l_; cases l_ <;> rfl)), H', ⟨Nat.le_refl _⟩, ⟨by (with_reducible repeat (first | apply Kd.R_alloc | apply Kd.R_drewN | apply Kd.R_drew)); exact HO380.out⟩, ⟨bz⟩⟩
 case round =>
  clear H'
  try clear p2
  try clear c4
  obtain ⟨x5_1, x6_1, rfl, HA, HK1, HO_5, HB⟩ := hrel
  cases gk with
  | zero => exact absurd HA.out (by simp [boltingref04_Moved.l0])
  | succ k1 =>
    have H := HA.out
    clear HA
    simp only [boltingref04_Moved.l0] at H
    by_cases c5 : x6_1 < (l0.length : Int)
    ·rw [if_pos c5] at H
     have c5b0 : decide (x6_1 < (l0.length : Int)) = true := decide_eq_true c5
     clear c5
     by_cases c6 : 0 ≤ x6_1
     ·rw [if_pos c6] at H
      have c6b0 : decide (0 ≤ x6_1) = true := decide_eq_true c6
      clear c6
      obtain ⟨y383, hy383⟩ : ∃ y_ : List (S36), y_ = (([] : List (S36))) := ⟨_, rfl⟩
      replace H : (if y383.length + ((rd_T34 l0 x6_1).f4).length < 4398046511104 then (if x5_1.length < 1954687338268 then (boltingref04_Moved.l0 k1 l0 a1 (x5_1 ++ [(⟨wrap64 (((rd_T34 l0 x6_1).f0) + a1), (rd_T34 l0 x6_1).f1, (rd_T34 l0 x6_1).f2, (rd_T34 l0 x6_1).f3, (y383 ++ ((rd_T34 l0 x6_1).f4))⟩ : S34)]) (wrap64 (x6_1 + 1))) else (none)) else (none)) = some r := by first | (rw [hy383]; with_reducible exact H) | (have H2_ := (Option.bind_some _ _).symm.trans H; rw [hy383]; with_reducible exact H2_) | (have H2_ := (Option.bind_some _ _).symm.trans H; with_reducible exact H2_) | with_reducible exact H | (rw [hy383]; exact H) | exact H
      have Ny383 := Aside0.mk hy383
      clear hy383
      by_cases c7 : y383.length + ((rd_T34 l0 x6_1).f4).length < 4398046511104
      ·rw [if_pos c7] at H
       have LMc7 := Aside0.mk c7
       clear c7
       obtain ⟨y386, hy386⟩ : ∃ y_ : List (S36), y_ = (y383 ++ ((rd_T34 l0 x6_1).f4)) := ⟨_, rfl⟩
       replace H : (if x5_1.length < 1954687338268 then (boltingref04_Moved.l0 k1 l0 a1 (x5_1 ++ [(⟨wrap64 (((rd_T34 l0 x6_1).f0) + a1), (rd_T34 l0 x6_1).f1, (rd_T34 l0 x6_1).f2, (rd_T34 l0 x6_1).f3, y386⟩ : S34)]) (wrap64 (x6_1 + 1))) else (none)) = some r := by first | (rw [hy386]; with_reducible exact H) | (have H2_ := (Option.bind_some _ _).symm.trans H; rw [hy386]; with_reducible exact H2_) | (have H2_ := (Option.bind_some _ _).symm.trans H; with_reducible exact H2_) | with_reducible exact H | (rw [hy386]; exact H) | exact H
       have Ny386 := Aside0.mk hy386
       clear hy386
       by_cases c8 : x5_1.length < 1954687338268
       ·rw [if_pos c8] at H
        have LMc8 := Aside0.mk c8
        clear c8
        obtain ⟨y389, hy389⟩ : ∃ y_ : List (S34), y_ = (x5_1 ++ [(⟨wrap64 (((rd_T34 l0 x6_1).f0) + a1), (rd_T34 l0 x6_1).f1, (rd_T34 l0 x6_1).f2, (rd_T34 l0 x6_1).f3, y386⟩ : S34)]) := ⟨_, rfl⟩
        replace H : (boltingref04_Moved.l0 k1 l0 a1 y389 (wrap64 (x6_1 + 1))) = some r := by first | (rw [hy389]; with_reducible exact H) | (have H2_ := (Option.bind_some _ _).symm.trans H; rw [hy389]; with_reducible exact H2_) | (have H2_ := (Option.bind_some _ _).symm.trans H; with_reducible exact H2_) | with_reducible exact H | (rw [hy389]; exact H) | exact H
        have Ny389 := Aside0.mk hy389
        clear hy389
        have H' := Aside0.mk H
        clear H
        have p381 : 0 ≤ (x6_1 : Int) := (by first | exact of_decide_eq_true (by first | (with_reducible assumption) | assumption) | assumption | omega)
        have q381 : x6_1 < (l0.length : Int) := (by first | exact of_decide_eq_true (by first | (with_reducible assumption) | assumption) | assumption | omega)
        obtain ⟨ad381, A381_4, c381_4, e381, hx381_0, hx381_1, hx381_2, hx381_3, hx381_4, hl381_4, hi381_4⟩ := at_T34 HR0.out x6_1 p381 q381
        cases e381
        replace hx381_0 := (HB.out.cell (World.block_lt_of_cell? w _ hx381_0)).trans hx381_0
        replace hx381_1 := (HB.out.cell (World.block_lt_of_cell? w _ hx381_1)).trans hx381_1
        replace hx381_2 := (HB.out.cell (World.block_lt_of_cell? w _ hx381_2)).trans hx381_2
        replace hx381_3 := (HB.out.cell (World.block_lt_of_cell? w _ hx381_3)).trans hx381_3
        replace hx381_4 := (HB.out.cell (World.block_lt_of_cell? w _ hx381_4)).trans hx381_4
        have HR381_4 := Aside0.mk hi381_4
        have HC381_4 := Aside0.mk hl381_4
        clear hi381_4 hl381_4
        replace p381 := eq_true p381
        replace q381 := eq_true q381
        go_wp2_with (first | ((with_reducible refine gate_dst (N := 7) rfl ?_); refine box_event ?hg (N := 7) ?hd (cs := #[.int .i64 0, .int .i64 0, .string (⟨#[]⟩ : ByteArray), .string (⟨#[]⟩ : ByteArray), .slice none 0 0]) (t := 34) ?hr ?_; (case hd => rfl); (case hg => rfl); (case hr => first | (go_simp; done) | (go_simp; rfl)); intro gb382 hg w9 hbox hb; have n0_ := Aside0.mk (Kd.R_below (Kd.R_elderB (rz HO_5.out) gb382 (Nat.le_of_eq hg.symm)) hb); have n1_ := Aside0.mk (below_step bz hb); have n2_ := Aside0.mk (hbox); have n3_ := Aside0.mk ((by rw [hg]; exact (below_size bz) : w.heap.size ≤ gb382)); have n4_ := Aside0.mk ((by rw [hg]; exact (below_size bz) : w.heap.size ≤ gb382)); clear HO_5; clear HB; have HO_5 := n0_; have HB := n1_; have BK382 := n2_; have GW382 := n3_; have GE382 := n4_; clear n0_ n1_ n2_ n3_ n4_; clear hb hbox hg; have hcz10_0 : w9.cell? ⟨gb382, 0, none⟩ = some (.int .i64 0) := (blk_cell BK382.out 0).trans rfl; have hcz10_1 : w9.cell? ⟨gb382, 1, none⟩ = some (.int .i64 0) := (blk_cell BK382.out 1).trans rfl; have hcz10_2 : w9.cell? ⟨gb382, 2, none⟩ = some (.string (⟨#[]⟩ : ByteArray)) := (blk_cell BK382.out 2).trans rfl; have hcz10_3 : w9.cell? ⟨gb382, 3, none⟩ = some (.string (⟨#[]⟩ : ByteArray)) := (blk_cell BK382.out 3).trans rfl; have hcz10_4 : w9.cell? ⟨gb382, 4, none⟩ = some (.slice none 0 0) := (blk_cell BK382.out 4).trans rfl; have hfz10_0 := blk_frozen BK382.out 0; have hfz10_1 := blk_frozen BK382.out 1; have hfz10_2 := blk_frozen BK382.out 2; have hfz10_3 := blk_frozen BK382.out 3; have hfz10_4 := blk_frozen BK382.out 4) | ((with_reducible refine gate_dst (N := 24) rfl ?_); refine Kd.R_lit k36 _ 36 ?hg (N := 24) ?hd (xs := ([] : List (S36))) (inner := []) (ok := fun _ => True) (okp := fun _ => True) ?hr ?hp (fun _ hk => hk) trivial (Below.refl _ _) (Nat.le_refl _) (by simp) ?_; (case hd => rfl); (case hg => rfl); (case hr => first | (go_simp; done) | (go_simp; rfl)); (case hp => exact (Reps.none _ _)); intro v384 w11 ho12 hb hg_ hnew_; clear hg_ hnew_; (first | rw [← Ny383.out] at ho12 | (simp only [Int.reduceToNat] at ho12; rw [← Ny383.out] at ho12)); have n0_ := Aside0.mk (Kd.R_elder' (by (with_reducible repeat (first | apply Kd.R_alloc | apply Kd.R_drewN | apply Kd.R_drew)); exact (Kd.R_mono (Kd.R_far (p := ⟨gb382, 0, none⟩) (Kd.R_far (p := ⟨gb382, 4, none⟩) (Kd.R_far (p := ⟨gb382, 3, none⟩) (Kd.R_far (p := ⟨gb382, 2, none⟩) (Kd.R_far (p := ⟨gb382, 1, none⟩) (Kd.R_far (p := ⟨gb382, 0, none⟩) (Kd.R_mono HO_5.out (fun k_ hk => (⟨hk, hk.2⟩ : _ ∧ k_ ≠ gb382))) (fun _ hk => hk.2) (.int .i64 ((rd_T34 l0 x6_1).f0))) (fun _ hk => hk.2) (.int .i64 ((rd_T34 l0 x6_1).f1))) (fun _ hk => hk.2) (.string ((rd_T34 l0 x6_1).f2))) (fun _ hk => hk.2) (.string ((rd_T34 l0 x6_1).f3))) (fun _ hk => hk.2) (.slice A381_4 ((rd_T34 l0 x6_1).f4).length c381_4)) (fun _ hk => hk.2) (.int .i64 (wrap64 (((rd_T34 l0 x6_1).f0) + a1)))) (fun _ h_ => h_.1))) (Kd.R_base ho12) hb); have n1_ := Aside0.mk (Kd.R_lower ho12 (below_size (bs GE382.out))); have n2_ := Aside0.mk (blk_below (g := gb382) (o := .cells #[.int .i64 (wrap64 (((rd_T34 l0 x6_1).f0) + a1)), .int .i64 ((rd_T34 l0 x6_1).f1), .string ((rd_T34 l0 x6_1).f2), .string ((rd_T34 l0 x6_1).f3), .slice A381_4 ((rd_T34 l0 x6_1).f4).length c381_4] 34 (0, 0)) (by (with_reducible repeat (first | refine blk_drewN ?_ _ | refine blk_drew ?_ | refine blk_alloc ?_ _)); refine blk_put (cs := #[.int .i64 ((rd_T34 l0 x6_1).f0), .int .i64 ((rd_T34 l0 x6_1).f1), .string ((rd_T34 l0 x6_1).f2), .string ((rd_T34 l0 x6_1).f3), .slice A381_4 ((rd_T34 l0 x6_1).f4).length c381_4]) ?_ 0 _ rfl; (with_reducible repeat (first | refine blk_drewN ?_ _ | refine blk_drew ?_ | refine blk_alloc ?_ _)); refine blk_put (cs := #[.int .i64 ((rd_T34 l0 x6_1).f0), .int .i64 ((rd_T34 l0 x6_1).f1), .string ((rd_T34 l0 x6_1).f2), .string ((rd_T34 l0 x6_1).f3), .slice none 0 0]) ?_ 4 _ rfl; (with_reducible repeat (first | refine blk_drewN ?_ _ | refine blk_drew ?_ | refine blk_alloc ?_ _)); refine blk_put (cs := #[.int .i64 ((rd_T34 l0 x6_1).f0), .int .i64 ((rd_T34 l0 x6_1).f1), .string ((rd_T34 l0 x6_1).f2), .string (⟨#[]⟩ : ByteArray), .slice none 0 0]) ?_ 3 _ rfl; (with_reducible repeat (first | refine blk_drewN ?_ _ | refine blk_drew ?_ | refine blk_alloc ?_ _)); refine blk_put (cs := #[.int .i64 ((rd_T34 l0 x6_1).f0), .int .i64 ((rd_T34 l0 x6_1).f1), .string (⟨#[]⟩ : ByteArray), .string (⟨#[]⟩ : ByteArray), .slice none 0 0]) ?_ 2 _ rfl; (with_reducible repeat (first | refine blk_drewN ?_ _ | refine blk_drew ?_ | refine blk_alloc ?_ _)); refine blk_put (cs := #[.int .i64 ((rd_T34 l0 x6_1).f0), .int .i64 0, .string (⟨#[]⟩ : ByteArray), .string (⟨#[]⟩ : ByteArray), .slice none 0 0]) ?_ 1 _ rfl; (with_reducible repeat (first | refine blk_drewN ?_ _ | refine blk_drew ?_ | refine blk_alloc ?_ _)); refine blk_put (cs := #[.int .i64 0, .int .i64 0, .string (⟨#[]⟩ : ByteArray), .string (⟨#[]⟩ : ByteArray), .slice none 0 0]) ?_ 0 _ rfl; (with_reducible repeat (first | refine blk_drewN ?_ _ | refine blk_drew ?_ | refine blk_alloc ?_ _)); exact BK382.out) hb); have n3_ := Aside0.mk (below_step (bs GE382.out) hb); clear HO_5; clear BK382; clear HB; have HO_5 := n0_; have HO385 := n1_; have BK382 := n2_; have HB := n3_; clear n0_ n1_ n2_ n3_; clear hb ho12; have hcz13_0 : w11.cell? ⟨gb382, 0, none⟩ = some (.int .i64 (wrap64 (((rd_T34 l0 x6_1).f0) + a1))) := (blk_cell BK382.out 0).trans rfl; have hcz13_1 : w11.cell? ⟨gb382, 1, none⟩ = some (.int .i64 ((rd_T34 l0 x6_1).f1)) := (blk_cell BK382.out 1).trans rfl; have hcz13_2 : w11.cell? ⟨gb382, 2, none⟩ = some (.string ((rd_T34 l0 x6_1).f2)) := (blk_cell BK382.out 2).trans rfl; have hcz13_3 : w11.cell? ⟨gb382, 3, none⟩ = some (.string ((rd_T34 l0 x6_1).f3)) := (blk_cell BK382.out 3).trans rfl; have hcz13_4 : w11.cell? ⟨gb382, 4, none⟩ = some (.slice A381_4 ((rd_T34 l0 x6_1).f4).length c381_4) := (blk_cell BK382.out 4).trans rfl; have hfz13_0 := blk_frozen BK382.out 0; have hfz13_1 := blk_frozen BK382.out 1; have hfz13_2 := blk_frozen BK382.out 2; have hfz13_3 := blk_frozen BK382.out 3; have hfz13_4 := blk_frozen BK382.out 4) | ((with_reducible refine gate_builtin (b := .append) (xs := #[.tmp 24, .tmp 26]) rfl ?_); at_builtin; refine Kd.R_append_rows k36 (w0 := w) w.heap.size rfl (.tmp 24) (.tmp 26) 32 36 (.agg #[(.string ⟨#[]⟩), (.string ⟨#[]⟩)]) 32 rfl Tryz.underlying32 info36 rfl (by decide) (by omega) v384 y383 ((rd_T34 l0 x6_1).f4) _ _ _ (fun _ => True) (fun _ => False) rfl rfl ?aO ?aR (fun _ _ h => h) (fun _ h => h.elim) ?aF ?aB ?aS ?aL ?_; (case aR => exact cz (Kd.C_below HR381_4.out HB.out)); (case aB => exact (bs GE382.out)); (case aF => exact (fun _ _ => trivial)); (case aO => exact (rz HO385.out)); (case aS => exact (below_size (bs GE382.out))); (case aL => have := LMc7.out; omega); intro v387 w14 ho hb hg hat; rw [← Ny386.out] at ho; have n0_ := Aside0.mk (Kd.R_after (ok := (fun k_ => k_ ≠ gb382)) (by (with_reducible repeat (first | apply Kd.R_alloc | apply Kd.R_drewN | apply Kd.R_drew)); exact Kd.R_mono HO_5.out (fun _ hk => ⟨hk.1.2, hk.2⟩)) hg hat); have n1_ := Aside0.mk (blk_grown (g := gb382) (o := .cells #[.int .i64 (wrap64 (((rd_T34 l0 x6_1).f0) + a1)), .int .i64 ((rd_T34 l0 x6_1).f1), .string ((rd_T34 l0 x6_1).f2), .string ((rd_T34 l0 x6_1).f3), .slice A381_4 ((rd_T34 l0 x6_1).f4).length c381_4] 34 (0, 0)) (kz BK382.out) hg (Kd.R_ne HO385.out BK382.out (by decide))); have n2_ := Aside0.mk (hb); have n3_ := Aside0.mk (ho); clear HO_5; clear BK382; clear HB; clear HO385; have HO_5 := n0_; have BK382 := n1_; have HB := n2_; have HO388 := n3_; clear n0_ n1_ n2_ n3_; clear ho hb hg hat; obtain ⟨Ao15, co15, eo15⟩ := Kd.R_slice HO388.out; subst eo15; have hcz16_0 : w14.cell? ⟨gb382, 0, none⟩ = some (.int .i64 (wrap64 (((rd_T34 l0 x6_1).f0) + a1))) := (blk_cell BK382.out 0).trans rfl; have hcz16_1 : w14.cell? ⟨gb382, 1, none⟩ = some (.int .i64 ((rd_T34 l0 x6_1).f1)) := (blk_cell BK382.out 1).trans rfl; have hcz16_2 : w14.cell? ⟨gb382, 2, none⟩ = some (.string ((rd_T34 l0 x6_1).f2)) := (blk_cell BK382.out 2).trans rfl; have hcz16_3 : w14.cell? ⟨gb382, 3, none⟩ = some (.string ((rd_T34 l0 x6_1).f3)) := (blk_cell BK382.out 3).trans rfl; have hcz16_4 : w14.cell? ⟨gb382, 4, none⟩ = some (.slice A381_4 ((rd_T34 l0 x6_1).f4).length c381_4) := (blk_cell BK382.out 4).trans rfl; have hfz16_0 := blk_frozen BK382.out 0; have hfz16_1 := blk_frozen BK382.out 1; have hfz16_2 := blk_frozen BK382.out 2; have hfz16_3 := blk_frozen BK382.out 3; have hfz16_4 := blk_frozen BK382.out 4) | ((with_reducible refine gate_store (t := 32) (p := 28) rfl ?_); refine store_event (t := 32) (p := 28) (v := ?vo_w17) (w1 := (w14.setCell ⟨gb382, 4, none⟩ (.slice Ao15 y386.length co15))) ?hg ?ho ?hn ?hr ?_; (case ho => rfl); (case hg => rfl); (case hn => rfl); (case hr => first | (go_simp; done) | (go_simp; rfl)); intro w17 hw; have n0_ : Aside0 (Kd.R k34 34 w17 w.heap.size (fun k_ => some k_ ≠ (.slice Ao15 y386.length co15 : Value).ownBlock ∧ k_ ≠ gb382) u5 x5_1) := ⟨(by rw [hw]; exact (by (with_reducible repeat (first | apply Kd.R_alloc | apply Kd.R_drewN | apply Kd.R_drew)); exact Kd.R_mono (Kd.R_far (p := ⟨gb382, 4, none⟩) (Kd.R_mono HO_5.out (fun k_ hk => (⟨hk, hk.1⟩ : _ ∧ k_ ≠ gb382))) (fun _ hk => hk.2) (.slice Ao15 y386.length co15)) (fun _ hk => ⟨hk.1.2, hk.1.1⟩)))⟩; have n1_ : Aside0 (Kd.R k36 36 w17 w.heap.size (fun _ => True) (.slice Ao15 y386.length co15) y386) := ⟨(by rw [hw]; exact (by (with_reducible repeat (first | apply Kd.R_alloc | apply Kd.R_drewN | apply Kd.R_drew)); exact Kd.R_mono (Kd.R_far (p := ⟨gb382, 4, none⟩) (Kd.R_types HO388.out BK382.out (by decide)) (fun _ hk => hk.2) (.slice Ao15 y386.length co15)) (fun _ hk => trivial)))⟩; have n2_ : Aside0 (w17.heap[gb382]? = some (.cells #[.int .i64 (wrap64 (((rd_T34 l0 x6_1).f0) + a1)), .int .i64 ((rd_T34 l0 x6_1).f1), .string ((rd_T34 l0 x6_1).f2), .string ((rd_T34 l0 x6_1).f3), .slice Ao15 y386.length co15] 34 (0, 0))) := ⟨(by rw [hw]; exact (by (with_reducible repeat (first | refine blk_drewN ?_ _ | refine blk_drew ?_ | refine blk_alloc ?_ _)); refine blk_put (cs := #[.int .i64 (wrap64 (((rd_T34 l0 x6_1).f0) + a1)), .int .i64 ((rd_T34 l0 x6_1).f1), .string ((rd_T34 l0 x6_1).f2), .string ((rd_T34 l0 x6_1).f3), .slice A381_4 ((rd_T34 l0 x6_1).f4).length c381_4]) ?_ 4 _ rfl; (with_reducible repeat (first | refine blk_drewN ?_ _ | refine blk_drew ?_ | refine blk_alloc ?_ _)); exact BK382.out))⟩; have n3_ : Aside0 (Below w.heap.size w w17) := ⟨(by rw [hw]; exact (bs GE382.out))⟩; clear hw; clear HO_5; clear HO388; clear BK382; clear HB; have HO_5 := n0_; have HO388 := n1_; have BK382 := n2_; have HB := n3_; clear n0_ n1_ n2_ n3_; have hcz18_0 : w17.cell? ⟨gb382, 0, none⟩ = some (.int .i64 (wrap64 (((rd_T34 l0 x6_1).f0) + a1))) := (blk_cell BK382.out 0).trans rfl; have hcz18_1 : w17.cell? ⟨gb382, 1, none⟩ = some (.int .i64 ((rd_T34 l0 x6_1).f1)) := (blk_cell BK382.out 1).trans rfl; have hcz18_2 : w17.cell? ⟨gb382, 2, none⟩ = some (.string ((rd_T34 l0 x6_1).f2)) := (blk_cell BK382.out 2).trans rfl; have hcz18_3 : w17.cell? ⟨gb382, 3, none⟩ = some (.string ((rd_T34 l0 x6_1).f3)) := (blk_cell BK382.out 3).trans rfl; have hcz18_4 : w17.cell? ⟨gb382, 4, none⟩ = some (.slice Ao15 y386.length co15) := (blk_cell BK382.out 4).trans rfl; have hfz18_0 := blk_frozen BK382.out 0; have hfz18_1 := blk_frozen BK382.out 1; have hfz18_2 := blk_frozen BK382.out 2; have hfz18_3 := blk_frozen BK382.out 3; have hfz18_4 := blk_frozen BK382.out 4) | ((with_reducible refine gate_builtin (b := .append) (xs := #[.tmp 29, .tmp 31]) rfl ?_); at_builtin; refine Kd.R_append k34 (w0 := w) w.heap.size rfl (.tmp 29) (.tmp 31) 22 34 (.agg #[(.int .i64 0), (.int .i64 0), (.string ⟨#[]⟩), (.string ⟨#[]⟩), (.slice none 0 0)]) 72 rfl Tryz.underlying22 info34 rfl (by decide) (by omega) u5 x5_1 (⟨wrap64 (((rd_T34 l0 x6_1).f0) + a1), (rd_T34 l0 x6_1).f1, (rd_T34 l0 x6_1).f2, (rd_T34 l0 x6_1).f3, y386⟩ : S34) [.int .i64 (wrap64 (((rd_T34 l0 x6_1).f0) + a1)), .int .i64 ((rd_T34 l0 x6_1).f1), .string ((rd_T34 l0 x6_1).f2), .string ((rd_T34 l0 x6_1).f3), .slice Ao15 y386.length co15] (fun k_ => k_ ≠ gb382) (fun k_ => ((fun k_ => k_ ≠ gb382)) k_ ∧ some k_ ≠ (u5 : Value).ownBlock) rfl rfl ?aP (fun _ hk => hk) ?aF ?aO ?aB ?aS ?aL ?_; (case aP => exact k34_mkM _ _ _ (⟨wrap64 (((rd_T34 l0 x6_1).f0) + a1), (rd_T34 l0 x6_1).f1, (rd_T34 l0 x6_1).f2, (rd_T34 l0 x6_1).f3, y386⟩ : S34) (Kd.R_mono (Kd.R_types (Kd.R_apart' (HO388.out) (Kd.R_typed HO_5.out) (by decide)) BK382.out (by decide)) (fun k_ hk => ⟨hk.2, hk.1.2⟩))); (case aB => exact (bs GE382.out)); (case aF => exact (fun k_ hk => Kd.freshB (g := gb382) (o := .cells #[.int .i64 (wrap64 (((rd_T34 l0 x6_1).f0) + a1)), .int .i64 ((rd_T34 l0 x6_1).f1), .string ((rd_T34 l0 x6_1).f2), .string ((rd_T34 l0 x6_1).f3), .slice Ao15 y386.length co15] 34 (0, 0)) (kz BK382.out) k_ hk)); (case aO => exact (by (with_reducible repeat (first | apply Kd.R_alloc | apply Kd.R_drewN | apply Kd.R_drew)); exact Kd.R_mono HO_5.out (fun _ hk => hk.2))); (case aS => exact (below_size (bs GE382.out))); (case aL => have := LMc8.out; omega); intro v390 w19 ho hb hg hat; rw [← Ny389.out] at ho; have n0_ := Aside0.mk (blk_grown (g := gb382) (o := .cells #[.int .i64 (wrap64 (((rd_T34 l0 x6_1).f0) + a1)), .int .i64 ((rd_T34 l0 x6_1).f1), .string ((rd_T34 l0 x6_1).f2), .string ((rd_T34 l0 x6_1).f3), .slice Ao15 y386.length co15] 34 (0, 0)) (kz BK382.out) hg (Kd.R_away HO_5.out (fun _ hk => hk.2))); have n1_ := Aside0.mk (hb); have n2_ := Aside0.mk (ho); clear BK382; clear HB; clear HO_5; clear HO388; have BK382 := n0_; have HB := n1_; have HO391 := n2_; clear n0_ n1_ n2_; clear ho hb hg hat))
        go_roundg k1
        case measure => have := HK1.out; omega
        case rel => exact ⟨(y389), (wrap64 (x6_1 + 1)), (by first | rfl | (simp; done) | (simp [*]; done) | (simp; generalize ByteArray.toList _ = l_; cases l_ <;> rfl)), H', ⟨by have := HK1.out; omega⟩, ⟨by (with_reducible repeat (first | apply Kd.R_alloc | apply Kd.R_drewN | apply Kd.R_drew)); exact Kd.R_mono HO391.out (fun _ hk => trivial)⟩, ⟨bs GE382.out⟩⟩
       ·rw [if_neg c8] at H
        exact absurd H (by simp)
      ·rw [if_neg c7] at H
       exact absurd H (by simp)
     ·rw [if_neg c6] at H
      exact absurd H (by simp)
    ·rw [if_neg c5] at H
     have c5b0 : decide (x6_1 < (l0.length : Int)) = false := decide_eq_false c5
     clear c5
     obtain rfl := Option.some.inj H
     go_wp2
     go_ret
     exact ⟨_, by first | rfl | (simp [errW_none, errW_some] <;> rfl) | (simp [*, errW_none, errW_some] <;> rfl), by (with_reducible repeat (first | apply Kd.R_alloc | apply Kd.R_drewN | apply Kd.R_drew)); exact HO_5.out, bz⟩
end Go.Proofs.YtkcmghlhpbepcaaGreatDoorH.W7

/- Words and walks used below. -/
namespace Go.Proofs.YtkcmghlhpbepcaaGreatDoorH.W7
open Go.RowKit Go.Proofs.YtkcmghlhpbepcaaGreatDoorW.PrintWords Go.Proofs.YtkcmghlhpbepcaaGreatDoorW.PrintLast Go.Proofs.YtkcmghlhpbepcaaGreatDoorW.PrintMore
attribute [local go_sem] max2_int min2_int max_two min_two max_three min_three max_four min_four   -- for this text's walks alone
def boltingref04_Join.f (k : Nat) (l0 : List (S34)) (l1 : List (S34)) : Option ((List (S34))) := (boltingref04_Moved.f k l0 0).bind fun t392 => ((boltingref04_Moved.f k l1 0).bind fun t395 => (if t392.length + t395.length < 1954687338268 then (some (t392 ++ t395)) else (none)))
set_option maxHeartbeats 8000000 in
set_option maxRecDepth 100000 in
theorem boltingref04_Join.calls (k : Nat) (A0 : Option Addr) (c0 : Nat) (l0 : List (S34)) (A1 : Option Addr) (c1 : Nat) (l1 : List (S34)) (r : List (S34)) (w : World) (hr0 : Kd.C k34 w A0 l0.length l0) (hc0 : l0.length ≤ c0) (hr1 : Kd.C k34 w A1 l1.length l1) (hc1 : l1.length ≤ c1) (h : boltingref04_Join.f k l0 l1 = some r) :
 Calls Tryz.prog 38 #[.slice A0 l0.length c0, .slice A1 l1.length c1] w fun e w' => ∃ v0_ : Value, e = .returned (v0_) ∧ Kd.N k34 34 w' w.heap.size (fun k_ => (w.heap.size ≤ k_)) v0_ r ∧ Below w.heap.size w w' := by
 have HR0 := Aside0.mk hr0
 have HC0 := Aside0.mk hc0
 clear hr0 hc0
 have HR1 := Aside0.mk hr1
 have HC1 := Aside0.mk hc1
 clear hr1 hc1
 have HB := Aside0.mk (Below.refl w.heap.size w)
 have H : ((boltingref04_Moved.f k l0 0).bind fun t392 => ((boltingref04_Moved.f k l1 0).bind fun t395 => (if t392.length + t395.length < 1954687338268 then (some (t392 ++ t395)) else (none)))) = some r := h
 clear h
 replace H := Option.bind_eq_some_iff.mp H
 obtain ⟨t392, A30, H⟩ := H
 replace H : ((boltingref04_Moved.f k l1 0).bind fun t395 => (if t392.length + t395.length < 1954687338268 then (some (t392 ++ t395)) else (none))) = some r := H
 have A3 := Aside0.mk A30
 clear A30
 replace H := Option.bind_eq_some_iff.mp H
 obtain ⟨t395, A40, H⟩ := H
 replace H : (if t392.length + t395.length < 1954687338268 then (some (t392 ++ t395)) else (none)) = some r := H
 have A4 := Aside0.mk A40
 clear A40
 by_cases c5 : t392.length + t395.length < 1954687338268
 ·rw [if_pos c5] at H
  have LMc5 := Aside0.mk c5
  clear c5
  obtain ⟨y398, hy398⟩ : ∃ y_ : List (S34), y_ = (t392 ++ t395) := ⟨_, rfl⟩
  replace H : (some y398) = some r := by first | (rw [hy398]; with_reducible exact H) | (have H2_ := (Option.bind_some _ _).symm.trans H; rw [hy398]; with_reducible exact H2_) | (have H2_ := (Option.bind_some _ _).symm.trans H; with_reducible exact H2_) | with_reducible exact H | (rw [hy398]; exact H) | exact H
  have Ny398 := Aside0.mk hy398
  clear hy398
  obtain rfl := Option.some.inj H
  go_enter Tryz.func38, Tryz.ntmps38
  go_wp2_with (first | ((with_reducible refine gate_callee (f := 44) rfl ?_); refine goesL_ (some 7) rfl rfl Tryz.func44 (by kernel_rfl) rfl #[.slice A0 l0.length c0, .int .i64 0] rfl (by (try simp only [List.map_toArray, List.map_cons, List.map_nil]); first | done | rfl | (simp only [List.length_drop, List.length_take]; rfl)) ?_; (with_reducible refine (boltingref04_Moved.calls k _ _ l0 0 t392 _ ?side1 ?side2 A3.out).mono ?_); (case side1 => repeat (first | exact HR0.out | (with_reducible refine Kd.C_alloc ?_ _) | (with_reducible refine Kd.C_drewN ?_ _) | (with_reducible refine Kd.C_drew ?_))); (case side2 => exact HC0.out); rintro e w6 ⟨v393, rfl, ho0, hb⟩; refine ⟨_, rfl, ?_⟩; have n0_ := Aside0.mk (Kd.N_lower (Kd.N_mono (ok' := fun k_ => (w.heap.size ≤ k_)) (Kd.R_N (Kd.R_bound ho0)) (fun k_ hk_ => (Nat.le_trans (below_size bz) hk_.2.1))) (below_size bz)); have n1_ := Aside0.mk (below_step bz hb); clear HB; have HO394 := n0_; have HB := n1_; clear n0_ n1_; (try clear hb); (try clear hb2); (try clear hk); (try clear hi); (try clear ho0)) | ((with_reducible refine gate_callee (f := 44) rfl ?_); refine goesL_ (some 10) rfl rfl Tryz.func44 (by kernel_rfl) rfl #[.slice A1 l1.length c1, .int .i64 0] rfl (by (try simp only [List.map_toArray, List.map_cons, List.map_nil]); first | done | rfl | (simp only [List.length_drop, List.length_take]; rfl)) ?_; (with_reducible refine (boltingref04_Moved.calls k _ _ l1 0 t395 _ ?side1 ?side2 A4.out).mono ?_); (case side1 => exact cz (Kd.C_below HR1.out HB.out)); (case side2 => exact HC1.out); rintro e w7 ⟨v396, rfl, ho0, hb⟩; refine ⟨_, rfl, ?_⟩; have n0_ := Aside0.mk (Kd.N_elder' (nz HO394.out) (by first | exact Kd.N_base ho0 | exact Kd.R_base ho0) hb); have n1_ := Aside0.mk (Kd.N_lower (Kd.N_mono (ok' := fun k_ => (w.heap.size ≤ k_) ∧ some k_ ≠ (v393 : Value).ownBlock) (Kd.R_N (Kd.R_bound ho0)) (fun k_ hk_ => ⟨(Nat.le_trans (below_size bz) hk_.2.1), (Kd.fresh' (Kd.N_lt (nz HO394.out)) k_ hk_.2.1)⟩)) (below_size bz)); have n2_ := Aside0.mk (below_step bz hb); clear HO394; clear HB; have HO394 := n0_; have HO397 := n1_; have HB := n2_; clear n0_ n1_ n2_; (try clear hb); (try clear hb2); (try clear hk); (try clear hi); (try clear ho0); obtain ⟨Ao9, co9, eo9⟩ := Kd.N_slice HO397.out; subst eo9) | ((with_reducible refine gate_builtin (b := .append) (xs := #[.tmp 8, .tmp 10]) rfl ?_); at_builtin; refine Kd.N_append_rows k34 (w0 := w) w.heap.size rfl (.tmp 8) (.tmp 10) 22 34 (.agg #[(.int .i64 0), (.int .i64 0), (.string ⟨#[]⟩), (.string ⟨#[]⟩), (.slice none 0 0)]) 72 rfl Tryz.underlying22 info34 rfl (by decide) (by omega) v393 t392 t395 _ _ _ (fun k_ => (w.heap.size ≤ k_)) (fun k_ => ((fun k_ => (w.heap.size ≤ k_))) k_ ∧ some k_ ≠ (v393 : Value).ownBlock) rfl rfl ?aO ?aR (fun _ hk => hk) ?aF ?aB ?aS ?aL ?_; (case aR => exact (by skip; exact Kd.N_F (Kd.N_mono (ok' := (fun k_ => ((fun k_ => (w.heap.size ≤ k_))) k_ ∧ some k_ ≠ (v393 : Value).ownBlock)) (HO397.out) (fun k_ hk => ⟨hk.1, hk.2⟩)))); (case aB => exact bz); (case aF => exact (fun k_ hk => (Nat.le_trans (below_size bz) hk))); (case aO => exact (by (with_reducible repeat (first | apply Kd.N_alloc | apply Kd.N_drewN | apply Kd.N_drew)); exact Kd.N_mono HO394.out (fun _ hk => hk.1))); (case aS => exact (below_size bz)); (case aL => have := LMc5.out; omega); intro v399 w8 ho hb hg hat; rw [← Ny398.out] at ho; have n0_ := Aside0.mk (Kd.N_afterv (ok := (fun k_ => (w.heap.size ≤ k_))) (nz HO397.out) hg hat); have n1_ := Aside0.mk (hb); have n2_ := Aside0.mk (ho); clear HO397; clear HB; clear HO394; have HO397 := n0_; have HB := n1_; have HO400 := n2_; clear n0_ n1_ n2_; clear ho hb hg hat))
  go_ret
  exact ⟨_, by first | rfl | (simp [errW_none, errW_some] <;> rfl) | (simp [*, errW_none, errW_some] <;> rfl), by (with_reducible repeat (first | apply Kd.N_alloc | apply Kd.N_drewN | apply Kd.N_drew)); exact HO400.out, bz⟩
 ·rw [if_neg c5] at H
  exact absurd H (by simp)
end Go.Proofs.YtkcmghlhpbepcaaGreatDoorH.W7
