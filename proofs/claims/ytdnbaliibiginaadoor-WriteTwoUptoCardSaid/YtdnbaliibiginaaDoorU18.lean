/- Lemmas and walks, part 18: QPW8x27, QPW8x14, QW8F, QPW8x39, QPW8x40, QW8B, QW8C, QE8C. -/
import Derived.Test.YtdnbaliibiginaaDoorU4
import Derived.Test.YtdnbaliibiginaaDoorU11
import Derived.Test.YtdnbaliibiginaaDoorU16
import Derived.Test.YtdnbaliibiginaaDoorU17
import Derived.Test.YtdnbaliibiginaaDoorU5
import Derived.Lib.SliceRun
import Derived.Lib.Walk
set_option linter.unusedVariables false
set_option linter.unusedSimpArgs false

/- Words and walks used below. -/
namespace Go.Proofs.YtdnbaliibiginaaDoorH.W8
open Go.RowKit Go.Proofs.YtdnbaliibiginaaDoorW.PrintWords Go.Proofs.YtdnbaliibiginaaDoorW.PrintLast Go.Proofs.YtdnbaliibiginaaDoorW.PrintMore
attribute [local go_sem] max2_int min2_int max_two min_two max_three min_three max_four min_four   -- for this text's walks alone
def names_Gone.f (k : Nat) (a0 : ByteArray) : Option (Bool) := (names_among.f k a0 (([(⟨#[98, 111, 100, 121]⟩ : ByteArray), (⟨#[102, 114, 97, 109, 101, 115, 101, 116]⟩ : ByteArray), (⟨#[104, 101, 97, 100]⟩ : ByteArray), (⟨#[104, 116, 109, 108]⟩ : ByteArray)] : List ByteArray))).bind fun t180 => (some t180)
set_option maxHeartbeats 8000000 in
set_option maxRecDepth 100000 in
theorem names_Gone.calls (k : Nat) (a0 : ByteArray) (r : Bool) (w : World) (h : names_Gone.f k a0 = some r) :
  Calls Tryd.prog 64 #[.string a0] w fun e w' => e = .returned (.bool r) ∧ Below w.heap.size w w' := by
 have HB := Aside0.mk (Below.refl w.heap.size w)
 have H : ((names_among.f k a0 (([(⟨#[98, 111, 100, 121]⟩ : ByteArray), (⟨#[102, 114, 97, 109, 101, 115, 101, 116]⟩ : ByteArray), (⟨#[104, 101, 97, 100]⟩ : ByteArray), (⟨#[104, 116, 109, 108]⟩ : ByteArray)] : List ByteArray))).bind fun t180 => (some t180)) = some r := h
 clear h
 obtain ⟨y177, hy177⟩ : ∃ y_ : List ByteArray, y_ = (([(⟨#[98, 111, 100, 121]⟩ : ByteArray), (⟨#[102, 114, 97, 109, 101, 115, 101, 116]⟩ : ByteArray), (⟨#[104, 101, 97, 100]⟩ : ByteArray), (⟨#[104, 116, 109, 108]⟩ : ByteArray)] : List ByteArray)) := ⟨_, rfl⟩
 replace H : ((names_among.f k a0 y177).bind fun t180 => (some t180)) = some r := by first | (rw [hy177]; with_reducible exact H) | (have H2_ := (Option.bind_some _ _).symm.trans H; rw [hy177]; with_reducible exact H2_) | (have H2_ := (Option.bind_some _ _).symm.trans H; with_reducible exact H2_) | with_reducible exact H | (rw [hy177]; exact H) | exact H
 have Ny177 := Aside0.mk hy177
 clear hy177
 replace H := Option.bind_eq_some_iff.mp H
 obtain ⟨t180, A20, H⟩ := H
 replace H : (some t180) = some r := H
 have A2 := Aside0.mk A20
 clear A20
 obtain rfl := Option.some.inj H
 go_enter Tryd.func64, Tryd.ntmps64
 go_wp2_with (first | ((with_reducible refine gate_dst (N := 4) rfl ?_); refine Kd.R_lit Kd.string _ 9 ?hg (N := 4) ?hd (xs := ([(⟨#[98, 111, 100, 121]⟩ : ByteArray), (⟨#[102, 114, 97, 109, 101, 115, 101, 116]⟩ : ByteArray), (⟨#[104, 101, 97, 100]⟩ : ByteArray), (⟨#[104, 116, 109, 108]⟩ : ByteArray)] : List ByteArray)) (inner := [.string (⟨#[98, 111, 100, 121]⟩ : ByteArray), .string (⟨#[102, 114, 97, 109, 101, 115, 101, 116]⟩ : ByteArray), .string (⟨#[104, 101, 97, 100]⟩ : ByteArray), .string (⟨#[104, 116, 109, 108]⟩ : ByteArray)]) (ok := fun _ => True) (okp := fun _ => True) ?hr ?hp (fun _ hk => hk) trivial (Below.refl _ _) (Nat.le_refl _) (by simp) ?_; (case hd => rfl); (case hg => rfl); (case hr => first | (go_simp; done) | (go_simp; rfl)); (case hp => exact (Reps.one (show Kd.M Kd.string _ _ _ (⟨#[98, 111, 100, 121]⟩ : ByteArray) [.string (⟨#[98, 111, 100, 121]⟩ : ByteArray)] from rfl) (Reps.one (show Kd.M Kd.string _ _ _ (⟨#[102, 114, 97, 109, 101, 115, 101, 116]⟩ : ByteArray) [.string (⟨#[102, 114, 97, 109, 101, 115, 101, 116]⟩ : ByteArray)] from rfl) (Reps.one (show Kd.M Kd.string _ _ _ (⟨#[104, 101, 97, 100]⟩ : ByteArray) [.string (⟨#[104, 101, 97, 100]⟩ : ByteArray)] from rfl) (Reps.one (show Kd.M Kd.string _ _ _ (⟨#[104, 116, 109, 108]⟩ : ByteArray) [.string (⟨#[104, 116, 109, 108]⟩ : ByteArray)] from rfl) (Reps.none _ _)))))); intro v178 w3 ho4 hb hg_ hnew_; clear hg_ hnew_; (first | rw [← Ny177.out] at ho4 | (simp only [Int.reduceToNat] at ho4; rw [← Ny177.out] at ho4)); have n0_ := Aside0.mk (Kd.R_lower ho4 (below_size bz)); have n1_ := Aside0.mk (below_step bz hb); clear HB; have HO179 := n0_; have HB := n1_; clear n0_ n1_; clear hb ho4; obtain ⟨Ao5, co5, eo5⟩ := Kd.R_slice HO179.out; subst eo5) | ((with_reducible refine gate_callee (f := 52) rfl ?_); refine goesL_ (some 5) rfl rfl Tryd.func52 (by kernel_rfl) rfl #[.string a0, .slice Ao5 y177.length co5] rfl (by (try simp only [List.map_toArray, List.map_cons, List.map_nil]); first | done | rfl | (simp only [List.length_drop, List.length_take]; rfl)) ?_; (with_reducible refine (names_among.calls k a0 _ _ y177 t180 _ ?side1 ?side2 A2.out).mono ?_); (case side1 => exact cz (Kd.R_reads' HO179.out).2.2); (case side2 => exact (Kd.R_reads' HO179.out).2.1); rintro e w' ⟨rfl, ⟨nd, rfl⟩⟩; refine ⟨_, rfl, ?_⟩))
 go_ret
 exact ⟨by first | rfl | (simp [errW_none, errW_some] <;> rfl) | (simp [*, errW_none, errW_some] <;> rfl), bz⟩
end Go.Proofs.YtdnbaliibiginaaDoorH.W8

/- Words and walks used below. -/
namespace Go.Proofs.YtdnbaliibiginaaDoorH.W8
open Go.RowKit Go.Proofs.YtdnbaliibiginaaDoorW.PrintWords Go.Proofs.YtdnbaliibiginaaDoorW.PrintLast Go.Proofs.YtdnbaliibiginaaDoorW.PrintMore
attribute [local go_sem] max2_int min2_int max_two min_two max_three min_three max_four min_four   -- for this text's walks alone
def names_Soft.f (k : Nat) (a0 : ByteArray) : Option (Bool) := (names_among.f k a0 (([(⟨#[116, 101, 120, 116, 97, 114, 101, 97]⟩ : ByteArray), (⟨#[116, 105, 116, 108, 101]⟩ : ByteArray)] : List ByteArray))).bind fun t140 => (some t140)
set_option maxHeartbeats 8000000 in
set_option maxRecDepth 100000 in
theorem names_Soft.calls (k : Nat) (a0 : ByteArray) (r : Bool) (w : World) (h : names_Soft.f k a0 = some r) :
  Calls Tryd.prog 67 #[.string a0] w fun e w' => e = .returned (.bool r) ∧ Below w.heap.size w w' := by
 have HB := Aside0.mk (Below.refl w.heap.size w)
 have H : ((names_among.f k a0 (([(⟨#[116, 101, 120, 116, 97, 114, 101, 97]⟩ : ByteArray), (⟨#[116, 105, 116, 108, 101]⟩ : ByteArray)] : List ByteArray))).bind fun t140 => (some t140)) = some r := h
 clear h
 obtain ⟨y137, hy137⟩ : ∃ y_ : List ByteArray, y_ = (([(⟨#[116, 101, 120, 116, 97, 114, 101, 97]⟩ : ByteArray), (⟨#[116, 105, 116, 108, 101]⟩ : ByteArray)] : List ByteArray)) := ⟨_, rfl⟩
 replace H : ((names_among.f k a0 y137).bind fun t140 => (some t140)) = some r := by first | (rw [hy137]; with_reducible exact H) | (have H2_ := (Option.bind_some _ _).symm.trans H; rw [hy137]; with_reducible exact H2_) | (have H2_ := (Option.bind_some _ _).symm.trans H; with_reducible exact H2_) | with_reducible exact H | (rw [hy137]; exact H) | exact H
 have Ny137 := Aside0.mk hy137
 clear hy137
 replace H := Option.bind_eq_some_iff.mp H
 obtain ⟨t140, A20, H⟩ := H
 replace H : (some t140) = some r := H
 have A2 := Aside0.mk A20
 clear A20
 obtain rfl := Option.some.inj H
 go_enter Tryd.func67, Tryd.ntmps67
 go_wp2_with (first | ((with_reducible refine gate_dst (N := 4) rfl ?_); refine Kd.R_lit Kd.string _ 9 ?hg (N := 4) ?hd (xs := ([(⟨#[116, 101, 120, 116, 97, 114, 101, 97]⟩ : ByteArray), (⟨#[116, 105, 116, 108, 101]⟩ : ByteArray)] : List ByteArray)) (inner := [.string (⟨#[116, 101, 120, 116, 97, 114, 101, 97]⟩ : ByteArray), .string (⟨#[116, 105, 116, 108, 101]⟩ : ByteArray)]) (ok := fun _ => True) (okp := fun _ => True) ?hr ?hp (fun _ hk => hk) trivial (Below.refl _ _) (Nat.le_refl _) (by simp) ?_; (case hd => rfl); (case hg => rfl); (case hr => first | (go_simp; done) | (go_simp; rfl)); (case hp => exact (Reps.one (show Kd.M Kd.string _ _ _ (⟨#[116, 101, 120, 116, 97, 114, 101, 97]⟩ : ByteArray) [.string (⟨#[116, 101, 120, 116, 97, 114, 101, 97]⟩ : ByteArray)] from rfl) (Reps.one (show Kd.M Kd.string _ _ _ (⟨#[116, 105, 116, 108, 101]⟩ : ByteArray) [.string (⟨#[116, 105, 116, 108, 101]⟩ : ByteArray)] from rfl) (Reps.none _ _)))); intro v138 w3 ho4 hb hg_ hnew_; clear hg_ hnew_; (first | rw [← Ny137.out] at ho4 | (simp only [Int.reduceToNat] at ho4; rw [← Ny137.out] at ho4)); have n0_ := Aside0.mk (Kd.R_lower ho4 (below_size bz)); have n1_ := Aside0.mk (below_step bz hb); clear HB; have HO139 := n0_; have HB := n1_; clear n0_ n1_; clear hb ho4; obtain ⟨Ao5, co5, eo5⟩ := Kd.R_slice HO139.out; subst eo5) | ((with_reducible refine gate_callee (f := 52) rfl ?_); refine goesL_ (some 5) rfl rfl Tryd.func52 (by kernel_rfl) rfl #[.string a0, .slice Ao5 y137.length co5] rfl (by (try simp only [List.map_toArray, List.map_cons, List.map_nil]); first | done | rfl | (simp only [List.length_drop, List.length_take]; rfl)) ?_; (with_reducible refine (names_among.calls k a0 _ _ y137 t140 _ ?side1 ?side2 A2.out).mono ?_); (case side1 => exact cz (Kd.R_reads' HO139.out).2.2); (case side2 => exact (Kd.R_reads' HO139.out).2.1); rintro e w' ⟨rfl, ⟨nd, rfl⟩⟩; refine ⟨_, rfl, ?_⟩))
 go_ret
 exact ⟨by first | rfl | (simp [errW_none, errW_some] <;> rfl) | (simp [*, errW_none, errW_some] <;> rfl), bz⟩
end Go.Proofs.YtdnbaliibiginaaDoorH.W8

/- Names, in numbers and lists alone: what the printed questions about names answer, whatever the rounds. -/
namespace Go.Proofs.YtdnbaliibiginaaDoorH.W8
open Go.RowKit Go.Proofs Go.Proofs.YtdnbaliibiginaaDoorH Go.Proofs.YtdnbaliibiginaaDoor Go.Proofs.YtdnbaliibiginaaDoorW.PrintWords
def spaceB (c : Int) : Bool := decide (c = 32) || decide (c = 9) || decide (c = 10) || decide (c = 12) || decide (c = 13)
theorem space_fq (c : Int) : fold_Space.f c = some (spaceB c) := by
 unfold fold_Space.f spaceB
 by_cases h1 : c = 32
 ·rw [if_pos h1]; simp [h1]
 rw [if_neg h1]
 by_cases h2 : c = 9
 ·rw [if_pos h2]; simp [h2]
 rw [if_neg h2]
 by_cases h3 : c = 10
 ·rw [if_pos h3]; simp [h3]
 rw [if_neg h3]
 by_cases h4 : c = 12
 ·rw [if_pos h4]; simp [h4]
 rw [if_neg h4]
 congr 1
 by_cases h5 : c = 13
 ·simp [h5]
 ·simp [h1, h2, h3, h4, h5]
def badC (c : Int) : Bool := spaceB c || (decide (65 ≤ c) && decide (c ≤ 90)) || decide (c = 0)
def inC (t : ByteArray) (c : Int) : Nat → Nat → Bool
 | 0, _ => false
 | d + 1, j => decide (c = bt t j) || inC t c d (j + 1)
def okC (t : ByteArray) (c : Int) : Bool := !badC c && !inC t c t.size 0
def okFrom (s t : ByteArray) : Nat → Nat → Bool
 | 0, _ => s.toList != []
 | d + 1, i => okC t (bt s i) && okFrom s t d (i + 1)
theorem plain_l (s t : ByteArray) (hs : s.size < 1000000000) (ht : t.size < 1000000000) : ∀ k : Nat,
  (∀ d i : Nat, i + d = s.size → d * (t.size + 4) + 1 ≤ k → names_plain.l0 k s t (s.size : Int) i = some (okFrom s t d i)) ∧
  (∀ (d i : Nat) (b : Bool), i + d + 1 = s.size → t.size + 3 + d * (t.size + 4) ≤ k → names_plain.j1 k s t i (s.size : Int) i b = some (!b && !inC t (bt s i) t.size 0 && okFrom s t d (i + 1))) ∧
  (∀ d e i j : Nat, i + d + 1 = s.size → j + e = t.size → e + 2 + d * (t.size + 4) ≤ k → names_plain.l1 k s t i (s.size : Int) i (t.size : Int) j = some (!inC t (bt s i) e j && okFrom s t d (i + 1))) := by
 intro k
 induction k with
 | zero => exact ⟨fun d i _ h => by omega, fun d i b _ h => by omega, fun d e i j _ _ h => by omega⟩
 | succ k ih =>
  refine ⟨?_, ?_, ?_⟩
  ·intro d i hd hk
   cases d with
   | zero =>
    simp only [names_plain.l0]
    rw [if_neg (by omega)]
    rfl
   | succ d =>
    have h1 : (d + 1) * (t.size + 4) = d * (t.size + 4) + t.size + 4 := by rw [Nat.succ_mul]; omega
    simp only [names_plain.l0]
    rw [if_pos (by omega), if_pos (by omega), if_pos (by omega), space_fq, Option.bind_some]
    have hj : ∀ b, b = badC (bt s i) → names_plain.j1 k s t i (s.size : Int) i b = some (okFrom s t (d + 1) i) := by
     intro b hb
     rw [ih.2.1 d i b (by omega) (by omega), hb]
     rfl
    unfold badC at hj
    by_cases h2 : spaceB (bt s i) = true
    ·rw [if_pos h2]
     exact hj true (by rw [h2]; rfl)
    ·rw [if_neg h2]
     rw [Bool.not_eq_true] at h2
     rw [h2] at hj
     by_cases h3 : bt s i ≥ 65
     ·rw [if_pos h3]
      by_cases h4 : bt s i ≤ 90
      ·rw [if_pos h4]
       exact hj true (by simp [h4]; omega)
      ·rw [if_neg h4]
       exact hj _ (by simp [h4]; rfl)
     ·rw [if_neg h3]
      have h5 : ¬ 65 ≤ bt s i := by omega
      exact hj _ (by simp [h5]; rfl)
  ·intro d i b hd hk
   simp only [names_plain.j1]
   cases b with
   | true => rw [if_pos rfl]; rfl
   | false =>
    rw [if_neg (by decide)]
    exact ih.2.2 d t.size i 0 (by omega) (by omega) (by omega)
  ·intro d e i j hd he hk
   cases e with
   | zero =>
    simp only [names_plain.l1]
    rw [if_neg (by omega), wN (by omega)]
    rw [ih.1 d (i + 1) (by omega) (by omega)]
    rfl
   | succ e =>
    simp only [names_plain.l1]
    rw [if_pos (by omega), if_pos (by omega), if_pos (by omega), if_pos (by omega), if_pos (by omega)]
    by_cases h1 : bt s i = bt t j
    ·rw [if_pos h1]
     simp [inC, h1]
    ·rw [if_neg h1, wN (by omega), ih.2.2 d e i (j + 1) (by omega) (by omega) (by omega)]
     simp [inC, h1]
def plainB (s t : ByteArray) : Bool := okFrom s t s.size 0
theorem plain_f (s t : ByteArray) (hs : s.size < 1000000000) (ht : t.size < 100) (k : Nat) (hk : 200 * s.size + 1 ≤ k) : names_plain.f k s t = some (plainB s t) :=
 (plain_l s t hs (by omega) k).1 s.size 0 (by omega) (Nat.le_trans (Nat.add_le_add_right (by rw [Nat.mul_comm]; exact Nat.mul_le_mul_right _ (by omega)) 1) hk)
theorem letter_fq (c : Int) : ∃ b, fold_Letter.f c = some b ∧ b = ((decide (97 ≤ c) && decide (c ≤ 122)) || (decide (65 ≤ c) && decide (c ≤ 90))) := by
 unfold fold_Letter.f
 by_cases h1 : c ≥ 97
 ·rw [if_pos h1]
  by_cases h2 : c ≤ 122
  ·rw [if_pos h2]; exact ⟨_, rfl, by simp [h1, h2]⟩
  ·rw [if_neg h2, if_pos (by omega)]; exact ⟨_, rfl, by simp [h2]; omega⟩
 ·rw [if_neg h1]
  by_cases h2 : c ≥ 65
  ·rw [if_pos h2]
   refine ⟨_, rfl, ?_⟩
   have h3 : ¬ 97 ≤ c := by omega
   have h4 : 65 ≤ c := h2
   simp [h3, h4]
  ·rw [if_neg h2]
   refine ⟨_, rfl, ?_⟩
   have h3 : ¬ 97 ≤ c := by omega
   have h4 : ¬ 65 ≤ c := by omega
   simp [h3, h4]
def letterB (c : Int) : Bool := (decide (97 ≤ c) && decide (c ≤ 122)) || (decide (65 ≤ c) && decide (c ≤ 90))
theorem letter_f (c : Int) : fold_Letter.f c = some (letterB c) := by obtain ⟨b, h1, h2⟩ := letter_fq c; rw [h1, h2]; rfl
theorem okFrom_nil (s t : ByteArray) : ∀ d i, okFrom s t d i = true → s.toList ≠ []
 | 0, i, h => bne_iff_ne.1 h
 | d + 1, i, h => by
  simp only [okFrom, Bool.and_eq_true] at h
  exact okFrom_nil s t d (i + 1) h.2
theorem size_pos (s : ByteArray) (h : s.toList ≠ []) : 0 < s.size := by
 rw [Lib.toList_data] at h
 rw [ba_size]
 exact List.length_pos_iff.2 h
def rightB (s : ByteArray) : Bool := plainB s ⟨#[47, 62]⟩ && letterB (bt s 0)
theorem nright_f (s : ByteArray) (hs : s.size < 1000000000) (k : Nat) (hk : 200 * s.size + 1 ≤ k) : names_Right.f k s = some (rightB s) := by
 unfold names_Right.f rightB
 rw [plain_f s _ hs (by decide) k hk, Option.bind_some]
 cases h : plainB s ⟨#[47, 62]⟩ with
 | false => rw [if_neg (by decide)]; rfl
 | true =>
  have := size_pos s (okFrom_nil _ _ _ _ h)
  rw [if_pos rfl, if_pos (by omega), letter_f, Option.bind_some]
  rfl
def attrB (s : ByteArray) : Bool := plainB s ⟨#[47, 62, 34, 39, 60, 61]⟩
theorem nattr_f (s : ByteArray) (hs : s.size < 1000000000) (k : Nat) (hk : 200 * s.size + 1 ≤ k) : names_Attr.f k s = some (attrB s) := by
 unfold names_Attr.f
 rw [plain_f s _ hs (by decide) k hk, Option.bind_some]
 rfl
def gones : List ByteArray := [(⟨#[98, 111, 100, 121]⟩ : ByteArray), (⟨#[102, 114, 97, 109, 101, 115, 101, 116]⟩ : ByteArray), (⟨#[104, 101, 97, 100]⟩ : ByteArray), (⟨#[104, 116, 109, 108]⟩ : ByteArray)]
theorem gone_f (s : ByteArray) (k : Nat) (hk : 20 ≤ k) : names_Gone.f k s = some (memS gones s) := by
 unfold names_Gone.f
 rw [among_f _ _ _ (by simp) (by simp; omega)]
 rfl
theorem ite_ev {α : Type} {p : Prop} [Decidable p] {f g : Nat → Option α} {n : Nat} (hf : ∃ b, ∀ k, n ≤ k → f k = some b) (hg : ∃ b, ∀ k, n ≤ k → g k = some b) : ∃ b, ∀ k, n ≤ k → (if p then f k else g k) = some b := by
 by_cases h : p
 ·simp only [if_pos h]; exact hf
 ·simp only [if_neg h]; exact hg
theorem bind_ev {α β : Type} {f : Nat → Option α} {g : α → Nat → Option β} {n : Nat} (hf : ∃ b, ∀ k, n ≤ k → f k = some b) (hg : ∀ b, ∃ r, ∀ k, n ≤ k → g b k = some r) : ∃ b, ∀ k, n ≤ k → ((f k).bind fun b => g b k) = some b := by
 obtain ⟨b, hb⟩ := hf
 obtain ⟨r, hr⟩ := hg b
 exact ⟨r, fun k hk => by rw [hb k hk, Option.bind_some, hr k hk]⟩
theorem some_ev {α : Type} (a : α) (n : Nat) : ∃ b, ∀ k : Nat, n ≤ k → (some a : Option α) = some b := ⟨a, fun _ _ => rfl⟩
theorem up_ev {α : Type} {f : Nat → Option α} {n m : Nat} (h : n ≤ m) (hf : ∃ b, ∀ k, n ≤ k → f k = some b) : ∃ b, ∀ k, m ≤ k → f k = some b := by
 obtain ⟨b, hb⟩ := hf
 exact ⟨b, fun k hk => hb k (Nat.le_trans h hk)⟩
theorem among_ev (s : ByteArray) (l : List ByteArray) (n : Nat) (hl : l.length < 100) (hn : 100 ≤ n) : ∃ b, ∀ k, n ≤ k → names_among.f k s l = some b :=
 ⟨_, fun k hk => among_f _ _ _ (by omega) (by omega)⟩
theorem soft_ev (s : ByteArray) : ∃ b, ∀ k, 100 ≤ k → names_Soft.f k s = some b := by
 unfold names_Soft.f
 exact bind_ev (among_ev _ _ _ (by decide) (by omega)) fun b => some_ev _ _
theorem table_ev (s : ByteArray) : ∃ b, ∀ k, 100 ≤ k → names_table.f k s = some b := by
 unfold names_table.f
 exact bind_ev (among_ev _ _ _ (by decide) (by omega)) fun b => some_ev _ _
theorem block_ev (s : ByteArray) : ∃ b, ∀ k, 100 ≤ k → names_Block.f k s = some b := by
 unfold names_Block.f
 exact bind_ev (among_ev _ _ _ (by decide) (by omega)) fun b => some_ev _ _
theorem walls_ev (s : ByteArray) : ∃ b, ∀ k, 100 ≤ k → names_Walls.f k s = some b := by
 unfold names_Walls.f
 exact ite_ev (some_ev _ _) (bind_ev (among_ev _ _ _ (by decide) (by omega)) fun b => ite_ev (some_ev _ _) (bind_ev (among_ev _ _ _ (by decide) (by omega)) fun b => ite_ev (some_ev _ _) (bind_ev (up_ev (by omega) (table_ev s)) fun b => ite_ev (some_ev _ _) (some_ev _ _))))
theorem closesj_ev (s t : ByteArray) (b : Bool) : ∃ r, ∀ k, 101 ≤ k → names_Closes.j0 k s t b = some r := by
 have h : ∃ r, ∀ k, 100 ≤ k → names_Closes.j0 (k + 1) s t b = some r := by
  simp only [names_Closes.j0]
  refine ite_ev (some_ev _ _) (ite_ev (some_ev _ _) (ite_ev (some_ev _ _) (ite_ev (some_ev _ _) (ite_ev (some_ev _ _) (ite_ev (some_ev _ _) (ite_ev (some_ev _ _) ?_))))))
  exact bind_ev (up_ev (by omega) (table_ev s)) fun b => ite_ev (some_ev _ _) (bind_ev (up_ev (by omega) (block_ev s)) fun b => ite_ev (some_ev _ _) (some_ev _ _))
 obtain ⟨r, hr⟩ := h
 exact ⟨r, fun k hk => by obtain ⟨k, rfl⟩ : ∃ m, k = m + 1 := ⟨k - 1, by omega⟩; exact hr k (by omega)⟩
theorem closes_ev (s : ByteArray) : ∃ b, ∀ k, 101 ≤ k → names_Closes.f k s = some b := by
 unfold names_Closes.f
 exact ite_ev (closesj_ev _ _ _) (closesj_ev _ _ _)
theorem nested_ev (s : ByteArray) (l : List ByteArray) : ∃ b, ∀ k, 101 ≤ k → build_Nested.f k s l = some b := by
 unfold build_Nested.f
 have h1 : ∃ b, ∀ k : Nat, 101 ≤ k → build_paragraph.f s = some b := by
  unfold build_paragraph.f
  exact ite_ev (some_ev _ _) (ite_ev (some_ev _ _) (some_ev _ _))
 have h2 : ∀ a b : List ByteArray, ∃ r, ∀ k : Nat, 101 ≤ k → build_found.f l a b = some r := fun a b => some_ev _ _
 exact bind_ev h1 fun b => ite_ev (bind_ev (up_ev (by omega) (walls_ev _)) fun w => bind_ev (h2 _ _) fun r => ite_ev (some_ev _ _) (bind_ev (closes_ev s) fun c => bind_ev (up_ev (by omega) (walls_ev s)) fun w => bind_ev (h2 _ _) fun r => some_ev _ _)) (bind_ev (closes_ev s) fun c => bind_ev (up_ev (by omega) (walls_ev s)) fun w => bind_ev (h2 _ _) fun r => some_ev _ _)
noncomputable def nestedB (s : ByteArray) (l : List ByteArray) : Bool := (nested_ev s l).choose
theorem nested_f (s : ByteArray) (l : List ByteArray) (k : Nat) (hk : 101 ≤ k) : build_Nested.f k s l = some (nestedB s l) := (nested_ev s l).choose_spec k hk
noncomputable def softB (s : ByteArray) : Bool := (soft_ev s).choose
theorem soft_f (s : ByteArray) (k : Nat) (hk : 100 ≤ k) : names_Soft.f k s = some (softB s) := (soft_ev s).choose_spec k hk
end Go.Proofs.YtdnbaliibiginaaDoorH.W8

/- Words and walks used below. -/
namespace Go.Proofs.YtdnbaliibiginaaDoorH.W8
open Go.RowKit Go.Proofs.YtdnbaliibiginaaDoorW.PrintWords Go.Proofs.YtdnbaliibiginaaDoorW.PrintLast Go.Proofs.YtdnbaliibiginaaDoorW.PrintMore
attribute [local go_sem] max2_int min2_int max_two min_two max_three min_three max_four min_four   -- for this text's walks alone
mutual
def boltingref04_Row.j0 : Nat → Bool → Int → Int → ByteArray → ByteArray → List (S45) → Option (Bool)
 | 0, _, _, _, _, _, _ => none
 | k + 1, x12, x307000, x307001, x307002, x307003, x307004 => if x12 = true then (if x307002.toList = ([] : List UInt8) then (some ((x307004.length : Int) == 0)) else (some false)) else (boltingref04_Row.l0 k 0 x307000 x307001 x307002 x307003 x307004)
def boltingref04_Row.l0 : Nat → Int → Int → Int → ByteArray → ByteArray → List (S45) → Option (Bool)
 | 0, _, _, _, _, _, _ => none
 | k + 1, x3, x307000, x307001, x307002, x307003, x307004 => if x3 < (x307004.length : Int) then (boltingref04_Row.l1 k x3 0 x307000 x307001 x307002 x307003 x307004) else (if x307001 = 0 then (if x307002.toList = ([] : List UInt8) then (some false) else (some (x307003.toList == ([] : List UInt8)))) else (some false))
def boltingref04_Row.l1 : Nat → Int → Int → Int → Int → ByteArray → ByteArray → List (S45) → Option (Bool)
 | 0, _, _, _, _, _, _, _ => none
 | k + 1, x3, x4, x307000, x307001, x307002, x307003, x307004 => if x4 < x3 then (if 0 ≤ x3 then (if x3 < (x307004.length : Int) then (if 0 ≤ x4 then (if x4 < (x307004.length : Int) then (if ((rd_T45 x307004 x3).f0).toList = ((rd_T45 x307004 x4).f0).toList then (some false) else (boltingref04_Row.l1 k x3 (wrap64 (x4 + 1)) x307000 x307001 x307002 x307003 x307004)) else (none)) else (none)) else (none)) else (none)) else (boltingref04_Row.l0 k (wrap64 (x3 + 1)) x307000 x307001 x307002 x307003 x307004)
end
def boltingref04_Row.f (k : Nat) (a0_0 : Int) (a0_1 : Int) (a0_2 : ByteArray) (a0_3 : ByteArray) (l0_4 : List (S45)) : Option (Bool) := if a0_1 = 1 then (boltingref04_Row.j0 k true a0_0 a0_1 a0_2 a0_3 l0_4) else (boltingref04_Row.j0 k (a0_1 == 2) a0_0 a0_1 a0_2 a0_3 l0_4)
end Go.Proofs.YtdnbaliibiginaaDoorH.W8

/- Words and walks used below. -/
namespace Go.Proofs.YtdnbaliibiginaaDoorH.W8
open Go.RowKit Go.Proofs.YtdnbaliibiginaaDoorW.PrintWords Go.Proofs.YtdnbaliibiginaaDoorW.PrintLast Go.Proofs.YtdnbaliibiginaaDoorW.PrintMore
attribute [local go_sem] max2_int min2_int max_two min_two max_three min_three max_four min_four   -- for this text's walks alone
mutual
def boltingref04_Right.l0 : Nat → List (S35) → Int → Option (Bool)
 | 0, _, _ => none
 | k + 1, x0, x3 => if x3 < (x0.length : Int) then (if 0 ≤ x3 then ((boltingref04_Row.f k ((rd_T35 x0 x3).f0) ((rd_T35 x0 x3).f1) ((rd_T35 x0 x3).f2) ((rd_T35 x0 x3).f3) ((rd_T35 x0 x3).f4)).bind fun t311 => (if t311 = true then (if ((rd_T35 x0 x3).f0) < 0 then (boltingref04_Right.j1 k x0 x3 ((rd_T35 x0 x3).f0) true) else (if x3 = 0 then (boltingref04_Right.j1 k x0 x3 ((rd_T35 x0 x3).f0) (((rd_T35 x0 x3).f0) != 0)) else (boltingref04_Right.j1 k x0 x3 ((rd_T35 x0 x3).f0) false))) else (boltingref04_Right.j1 k x0 x3 ((rd_T35 x0 x3).f0) true))) else (none)) else (some true)
def boltingref04_Right.j1 : Nat → List (S35) → Int → Int → Bool → Option (Bool)
 | 0, _, _, _, _ => none
 | k + 1, x0, x3, x4, x33 => if x33 = true then (some false) else (if x3 > 0 then (if 0 ≤ (wrap64 (x3 - 1)) then (if (wrap64 (x3 - 1)) < (x0.length : Int) then (if x4 > (wrap64 (((rd_T35 x0 (wrap64 (x3 - 1))).f0) + 1)) then (some false) else (if x4 = (wrap64 (((rd_T35 x0 (wrap64 (x3 - 1))).f0) + 1)) then (if ((rd_T35 x0 (wrap64 (x3 - 1))).f1) = 0 then (boltingref04_Right.l0 k x0 (wrap64 (x3 + 1))) else (some false)) else (boltingref04_Right.l0 k x0 (wrap64 (x3 + 1))))) else (none)) else (none)) else (boltingref04_Right.l0 k x0 (wrap64 (x3 + 1))))
end
def boltingref04_Right.f (k : Nat) (l0 : List (S35)) : Option (Bool) := boltingref04_Right.l0 k l0 0
end Go.Proofs.YtdnbaliibiginaaDoorH.W8

/- What the printed functions of layer 8 come to: right rows; the nodes that a node has, by both. Plain. -/
namespace Go.Proofs.YtdnbaliibiginaaDoorH.W8
open Go.RowKit Go.Proofs Go.Proofs.YtdnbaliibiginaaDoorH Go.Proofs.YtdnbaliibiginaaDoor Go.Proofs.YtdnbaliibiginaaDoorW.PrintWords
theorem rd35_at (xs : List Rw) (i : Nat) (h : i < xs.length) : rd_T35 xs i = xs[i] := by simp [rd_T35, h]
structure OkAt (xs : List Rw) (i : Nat) : Prop where
 kind : (rd_T35 xs i).f1 = 0 ∨ (rd_T35 xs i).f1 = 1 ∨ (rd_T35 xs i).f1 = 2
 low : 0 ≤ depthAt xs i
 high : depthAt xs i ≤ i
 step : 0 < i → depthAt xs i ≤ depthAt xs (i - 1) + 1
def RightP (xs : List Rw) : Prop := ∀ j, j < xs.length → OkAt xs j
theorem spanN_in (d : Int) : ∀ (ys : List Rw) (m : Nat) (h : m < ys.length), m < spanN d ys → d < ys[m].f0
 | [], m, h, _ => by simp at h
 | y :: ys, 0, h, hm => by
  simp only [spanN] at hm
  split at hm
  ·assumption
  ·omega
 | y :: ys, m + 1, h, hm => by
  simp only [spanN] at hm
  split at hm
  ·exact spanN_in d ys m (by simpa using h) (by omega)
  ·omega
theorem spanN_at (d : Int) : ∀ (ys : List Rw) (h : spanN d ys < ys.length), ys[spanN d ys].f0 ≤ d
 | [], h => by simp at h
 | y :: ys, h => by
  by_cases e : d < y.f0
  ·have e2 : spanN d (y :: ys) = spanN d ys + 1 := by simp only [spanN]; rw [if_pos e]
   have h' : spanN d ys < ys.length := by rw [e2] at h; simpa using h
   have := spanN_at d ys h'
   simp only [e2, List.getElem_cons_succ]
   exact this
  ·have e2 : spanN d (y :: ys) = 0 := by simp only [spanN]; rw [if_neg e]
   simp only [e2, List.getElem_cons_zero]
   omega
theorem depth_at (xs : List Rw) (i : Nat) (h : i < xs.length) : depthAt xs i = xs[i].f0 := by unfold depthAt; rw [rd35_at xs i h]
theorem in_tree (xs : List Rw) (j m : Nat) (h1 : j < m) (h2 : m < endN xs j) (h3 : m < xs.length) : depthAt xs j < depthAt xs m := by
 have h := spanN_in (rd_T35 xs j).f0 (xs.drop (j + 1)) (m - (j + 1)) (by rw [List.length_drop]; omega) (by unfold endN at h2; omega)
 rw [List.getElem_drop] at h
 rw [depth_at xs m h3]
 have e : j + 1 + (m - (j + 1)) = m := by omega
 simp only [e] at h
 exact h
theorem at_end (xs : List Rw) (j : Nat) (h : endN xs j < xs.length) : depthAt xs (endN xs j) ≤ depthAt xs j := by
 have hs : spanN (rd_T35 xs j).f0 (xs.drop (j + 1)) < (xs.drop (j + 1)).length := by unfold endN at h; rw [List.length_drop]; omega
 have h1 := spanN_at _ _ hs
 rw [List.getElem_drop] at h1
 rw [depth_at xs _ h]
 exact h1
theorem range_out (p : Nat → Bool) (a n : Nat) (h : ∀ m, a ≤ m → m < a + n → p m = false) : (List.range' a n).filter p = [] := by
 rw [List.filter_eq_nil_iff]
 intro m hm
 rw [List.mem_range'_1] at hm
 rw [h m hm.1 (by omega)]
 simp
theorem kidsW_filter (xs : List Rw) (e : Int) (t : Nat) (ht : t ≤ xs.length) : ∀ (d j : Nat), t - j ≤ d → j ≤ t → (∀ m, j ≤ m → m < t → e ≤ depthAt xs m) → (j < t → depthAt xs j = e) →
  kidsW xs t j = (List.range' j (t - j)).filter fun k : Nat => decide (depthAt xs k = e) := by
 intro d
 induction d with
 | zero =>
  intro j hd hj _ _
  rw [kidsW_no (by omega), show t - j = 0 from by omega]
  rfl
 | succ d ih =>
  intro j hd hj hge hat
  by_cases h : j < t
  ·have hgt := endN_gt xs j
   rw [kidsW_yes h (by omega), show t - j = (t - j - 1) + 1 from by omega, List.range'_succ, List.filter_cons_of_pos (by simpa using hat h)]
   congr 1
   by_cases hq : endN xs j < t
   ·rw [ih (endN xs j) (by omega) (by omega) (fun m h1 h2 => hge m (by omega) h2) (fun _ => by
     have h1 := at_end xs j (by omega)
     have h2 := hge (endN xs j) (by omega) hq
     have h3 := hat h
     omega)]
    rw [show t - j - 1 = (endN xs j - (j + 1)) + (t - endN xs j) from by omega, ← List.range'_append_1, List.filter_append, range_out _ (j + 1) (endN xs j - (j + 1)), List.nil_append]
    ·rw [show j + 1 + (endN xs j - (j + 1)) = endN xs j from by omega]
    ·intro m h1 h2
     have h3 := in_tree xs j m (by omega) (by omega) (by omega)
     have h4 := hat h
     exact decide_eq_false (by omega)
   ·rw [kidsW_no hq, range_out]
    intro m h1 h2
    have h3 := in_tree xs j m (by omega) (by omega) (by omega)
    have h4 := hat h
    exact decide_eq_false (by omega)
  ·exact ih j (by omega) hj hge hat
end Go.Proofs.YtdnbaliibiginaaDoorH.W8

/- What is written of right rows, by both, is one text. Plain. -/
namespace Go.Proofs.YtdnbaliibiginaaDoorH.W8
open Go.RowKit Go.Proofs Go.Proofs.YtdnbaliibiginaaDoorH Go.Proofs.YtdnbaliibiginaaDoor Go.Proofs.YtdnbaliibiginaaDoorW.PrintWords
def restT (x : Rw) (t : Txt) : Txt := if memS voids x.f2 then [] else t ++ (([60, 47] ++ x.f2.data.toList) ++ [62])
def nodeT (xs : List Rw) : Nat → Bool → Nat → Txt
 | 0, _, _ => []
 | d + 1, raw, k =>
  if (rd_T35 xs k).f1 = 1 then (if raw then (rd_T35 xs k).f3.data.toList else wrL false (rd_T35 xs k).f3.data.toList)
  else if (rd_T35 xs k).f1 = 2 then ([60, 33, 45, 45] ++ (rd_T35 xs k).f3.data.toList) ++ [45, 45, 62]
  else tagT (rd_T35 xs k).f2 (rd_T35 xs k).f4 ++ restT (rd_T35 xs k) ((kidsF xs k).flatMap (nodeT xs d (memS raws (rd_T35 xs k).f2)))
def own (x : Rw) : Nat := 6 * x.f3.data.toList.length + (tagT x.f2 x.f4).length + x.f2.data.toList.length + 20
def sufS (xs : List Rw) (a : Nat) : Nat := ((xs.drop a).map own).sum
theorem sufS_cons (xs : List Rw) (a : Nat) (h : a < xs.length) : sufS xs a = own xs[a] + sufS xs (a + 1) := by unfold sufS; rw [List.drop_eq_getElem_cons h, List.map_cons, List.sum_cons]
theorem sufS_le (xs : List Rw) : ∀ (d a b : Nat), b - a ≤ d → a ≤ b → sufS xs b ≤ sufS xs a := by
 intro d
 induction d with
 | zero => intro a b h1 h2; rw [show a = b from by omega]; exact Nat.le_refl _
 | succ d ih =>
  intro a b h1 h2
  by_cases h : a < b
  ·by_cases h3 : a < xs.length
   ·have := ih (a + 1) b (by omega) (by omega)
    rw [sufS_cons xs a h3]
    omega
   ·have e1 : sufS xs b = 0 := by unfold sufS; rw [List.drop_of_length_le (by omega)]; rfl
    omega
  ·rw [show a = b from by omega]; exact Nat.le_refl _
theorem endN_in (xs : List Rw) (j m : Nat) (h1 : j < m) (h2 : m < endN xs j) (h3 : j < xs.length) : endN xs m ≤ endN xs j := by
 have hle := endN_le xs j h3
 by_cases h : endN xs j < endN xs m
 ·have hm := endN_le xs m (by omega)
  have a := in_tree xs m (endN xs j) h2 h (by omega)
  have b := at_end xs j (by omega)
  have c := in_tree xs j m h1 h2 (by omega)
  omega
 ·omega
theorem kidsT_len (xs : List Rw) (f : Nat → Txt) (t : Nat) (ht : t ≤ xs.length) : ∀ (d j : Nat), t - j ≤ d → j ≤ t → (∀ m, j ≤ m → m < t → endN xs m ≤ t) → (∀ m, j ≤ m → m < t → (f m).length + sufS xs (endN xs m) ≤ sufS xs m) →
  ((kidsW xs t j).flatMap f).length + sufS xs t ≤ sufS xs j := by
 intro d
 induction d with
 | zero =>
  intro j hd hj _ _
  rw [kidsW_no (by omega), show j = t from by omega]
  simp
 | succ d ih =>
  intro j hd hj hc hf
  by_cases h : j < t
  ·have hgt := endN_gt xs j
   have h1 := hf j (Nat.le_refl _) h
   have h2 := hc j (Nat.le_refl _) h
   have h3 := ih (endN xs j) (by omega) h2 (fun m a b => hc m (by omega) b) (fun m a b => hf m (by omega) b)
   rw [kidsW_yes h (by omega), List.flatMap_cons, List.length_append]
   omega
  ·exact ih j (by omega) hj hc hf
theorem kidsF_nat (xs : List Rw) (k : Nat) (hk : k < xs.length) : kidsF xs (k : Int) = kidsW xs (endN xs k) (k + 1) := by
 rw [kidsF_at (.inr ⟨by omega, by omega⟩), show toI xs (k : Int) = endN xs k from by unfold toI; rw [if_neg (by omega)]; rfl, show fromI (k : Int) = k + 1 from by unfold fromI; rw [if_neg (by omega)]; rfl]
theorem nodeT_len (xs : List Rw) : ∀ (d : Nat) (raw : Bool) (k : Nat), k < xs.length → (nodeT xs d raw k).length + sufS xs (endN xs k) ≤ sufS xs k := by
 intro d
 induction d with
 | zero => intro raw k hk; have := sufS_le xs _ k (endN xs k) (Nat.le_refl _) (by have := endN_gt xs k; omega); simpa [nodeT] using this
 | succ d ih =>
  intro raw k hk
  have hs := sufS_cons xs k hk
  have hgt := endN_gt xs k
  have hle := endN_le xs k hk
  have hm := sufS_le xs _ (k + 1) (endN xs k) (Nat.le_refl _) (by omega)
  have hkid := kidsT_len xs (nodeT xs d (memS raws (rd_T35 xs k).f2)) (endN xs k) hle (endN xs k) (k + 1) (by omega) (by omega) (fun m a b => endN_in xs k m (by omega) b hk) (fun m a b => ih _ m (by omega))
  rw [rd35_at xs k hk] at hkid
  have hw := wr_len false xs[k].f3.data.toList
  unfold own at hs
  simp only [nodeT]
  rw [rd35_at xs k hk, kidsF_nat xs k hk]
  split
  ·split <;> omega
  ·split
   ·simp only [List.length_append, List.length_cons, List.length_nil]; omega
   ·rw [List.length_append]
    unfold restT
    split
    ·simp only [List.length_nil]; omega
    ·simp only [List.length_append, List.length_cons, List.length_nil]; omega
theorem kids_len0 (xs : List Rw) (d : Nat) (raw : Bool) (i : Int) (hi : i = -1 ∨ 0 ≤ i ∧ i < xs.length) : ((kidsF xs i).flatMap (nodeT xs d raw)).length ≤ sufS xs 0 := by
 rcases hi with rfl | hi
 ·have h := kidsT_len xs (nodeT xs d raw) xs.length (Nat.le_refl _) xs.length 0 (by omega) (by omega) (fun m _ b => endN_le xs m b) (fun m _ b => nodeT_len xs d raw m b)
  rw [kidsF_at (.inl rfl)]
  exact Nat.le_trans (Nat.le_add_right _ _) h
 ·obtain ⟨k, rfl⟩ : ∃ k : Nat, i = k := ⟨i.toNat, by omega⟩
  have hk : k < xs.length := by omega
  have hgt := endN_gt xs k
  have h := kidsT_len xs (nodeT xs d raw) (endN xs k) (endN_le xs k hk) (endN xs k) (k + 1) (by omega) (by omega) (fun m a b => endN_in xs k m (by omega) b hk) (fun m a b => nodeT_len xs d raw m (by have := endN_le xs k hk; omega))
  have h2 := sufS_le xs _ 0 (k + 1) (Nat.le_refl _) (by omega)
  rw [kidsF_nat xs k hk]
  omega
structure SizeP (xs : List Rw) : Prop where
 len : xs.length ≤ 200
 total : sufS xs 0 ≤ 1000000000
 atts : ∀ x ∈ xs, x.f4.length ≤ 6
theorem SizeP.one {xs : List Rw} (h : SizeP xs) (k : Nat) (hk : k < xs.length) : own xs[k] ≤ 1000000000 := by
 have h1 := sufS_le xs _ 0 k (Nat.le_refl _) (by omega)
 have h2 := sufS_cons xs k hk
 have := h.total
 omega
theorem flat_ge {α : Type} (f : α → Txt) : ∀ (l : List α) (a : α), a ∈ l → (f a).length ≤ (l.flatMap f).length
 | [], _, h => by cases h
 | b :: l, a, h => by
  rw [List.flatMap_cons, List.length_append]
  rcases List.mem_cons.1 h with rfl | h
  ·omega
  ·have := flat_ge f l a h; omega
theorem own_val {x : Rw} (h : own x ≤ 1000000000) : (∀ a ∈ x.f4, a.f1.data.toList.length ≤ 1000000000) ∧ (tagT x.f2 x.f4).length ≤ 1000000000 ∧ x.f3.data.toList.length ≤ 1000000000 ∧ x.f2.data.toList.length ≤ 1000000000 := by
 unfold own at h
 refine ⟨fun a ha => ?_, by omega, by omega, by omega⟩
 have h1 := flat_ge atT x.f4 a ha
 have h2 := wr_ge true a.f1.data.toList
 unfold tagT at h
 simp only [List.length_append] at h
 have h3 : (wrL true a.f1.data.toList).length ≤ (atT a).length := by unfold atT; simp only [List.length_append]; omega
 omega
theorem catM_some (f : Nat → Option Txt) (g : Nat → Txt) : ∀ (ks : List Nat), (∀ j ∈ ks, f j = some (g j)) → catM f ks = some (ks.flatMap g)
 | [], _ => rfl
 | j :: ks, h => by
  simp only [catM]
  rw [h j (by simp), Option.bind_some, catM_some f g ks (fun m hm => h m (by simp [hm])), Option.bind_some, List.flatMap_cons]
theorem kids_lt (xs : List Rw) (i : Int) (j : Nat) (hj : j ∈ kidsF xs i) : j < xs.length := by
 have key : ∀ (t d a : Nat), xs.length - a ≤ d → j ∈ kidsW xs t a → j < xs.length := by
  intro t d
  induction d with
  | zero => intro a hd hm; rw [kidsW, dif_neg (by omega)] at hm; cases hm
  | succ d ih =>
   intro a hd hm
   by_cases h : a < t ∧ a < xs.length
   ·rw [kidsW, dif_pos h] at hm
    rcases List.mem_cons.1 hm with rfl | hm
    ·exact h.2
    ·exact ih (endN xs a) (by have := endN_gt xs a; omega) hm
   ·rw [kidsW, dif_neg h] at hm; cases hm
 by_cases hi : i = -1 ∨ 0 ≤ i ∧ i < xs.length
 ·rw [kidsF_at hi] at hj
  exact key _ _ _ (Nat.le_refl _) hj
 ·have : kidsF xs i = [] := by
   unfold kidsF
   rw [if_neg (by omega), if_neg (by omega)]
  rw [this] at hj
  cases hj
theorem nodeM_some (xs : List Rw) (hz : SizeP xs) (hp : RightP xs) : ∀ (d : Nat) (raw : Bool) (k : Nat), k < xs.length → xs.length - k ≤ d → nodeM xs d raw k = some (nodeT xs d raw k) := by
 intro d
 induction d with
 | zero => intro raw k hk hd; omega
 | succ d ih =>
  intro raw k hk hd
  have ho := own_val (hz.one k hk)
  have hkind := (hp k hk).kind
  have hr := rd35_at xs k hk
  have hcat := catM_some (nodeM xs d (memS raws xs[k].f2)) (nodeT xs d (memS raws xs[k].f2)) (kidsF xs k) (fun j hj => ih _ j (kids_lt xs _ j hj) (by have := kids_gt xs k hk j hj; omega))
  simp only [nodeM, nodeT]
  rw [if_pos hk]
  rw [hr] at hkind ⊢
  by_cases h1 : xs[k].f1 = 1
  ·rw [if_pos h1, if_pos h1]
   cases raw with
   | true => rfl
   | false =>
    rw [if_neg (by decide), if_neg (by decide)]
    unfold refs_Text.f
    rw [wrB_at false _ ho.2.2.1]
    rfl
  ·rw [if_neg h1, if_neg h1]
   by_cases h2 : xs[k].f1 = 2
   ·rw [if_pos h2, if_pos h2]
   ·rw [if_neg h2, if_neg h2, if_pos (by omega)]
    obtain ⟨o, e1, e2⟩ := opened_f xs[k] (xs[k].f4.length + 1) (by have := hz.atts _ (List.getElem_mem hk); omega) (by omega) ho.1 (by omega)
    rw [e1, Option.bind_some, void_f _ 100 (by omega), Option.bind_some]
    unfold restT
    cases hv : memS voids xs[k].f2
    ·rw [if_neg (by decide), raw_f _ 100 (by omega), Option.bind_some, hcat, Option.bind_some, if_neg (by decide), e2]
     simp only [List.append_assoc]
    ·rw [if_pos rfl, if_pos rfl, e2, List.append_nil]
def rawAt (xs : List Rw) (i : Int) : Bool := if 0 ≤ i then memS raws (rd_T35 xs i).f2 else false
theorem written_f (xs : List Rw) (hz : SizeP xs) (hp : RightP xs) (i : Int) (hi : i = -1 ∨ 0 ≤ i ∧ i < xs.length) : write_written.f xs i = some ⟨((kidsF xs i).flatMap (nodeT xs xs.length (rawAt xs i))).toArray⟩ := by
 have hlen := hz.len
 have htot := hz.total
 have hra : rawAtF xs i = some (rawAt xs i) := by
  unfold rawAtF rawAt
  rcases hi with rfl | hi
  ·rfl
  ·rw [if_pos hi.1, if_pos hi.2, if_pos hi.1, raw_f _ 100 (by omega)]
 have hc := catM_some (nodeM xs xs.length (rawAt xs i)) (nodeT xs xs.length (rawAt xs i)) (kidsF xs i) (fun j hj => nodeM_some xs hz hp _ _ j (kids_lt xs _ j hj) (by omega))
 have hl := kids_len0 xs xs.length (rawAt xs i) i hi
 unfold write_written.f
 rw [if_pos (by omega), hra, Option.bind_some, hc, Option.bind_some, if_pos (by omega)]
end Go.Proofs.YtdnbaliibiginaaDoorH.W8

/- slices.Clone of attributes, given to the printed walk. -/
namespace Go.Proofs.YtdnbaliibiginaaDoorH.W8
open Go.RowKit Go.Proofs.YtdnbaliibiginaaDoorW.PrintWords Go.Proofs.YtdnbaliibiginaaDoorW.PrintLast Go.Proofs.YtdnbaliibiginaaDoorW.PrintMore
def api_Attr.f (l0 : List S45) : Option (List S45) := if l0.length * 32 ≤ 140737488355328 then some l0 else none
set_option maxHeartbeats 2000000 in
set_option maxRecDepth 100000 in
theorem api_Attr.calls (A0 : Option Addr) (c0 : Nat) (l0 : List S45) (r : List S45) (w : World) (hr0 : Kd.C k45 w A0 l0.length l0) (hc0 : l0.length ≤ c0) (h : api_Attr.f l0 = some r) :
  Calls Tryd.prog 79 #[.slice A0 l0.length c0] w fun e w' => ∃ v0_ : Value, e = .returned (v0_) ∧ Kd.R k45 45 w' w.heap.size (fun _ => True) v0_ r ∧ Below w.heap.size w w' := by
 unfold api_Attr.f at h
 split at h
 ·rename_i hz
  obtain rfl := Option.some.inj h
  clear h
  have HR0 := Aside0.mk hr0
  have HC0 := Aside0.mk hc0
  clear hr0 hc0
  have HB := Aside0.mk (Below.refl w.heap.size w)
  have hu := Tryd.underlying33
  have q22 : ∀ (w : World) (a : Option Addr) (n c n' c' : Nat), (binOp .eql 33 (.slice a n c) (.slice none n' c')).run Tryd.prog w = .ok (.bool a.isNone) w := fun w a n c n' c' => Lib.run_eql_slice_nil w _ _ a n c n' c' hu
  cases A0 with
  | none =>
   have hnil : l0 = [] := by
    cases l0 with
    | nil => rfl
    | cons x xs => obtain ⟨ad, e, _⟩ := HR0.out.2.2 (by simp); cases e
   subst hnil
   go_enter Tryd.func79, Tryd.ntmps79
   go_wp2
   go_ret
   exact ⟨_, rfl, Kd.R_nil _ _ _ _ _, HB.out⟩
  | some ad =>
   go_enter Tryd.func79, Tryd.ntmps79
   go_wp2_with (first | ((with_reducible refine gate_dst (N := 5) rfl ?_); refine Kd.R_lit k45 _ 45 ?hg (N := 5) ?hd (xs := ([] : List (S45))) (inner := []) (ok := fun _ => True) (okp := fun _ => True) ?hr ?hp (fun _ hk => hk) trivial (Below.refl _ _) (Nat.le_refl _) (by simp) ?_; (case hd => rfl); (case hg => rfl); (case hr => first | (go_simp; done) | (go_simp; rfl)); (case hp => exact (Reps.none _ _)); intro v5 w5 ho5 hb5 hg_ hnew_; clear hg_ hnew_; have HO5 := Aside0.mk ho5; have HB5 := Aside0.mk hb5; clear ho5 hb5) | ((with_reducible refine gate_builtin (b := .append) (xs := #[.tmp 5, .tmp 6]) rfl ?_); at_builtin; refine Kd.R_append_rows k45 (w0 := w) w.heap.size rfl (.tmp 5) (.tmp 6) 33 45 (.agg #[(.string ⟨#[]⟩), (.string ⟨#[]⟩)]) 32 rfl Tryd.underlying33 info45 rfl (by decide) (by omega) v5 [] l0 _ _ _ (fun _ => True) (fun _ => False) rfl rfl HO5.out (Kd.C_below HR0.out HB5.out) (fun _ _ h => h) (fun _ h => h.elim) (fun _ _ => trivial) HB5.out HB5.out.size (by simpa using hz) ?_; intro v7 w7 ho7 hb7 hg_ hat_))
   go_ret
   exact ⟨_, rfl, by simpa using ho7, hb7⟩
 ·cases h
end Go.Proofs.YtdnbaliibiginaaDoorH.W8
