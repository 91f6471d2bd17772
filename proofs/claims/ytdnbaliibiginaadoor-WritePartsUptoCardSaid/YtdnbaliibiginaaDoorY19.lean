/- Lemmas and walks, part 19: QPW8x27, QPW8x14, QW8F. -/
import Derived.Test.YtdnbaliibiginaaDoorY4
import Derived.Test.YtdnbaliibiginaaDoorY13
import Derived.Test.YtdnbaliibiginaaDoorY17
import Derived.Test.YtdnbaliibiginaaDoorY18
set_option linter.unusedVariables false
set_option linter.unusedSimpArgs false

/- Words and walks used below. -/
namespace Go.Proofs.YtdnbaliibiginaaDoorH.W8
open Go.RowKit Go.Proofs.YtdnbaliibiginaaDoorW.PrintWords Go.Proofs.YtdnbaliibiginaaDoorW.PrintLast Go.Proofs.YtdnbaliibiginaaDoorW.PrintMore
attribute [local go_sem] max2_int min2_int max_two min_two max_three min_three max_four min_four   -- for this text's walks alone
def names_Gone.f (k : Nat) (a0 : ByteArray) : Option (Bool) := (names_among.f k a0 (([(⟨#[98, 111, 100, 121]⟩ : ByteArray), (⟨#[102, 114, 97, 109, 101, 115, 101, 116]⟩ : ByteArray), (⟨#[104, 101, 97, 100]⟩ : ByteArray), (⟨#[104, 116, 109, 108]⟩ : ByteArray)] : List ByteArray))).bind fun t180 => (some t180)
set_option maxHeartbeats 8000000 in
set_option maxRecDepth 100000 in
theorem names_Gone.calls (k : Nat) (a0 : ByteArray) (r : Bool) (w : World) (h : names_Gone.f k a0 = some r) :
  Calls Tryd.prog 64 #[.string a0] w fun e w' => e = .returned (.bool r) ∧ Below w.heap.size w w' := by
 have HB := Aside0.mk (Below.refl w.heap.size w)
 have H : ((names_among.f k a0 (([(⟨#[98, 111, 100, 121]⟩ : ByteArray), (⟨#[102, 114, 97, 109, 101, 115, 101, 116]⟩ : ByteArray), (⟨#[104, 101, 97, 100]⟩ : ByteArray), (⟨#[104, 116, 109, 108]⟩ : ByteArray)] : List ByteArray))).bind fun t180 => (some t180)) = some r := h
 clear h
 obtain ⟨y177, hy177⟩ : ∃ y_ : List ByteArray, y_ = (([(⟨#[98, 111, 100, 121]⟩ : ByteArray), (⟨#[102, 114, 97, 109, 101, 115, 101, 116]⟩ : ByteArray), (⟨#[104, 101, 97, 100]⟩ : ByteArray), (⟨#[104, 116, 109, 108]⟩ : ByteArray)] : List ByteArray)) := ⟨_, rfl⟩
 replace H : ((names_among.f k a0 y177).bind fun t180 => (some t180)) = some r := by first | (rw [hy177]; with_reducible exact H) | (have H2_ := (Option.bind_some _ _).symm.trans H; rw [hy177]; with_reducible exact H2_) | (have H2_ := (Option.bind_some _ _).symm.trans H; with_reducible exact H2_) | with_reducible exact H | (rw [hy177]; exact H) | exact H
 have Ny177 := Aside0.mk hy177
 clear hy177
 replace H := Option.bind_eq_some_iff.mp H
 obtain ⟨t180, A20, H⟩ := H
 replace H : (some t180) = some r := H
 have A2 := Aside0.mk A20
 clear A20
 obtain rfl := Option.some.inj H
 go_enter Tryd.func64, Tryd.ntmps64
 go_wp2_with (first | ((with_reducible refine gate_dst (N := 4) rfl ?_); refine Kd.R_lit Kd.string _ 9 ?hg (N := 4) ?hd (xs := ([(⟨#[98, 111, 100, 121]⟩ : ByteArray), (⟨#[102, 114, 97, 109, 101, 115, 101, 116]⟩ : ByteArray), (⟨#[104, 101, 97, 100]⟩ : ByteArray), (⟨#[104, 116, 109, 108]⟩ : ByteArray)] : List ByteArray)) (inner := [.string (⟨#[98, 111, 100, 121]⟩ : ByteArray), .string (⟨#[102, 114, 97, 109, 101, 115, 101, 116]⟩ : ByteArray), .string (⟨#[104, 101, 97, 100]⟩ : ByteArray), .string (⟨#[104, 116, 109, 108]⟩ : ByteArray)]) (ok := fun _ => True) (okp := fun _ => True) ?hr ?hp (fun _ hk => hk) trivial (Below.refl _ _) (Nat.le_refl _) (by simp) ?_; (case hd => rfl); (case hg => rfl); (case hr => first | (go_simp; done) | (go_simp; rfl)); (case hp => exact (Reps.one (show Kd.M Kd.string _ _ _ (⟨#[98, 111, 100, 121]⟩ : ByteArray) [.string (⟨#[98, 111, 100, 121]⟩ : ByteArray)] from rfl) (Reps.one (show Kd.M Kd.string _ _ _ (⟨#[102, 114, 97, 109, 101, 115, 101, 116]⟩ : ByteArray) [.string (⟨#[102, 114, 97, 109, 101, 115, 101, 116]⟩ : ByteArray)] from rfl) (Reps.one (show Kd.M Kd.string _ _ _ (⟨#[104, 101, 97, 100]⟩ : ByteArray) [.string (⟨#[104, 101, 97, 100]⟩ : ByteArray)] from rfl) (Reps.one (show Kd.M Kd.string _ _ _ (⟨#[104, 116, 109, 108]⟩ : ByteArray) [.string (⟨#[104, 116, 109, 108]⟩ : ByteArray)] from rfl) (Reps.none _ _)))))); intro v178 w3 ho4 hb hg_ hnew_; clear hg_ hnew_; (first | rw [← Ny177.out] at ho4 | (simp only [Int.reduceToNat] at ho4; rw [← Ny177.out] at ho4)); have n0_ := Aside0.mk (Kd.R_lower ho4 (below_size bz)); have n1_ := Aside0.mk (below_step bz hb); clear HB; have HO179 := n0_; have HB := n1_; clear n0_ n1_; clear hb ho4; obtain ⟨Ao5, co5, eo5⟩ := Kd.R_slice HO179.out; subst eo5) | ((with_reducible refine gate_callee (f := 52) rfl ?_); refine goesL_ (some 5) rfl rfl Tryd.func52 (by kernel_rfl) rfl #[.string a0, .slice Ao5 y177.length co5] rfl (by (try simp only [List.map_toArray, List.map_cons, List.map_nil]); first | done | rfl | (simp only [List.length_drop, List.length_take]; rfl)) ?_; (with_reducible refine (names_among.calls k a0 _ _ y177 t180 _ ?side1 ?side2 A2.out).mono ?_); (case side1 => exact cz (Kd.R_reads' HO179.out).2.2); (case side2 => exact (Kd.R_reads' HO179.out).2.1); rintro e w' ⟨rfl, ⟨nd, rfl⟩⟩; refine ⟨_, rfl, ?_⟩))
 go_ret
 exact ⟨by first | rfl | (simp [errW_none, errW_some] <;> rfl) | (simp [*, errW_none, errW_some] <;> rfl), bz⟩
end Go.Proofs.YtdnbaliibiginaaDoorH.W8

/- Words and walks used below. -/
namespace Go.Proofs.YtdnbaliibiginaaDoorH.W8
open Go.RowKit Go.Proofs.YtdnbaliibiginaaDoorW.PrintWords Go.Proofs.YtdnbaliibiginaaDoorW.PrintLast Go.Proofs.YtdnbaliibiginaaDoorW.PrintMore
attribute [local go_sem] max2_int min2_int max_two min_two max_three min_three max_four min_four   -- for this text's walks alone
def names_Soft.f (k : Nat) (a0 : ByteArray) : Option (Bool) := (names_among.f k a0 (([(⟨#[116, 101, 120, 116, 97, 114, 101, 97]⟩ : ByteArray), (⟨#[116, 105, 116, 108, 101]⟩ : ByteArray)] : List ByteArray))).bind fun t140 => (some t140)
set_option maxHeartbeats 8000000 in
set_option maxRecDepth 100000 in
theorem names_Soft.calls (k : Nat) (a0 : ByteArray) (r : Bool) (w : World) (h : names_Soft.f k a0 = some r) :
  Calls Tryd.prog 67 #[.string a0] w fun e w' => e = .returned (.bool r) ∧ Below w.heap.size w w' := by
 have HB := Aside0.mk (Below.refl w.heap.size w)
 have H : ((names_among.f k a0 (([(⟨#[116, 101, 120, 116, 97, 114, 101, 97]⟩ : ByteArray), (⟨#[116, 105, 116, 108, 101]⟩ : ByteArray)] : List ByteArray))).bind fun t140 => (some t140)) = some r := h
 clear h
 obtain ⟨y137, hy137⟩ : ∃ y_ : List ByteArray, y_ = (([(⟨#[116, 101, 120, 116, 97, 114, 101, 97]⟩ : ByteArray), (⟨#[116, 105, 116, 108, 101]⟩ : ByteArray)] : List ByteArray)) := ⟨_, rfl⟩
 replace H : ((names_among.f k a0 y137).bind fun t140 => (some t140)) = some r := by first | (rw [hy137]; with_reducible exact H) | (have H2_ := (Option.bind_some _ _).symm.trans H; rw [hy137]; with_reducible exact H2_) | (have H2_ := (Option.bind_some _ _).symm.trans H; with_reducible exact H2_) | with_reducible exact H | (rw [hy137]; exact H) | exact H
 have Ny137 := Aside0.mk hy137
 clear hy137
 replace H := Option.bind_eq_some_iff.mp H
 obtain ⟨t140, A20, H⟩ := H
 replace H : (some t140) = some r := H
 have A2 := Aside0.mk A20
 clear A20
 obtain rfl := Option.some.inj H
 go_enter Tryd.func67, Tryd.ntmps67
 go_wp2_with (first | ((with_reducible refine gate_dst (N := 4) rfl ?_); refine Kd.R_lit Kd.string _ 9 ?hg (N := 4) ?hd (xs := ([(⟨#[116, 101, 120, 116, 97, 114, 101, 97]⟩ : ByteArray), (⟨#[116, 105, 116, 108, 101]⟩ : ByteArray)] : List ByteArray)) (inner := [.string (⟨#[116, 101, 120, 116, 97, 114, 101, 97]⟩ : ByteArray), .string (⟨#[116, 105, 116, 108, 101]⟩ : ByteArray)]) (ok := fun _ => True) (okp := fun _ => True) ?hr ?hp (fun _ hk => hk) trivial (Below.refl _ _) (Nat.le_refl _) (by simp) ?_; (case hd => rfl); (case hg => rfl); (case hr => first | (go_simp; done) | (go_simp; rfl)); (case hp => exact (Reps.one (show Kd.M Kd.string _ _ _ (⟨#[116, 101, 120, 116, 97, 114, 101, 97]⟩ : ByteArray) [.string (⟨#[116, 101, 120, 116, 97, 114, 101, 97]⟩ : ByteArray)] from rfl) (Reps.one (show Kd.M Kd.string _ _ _ (⟨#[116, 105, 116, 108, 101]⟩ : ByteArray) [.string (⟨#[116, 105, 116, 108, 101]⟩ : ByteArray)] from rfl) (Reps.none _ _)))); intro v138 w3 ho4 hb hg_ hnew_; clear hg_ hnew_; (first | rw [← Ny137.out] at ho4 | (simp only [Int.reduceToNat] at ho4; rw [← Ny137.out] at ho4)); have n0_ := Aside0.mk (Kd.R_lower ho4 (below_size bz)); have n1_ := Aside0.mk (below_step bz hb); clear HB; have HO139 := n0_; have HB := n1_; clear n0_ n1_; clear hb ho4; obtain ⟨Ao5, co5, eo5⟩ := Kd.R_slice HO139.out; subst eo5) | ((with_reducible refine gate_callee (f := 52) rfl ?_); refine goesL_ (some 5) rfl rfl Tryd.func52 (by kernel_rfl) rfl #[.string a0, .slice Ao5 y137.length co5] rfl (by (try simp only [List.map_toArray, List.map_cons, List.map_nil]); first | done | rfl | (simp only [List.length_drop, List.length_take]; rfl)) ?_; (with_reducible refine (names_among.calls k a0 _ _ y137 t140 _ ?side1 ?side2 A2.out).mono ?_); (case side1 => exact cz (Kd.R_reads' HO139.out).2.2); (case side2 => exact (Kd.R_reads' HO139.out).2.1); rintro e w' ⟨rfl, ⟨nd, rfl⟩⟩; refine ⟨_, rfl, ?_⟩))
 go_ret
 exact ⟨by first | rfl | (simp [errW_none, errW_some] <;> rfl) | (simp [*, errW_none, errW_some] <;> rfl), bz⟩
end Go.Proofs.YtdnbaliibiginaaDoorH.W8

/- Names, in numbers and lists alone: what the printed questions about names answer, whatever the rounds. -/
namespace Go.Proofs.YtdnbaliibiginaaDoorH.W8
open Go.RowKit Go.Proofs Go.Proofs.YtdnbaliibiginaaDoorH Go.Proofs.YtdnbaliibiginaaDoor Go.Proofs.YtdnbaliibiginaaDoorW.PrintWords
def spaceB (c : Int) : Bool := decide (c = 32) || decide (c = 9) || decide (c = 10) || decide (c = 12) || decide (c = 13)
def badC (c : Int) : Bool := spaceB c || (decide (65 ≤ c) && decide (c ≤ 90)) || decide (c = 0)
def inC (t : ByteArray) (c : Int) : Nat → Nat → Bool
 | 0, _ => false
 | d + 1, j => decide (c = bt t j) || inC t c d (j + 1)
def okC (t : ByteArray) (c : Int) : Bool := !badC c && !inC t c t.size 0
def okFrom (s t : ByteArray) : Nat → Nat → Bool
 | 0, _ => s.toList != []
 | d + 1, i => okC t (bt s i) && okFrom s t d (i + 1)
def plainB (s t : ByteArray) : Bool := okFrom s t s.size 0
def letterB (c : Int) : Bool := (decide (97 ≤ c) && decide (c ≤ 122)) || (decide (65 ≤ c) && decide (c ≤ 90))
def rightB (s : ByteArray) : Bool := plainB s ⟨#[47, 62]⟩ && letterB (bt s 0)
def attrB (s : ByteArray) : Bool := plainB s ⟨#[47, 62, 34, 39, 60, 61]⟩
def gones : List ByteArray := [(⟨#[98, 111, 100, 121]⟩ : ByteArray), (⟨#[102, 114, 97, 109, 101, 115, 101, 116]⟩ : ByteArray), (⟨#[104, 101, 97, 100]⟩ : ByteArray), (⟨#[104, 116, 109, 108]⟩ : ByteArray)]
theorem ite_ev {α : Type} {p : Prop} [Decidable p] {f g : Nat → Option α} {n : Nat} (hf : ∃ b, ∀ k, n ≤ k → f k = some b) (hg : ∃ b, ∀ k, n ≤ k → g k = some b) : ∃ b, ∀ k, n ≤ k → (if p then f k else g k) = some b := by
 by_cases h : p
 ·simp only [if_pos h]; exact hf
 ·simp only [if_neg h]; exact hg
theorem bind_ev {α β : Type} {f : Nat → Option α} {g : α → Nat → Option β} {n : Nat} (hf : ∃ b, ∀ k, n ≤ k → f k = some b) (hg : ∀ b, ∃ r, ∀ k, n ≤ k → g b k = some r) : ∃ b, ∀ k, n ≤ k → ((f k).bind fun b => g b k) = some b := by
 obtain ⟨b, hb⟩ := hf
 obtain ⟨r, hr⟩ := hg b
 exact ⟨r, fun k hk => by rw [hb k hk, Option.bind_some, hr k hk]⟩
theorem some_ev {α : Type} (a : α) (n : Nat) : ∃ b, ∀ k : Nat, n ≤ k → (some a : Option α) = some b := ⟨a, fun _ _ => rfl⟩
theorem up_ev {α : Type} {f : Nat → Option α} {n m : Nat} (h : n ≤ m) (hf : ∃ b, ∀ k, n ≤ k → f k = some b) : ∃ b, ∀ k, m ≤ k → f k = some b := by
 obtain ⟨b, hb⟩ := hf
 exact ⟨b, fun k hk => hb k (Nat.le_trans h hk)⟩
theorem among_ev (s : ByteArray) (l : List ByteArray) (n : Nat) (hl : l.length < 100) (hn : 100 ≤ n) : ∃ b, ∀ k, n ≤ k → names_among.f k s l = some b :=
 ⟨_, fun k hk => among_f _ _ _ (by omega) (by omega)⟩
theorem soft_ev (s : ByteArray) : ∃ b, ∀ k, 100 ≤ k → names_Soft.f k s = some b := by
 unfold names_Soft.f
 exact bind_ev (among_ev _ _ _ (by decide) (by omega)) fun b => some_ev _ _
theorem table_ev (s : ByteArray) : ∃ b, ∀ k, 100 ≤ k → names_table.f k s = some b := by
 unfold names_table.f
 exact bind_ev (among_ev _ _ _ (by decide) (by omega)) fun b => some_ev _ _
theorem block_ev (s : ByteArray) : ∃ b, ∀ k, 100 ≤ k → names_Block.f k s = some b := by
 unfold names_Block.f
 exact bind_ev (among_ev _ _ _ (by decide) (by omega)) fun b => some_ev _ _
theorem walls_ev (s : ByteArray) : ∃ b, ∀ k, 100 ≤ k → names_Walls.f k s = some b := by
 unfold names_Walls.f
 exact ite_ev (some_ev _ _) (bind_ev (among_ev _ _ _ (by decide) (by omega)) fun b => ite_ev (some_ev _ _) (bind_ev (among_ev _ _ _ (by decide) (by omega)) fun b => ite_ev (some_ev _ _) (bind_ev (up_ev (by omega) (table_ev s)) fun b => ite_ev (some_ev _ _) (some_ev _ _))))
theorem closesj_ev (s t : ByteArray) (b : Bool) : ∃ r, ∀ k, 101 ≤ k → names_Closes.j0 k s t b = some r := by
 have h : ∃ r, ∀ k, 100 ≤ k → names_Closes.j0 (k + 1) s t b = some r := by
  simp only [names_Closes.j0]
  refine ite_ev (some_ev _ _) (ite_ev (some_ev _ _) (ite_ev (some_ev _ _) (ite_ev (some_ev _ _) (ite_ev (some_ev _ _) (ite_ev (some_ev _ _) (ite_ev (some_ev _ _) ?_))))))
  exact bind_ev (up_ev (by omega) (table_ev s)) fun b => ite_ev (some_ev _ _) (bind_ev (up_ev (by omega) (block_ev s)) fun b => ite_ev (some_ev _ _) (some_ev _ _))
 obtain ⟨r, hr⟩ := h
 exact ⟨r, fun k hk => by obtain ⟨k, rfl⟩ : ∃ m, k = m + 1 := ⟨k - 1, by omega⟩; exact hr k (by omega)⟩
theorem closes_ev (s : ByteArray) : ∃ b, ∀ k, 101 ≤ k → names_Closes.f k s = some b := by
 unfold names_Closes.f
 exact ite_ev (closesj_ev _ _ _) (closesj_ev _ _ _)
theorem nested_ev (s : ByteArray) (l : List ByteArray) : ∃ b, ∀ k, 101 ≤ k → build_Nested.f k s l = some b := by
 unfold build_Nested.f
 have h1 : ∃ b, ∀ k : Nat, 101 ≤ k → build_paragraph.f s = some b := by
  unfold build_paragraph.f
  exact ite_ev (some_ev _ _) (ite_ev (some_ev _ _) (some_ev _ _))
 have h2 : ∀ a b : List ByteArray, ∃ r, ∀ k : Nat, 101 ≤ k → build_found.f l a b = some r := fun a b => some_ev _ _
 exact bind_ev h1 fun b => ite_ev (bind_ev (up_ev (by omega) (walls_ev _)) fun w => bind_ev (h2 _ _) fun r => ite_ev (some_ev _ _) (bind_ev (closes_ev s) fun c => bind_ev (up_ev (by omega) (walls_ev s)) fun w => bind_ev (h2 _ _) fun r => some_ev _ _)) (bind_ev (closes_ev s) fun c => bind_ev (up_ev (by omega) (walls_ev s)) fun w => bind_ev (h2 _ _) fun r => some_ev _ _)
noncomputable def nestedB (s : ByteArray) (l : List ByteArray) : Bool := (nested_ev s l).choose
noncomputable def softB (s : ByteArray) : Bool := (soft_ev s).choose
end Go.Proofs.YtdnbaliibiginaaDoorH.W8
