/- boltinglaw06.TokenWrites returns true and leaves its arguments as they were, where what it reads is of bulk at most 1048576: the row and its card. Conditions: the row's own (that bulk; the form's reach; the listed variables as the program's text lays them). -/
import Derived.Test.YtdnbaliibiginaaDoorTWM13
import Derived.Test.YtdnbaliibiginaaDoorTWM14
import Derived.Test.YtdnbaliibiginaaDoorTWM1
import Derived.Test.YtdnbaliibiginaaDoorRows
import Derived.Test.YtdnbaliibiginaaDoorWWords
import Derived.WalkKit
import Derived.ProofKit
import Derived.OpenShut
import Derived.ChangeArms
import Derived.Test.YtdnbaliibiginaaDoorTWM7
import Derived.SizedLaws
import Derived.Deep.DeepHandedRow
import Derived.Deep.DeepWitnessRowRef
import Derived.Stop.LaidErr
import Derived.Lib.LaidIn
import Derived.Shelf.Vars
import Derived.Test.YtdnbaliibiginaaDoorCards
import Derived.Test.YtdnbaliibiginaaDoorTie
import Derived.Carry
import Derived.ShutString
set_option linter.unusedVariables false
set_option linter.unusedSimpArgs false

/- Contract of boltinglaw06.fixed: it is true. Nothing that lay in memory turns. -/
namespace Go.Proofs.YtdnbaliibiginaaDoor
open Go.RowKit Go.Proofs

theorem flat_at : ∀ (ps : List (Tok × Value)) (i : Nat) (hi : i < ps.length) (j : Nat), j < 5 → (ps.flatMap fun p => tokV p.1 p.2)[i * 5 + j]? = (tokV ps[i].1 ps[i].2)[j]? := by
  intro l
  induction l with
  | nil => intro i hi; simp at hi
  | cons a l ih =>
    intro i hi j hj
    have hlen : (tokV a.1 a.2).length = 5 := rfl
    cases i with
    | zero =>
      rw [List.flatMap_cons, List.getElem?_append_left (by omega), Nat.zero_mul, Nat.zero_add]
      rfl
    | succ i =>
      have := ih i (by simpa using hi) j hj
      rw [show (i + 1) * 5 + j = 5 + (i * 5 + j) from by omega, List.flatMap_cons, List.getElem?_append_right (by omega), hlen, Nat.add_sub_cancel_left, this]
      rfl
/-- A row of tokens that was just laid can be read. -/
theorem rd_new (w : World) (ps : List (Tok × Value)) (t : TypeId) (n : Nat) (cs : Array Value) (hcs : cs = (ps.flatMap fun p => tokV p.1 p.2).toArray) (hn : n = ps.length) (h : ∀ p ∈ ps, RdA w p.2 p.1.attrs) : RdT (w.alloc (.cells cs t)) (.slice (some ⟨w.heap.size, 0, none⟩) n n) (ps.map Prod.fst) := by
  subst hcs hn
  refine ⟨some ⟨w.heap.size, 0, none⟩, ps.length, by rw [List.length_map], fun i hi => ?_⟩
  rw [List.length_map] at hi
  have hh := new_cells w (ps.flatMap fun p => tokV p.1 p.2).toArray t
  have hk : ∀ j, j < 5 → (w.alloc (.cells (ps.flatMap fun p => tokV p.1 p.2).toArray t)).cell? ⟨w.heap.size, i * 5 + j, none⟩ = (tokV ps[i].1 ps[i].2)[j]? := by
    intro j hj
    rw [Lib.cell_of_heap hh, ← Array.getElem?_toList, ← flat_at ps i hi j hj]
  have h0 := hk 0 (by omega)
  have h1 := hk 1 (by omega)
  have h2 := hk 2 (by omega)
  have h3 := hk 3 (by omega)
  have h4 := hk 4 (by omega)
  rw [List.getElem_map]
  refine ⟨w.heap.size, 0, ps[i].2, rfl, ?_, ?_, ?_, ?_, ?_, (h _ (List.getElem_mem hi)).below ((Below.refl _ w).alloc (Nat.le_refl _) _)⟩ <;> rw [Nat.zero_add]
  · exact h0
  · exact h1
  · exact h2
  · exact h3
  · exact h4
/-- One attribute that was just laid. -/
theorem rd_one (w : World) (x y : Txt) (t : TypeId) : RdA (w.alloc (.cells #[.string ⟨x.toArray⟩, .string ⟨y.toArray⟩] t)) (.slice (some ⟨w.heap.size, 0, none⟩) 1 1) [(x, y)] := by
  obtain ⟨h0, h1, _⟩ := two_facts (new_cells w #[.string ⟨x.toArray⟩, .string ⟨y.toArray⟩] t)
  refine ⟨_, _, rfl, fun i hi => ?_⟩
  obtain rfl : i = 0 := by simp at hi; omega
  exact ⟨w.heap.size, 0, rfl, h0, h1⟩
theorem rd_al {w : World} {v : Value} {l : List Tok} (h : RdT w v l) (o : Obj) : RdT (w.alloc o) v l := h.below ((Below.refl _ w).alloc (Nat.le_refl _) o)
theorem ra_al {w : World} {v : Value} {l : List (Txt × Txt)} (h : RdA w v l) (o : Obj) : RdA (w.alloc o) v l := h.below ((Below.refl _ w).alloc (Nat.le_refl _) o)


theorem wk1 : writeL [⟨0, [], [], [97], false⟩, ⟨1, [98], [([99], [100])], [], false⟩, ⟨0, [], [], [120], false⟩, ⟨2, [98], [], [], false⟩] = [97, 60, 98, 32, 99, 61, 34, 100, 34, 62, 120, 60, 47, 98, 62] := by decide +kernel
theorem wk2 : writeL [⟨1, [115, 99, 114, 105, 112, 116], [], [], false⟩, ⟨0, [], [], [60, 98, 62], false⟩, ⟨2, [115, 99, 114, 105, 112, 116], [], [], false⟩] = [60, 115, 99, 114, 105, 112, 116, 62, 60, 98, 62, 60, 47, 115, 99, 114, 105, 112, 116, 62] := by decide +kernel

set_option maxHeartbeats 4000000 in
set_option maxRecDepth 100000 in
theorem fixed6_c (w : World) (hS : Std w) :
    Calls Tryd.prog 20 #[] w fun e w' => e = .returned (.bool true) ∧ Below w.heap.size w w' := by
  have k1 := Lib.hid (fun W hS => cut_g [97, 60, 66, 32, 99, 61, 100, 62, 120, 60, 47, 98, 32, 62] (by simp) W hS)
  have k2 := Lib.hid (fun W hS => cut_g [60, 115, 99, 114, 105, 112, 116, 62, 60, 98, 62, 60, 47, 115, 99, 114, 105, 112, 116, 62] (by simp) W hS)
  have k3 := Lib.hid (fun W hS => cut_g [49, 32, 60, 32, 50] (by simp) W hS)
  have k4 := Lib.hid (fun W hS => in_g [97, 60, 98, 62, 38, 97, 109, 112, 59, 60, 47, 116, 105, 116, 108, 101, 62] [116, 105, 116, 108, 101] (by simp) (by simp) W hS)
  rw [ck1] at k1
  rw [ck2] at k2
  rw [ck3] at k3
  rw [ck4] at k4
  have m1 := Lib.hid (fun v1 v2 W h1 h2 => same_c v1 v2 [⟨0, [], [], [97], false⟩, ⟨1, [98], [([99], [100])], [], false⟩, ⟨0, [], [], [120], false⟩, ⟨2, [98], [], [], false⟩] (by simp) (by simp) W h1 h2)
  have m2 := Lib.hid (fun v1 v2 W h1 h2 => same_c v1 v2 [⟨1, [115, 99, 114, 105, 112, 116], [], [], false⟩, ⟨0, [], [], [60, 98, 62], false⟩, ⟨2, [115, 99, 114, 105, 112, 116], [], [], false⟩] (by simp) (by simp) W h1 h2)
  have m3 := Lib.hid (fun v1 v2 W h1 h2 => same_c v1 v2 [⟨0, [], [], [49, 32, 60, 32, 50], false⟩] (by simp) (by simp) W h1 h2)
  have m4 := Lib.hid (fun v1 v2 W h1 h2 => same_c v1 v2 [⟨0, [], [], [97, 60, 98, 62, 38], false⟩, ⟨2, [116, 105, 116, 108, 101], [], [], false⟩] (by simp) (by simp) W h1 h2)
  have n1 := Lib.hid (fun v W h => write_g v [⟨0, [], [], [97], false⟩, ⟨1, [98], [([99], [100])], [], false⟩, ⟨0, [], [], [120], false⟩, ⟨2, [98], [], [], false⟩] (by simp) (by rw [wk1]; simp) W h)
  have n2 := Lib.hid (fun v W h => write_g v [⟨1, [115, 99, 114, 105, 112, 116], [], [], false⟩, ⟨0, [], [], [60, 98, 62], false⟩, ⟨2, [115, 99, 114, 105, 112, 116], [], [], false⟩] (by simp) (by rw [wk2]; simp) W h)
  rw [wk1] at n1
  rw [wk2] at n2
  go_enter Tryd.func20, Tryd.ntmps20
  go_wp2_with (first
    | (go_at_call 39; first
      | ((with_reducible refine (k1.out _ hS).mono ?_); rintro e w1 ⟨v1, rfl, hT1, hb1⟩; have hS1 := hS.below hb1; have hR1 := hT1.rd)
      | ((with_reducible refine (k2.out _ hS1).mono ?_); rintro e w2 ⟨v2, rfl, hT2, hb2⟩; have hS2 := hS1.below hb2; have hR2 := hT2.rd; replace hR1 := hR1.below hb2; have hB2 := below_seq hb1 hb2)
      | ((with_reducible refine (k3.out _ hS2).mono ?_); rintro e w3 ⟨v3, rfl, hT3, hb3⟩; have hS3 := hS2.below hb3; have hR3 := hT3.rd; replace hR1 := hR1.below hb3; replace hR2 := hR2.below hb3; have hB3 := below_seq hB2 hb3))
    | (go_at_call 40; (with_reducible refine (k4.out _ hS3).mono ?_); rintro e w4 ⟨v4, rfl, hT4, hb4⟩; have hR4 := hT4.rd; replace hR1 := hR1.below hb4; replace hR2 := hR2.below hb4; replace hR3 := hR3.below hb4; have hB4 := below_seq hB3 hb4; clear hS hS1 hS2 hS3 hT1 hT2 hT3 hT4 hb1 hb2 hb3 hb4 hB2 hB3;
        have hl1 : RdT ((w4.alloc (.cells #[.string ⟨#[99]⟩, .string ⟨#[100]⟩] 45)).alloc (.cells #[.int .i64 0, .string ⟨#[]⟩, .string ⟨#[97]⟩, .slice none 0 0, .bool false, .int .i64 1, .string ⟨#[98]⟩, .string ⟨#[]⟩, .slice (some ⟨w4.heap.size, 0, none⟩) 1 1, .bool false, .int .i64 0, .string ⟨#[]⟩, .string ⟨#[120]⟩, .slice none 0 0, .bool false, .int .i64 2, .string ⟨#[98]⟩, .string ⟨#[]⟩, .slice none 0 0, .bool false] 56)) (.slice (some ⟨(w4.alloc (.cells #[.string ⟨#[99]⟩, .string ⟨#[100]⟩] 45)).heap.size, 0, none⟩) 4 4) [⟨0, [], [], [97], false⟩, ⟨1, [98], [([99], [100])], [], false⟩, ⟨0, [], [], [120], false⟩, ⟨2, [98], [], [], false⟩] := (rd_new (w4.alloc (.cells #[.string ⟨#[99]⟩, .string ⟨#[100]⟩] 45)) [(⟨0, [], [], [97], false⟩, .slice none 0 0), (⟨1, [98], [([99], [100])], [], false⟩, .slice (some ⟨w4.heap.size, 0, none⟩) 1 1), (⟨0, [], [], [120], false⟩, .slice none 0 0), (⟨2, [98], [], [], false⟩, .slice none 0 0)] _ 4 _ rfl rfl (by
          intro p hp
          simp only [List.mem_cons, List.not_mem_nil, or_false] at hp
          rcases hp with rfl | rfl | rfl | rfl
          · exact RdA.nil _
          · exact rd_one w4 [99] [100] _
          · exact RdA.nil _
          · exact RdA.nil _)); rw [World.size_alloc] at hl1)
    | (go_at_call 41; first
      | ((with_reducible refine (m1.out _ _ _ (rd_al (rd_al hR1 _) _) hl1).mono ?_); rintro e w5 ⟨rfl, hb5⟩; replace hR1 := (rd_al (rd_al hR1 _) _).below hb5; replace hR2 := (rd_al (rd_al hR2 _) _).below hb5; replace hR3 := (rd_al (rd_al hR3 _) _).below hb5; replace hR4 := (rd_al (rd_al hR4 _) _).below hb5; have hB5 := below_then ((hB4.alloc hB4.size _).alloc (by rw [World.size_alloc]; have := hB4.size; omega) _) (by rw [World.size_alloc, World.size_alloc]; have := hB4.size; omega) hb5; clear hb5 hl1; have hl2 : RdT (w5.alloc (.cells #[.int .i64 1, .string ⟨#[115, 99, 114, 105, 112, 116]⟩, .string ⟨#[]⟩, .slice none 0 0, .bool false, .int .i64 0, .string ⟨#[]⟩, .string ⟨#[60, 98, 62]⟩, .slice none 0 0, .bool false, .int .i64 2, .string ⟨#[115, 99, 114, 105, 112, 116]⟩, .string ⟨#[]⟩, .slice none 0 0, .bool false] 56)) (.slice (some ⟨w5.heap.size, 0, none⟩) 3 3) [⟨1, [115, 99, 114, 105, 112, 116], [], [], false⟩, ⟨0, [], [], [60, 98, 62], false⟩, ⟨2, [115, 99, 114, 105, 112, 116], [], [], false⟩] := (rd_new w5 [(⟨1, [115, 99, 114, 105, 112, 116], [], [], false⟩, .slice none 0 0), (⟨0, [], [], [60, 98, 62], false⟩, .slice none 0 0), (⟨2, [115, 99, 114, 105, 112, 116], [], [], false⟩, .slice none 0 0)] _ 3 _ rfl rfl (by intro p hp; simp only [List.mem_cons, List.not_mem_nil, or_false] at hp; rcases hp with rfl | rfl | rfl <;> exact RdA.nil _)))
      | ((with_reducible refine (m2.out _ _ _ (rd_al hR2 _) hl2).mono ?_); rintro e w6 ⟨rfl, hb6⟩; replace hR1 := (rd_al hR1 _).below hb6; replace hR2 := (rd_al hR2 _).below hb6; replace hR3 := (rd_al hR3 _).below hb6; replace hR4 := (rd_al hR4 _).below hb6; have hB6 := below_then (hB5.alloc hB5.size _) (by rw [World.size_alloc]; have := hB5.size; omega) hb6; clear hb6 hl2; have hl3 : RdT (w6.alloc (.cells #[.int .i64 0, .string ⟨#[]⟩, .string ⟨#[49, 32, 60, 32, 50]⟩, .slice none 0 0, .bool false] 56)) (.slice (some ⟨w6.heap.size, 0, none⟩) 1 1) [⟨0, [], [], [49, 32, 60, 32, 50], false⟩] := (rd_new w6 [(⟨0, [], [], [49, 32, 60, 32, 50], false⟩, .slice none 0 0)] _ 1 _ rfl rfl (by intro p hp; simp only [List.mem_cons, List.not_mem_nil, or_false] at hp; rcases hp with rfl <;> exact RdA.nil _)))
      | ((with_reducible refine (m3.out _ _ _ (rd_al hR3 _) hl3).mono ?_); rintro e w7 ⟨rfl, hb7⟩; replace hR1 := (rd_al hR1 _).below hb7; replace hR2 := (rd_al hR2 _).below hb7; replace hR3 := (rd_al hR3 _).below hb7; replace hR4 := (rd_al hR4 _).below hb7; have hB7 := below_then (hB6.alloc hB6.size _) (by rw [World.size_alloc]; have := hB6.size; omega) hb7; clear hb7 hl3; have hl4 : RdT (w7.alloc (.cells #[.int .i64 0, .string ⟨#[]⟩, .string ⟨#[97, 60, 98, 62, 38]⟩, .slice none 0 0, .bool false, .int .i64 2, .string ⟨#[116, 105, 116, 108, 101]⟩, .string ⟨#[]⟩, .slice none 0 0, .bool false] 56)) (.slice (some ⟨w7.heap.size, 0, none⟩) 2 2) [⟨0, [], [], [97, 60, 98, 62, 38], false⟩, ⟨2, [116, 105, 116, 108, 101], [], [], false⟩] := (rd_new w7 [(⟨0, [], [], [97, 60, 98, 62, 38], false⟩, .slice none 0 0), (⟨2, [116, 105, 116, 108, 101], [], [], false⟩, .slice none 0 0)] _ 2 _ rfl rfl (by intro p hp; simp only [List.mem_cons, List.not_mem_nil, or_false] at hp; rcases hp with rfl | rfl <;> exact RdA.nil _)))
      | ((with_reducible refine (m4.out _ _ _ (rd_al hR4 _) hl4).mono ?_); rintro e w8 ⟨rfl, hb8⟩; replace hR1 := (rd_al hR1 _).below hb8; replace hR2 := (rd_al hR2 _).below hb8; replace hR3 := (rd_al hR3 _).below hb8; replace hR4 := (rd_al hR4 _).below hb8; have hB8 := below_then (hB7.alloc hB7.size _) (by rw [World.size_alloc]; have := hB7.size; omega) hb8; clear hb8 hl4))
    | (go_at_call 21; first
      | ((with_reducible refine (n1.out _ _ hR1).mono ?_); rintro e w9 ⟨rfl, hb9⟩; replace hR2 := hR2.below hb9; have hB9 := below_seq hB8 hb9)
      | ((with_reducible refine (n2.out _ _ hR2).mono ?_); rintro e w10 ⟨rfl, hb10⟩)))
  go_ret
  exact ⟨rfl, below_seq hB9 hb10⟩
end Go.Proofs.YtdnbaliibiginaaDoor

/- What TokenWrites calls, given to the printed walk: the fixed answers, token.Write and the document's Write. -/
namespace Go.Proofs.YtdnbaliibiginaaDoorH.TW
open Go.RowKit Go.Proofs Go.Proofs.YtdnbaliibiginaaDoor Go.Proofs.YtdnbaliibiginaaDoorW.PrintWords

def wrS (l : List S56) : Txt := writeL (l.map tokS)
def boltinglaw06_fixed.f : Option Bool := some true
theorem boltinglaw06_fixed.calls (r : Bool) (w : World) (h : boltinglaw06_fixed.f = some r) (hS_ : Std w) :
    Calls Tryd.prog 20 #[] w fun e w' => e = .returned (.bool r) ∧ Below w.heap.size w w' := by
  obtain rfl : true = r := Option.some.inj h
  exact fixed6_c w hS_
def token_Write.f (l : List S56) : Option ByteArray := if (wrS l).length ≤ 1000000000 then some ⟨(wrS l).toArray⟩ else none
theorem token_Write.calls (A0 : Option Addr) (c0 : Nat) (l0 : List S56) (r : ByteArray) (w : World) (hr0 : Kd.C k56 w A0 l0.length l0) (hc0 : l0.length ≤ c0) (h : token_Write.f l0 = some r) :
    Calls Tryd.prog 21 #[.slice A0 l0.length c0] w fun e w' => e = .returned (.string r) ∧ Below w.heap.size w w' := by
  have hl := hr0.2.1
  unfold token_Write.f at h
  split at h
  · rename_i hz
    obtain rfl := Option.some.inj h
    have := write_g (.slice A0 l0.length c0) (l0.map tokS) (by rw [List.length_map]; exact hl) hz w (rdT_of hr0)
    exact this
  · cases h
def boltingref06_Write.f (l : List S56) : Option ByteArray := if (wrS l).length ≤ 1000000000 then some ⟨(wrS l).toArray⟩ else none
theorem boltingref06_Write.calls (A0 : Option Addr) (c0 : Nat) (l0 : List S56) (r : ByteArray) (w : World) (hr0 : Kd.C k56 w A0 l0.length l0) (hc0 : l0.length ≤ c0) (h : boltingref06_Write.f l0 = some r) :
    Calls Tryd.prog 22 #[.slice A0 l0.length c0] w fun e w' => e = .returned (.string r) ∧ Below w.heap.size w w' := by
  have hl := hr0.2.1
  unfold boltingref06_Write.f at h
  split at h
  · rename_i hz
    obtain rfl := Option.some.inj h
    have := rwrite_t (.slice A0 l0.length c0) (l0.map tokS) (by rw [List.length_map]; exact hl) hz w (rdT_of hr0)
    exact this
  · cases h
end Go.Proofs.YtdnbaliibiginaaDoorH.TW

-- Walks of Go functions by a program (wip/hook/hook.py over the kit's printer): each as a Lean function, and that the call comes to what it tells. Not trusted: Lean checks it.
namespace Go.Proofs.YtdnbaliibiginaaDoorH.TW
open Go.RowKit Go.Proofs.YtdnbaliibiginaaDoorW.PrintWords Go.Proofs.YtdnbaliibiginaaDoorW.PrintLast Go.Proofs.YtdnbaliibiginaaDoorW.PrintMore
attribute [local go_sem] max2_int min2_int max_two min_two max_three min_three max_four min_four   -- for this text's walks alone

/-! ### boltinglaw06_bound: function 19 -/
def boltinglaw06_bound.l0 : Nat → List (S56) → List (S56) → Int → Option ((List (S56)))
  | 0, _, _, _ => none
  | k + 1, x0, x3, x4 => if x4 < (x0.length : Int) then (if x4 < 30 then (if 0 ≤ x4 then (if 0 ≤ (mn (((rd_T56 x0 x4).f3).length : Int) 6) then (if (mn (((rd_T56 x0 x4).f3).length : Int) 6) ≤ (((rd_T56 x0 x4).f3).length : Int) then (if x3.length < 1954687338268 then (boltinglaw06_bound.l0 k x0 (x3 ++ [(⟨(rd_T56 x0 x4).f0, (rd_T56 x0 x4).f1, (rd_T56 x0 x4).f2, (((rd_T56 x0 x4).f3).take ((mn (((rd_T56 x0 x4).f3).length : Int) 6) : Int).toNat), (rd_T56 x0 x4).f4⟩ : S56)]) (wrap64 (x4 + 1))) else (none)) else (none)) else (none)) else (none)) else (some x3)) else (some x3)
def boltinglaw06_bound.f (k : Nat) (l0 : List (S56)) : Option ((List (S56))) := boltinglaw06_bound.l0 k l0 (([] : List (S56))) 0
theorem boltinglaw06_bound.mono_l : ∀ k, (∀ y0 y1 y2, LeO (boltinglaw06_bound.l0 k y0 y1 y2) (boltinglaw06_bound.l0 (k + 1) y0 y1 y2))
  | 0 => fun _ _ _ r h => by simp [boltinglaw06_bound.l0] at h
  | k + 1 => by
    have ih0 := boltinglaw06_bound.mono_l k
    · intro y0 y1 y2
      unfold boltinglaw06_bound.l0
      repeat' first
      | (with_reducible exact ih0 _ _ _)
      | (with_reducible exact LeO.refl _)
      | (with_reducible exact LeO.none _)
      | (with_reducible refine LeO.ite ?_ ?_)
      | (with_reducible refine LeO.bind ?_ (fun _ => ?_))
      | exact ih0 _ _ _
      | exact LeO.none _
      | refine LeO.ite ?_ ?_
      | refine LeO.bind ?_ (fun _ => ?_)
theorem boltinglaw06_bound.mono : ∀ a0 k, LeO (boltinglaw06_bound.f k a0) (boltinglaw06_bound.f (k + 1) a0) := by
  intro a0 k
  have ih0 := boltinglaw06_bound.mono_l k
  unfold boltinglaw06_bound.f
  repeat' first
      | (with_reducible exact ih0 _ _ _)
      | (with_reducible exact LeO.refl _)
      | (with_reducible exact LeO.none _)
      | (with_reducible refine LeO.ite ?_ ?_)
      | (with_reducible refine LeO.bind ?_ (fun _ => ?_))
      | exact ih0 _ _ _
      | exact LeO.none _
      | refine LeO.ite ?_ ?_
      | refine LeO.bind ?_ (fun _ => ?_)
set_option maxHeartbeats 8000000 in
set_option maxRecDepth 100000 in
theorem boltinglaw06_bound.calls (k : Nat) (P0_ : Nat → Prop) (A0 : Option Addr) (c0 : Nat) (l0 : List (S56)) (r : List (S56)) (w : World) (hs0 : Kd.V k56 56 w w.heap.size (fun k_ => P0_ k_) (.slice A0 l0.length c0) l0) (h : boltinglaw06_bound.f k l0 = some r) :
    Calls Tryd.prog 19 #[.slice A0 l0.length c0] w fun e w' => ∃ v0_ : Value, e = .returned (v0_) ∧ Kd.N k56 56 w' w.heap.size (fun k_ => (P0_ k_ ∨ w.heap.size ≤ k_)) v0_ r ∧ Below w.heap.size w w' := by
  have hu56 := Tryd.underlying56
  have HO0 := Aside0.mk (show Kd.V k56 56 w w.heap.size (fun k_ => (P0_ k_ ∨ w.heap.size ≤ k_)) (.slice A0 l0.length c0) l0 from Kd.V_mono hs0 (fun k_ hk => .inl hk))
  have HB := Aside0.mk (Below.refl w.heap.size w)
  have H : (boltinglaw06_bound.l0 k l0 (([] : List (S56))) 0) = some r := h
  clear h
  obtain ⟨y101, hy101⟩ : ∃ y_ : List (S56), y_ = (([] : List (S56))) := ⟨_, rfl⟩
  replace H : (boltinglaw06_bound.l0 k l0 y101 0) = some r := by first | (rw [hy101]; with_reducible exact H) | (have H2_ := (Option.bind_some _ _).symm.trans H; rw [hy101]; with_reducible exact H2_) | (have H2_ := (Option.bind_some _ _).symm.trans H; with_reducible exact H2_) | with_reducible exact H | (rw [hy101]; exact H) | exact H
  have Ny101 := Aside0.mk hy101
  clear hy101
  have H' := Aside0.mk H
  clear H
  go_enter Tryd.func19, Tryd.ntmps19
  go_wp2_with (first | ((with_reducible refine gate_dst (N := 6) rfl ?_); refine Kd.N_lit k56 _ 56 ?hg (N' := 6) ?hd (xs := ([] : List (S56))) (inner := []) (ok := (fun k_ => (P0_ k_ ∨ w.heap.size ≤ k_))) (okp := (fun k_ => (P0_ k_ ∨ w.heap.size ≤ k_))) ?hr ?hp (fun _ hk => hk) ((show ∀ k_, w.heap.size ≤ k_ → (fun k_ => (P0_ k_ ∨ w.heap.size ≤ k_)) k_ from fun k_ hk => (.inr (Nat.le_trans (below_size (by repeat (first | (with_reducible first | exact HB.out | apply below_alloc | apply pw_below_drewN | apply below_drew1) | exact HB.out))) hk))) _ (Nat.le_refl _)) (Below.refl _ _) (Nat.le_refl _) (by simp) ?_; (case hd => rfl); (case hg => rfl); (case hr => first | (go_simp; done) | (go_simp; rfl)); (case hp => exact (Reps.none _ _)); intro v102 w2 ho3 hb hg_ hnew_; clear hg_ hnew_; (first | rw [← Ny101.out] at ho3 | (simp only [Int.reduceToNat] at ho3; rw [← Ny101.out] at ho3)); have n0_ := Aside0.mk (Kd.V_elder' (by (with_reducible repeat (first | apply Kd.V_alloc | apply Kd.V_drewN | apply Kd.V_drew)); exact HO0.out) (Kd.N_base ho3) hb); have n1_ := Aside0.mk (Kd.N_lower ho3 (below_size (by repeat (first | (with_reducible first | exact HB.out | apply below_alloc | apply pw_below_drewN | apply below_drew1) | exact HB.out)))); have n2_ := Aside0.mk (below_step (by repeat (first | (with_reducible first | exact HB.out | apply below_alloc | apply pw_below_drewN | apply below_drew1) | exact HB.out)) hb); clear HO0; clear HB; have HO0 := n0_; have HO103 := n1_; have HB := n2_; clear n0_ n1_ n2_; clear hb ho3))
  go_loopg [3, 4] k (fun kq v3 v4 w' => ∃ (x3_1 : List (S56)) (x4_1 : Int), v4 = .int .i64 x4_1 ∧ Aside0 (boltinglaw06_bound.l0 kq l0 x3_1 x4_1 = some r) ∧ Aside0 (kq ≤ k) ∧ Aside0 (Kd.V k56 56 w' w.heap.size (fun k_ => (P0_ k_ ∨ w.heap.size ≤ k_) ∧ some k_ ≠ (v3 : Value).ownBlock) (.slice A0 l0.length c0) l0) ∧ Aside0 (Kd.N k56 56 w' w.heap.size (fun k_ => (P0_ k_ ∨ w.heap.size ≤ k_)) v3 x3_1) ∧ Aside0 (Below w.heap.size w w'))
  case atStart => exact ⟨(y101), (0), (by first | rfl | (simp; done) | (simp [*]; done)), H', ⟨Nat.le_refl _⟩, ⟨by (with_reducible repeat (first | apply Kd.V_alloc | apply Kd.V_drewN | apply Kd.V_drew)); exact HO0.out⟩, ⟨by (with_reducible repeat (first | apply Kd.N_alloc | apply Kd.N_drewN | apply Kd.N_drew)); exact HO103.out⟩, ⟨by repeat (first | (with_reducible first | exact HB.out | apply below_alloc | apply pw_below_drewN | apply below_drew1) | exact HB.out)⟩⟩
  case round =>
    clear H'
    try clear c1
    try clear p2
    obtain ⟨x3_1, x4_1, rfl, HA, HK1, HO_0, HO_3, HB⟩ := hrel
    cases gk with
    | zero => exact absurd HA.out (by simp [boltinglaw06_bound.l0])
    | succ k1 =>
      have H := HA.out
      clear HA
      simp only [boltinglaw06_bound.l0] at H
      by_cases c4 : x4_1 < (l0.length : Int)
      · rw [if_pos c4] at H
        have c4b0 : decide (x4_1 < (l0.length : Int)) = true := decide_eq_true c4
        clear c4
        by_cases c5 : x4_1 < 30
        · rw [if_pos c5] at H
          have c5b0 : decide (x4_1 < 30) = true := decide_eq_true c5
          clear c5
          by_cases c6 : 0 ≤ x4_1
          · rw [if_pos c6] at H
            have c6b0 : decide (0 ≤ x4_1) = true := decide_eq_true c6
            clear c6
            obtain ⟨ji7, hji7⟩ : ∃ j_ : Int, (mn (((rd_T56 l0 x4_1).f3).length : Int) 6) = j_ := ⟨_, rfl⟩
            replace H : (if 0 ≤ (ji7) then (if (ji7) ≤ (((rd_T56 l0 x4_1).f3).length : Int) then (if x3_1.length < 1954687338268 then (boltinglaw06_bound.l0 k1 l0 (x3_1 ++ [(⟨(rd_T56 l0 x4_1).f0, (rd_T56 l0 x4_1).f1, (rd_T56 l0 x4_1).f2, (((rd_T56 l0 x4_1).f3).take ((ji7) : Int).toNat), (rd_T56 l0 x4_1).f4⟩ : S56)]) (wrap64 (x4_1 + 1))) else (none)) else (none)) else (none)) = some r := by first | (rw [hji7] at H; exact H) | (simp only [hji7] at H ⊢; exact H)
            have hji7_ : (if 6 < (((rd_T56 l0 x4_1).f3).length : Int) then 6 else (((rd_T56 l0 x4_1).f3).length : Int)) = ji7 := hji7
            by_cases c8 : 0 ≤ (ji7)
            · rw [if_pos c8] at H
              have c8b0 := eq_true c8
              have c8b1 : decide (0 ≤ (ji7)) = true := decide_eq_true c8
              clear c8
              by_cases c9 : (ji7) ≤ (((rd_T56 l0 x4_1).f3).length : Int)
              · rw [if_pos c9] at H
                have c9b0 := eq_true c9
                have c9b1 : decide ((ji7) ≤ (((rd_T56 l0 x4_1).f3).length : Int)) = true := decide_eq_true c9
                clear c9
                obtain ⟨y106, hy106⟩ : ∃ y_ : List (S45), y_ = (((rd_T56 l0 x4_1).f3).take ((ji7) : Int).toNat) := ⟨_, rfl⟩
                replace H : (if x3_1.length < 1954687338268 then (boltinglaw06_bound.l0 k1 l0 (x3_1 ++ [(⟨(rd_T56 l0 x4_1).f0, (rd_T56 l0 x4_1).f1, (rd_T56 l0 x4_1).f2, y106, (rd_T56 l0 x4_1).f4⟩ : S56)]) (wrap64 (x4_1 + 1))) else (none)) = some r := by first | (rw [hy106]; with_reducible exact H) | (have H2_ := (Option.bind_some _ _).symm.trans H; rw [hy106]; with_reducible exact H2_) | (have H2_ := (Option.bind_some _ _).symm.trans H; with_reducible exact H2_) | with_reducible exact H | (rw [hy106]; exact H) | exact H
                have Ny106 := Aside0.mk hy106
                clear hy106
                by_cases c10 : x3_1.length < 1954687338268
                · rw [if_pos c10] at H
                  have LMc10 := Aside0.mk c10
                  clear c10
                  obtain ⟨y111, hy111⟩ : ∃ y_ : List (S56), y_ = (x3_1 ++ [(⟨(rd_T56 l0 x4_1).f0, (rd_T56 l0 x4_1).f1, (rd_T56 l0 x4_1).f2, y106, (rd_T56 l0 x4_1).f4⟩ : S56)]) := ⟨_, rfl⟩
                  replace H : (boltinglaw06_bound.l0 k1 l0 y111 (wrap64 (x4_1 + 1))) = some r := by first | (rw [hy111]; with_reducible exact H) | (have H2_ := (Option.bind_some _ _).symm.trans H; rw [hy111]; with_reducible exact H2_) | (have H2_ := (Option.bind_some _ _).symm.trans H; with_reducible exact H2_) | with_reducible exact H | (rw [hy111]; exact H) | exact H
                  have Ny111 := Aside0.mk hy111
                  clear hy111
                  have H' := Aside0.mk H
                  clear H
                  have p104 : 0 ≤ (x4_1 : Int) := of_decide_eq_true (by first | (with_reducible assumption) | assumption)
                  have q104 : x4_1 < (l0.length : Int) := of_decide_eq_true (by first | (with_reducible assumption) | assumption)
                  obtain ⟨ad104, A104_3, c104_3, e104, hx104_0, hx104_1, hx104_2, hx104_3, hx104_4, hl104_3, hi104_3⟩ := at_T56 (Kd.V_reads' HO_0.out).2.2 x4_1 p104 q104
                  cases e104
                  obtain ⟨ce104, hce104, hMe104, hcc104⟩ := Kd.V_get HO_0.out z56 x4_1 p104 (by first | exact q104 | exact of_decide_eq_true (by first | (with_reducible assumption) | assumption) | (have e_ := (Kd.V_reads' HO_0.out).1; omega))
                  obtain ⟨ua104_3, uc104_3, rfl, ul104_3, ge104_3⟩ := k56_openF hMe104
                  have hv104_3 := hcc104 3 _ rfl
                  rw [add_field _ _ 3 (by omega)] at hv104_3
                  replace hv104_3 := Option.some.inj (hv104_3.symm.trans hx104_3)
                  injection hv104_3 with hva_ hvn_ hvc_
                  rw [hva_] at ge104_3
                  rw [hvc_] at ul104_3
                  have HL104_3 := Aside0.mk (show Kd.V k45 45 _ w.heap.size _ _ ((rd_T56 l0 x4_1).f3) from Kd.V_mk ul104_3 ge104_3)
                  clear hva_ hvn_ hvc_ ge104_3 ul104_3
                  clear hcc104 hce104
                  have HR104_3 := Aside0.mk hi104_3
                  have HC104_3 := Aside0.mk hl104_3
                  clear hi104_3 hl104_3
                  replace p104 := eq_true p104
                  replace q104 := eq_true q104
                  go_wp2_with (first | ((with_reducible refine gate_dst (N := 5) rfl ?_); refine box_event ?hg (N := 5) ?hd (cs := #[.int .i64 0, .string (⟨#[]⟩ : ByteArray), .string (⟨#[]⟩ : ByteArray), .slice none 0 0, .bool false]) (t := 56) ?hr ?_; (case hd => rfl); (case hg => rfl); (case hr => first | (go_simp; done) | (go_simp; rfl)); intro gb105 hg w11 hbox hb; have n0_ := Aside0.mk (Kd.V_below (Kd.V_elderB (by (with_reducible repeat (first | apply Kd.V_alloc | apply Kd.V_drewN | apply Kd.V_drew)); exact HO_0.out) gb105 (Nat.le_of_eq hg.symm)) hb); have n1_ := Aside0.mk (Kd.N_below (Kd.N_elderB (by (with_reducible repeat (first | apply Kd.N_alloc | apply Kd.N_drewN | apply Kd.N_drew)); exact HO_3.out) gb105 (Nat.le_of_eq hg.symm)) hb); have n2_ := Aside0.mk (Kd.V_below (Kd.V_elderB (by (with_reducible repeat (first | apply Kd.V_alloc | apply Kd.V_drewN | apply Kd.V_drew)); exact HL104_3.out) gb105 (Nat.le_of_eq hg.symm)) hb); have n3_ := Aside0.mk (Kd.C_below (by repeat (first | (with_reducible exact HR104_3.out) | (with_reducible refine Kd.C_alloc ?_ _) | (with_reducible refine Kd.C_drewN ?_ _) | (with_reducible refine Kd.C_drew ?_) | exact HR104_3.out)) hb); have n4_ := Aside0.mk (below_step (by repeat (first | (with_reducible first | exact HB.out | apply below_alloc | apply pw_below_drewN | apply below_drew1) | exact HB.out)) hb); have n5_ := Aside0.mk (hbox); have n6_ := Aside0.mk ((by rw [hg]; exact (below_size (by repeat (first | (with_reducible first | exact HB.out | apply below_alloc | apply pw_below_drewN | apply below_drew1) | exact HB.out))) : w.heap.size ≤ gb105)); have n7_ := Aside0.mk ((by rw [hg]; exact (below_size (by repeat (first | (with_reducible first | exact HB.out | apply below_alloc | apply pw_below_drewN | apply below_drew1) | exact HB.out))) : w.heap.size ≤ gb105)); clear HO_0; clear HO_3; clear HL104_3; clear HR104_3; clear HB; have HO_0 := n0_; have HO_3 := n1_; have HL104_3 := n2_; have HR104_3 := n3_; have HB := n4_; have BK105 := n5_; have GW105 := n6_; have GE105 := n7_; clear n0_ n1_ n2_ n3_ n4_ n5_ n6_ n7_; clear hb hbox hg; have hcz12_0 : w11.cell? ⟨gb105, 0, none⟩ = some (.int .i64 0) := (blk_cell BK105.out 0).trans rfl; have hcz12_1 : w11.cell? ⟨gb105, 1, none⟩ = some (.string (⟨#[]⟩ : ByteArray)) := (blk_cell BK105.out 1).trans rfl; have hcz12_2 : w11.cell? ⟨gb105, 2, none⟩ = some (.string (⟨#[]⟩ : ByteArray)) := (blk_cell BK105.out 2).trans rfl; have hcz12_3 : w11.cell? ⟨gb105, 3, none⟩ = some (.slice none 0 0) := (blk_cell BK105.out 3).trans rfl; have hcz12_4 : w11.cell? ⟨gb105, 4, none⟩ = some (.bool false) := (blk_cell BK105.out 4).trans rfl; have hfz12_0 := blk_frozen BK105.out 0; have hfz12_1 := blk_frozen BK105.out 1; have hfz12_2 := blk_frozen BK105.out 2; have hfz12_3 := blk_frozen BK105.out 3; have hfz12_4 := blk_frozen BK105.out 4) | ((with_reducible refine gate_store (t := 56) (p := 5) rfl ?_); refine store_event (t := 56) (p := 5) (v := ?vo_w13) (w1 := (((((w11.setCell ⟨gb105, 0, none⟩ (.int .i64 ((rd_T56 l0 x4_1).f0))).setCell ⟨gb105, 1, none⟩ (.string ((rd_T56 l0 x4_1).f1))).setCell ⟨gb105, 2, none⟩ (.string ((rd_T56 l0 x4_1).f2))).setCell ⟨gb105, 3, none⟩ (.slice A104_3 ((rd_T56 l0 x4_1).f3).length c104_3)).setCell ⟨gb105, 4, none⟩ (.bool ((rd_T56 l0 x4_1).f4)))) ?hg ?ho ?hn ?hr ?_; (case ho => rfl); (case hg => rfl); (case hn => rfl); (case hr => first | (go_simp; done) | (go_simp; rfl)); intro w13 hw; have n0_ : Aside0 (Kd.V k56 56 w13 w.heap.size (fun k_ => (P0_ k_ ∨ w.heap.size ≤ k_) ∧ some k_ ≠ (u3 : Value).ownBlock ∧ k_ ≠ gb105) (.slice (some ad104) l0.length c0) l0) := ⟨(by rw [hw]; exact (by (with_reducible repeat (first | apply Kd.V_alloc | apply Kd.V_drewN | apply Kd.V_drew)); exact Kd.V_mono (Kd.V_far (p := ⟨gb105, 4, none⟩) (Kd.V_far (p := ⟨gb105, 3, none⟩) (Kd.V_far (p := ⟨gb105, 2, none⟩) (Kd.V_far (p := ⟨gb105, 1, none⟩) (Kd.V_far (p := ⟨gb105, 0, none⟩) (Kd.V_mono HO_0.out (fun k_ hk => (⟨hk, hk.2⟩ : _ ∧ k_ ≠ gb105))) (fun _ hk => hk.2) (.int .i64 ((rd_T56 l0 x4_1).f0))) (fun _ hk => hk.2) (.string ((rd_T56 l0 x4_1).f1))) (fun _ hk => hk.2) (.string ((rd_T56 l0 x4_1).f2))) (fun _ hk => hk.2) (.slice A104_3 ((rd_T56 l0 x4_1).f3).length c104_3)) (fun _ hk => hk.2) (.bool ((rd_T56 l0 x4_1).f4))) (fun _ hk => ⟨hk.1.1.1, ⟨hk.1.1.2, hk.1.2⟩⟩)))⟩; have n1_ : Aside0 (Kd.N k56 56 w13 w.heap.size (fun k_ => (P0_ k_ ∨ w.heap.size ≤ k_) ∧ k_ ≠ gb105) u3 x3_1) := ⟨(by rw [hw]; exact (by (with_reducible repeat (first | apply Kd.N_alloc | apply Kd.N_drewN | apply Kd.N_drew)); exact Kd.N_mono (Kd.N_far (p := ⟨gb105, 4, none⟩) (Kd.N_far (p := ⟨gb105, 3, none⟩) (Kd.N_far (p := ⟨gb105, 2, none⟩) (Kd.N_far (p := ⟨gb105, 1, none⟩) (Kd.N_far (p := ⟨gb105, 0, none⟩) (Kd.N_mono HO_3.out (fun k_ hk => (⟨hk, hk.2⟩ : _ ∧ k_ ≠ gb105))) (fun _ hk => hk.2) (.int .i64 ((rd_T56 l0 x4_1).f0))) (fun _ hk => hk.2) (.string ((rd_T56 l0 x4_1).f1))) (fun _ hk => hk.2) (.string ((rd_T56 l0 x4_1).f2))) (fun _ hk => hk.2) (.slice A104_3 ((rd_T56 l0 x4_1).f3).length c104_3)) (fun _ hk => hk.2) (.bool ((rd_T56 l0 x4_1).f4))) (fun _ hk => ⟨hk.1.1, hk.1.2⟩)))⟩; have n2_ : Aside0 (Kd.V k45 45 w13 w.heap.size (fun k_ => (P0_ k_ ∨ w.heap.size ≤ k_) ∧ some k_ ≠ (u3 : Value).ownBlock ∧ k_ ≠ gb105) (.slice A104_3 ((rd_T56 l0 x4_1).f3).length c104_3) ((rd_T56 l0 x4_1).f3)) := ⟨(by rw [hw]; exact (by (with_reducible repeat (first | apply Kd.V_alloc | apply Kd.V_drewN | apply Kd.V_drew)); exact Kd.V_mono (Kd.V_far (p := ⟨gb105, 4, none⟩) (Kd.V_far (p := ⟨gb105, 3, none⟩) (Kd.V_far (p := ⟨gb105, 2, none⟩) (Kd.V_far (p := ⟨gb105, 1, none⟩) (Kd.V_far (p := ⟨gb105, 0, none⟩) (Kd.V_mono HL104_3.out (fun k_ hk => (⟨hk, hk.2⟩ : _ ∧ k_ ≠ gb105))) (fun _ hk => hk.2) (.int .i64 ((rd_T56 l0 x4_1).f0))) (fun _ hk => hk.2) (.string ((rd_T56 l0 x4_1).f1))) (fun _ hk => hk.2) (.string ((rd_T56 l0 x4_1).f2))) (fun _ hk => hk.2) (.slice A104_3 ((rd_T56 l0 x4_1).f3).length c104_3)) (fun _ hk => hk.2) (.bool ((rd_T56 l0 x4_1).f4))) (fun _ hk => ⟨hk.1.1.1, ⟨hk.1.1.2, hk.1.2⟩⟩)))⟩; have n3_ : Aside0 (w13.heap[gb105]? = some (.cells #[.int .i64 ((rd_T56 l0 x4_1).f0), .string ((rd_T56 l0 x4_1).f1), .string ((rd_T56 l0 x4_1).f2), .slice A104_3 ((rd_T56 l0 x4_1).f3).length c104_3, .bool ((rd_T56 l0 x4_1).f4)] 56 (0, 0))) := ⟨(by rw [hw]; exact (by (with_reducible repeat (first | refine blk_drewN ?_ _ | refine blk_drew ?_ | refine blk_alloc ?_ _)); refine blk_put (cs := #[.int .i64 ((rd_T56 l0 x4_1).f0), .string ((rd_T56 l0 x4_1).f1), .string ((rd_T56 l0 x4_1).f2), .slice A104_3 ((rd_T56 l0 x4_1).f3).length c104_3, .bool false]) ?_ 4 _ rfl; (with_reducible repeat (first | refine blk_drewN ?_ _ | refine blk_drew ?_ | refine blk_alloc ?_ _)); refine blk_put (cs := #[.int .i64 ((rd_T56 l0 x4_1).f0), .string ((rd_T56 l0 x4_1).f1), .string ((rd_T56 l0 x4_1).f2), .slice none 0 0, .bool false]) ?_ 3 _ rfl; (with_reducible repeat (first | refine blk_drewN ?_ _ | refine blk_drew ?_ | refine blk_alloc ?_ _)); refine blk_put (cs := #[.int .i64 ((rd_T56 l0 x4_1).f0), .string ((rd_T56 l0 x4_1).f1), .string (⟨#[]⟩ : ByteArray), .slice none 0 0, .bool false]) ?_ 2 _ rfl; (with_reducible repeat (first | refine blk_drewN ?_ _ | refine blk_drew ?_ | refine blk_alloc ?_ _)); refine blk_put (cs := #[.int .i64 ((rd_T56 l0 x4_1).f0), .string (⟨#[]⟩ : ByteArray), .string (⟨#[]⟩ : ByteArray), .slice none 0 0, .bool false]) ?_ 1 _ rfl; (with_reducible repeat (first | refine blk_drewN ?_ _ | refine blk_drew ?_ | refine blk_alloc ?_ _)); refine blk_put (cs := #[.int .i64 0, .string (⟨#[]⟩ : ByteArray), .string (⟨#[]⟩ : ByteArray), .slice none 0 0, .bool false]) ?_ 0 _ rfl; (with_reducible repeat (first | refine blk_drewN ?_ _ | refine blk_drew ?_ | refine blk_alloc ?_ _)); exact BK105.out))⟩; have n4_ : Aside0 (Below w.heap.size w w13) := ⟨(by rw [hw]; exact (by repeat (first | (with_reducible first | exact HB.out | apply below_alloc | apply pw_below_drewN | apply below_drew1 | refine below_set ?_ GE105.out) | exact HB.out)))⟩; clear hw; clear HO_0; clear HO_3; clear HL104_3; clear BK105; clear HB; have HO_0 := n0_; have HO_3 := n1_; have HL104_3 := n2_; have BK105 := n3_; have HB := n4_; clear n0_ n1_ n2_ n3_ n4_; have hcz14_0 : w13.cell? ⟨gb105, 0, none⟩ = some (.int .i64 ((rd_T56 l0 x4_1).f0)) := (blk_cell BK105.out 0).trans rfl; have hcz14_1 : w13.cell? ⟨gb105, 1, none⟩ = some (.string ((rd_T56 l0 x4_1).f1)) := (blk_cell BK105.out 1).trans rfl; have hcz14_2 : w13.cell? ⟨gb105, 2, none⟩ = some (.string ((rd_T56 l0 x4_1).f2)) := (blk_cell BK105.out 2).trans rfl; have hcz14_3 : w13.cell? ⟨gb105, 3, none⟩ = some (.slice A104_3 ((rd_T56 l0 x4_1).f3).length c104_3) := (blk_cell BK105.out 3).trans rfl; have hcz14_4 : w13.cell? ⟨gb105, 4, none⟩ = some (.bool ((rd_T56 l0 x4_1).f4)) := (blk_cell BK105.out 4).trans rfl; have hfz14_0 := blk_frozen BK105.out 0; have hfz14_1 := blk_frozen BK105.out 1; have hfz14_2 := blk_frozen BK105.out 2; have hfz14_3 := blk_frozen BK105.out 3; have hfz14_4 := blk_frozen BK105.out 4; have q15 : ((ji7) : Int) ≤ ((((rd_T56 l0 x4_1).f3).length : Int) : Int) := of_decide_eq_true (by first | (with_reducible assumption) | assumption); obtain ⟨i015, hi015, _, hsz15, _⟩ := info_parts info45; have hroom15 : ((rd_T56 l0 x4_1).f3).length ≤ c104_3 := HC104_3.out; have hC15 : Kd.F k45 _ _ A104_3 ((rd_T56 l0 x4_1).f3).length ((rd_T56 l0 x4_1).f3) := (Kd.V_at (base := w.heap.size) HL104_3.out).2.2; have hcut15 := cut_to (P := Tryd.prog) 33 45 .i64 Tryd.underlying33 hi015 A104_3 ((rd_T56 l0 x4_1).f3).length c104_3 (ji7) (of_decide_eq_true (by first | (with_reducible assumption) | assumption)) q15 hroom15; have hr15 := Kd.F_take (m := ((ji7) : Int).toNat) hC15 (by omega); have hy15 : y106.length = ((ji7) : Int).toNat := (by rw [Ny106.out, List.length_take]; omega); rw [← Ny106.out] at hr15; rw [← hy15] at hcut15; have HO110 := Aside0.mk (show Kd.V k45 45 _ w.heap.size _ (.slice A104_3 y106.length c104_3) y106 from Kd.V_mk (by omega) hr15); have HC110 := Aside0.mk (show y106.length ≤ c104_3 from by omega); clear hr15 hC15 hroom15 hi015 hsz15; have KY15 := Aside0.mk hy15; clear hy15; replace q15 := eq_true q15) | ((with_reducible refine gate_store (t := 33) (p := 28) rfl ?_); refine store_event (t := 33) (p := 28) (v := ?vo_w16) (w1 := (w13.setCell ⟨gb105, 3, none⟩ (.slice A104_3 y106.length c104_3))) ?hg ?ho ?hn ?hr ?_; (case ho => rfl); (case hg => rfl); (case hn => rfl); (case hr => first | (go_simp; done) | (go_simp; rfl)); intro w16 hw; have n0_ : Aside0 (Kd.V k56 56 w16 w.heap.size (fun k_ => (P0_ k_ ∨ w.heap.size ≤ k_) ∧ some k_ ≠ (u3 : Value).ownBlock ∧ k_ ≠ gb105) (.slice (some ad104) l0.length c0) l0) := ⟨(by rw [hw]; exact (by (with_reducible repeat (first | apply Kd.V_alloc | apply Kd.V_drewN | apply Kd.V_drew)); exact Kd.V_mono (Kd.V_far (p := ⟨gb105, 3, none⟩) (Kd.V_mono HO_0.out (fun k_ hk => (⟨hk, hk.2.2⟩ : _ ∧ k_ ≠ gb105))) (fun _ hk => hk.2) (.slice A104_3 y106.length c104_3)) (fun _ hk => ⟨hk.1.1, ⟨hk.1.2.1, hk.1.2.2⟩⟩)))⟩; have n1_ : Aside0 (Kd.N k56 56 w16 w.heap.size (fun k_ => (P0_ k_ ∨ w.heap.size ≤ k_) ∧ k_ ≠ gb105) u3 x3_1) := ⟨(by rw [hw]; exact (by (with_reducible repeat (first | apply Kd.N_alloc | apply Kd.N_drewN | apply Kd.N_drew)); exact Kd.N_mono (Kd.N_far (p := ⟨gb105, 3, none⟩) (Kd.N_mono HO_3.out (fun k_ hk => (⟨hk, hk.2⟩ : _ ∧ k_ ≠ gb105))) (fun _ hk => hk.2) (.slice A104_3 y106.length c104_3)) (fun _ hk => ⟨hk.1.1, hk.1.2⟩)))⟩; have n2_ : Aside0 (Kd.V k45 45 w16 w.heap.size (fun k_ => (P0_ k_ ∨ w.heap.size ≤ k_) ∧ some k_ ≠ (u3 : Value).ownBlock ∧ k_ ≠ gb105) (.slice A104_3 ((rd_T56 l0 x4_1).f3).length c104_3) ((rd_T56 l0 x4_1).f3)) := ⟨(by rw [hw]; exact (by (with_reducible repeat (first | apply Kd.V_alloc | apply Kd.V_drewN | apply Kd.V_drew)); exact Kd.V_mono (Kd.V_far (p := ⟨gb105, 3, none⟩) (Kd.V_mono HL104_3.out (fun k_ hk => (⟨hk, hk.2.2⟩ : _ ∧ k_ ≠ gb105))) (fun _ hk => hk.2) (.slice A104_3 y106.length c104_3)) (fun _ hk => ⟨hk.1.1, ⟨hk.1.2.1, hk.1.2.2⟩⟩)))⟩; have n3_ : Aside0 (Kd.V k45 45 w16 w.heap.size (fun k_ => (P0_ k_ ∨ w.heap.size ≤ k_) ∧ some k_ ≠ (u3 : Value).ownBlock ∧ k_ ≠ gb105) (.slice A104_3 y106.length c104_3) y106) := ⟨(by rw [hw]; exact (by (with_reducible repeat (first | apply Kd.V_alloc | apply Kd.V_drewN | apply Kd.V_drew)); exact Kd.V_mono (Kd.V_far (p := ⟨gb105, 3, none⟩) (Kd.V_mono HO110.out (fun k_ hk => (⟨hk, hk.2.2⟩ : _ ∧ k_ ≠ gb105))) (fun _ hk => hk.2) (.slice A104_3 y106.length c104_3)) (fun _ hk => ⟨hk.1.1, ⟨hk.1.2.1, hk.1.2.2⟩⟩)))⟩; have n4_ : Aside0 (w16.heap[gb105]? = some (.cells #[.int .i64 ((rd_T56 l0 x4_1).f0), .string ((rd_T56 l0 x4_1).f1), .string ((rd_T56 l0 x4_1).f2), .slice A104_3 y106.length c104_3, .bool ((rd_T56 l0 x4_1).f4)] 56 (0, 0))) := ⟨(by rw [hw]; exact (by (with_reducible repeat (first | refine blk_drewN ?_ _ | refine blk_drew ?_ | refine blk_alloc ?_ _)); refine blk_put (cs := #[.int .i64 ((rd_T56 l0 x4_1).f0), .string ((rd_T56 l0 x4_1).f1), .string ((rd_T56 l0 x4_1).f2), .slice A104_3 ((rd_T56 l0 x4_1).f3).length c104_3, .bool ((rd_T56 l0 x4_1).f4)]) ?_ 3 _ rfl; (with_reducible repeat (first | refine blk_drewN ?_ _ | refine blk_drew ?_ | refine blk_alloc ?_ _)); exact BK105.out))⟩; have n5_ : Aside0 (Below w.heap.size w w16) := ⟨(by rw [hw]; exact (by repeat (first | (with_reducible first | exact HB.out | apply below_alloc | apply pw_below_drewN | apply below_drew1 | refine below_set ?_ GE105.out) | exact HB.out)))⟩; clear hw; clear HO_0; clear HO_3; clear HL104_3; clear HO110; clear BK105; clear HB; have HO_0 := n0_; have HO_3 := n1_; have HL104_3 := n2_; have HO110 := n3_; have BK105 := n4_; have HB := n5_; clear n0_ n1_ n2_ n3_ n4_ n5_; have hcz17_0 : w16.cell? ⟨gb105, 0, none⟩ = some (.int .i64 ((rd_T56 l0 x4_1).f0)) := (blk_cell BK105.out 0).trans rfl; have hcz17_1 : w16.cell? ⟨gb105, 1, none⟩ = some (.string ((rd_T56 l0 x4_1).f1)) := (blk_cell BK105.out 1).trans rfl; have hcz17_2 : w16.cell? ⟨gb105, 2, none⟩ = some (.string ((rd_T56 l0 x4_1).f2)) := (blk_cell BK105.out 2).trans rfl; have hcz17_3 : w16.cell? ⟨gb105, 3, none⟩ = some (.slice A104_3 y106.length c104_3) := (blk_cell BK105.out 3).trans rfl; have hcz17_4 : w16.cell? ⟨gb105, 4, none⟩ = some (.bool ((rd_T56 l0 x4_1).f4)) := (blk_cell BK105.out 4).trans rfl; have hfz17_0 := blk_frozen BK105.out 0; have hfz17_1 := blk_frozen BK105.out 1; have hfz17_2 := blk_frozen BK105.out 2; have hfz17_3 := blk_frozen BK105.out 3; have hfz17_4 := blk_frozen BK105.out 4) | ((with_reducible refine gate_builtin (b := .append) (xs := #[.tmp 29, .tmp 31]) rfl ?_); at_builtin; refine Kd.N_append k56 (w0 := w) w.heap.size rfl (.tmp 29) (.tmp 31) 38 56 (.agg #[(.int .i64 0), (.string ⟨#[]⟩), (.string ⟨#[]⟩), (.slice none 0 0), (.bool false)]) 72 rfl Tryd.underlying38 info56 rfl (by decide) (by omega) u3 x3_1 (⟨(rd_T56 l0 x4_1).f0, (rd_T56 l0 x4_1).f1, (rd_T56 l0 x4_1).f2, y106, (rd_T56 l0 x4_1).f4⟩ : S56) [.int .i64 ((rd_T56 l0 x4_1).f0), .string ((rd_T56 l0 x4_1).f1), .string ((rd_T56 l0 x4_1).f2), .slice A104_3 y106.length c104_3, .bool ((rd_T56 l0 x4_1).f4)] (fun k_ => (P0_ k_ ∨ w.heap.size ≤ k_) ∧ k_ ≠ gb105) (fun k_ => ((fun k_ => (P0_ k_ ∨ w.heap.size ≤ k_) ∧ k_ ≠ gb105)) k_ ∧ some k_ ≠ (u3 : Value).ownBlock) rfl rfl ?aP (fun _ hk => hk) ?aF ?aO ?aB ?aS ?aL ?_; (case aP => exact (k56_mkF _ _ (⟨(rd_T56 l0 x4_1).f0, (rd_T56 l0 x4_1).f1, (rd_T56 l0 x4_1).f2, y106, (rd_T56 l0 x4_1).f4⟩ : S56) (Kd.V_reads' (Kd.V_mono (ok' := (fun k_ => ((fun k_ => (P0_ k_ ∨ w.heap.size ≤ k_) ∧ k_ ≠ gb105)) k_ ∧ some k_ ≠ (u3 : Value).ownBlock)) (HO110.out) (fun k_ hk => ⟨⟨hk.1, hk.2.2⟩, hk.2.1⟩))).2.1 (Kd.V_F (Kd.V_mono (ok' := (fun k_ => ((fun k_ => (P0_ k_ ∨ w.heap.size ≤ k_) ∧ k_ ≠ gb105)) k_ ∧ some k_ ≠ (u3 : Value).ownBlock)) (HO110.out) (fun k_ hk => ⟨⟨hk.1, hk.2.2⟩, hk.2.1⟩))))); (case aB => exact (by repeat (first | (with_reducible first | exact HB.out | apply below_alloc | apply pw_below_drewN | apply below_drew1 | refine below_set ?_ GE105.out) | exact HB.out))); (case aF => exact (fun k_ hk => ⟨(.inr (Nat.le_trans (below_size (by repeat (first | (with_reducible first | exact HB.out | apply below_alloc | apply pw_below_drewN | apply below_drew1 | refine below_set ?_ GE105.out) | exact HB.out))) hk)), Kd.freshB (g := gb105) (o := .cells #[.int .i64 ((rd_T56 l0 x4_1).f0), .string ((rd_T56 l0 x4_1).f1), .string ((rd_T56 l0 x4_1).f2), .slice A104_3 y106.length c104_3, .bool ((rd_T56 l0 x4_1).f4)] 56 (0, 0)) (by (with_reducible repeat (first | refine blk_drewN ?_ _ | refine blk_drew ?_ | refine blk_alloc ?_ _)); exact BK105.out) k_ hk⟩)); (case aO => exact (by (with_reducible repeat (first | apply Kd.N_alloc | apply Kd.N_drewN | apply Kd.N_drew)); exact HO_3.out)); (case aS => exact (below_size (by repeat (first | (with_reducible first | exact HB.out | apply below_alloc | apply pw_below_drewN | apply below_drew1 | refine below_set ?_ GE105.out) | exact HB.out)))); (case aL => have := LMc10.out; omega); intro v112 w18 ho hb hg hat; rw [← Ny111.out] at ho; have n0_ := Aside0.mk (Kd.V_afterv (ok := (fun k_ => (P0_ k_ ∨ w.heap.size ≤ k_) ∧ k_ ≠ gb105)) (by (with_reducible repeat (first | apply Kd.V_alloc | apply Kd.V_drewN | apply Kd.V_drew)); exact Kd.V_mono HO_0.out (fun _ hk => ⟨⟨hk.1, hk.2.2⟩, hk.2.1⟩)) hg hat); have n1_ := Aside0.mk (Kd.V_afterv (ok := (fun k_ => (P0_ k_ ∨ w.heap.size ≤ k_) ∧ k_ ≠ gb105)) (by (with_reducible repeat (first | apply Kd.V_alloc | apply Kd.V_drewN | apply Kd.V_drew)); exact Kd.V_mono HL104_3.out (fun _ hk => ⟨⟨hk.1, hk.2.2⟩, hk.2.1⟩)) hg hat); have n2_ := Aside0.mk (blk_grown (g := gb105) (o := .cells #[.int .i64 ((rd_T56 l0 x4_1).f0), .string ((rd_T56 l0 x4_1).f1), .string ((rd_T56 l0 x4_1).f2), .slice A104_3 y106.length c104_3, .bool ((rd_T56 l0 x4_1).f4)] 56 (0, 0)) (by (with_reducible repeat (first | refine blk_drewN ?_ _ | refine blk_drew ?_ | refine blk_alloc ?_ _)); exact BK105.out) hg (Kd.N_away HO_3.out (fun _ hk => hk.2))); have n3_ := Aside0.mk (Kd.V_afterv (ok := (fun k_ => (P0_ k_ ∨ w.heap.size ≤ k_) ∧ k_ ≠ gb105)) (by (with_reducible repeat (first | apply Kd.V_alloc | apply Kd.V_drewN | apply Kd.V_drew)); exact Kd.V_mono HO110.out (fun _ hk => ⟨⟨hk.1, hk.2.2⟩, hk.2.1⟩)) hg hat); have n4_ := Aside0.mk (hb); have n5_ := Aside0.mk (ho); clear HO_0; clear HL104_3; clear BK105; clear HO110; clear HB; clear HO_3; have HO_0 := n0_; have HL104_3 := n1_; have BK105 := n2_; have HO110 := n3_; have HB := n4_; have HO113 := n5_; clear n0_ n1_ n2_ n3_ n4_ n5_; clear ho hb hg hat))
                  go_roundg k1
                  case measure => have := HK1.out; omega
                  case rel => exact ⟨(y111), (wrap64 (x4_1 + 1)), (by first | rfl | (simp; done) | (simp [*]; done)), H', ⟨by have := HK1.out; omega⟩, ⟨by (with_reducible repeat (first | apply Kd.V_alloc | apply Kd.V_drewN | apply Kd.V_drew)); exact Kd.V_mono HO_0.out (fun _ hk => ⟨hk.1.1, hk.2⟩)⟩, ⟨by (with_reducible repeat (first | apply Kd.N_alloc | apply Kd.N_drewN | apply Kd.N_drew)); exact Kd.N_mono HO113.out (fun _ hk => hk.1)⟩, ⟨by repeat (first | (with_reducible first | exact HB.out | apply below_alloc | apply pw_below_drewN | apply below_drew1 | refine below_set ?_ GE105.out) | exact HB.out)⟩⟩
                · rw [if_neg c10] at H
                  exact absurd H (by simp)
              · rw [if_neg c9] at H
                exact absurd H (by simp)
            · rw [if_neg c8] at H
              exact absurd H (by simp)
          · rw [if_neg c6] at H
            exact absurd H (by simp)
        · rw [if_neg c5] at H
          have c5b0 : decide (x4_1 < 30) = false := decide_eq_false c5
          clear c5
          obtain rfl := Option.some.inj H
          go_wp2
          go_ret
          exact ⟨_, by first | rfl | (simp [errW_none, errW_some] <;> rfl) | (simp [*, errW_none, errW_some] <;> rfl), by (with_reducible repeat (first | apply Kd.N_alloc | apply Kd.N_drewN | apply Kd.N_drew)); exact HO_3.out, by repeat (first | (with_reducible first | exact HB.out | apply below_alloc | apply pw_below_drewN | apply below_drew1) | exact HB.out)⟩
      · rw [if_neg c4] at H
        have c4b0 : decide (x4_1 < (l0.length : Int)) = false := decide_eq_false c4
        clear c4
        obtain rfl := Option.some.inj H
        go_wp2
        go_ret
        exact ⟨_, by first | rfl | (simp [errW_none, errW_some] <;> rfl) | (simp [*, errW_none, errW_some] <;> rfl), by (with_reducible repeat (first | apply Kd.N_alloc | apply Kd.N_drewN | apply Kd.N_drew)); exact HO_3.out, by repeat (first | (with_reducible first | exact HB.out | apply below_alloc | apply pw_below_drewN | apply below_drew1) | exact HB.out)⟩

/-! ### boltinglaw06_TokenWrites: function 6 -/
def boltinglaw06_TokenWrites.f (k : Nat) (l0 : List (S56)) : Option (Bool) := (boltinglaw06_bound.f k l0).bind fun t114 => ((boltinglaw06_fixed.f).bind fun t117 => (if t117 = true then ((token_Write.f t114).bind fun t118 => ((boltingref06_Write.f t114).bind fun t119 => (some (t118.toList == t119.toList)))) else (some false)))
theorem boltinglaw06_TokenWrites.mono : ∀ a0 k, LeO (boltinglaw06_TokenWrites.f k a0) (boltinglaw06_TokenWrites.f (k + 1) a0) := by
  intro a0 k
  unfold boltinglaw06_TokenWrites.f
  repeat' first
      | (with_reducible exact boltinglaw06_bound.mono _ _)
      | (with_reducible exact LeO.refl _)
      | (with_reducible exact LeO.none _)
      | (with_reducible refine LeO.ite ?_ ?_)
      | (with_reducible refine LeO.bind ?_ (fun _ => ?_))
      | exact boltinglaw06_bound.mono _ _
      | exact LeO.none _
      | refine LeO.ite ?_ ?_
      | refine LeO.bind ?_ (fun _ => ?_)
set_option maxHeartbeats 8000000 in
set_option maxRecDepth 100000 in
theorem boltinglaw06_TokenWrites.calls (k : Nat) (A0 : Option Addr) (c0 : Nat) (l0 : List (S56)) (r : Bool) (w : World) (hr0 : Kd.C k56 w A0 l0.length l0) (hc0 : l0.length ≤ c0) (h : boltinglaw06_TokenWrites.f k l0 = some r) (hS_ : Go.Proofs.YtdnbaliibiginaaDoor.Std w) :
    Calls Tryd.prog 6 #[.slice A0 l0.length c0] w fun e w' => e = .returned (.bool r) ∧ Below w.heap.size w w' := by
  have HS_ := Aside0.mk hS_
  clear hS_
  have HR0 := Aside0.mk hr0
  have HC0 := Aside0.mk hc0
  clear hr0 hc0
  have HB := Aside0.mk (Below.refl w.heap.size w)
  have H : ((boltinglaw06_bound.f k l0).bind fun t114 => ((boltinglaw06_fixed.f).bind fun t117 => (if t117 = true then ((token_Write.f t114).bind fun t118 => ((boltingref06_Write.f t114).bind fun t119 => (some (t118.toList == t119.toList)))) else (some false)))) = some r := h
  clear h
  replace H := Option.bind_eq_some_iff.mp H
  obtain ⟨t114, A20, H⟩ := H
  replace H : ((boltinglaw06_fixed.f).bind fun t117 => (if t117 = true then ((token_Write.f t114).bind fun t118 => ((boltingref06_Write.f t114).bind fun t119 => (some (t118.toList == t119.toList)))) else (some false))) = some r := H
  have A2 := Aside0.mk A20
  clear A20
  replace H := Option.bind_eq_some_iff.mp H
  obtain ⟨t117, A30, H⟩ := H
  replace H : (if t117 = true then ((token_Write.f t114).bind fun t118 => ((boltingref06_Write.f t114).bind fun t119 => (some (t118.toList == t119.toList)))) else (some false)) = some r := H
  have A3 := Aside0.mk A30
  clear A30
  by_cases c4 : t117 = true
  · subst c4
    have H1 : ((token_Write.f t114).bind fun t118 => ((boltingref06_Write.f t114).bind fun t119 => (some (t118.toList == t119.toList)))) = some r := by rw [if_pos rfl] at H; exact H
    clear H
    have H := H1
    clear H1
    replace H := Option.bind_eq_some_iff.mp H
    obtain ⟨t118, A50, H⟩ := H
    replace H : ((boltingref06_Write.f t114).bind fun t119 => (some (t118.toList == t119.toList))) = some r := H
    have A5 := Aside0.mk A50
    clear A50
    replace H := Option.bind_eq_some_iff.mp H
    obtain ⟨t119, A60, H⟩ := H
    replace H : (some (t118.toList == t119.toList)) = some r := H
    have A6 := Aside0.mk A60
    clear A60
    obtain rfl := Option.some.inj H
    go_enter Tryd.func6, Tryd.ntmps6
    go_wp2_with (first | ((with_reducible refine gate_callee (f := 19) rfl ?_); refine goesL_ (some 4) rfl rfl Tryd.func19 (by kernel_rfl) rfl #[.slice A0 l0.length c0] rfl (by (try simp only [List.map_toArray, List.map_cons, List.map_nil]); first | done | rfl | (simp only [List.length_drop, List.length_take]; rfl)) ?_; (with_reducible refine (boltinglaw06_bound.calls k (fun k_ => k_ < w.heap.size) _ _ l0 t114 _ ?side1 A2.out).mono ?_); (case side1 => exact Kd.V_mk HC0.out (Kd.F_below (Kd.C_F k56_heap HR0.out) (by repeat (first | (with_reducible first | exact HB.out | apply below_alloc | apply pw_below_drewN | apply below_drew1) | exact HB.out)))); rintro e w7 ⟨v115, rfl, ho0, hb⟩; refine ⟨_, rfl, ?_⟩; have n0_ := Aside0.mk (Kd.N_lower (Kd.N_mono (ok' := fun k_ => True) ho0 (fun k_ hk_ => trivial)) (below_size (by repeat (first | (with_reducible first | exact HB.out | apply below_alloc | apply pw_below_drewN | apply below_drew1) | exact HB.out)))); have n1_ := Aside0.mk (below_step (by repeat (first | (with_reducible first | exact HB.out | apply below_alloc | apply pw_below_drewN | apply below_drew1) | exact HB.out)) hb); clear HB; have HO116 := n0_; have HB := n1_; clear n0_ n1_; (try clear hb); (try clear hb2); (try clear hk); (try clear hi); (try clear ho0)) | ((with_reducible refine gate_callee (f := 20) rfl ?_); refine goesL_ (some 5) rfl rfl Tryd.func20 (by kernel_rfl) rfl #[] rfl (by (try simp only [List.map_toArray, List.map_cons, List.map_nil]); first | done | rfl | (simp only [List.length_drop, List.length_take]; rfl)) ?_; (with_reducible refine (boltinglaw06_fixed.calls  true _ A3.out (Go.Proofs.YtdnbaliibiginaaDoor.Std.below HS_.out (by repeat (first | (with_reducible first | exact HB.out | apply below_alloc | apply pw_below_drewN | apply below_drew1) | exact HB.out)))).mono ?_); rintro e w8 ⟨rfl, hb⟩; refine ⟨_, rfl, ?_⟩; have n0_ := Aside0.mk (Kd.N_below (by (with_reducible repeat (first | apply Kd.N_alloc | apply Kd.N_drewN | apply Kd.N_drew)); exact HO116.out) hb); have n1_ := Aside0.mk (below_step (by repeat (first | (with_reducible first | exact HB.out | apply below_alloc | apply pw_below_drewN | apply below_drew1) | exact HB.out)) hb); clear HO116; clear HB; have HO116 := n0_; have HB := n1_; clear n0_ n1_; (try clear hb); (try clear hb2); (try clear hk); (try clear hi); obtain ⟨Ao9, co9, eo9⟩ := Kd.N_slice HO116.out; subst eo9) | (go_at_call 21; (with_reducible refine (token_Write.calls _ _ t114 t118 _ ?side1 ?side2 A5.out).mono ?_); (case side1 => repeat (first | exact (Kd.N_reads' HO116.out).2.2 | (with_reducible refine Kd.C_alloc ?_ _) | (with_reducible refine Kd.C_drewN ?_ _) | (with_reducible refine Kd.C_drew ?_))); (case side2 => exact (Kd.N_reads' HO116.out).2.1); rintro e w10 ⟨rfl, hb⟩; have n0_ := Aside0.mk (Kd.N_below (by (with_reducible repeat (first | apply Kd.N_alloc | apply Kd.N_drewN | apply Kd.N_drew)); exact HO116.out) hb); have n1_ := Aside0.mk (below_step (by repeat (first | (with_reducible first | exact HB.out | apply below_alloc | apply pw_below_drewN | apply below_drew1) | exact HB.out)) hb); clear HO116; clear HB; have HO116 := n0_; have HB := n1_; clear n0_ n1_; (try clear hb); (try clear hb2); (try clear hk); (try clear hi)) | (go_at_call 22; (with_reducible refine (boltingref06_Write.calls _ _ t114 t119 _ ?side1 ?side2 A6.out).mono ?_); (case side1 => repeat (first | exact (Kd.N_reads' HO116.out).2.2 | (with_reducible refine Kd.C_alloc ?_ _) | (with_reducible refine Kd.C_drewN ?_ _) | (with_reducible refine Kd.C_drew ?_))); (case side2 => exact (Kd.N_reads' HO116.out).2.1); rintro e w11 ⟨rfl, hb⟩; have n0_ := Aside0.mk (Kd.N_below (by (with_reducible repeat (first | apply Kd.N_alloc | apply Kd.N_drewN | apply Kd.N_drew)); exact HO116.out) hb); have n1_ := Aside0.mk (below_step (by repeat (first | (with_reducible first | exact HB.out | apply below_alloc | apply pw_below_drewN | apply below_drew1) | exact HB.out)) hb); clear HO116; clear HB; have HO116 := n0_; have HB := n1_; clear n0_ n1_; (try clear hb); (try clear hb2); (try clear hk); (try clear hi)))
    go_ret
    exact ⟨by first | rfl | (simp [errW_none, errW_some] <;> rfl) | (simp [*, errW_none, errW_some] <;> rfl), by repeat (first | (with_reducible first | exact HB.out | apply below_alloc | apply pw_below_drewN | apply below_drew1) | exact HB.out)⟩
  · replace c4 := Bool.eq_false_iff.mpr c4
    subst c4
    have H1 : (some false) = some r := by rw [if_neg (show ¬ (false = true) by decide)] at H; exact H
    clear H
    have H := H1
    clear H1
    obtain rfl := Option.some.inj H
    go_enter Tryd.func6, Tryd.ntmps6
    go_wp2_with (first | ((with_reducible refine gate_callee (f := 19) rfl ?_); refine goesL_ (some 4) rfl rfl Tryd.func19 (by kernel_rfl) rfl #[.slice A0 l0.length c0] rfl (by (try simp only [List.map_toArray, List.map_cons, List.map_nil]); first | done | rfl | (simp only [List.length_drop, List.length_take]; rfl)) ?_; (with_reducible refine (boltinglaw06_bound.calls k (fun k_ => k_ < w.heap.size) _ _ l0 t114 _ ?side1 A2.out).mono ?_); (case side1 => exact Kd.V_mk HC0.out (Kd.F_below (Kd.C_F k56_heap HR0.out) (by repeat (first | (with_reducible first | exact HB.out | apply below_alloc | apply pw_below_drewN | apply below_drew1) | exact HB.out)))); rintro e w12 ⟨v115, rfl, ho0, hb⟩; refine ⟨_, rfl, ?_⟩; have n0_ := Aside0.mk (Kd.N_lower (Kd.N_mono (ok' := fun k_ => True) ho0 (fun k_ hk_ => trivial)) (below_size (by repeat (first | (with_reducible first | exact HB.out | apply below_alloc | apply pw_below_drewN | apply below_drew1) | exact HB.out)))); have n1_ := Aside0.mk (below_step (by repeat (first | (with_reducible first | exact HB.out | apply below_alloc | apply pw_below_drewN | apply below_drew1) | exact HB.out)) hb); clear HB; have HO116 := n0_; have HB := n1_; clear n0_ n1_; (try clear hb); (try clear hb2); (try clear hk); (try clear hi); (try clear ho0)) | ((with_reducible refine gate_callee (f := 20) rfl ?_); refine goesL_ (some 5) rfl rfl Tryd.func20 (by kernel_rfl) rfl #[] rfl (by (try simp only [List.map_toArray, List.map_cons, List.map_nil]); first | done | rfl | (simp only [List.length_drop, List.length_take]; rfl)) ?_; (with_reducible refine (boltinglaw06_fixed.calls  false _ A3.out (Go.Proofs.YtdnbaliibiginaaDoor.Std.below HS_.out (by repeat (first | (with_reducible first | exact HB.out | apply below_alloc | apply pw_below_drewN | apply below_drew1) | exact HB.out)))).mono ?_); rintro e w13 ⟨rfl, hb⟩; refine ⟨_, rfl, ?_⟩; have n0_ := Aside0.mk (Kd.N_below (by (with_reducible repeat (first | apply Kd.N_alloc | apply Kd.N_drewN | apply Kd.N_drew)); exact HO116.out) hb); have n1_ := Aside0.mk (below_step (by repeat (first | (with_reducible first | exact HB.out | apply below_alloc | apply pw_below_drewN | apply below_drew1) | exact HB.out)) hb); clear HO116; clear HB; have HO116 := n0_; have HB := n1_; clear n0_ n1_; (try clear hb); (try clear hb2); (try clear hk); (try clear hi)))
    go_ret
    exact ⟨by first | rfl | (simp [errW_none, errW_some] <;> rfl) | (simp [*, errW_none, errW_some] <;> rfl), by repeat (first | (with_reducible first | exact HB.out | apply below_alloc | apply pw_below_drewN | apply below_drew1) | exact HB.out)⟩

end Go.Proofs.YtdnbaliibiginaaDoorH.TW

/- What came in, in the words of the printed walks: kind by kind, what a datum's cells say, how much it is at the least, and that its numbers fit. -/
namespace Go.Proofs.YtdnbaliibiginaaDoorH
open Go.RowKit Go.Proofs Go.Proofs.YtdnbaliibiginaaDoorW.PrintWords
open Go.ChangeShapes Go.WideShapes Go.ChangeAt
open Go.Proofs.YtdnbaliibiginaaDoor (Rows.uptoBulk Rows.uptoBulkAll)

theorem cells_at {w : World} {base n : Nat} {a : Addr} {cs : List Value} (h : w.cells? base a n = some cs) : cs.length = n ∧ ∀ j, j < n → w.cell? (a.add j) = cs[j]? := by
  unfold World.cells? at h
  split at h
  · have hl := mapM_some_length h
    refine ⟨by simpa using hl, fun j hj => ?_⟩
    have := mapM_some_get h j j (by simp [hj])
    exact this
  · cases h
theorem add_add (a : Addr) (n m : Nat) : (a.add n).add m = a.add (n + m) := by
  unfold Addr.add
  by_cases hm : m = 0
  · subst hm; simp
  · by_cases hn : n = 0
    · subst hn; simp
    · simp [hm, hn, Nat.add_assoc]
theorem list_of {α : Type} (P : Nat → α → Prop) : ∀ (n : Nat), (∀ i, i < n → ∃ x, P i x) → ∃ L : List α, L.length = n ∧ ∀ i (h : i < L.length), P i L[i]
  | 0, _ => ⟨[], rfl, fun i h => by simp at h⟩
  | n + 1, h => by
    obtain ⟨L, hl, hp⟩ := list_of P n (fun i hi => h i (by omega))
    obtain ⟨x, hx⟩ := h n (by omega)
    refine ⟨L ++ [x], by simp [hl], fun i hi => ?_⟩
    rcases Nat.lt_or_ge i L.length with e | e
    · rw [List.getElem_append_left e]
      exact hp i e
    · have e2 : i = L.length := by simp at hi; omega
      subst e2
      rw [List.getElem_append_right (by omega)]
      simp only [Nat.sub_self, List.getElem_cons_zero]
      rw [hl]
      exact hx

/-- A datum of type t, whatever it is, is one of kind d; it has this bulk at the least, and this holds of it. -/
def Opn {α : Type} (P : Program) (t : TypeId) (d : Kd α) (wt : α → Nat) (Wf : α → Prop) : Prop :=
  ∀ {H : Type} {enc : TypeId × Value → H} {w : World} {base : Nat} {spare : Nat → Bool} {held : Bool} {fuel : Nat} {cs : List Value} {x : DataW H × List MemPlace},
    DataW.trod enc P w base spare held fuel t cs = some x → ∃ a : α, d.K w a cs ∧ wt a ≤ Rows.uptoBulk x.1 ∧ Wf a
section
variable {P : Program} {t e : TypeId}
theorem opn_int {k : IntKind} (hu : P.underlying t = some (.int k)) : Opn P t (Kd.int k) (fun _ => 1) (fun n => (Lit.int k n).wf = true) := by
  intro H enc w base spare held fuel cs x h
  obtain ⟨n, rfl, rfl, hw⟩ := DataW.trod_int hu h
  exact ⟨n, rfl, by simp [Rows.uptoBulk], hw⟩
theorem opn_bool (hu : P.underlying t = some .bool) : Opn P t Kd.bool (fun _ => 1) (fun _ => True) := by
  intro H enc w base spare held fuel cs x h
  obtain ⟨b, rfl, rfl⟩ := DataW.trod_bool hu h
  exact ⟨b, rfl, by simp [Rows.uptoBulk], trivial⟩
theorem opn_string (hu : P.underlying t = some .string) : Opn P t Kd.string (fun s => s.size + 1) (fun s => s.size ≤ maxLen) := by
  intro H enc w base spare held fuel cs x h
  obtain ⟨s, rfl, rfl, hs⟩ := DataW.trod_string hu h
  refine ⟨s, rfl, ?_, hs⟩
  simp only [Rows.uptoBulk, Array.length_toList]
  exact Nat.le_refl _
theorem bulk_all {H : Type} {α : Type} (wt : α → Nat) : ∀ (l : List α) (es : List (DataW H × List MemPlace)), l.length = es.length → (∀ i (h : i < l.length) (h' : i < es.length), wt l[i] ≤ Rows.uptoBulk es[i].1) → (l.map wt).sum ≤ Rows.uptoBulkAll (es.map (·.1))
  | [], _, _, _ => by simp
  | _ :: _, [], h, _ => by simp at h
  | a :: l, y :: es, h, hp => by
    have h0 := hp 0 (by simp) (by simp)
    have ih := bulk_all wt l es (by simpa using h) (fun i h1 h2 => by
      have := hp (i + 1) (by simp; omega) (by simp; omega)
      simpa using this)
    simp only [List.map_cons, List.sum_cons, Rows.uptoBulkAll]
    simp only [List.getElem_cons_zero] at h0
    omega
theorem opn_slice {α : Type} {d : Kd α} {wt : α → Nat} {Wf : α → Prop} (hu : P.underlying t = some (.slice e)) (hsz : P.cellsOf e = d.sz) (ho : Opn P e d wt Wf) :
    Opn P t (Kd.slice e d) (fun l => (l.map wt).sum + 1) (fun l => ∀ x ∈ l, Wf x) := by
  intro H enc w base spare held fuel cs x h
  rcases DataW.trod_slice hu h with ⟨rfl, rfl⟩ | ⟨a, len, cap, elems, rest, n, _, rfl, rfl, hb, hle, hc, hlen, hel, _, _⟩
  · exact ⟨[], ⟨none, 0, rfl, Nat.le_refl _, ⟨rfl, by simp, fun h => by simp at h⟩⟩, by simp [Rows.uptoBulk], by simp⟩
  · obtain ⟨L, hL, hp⟩ := list_of (fun i (y : α) => ∃ c : List Value, c.length = d.sz ∧ d.K w y c ∧ (∀ j u, c[j]? = some u → w.cell? (a.add (i * d.sz + j)) = some u) ∧ (∀ (h' : i < elems.length), wt y ≤ Rows.uptoBulk elems[i].1) ∧ Wf y) len (by
      intro i hi
      have h1 := hel i hi
      have hi2 : i < elems.length := by omega
      rw [List.getElem?_eq_getElem hi2, Option.bind_eq_some_iff] at h1
      obtain ⟨c, h2, h3⟩ := h1
      obtain ⟨y, hK, hw, hf⟩ := ho h3
      obtain ⟨hcl, h6⟩ := cells_at h2
      rw [hsz] at h2 hcl h6
      refine ⟨y, c, hcl, hK, fun j u hj => ?_, fun _ => hw, hf⟩
      have hjl : j < c.length := by
        rcases Nat.lt_or_ge j c.length with h7 | h7
        · exact h7
        · rw [List.getElem?_eq_none h7] at hj; cases hj
      have := h6 j (by omega)
      rw [add_add] at this
      exact this.trans hj)
    refine ⟨L, ⟨some a, cap, by rw [hL], by rw [hL]; exact hle, ⟨rfl, ?_, fun _ => ⟨a, rfl, fun j p hj => ?_⟩⟩⟩, ?_, fun y hy => ?_⟩
    · unfold maxLen at hc; omega
    · obtain ⟨hj1, rfl⟩ := List.getElem?_eq_some_iff.1 hj
      obtain ⟨c, g1, g2, g3, _⟩ := hp j hj1
      exact ⟨c, g1, g2, g3⟩
    · have := bulk_all wt L elems (by omega) (fun i h1 h2 => by obtain ⟨_, _, _, _, g4, _⟩ := hp i h1; exact g4 h2)
      simp only [Rows.uptoBulk]
      omega
    · obtain ⟨i, hi, rfl⟩ := List.getElem_of_mem hy
      obtain ⟨_, _, _, _, _, g⟩ := hp i hi
      exact g
/-- Two parts of a struct's cells. -/
theorem pair_at {α β : Type} {d1 : Kd α} {d2 : Kd β} {w : World} {a : α} {b : β} {cs : List Value} {o s : Nat} (h1 : d1.K w a ((cs.drop o).take s)) (h2 : d2.K w b (cs.drop (o + s))) : (Kd.pair d1 d2).K w (a, b) (cs.drop o) :=
  ⟨(cs.drop o).take s, cs.drop (o + s), by rw [← List.drop_drop, List.take_append_drop], h1, h2⟩
theorem last_at {α : Type} {d : Kd α} {w : World} {a : α} {cs : List Value} {o s : Nat} (hl : cs.length = o + s) (h : d.K w a ((cs.drop o).take s)) : d.K w a (cs.drop o) := by
  rw [List.take_of_length_le (by simp; omega)] at h
  exact h
theorem ex_of {α : Type} {cs : List α} {n : Nat} (i : Nat) (h : cs.length = n) (hi : i < n) : ∃ a, cs[i]? = some a := ⟨cs[i], List.getElem?_eq_getElem (by omega)⟩
end
end Go.Proofs.YtdnbaliibiginaaDoorH

/- What came in, struct by struct: openings of the types that the statements take (printed by gen_kopn.py). -/
namespace Go.Proofs.YtdnbaliibiginaaDoorH.TW
open Go.RowKit Go.Proofs Go.Proofs.YtdnbaliibiginaaDoorH Go.Proofs.YtdnbaliibiginaaDoorW.PrintWords
open Go.Proofs.YtdnbaliibiginaaDoor (Rows.uptoBulk Rows.uptoBulkAll)
theorem opn9 : Opn Tryd.prog 9 Kd.string (fun s => s.size + 1) (fun s => s.size ≤ maxLen) := opn_string Tryd.underlying9
def wt45 (x : S45) : Nat := (fun s => s.size + 1) x.f0 + (fun s => s.size + 1) x.f1 + 1
def wf45 (x : S45) : Prop := (fun s => s.size ≤ maxLen) x.f0 ∧ (fun s => s.size ≤ maxLen) x.f1
theorem opn45 : Opn Tryd.prog 45 k45 wt45 wf45 := by
  intro H enc w base spare held fuel cs x h
  obtain ⟨xs, n, _, rfl, hl, hlen, hf⟩ := DataW.trod_struct Tryd.underlying45 h
  rw [show Tryd.prog.cellsOf 45 = 2 from by kernel_rfl] at hl
  replace hlen : xs.length = 2 := hlen
  obtain ⟨y0, hy0⟩ := ex_of 0 hlen (by omega)
  have g0 : DataW.trod enc Tryd.prog w base spare held n 9 ((cs.drop 0).take (Tryd.prog.cellsOf 9)) = some y0 := (hf 0 _ rfl).trans hy0
  rw [show Tryd.prog.cellsOf 9 = 1 from by kernel_rfl] at g0
  obtain ⟨a0, k0, b0, p0⟩ := opn9 g0
  obtain ⟨y1, hy1⟩ := ex_of 1 hlen (by omega)
  have g1 : DataW.trod enc Tryd.prog w base spare held n 9 ((cs.drop 1).take (Tryd.prog.cellsOf 9)) = some y1 := (hf 1 _ rfl).trans hy1
  rw [show Tryd.prog.cellsOf 9 = 1 from by kernel_rfl] at g1
  obtain ⟨a1, k1, b1, p1⟩ := opn9 g1
  obtain rfl : xs = [y0, y1] := by
    apply List.ext_getElem?
    intro i
    match i with
    | 0 => exact hy0
    | 1 => exact hy1
    | k + 2 => rw [List.getElem?_eq_none (by omega), List.getElem?_eq_none (by simp)]
  refine ⟨⟨a0, a1⟩, (pair_at (o := 0) (s := 1) k0 (last_at (o := 1) (s := 1) hl k1)), ?_, ⟨p0, p1⟩⟩
  simp only [wt45, List.map_cons, List.map_nil, Rows.uptoBulk, Rows.uptoBulkAll]
  simp only at b0 b1
  omega
theorem opn3 : Opn Tryd.prog 3 (Kd.int .i64) (fun _ => 1) (fun n => (Lit.int .i64 n).wf = true) := opn_int Tryd.underlying3
theorem opn33 : Opn Tryd.prog 33 (Kd.slice 45 k45) (fun l => (l.map wt45).sum + 1) (fun l => ∀ x ∈ l, wf45 x) := opn_slice Tryd.underlying33 (by kernel_rfl) opn45
theorem opn4 : Opn Tryd.prog 4 Kd.bool (fun _ => 1) (fun _ => True) := opn_bool Tryd.underlying4
def wt56 (x : S56) : Nat := (fun _ => 1) x.f0 + (fun s => s.size + 1) x.f1 + (fun s => s.size + 1) x.f2 + (fun l => (l.map wt45).sum + 1) x.f3 + (fun _ => 1) x.f4 + 1
def wf56 (x : S56) : Prop := (fun n => (Lit.int .i64 n).wf = true) x.f0 ∧ (fun s => s.size ≤ maxLen) x.f1 ∧ (fun s => s.size ≤ maxLen) x.f2 ∧ (fun l => ∀ x ∈ l, wf45 x) x.f3 ∧ (fun _ => True) x.f4
theorem opn56 : Opn Tryd.prog 56 k56 wt56 wf56 := by
  intro H enc w base spare held fuel cs x h
  obtain ⟨xs, n, _, rfl, hl, hlen, hf⟩ := DataW.trod_struct Tryd.underlying56 h
  rw [show Tryd.prog.cellsOf 56 = 5 from by kernel_rfl] at hl
  replace hlen : xs.length = 5 := hlen
  obtain ⟨y0, hy0⟩ := ex_of 0 hlen (by omega)
  have g0 : DataW.trod enc Tryd.prog w base spare held n 3 ((cs.drop 0).take (Tryd.prog.cellsOf 3)) = some y0 := (hf 0 _ rfl).trans hy0
  rw [show Tryd.prog.cellsOf 3 = 1 from by kernel_rfl] at g0
  obtain ⟨a0, k0, b0, p0⟩ := opn3 g0
  obtain ⟨y1, hy1⟩ := ex_of 1 hlen (by omega)
  have g1 : DataW.trod enc Tryd.prog w base spare held n 9 ((cs.drop 1).take (Tryd.prog.cellsOf 9)) = some y1 := (hf 1 _ rfl).trans hy1
  rw [show Tryd.prog.cellsOf 9 = 1 from by kernel_rfl] at g1
  obtain ⟨a1, k1, b1, p1⟩ := opn9 g1
  obtain ⟨y2, hy2⟩ := ex_of 2 hlen (by omega)
  have g2 : DataW.trod enc Tryd.prog w base spare held n 9 ((cs.drop 2).take (Tryd.prog.cellsOf 9)) = some y2 := (hf 2 _ rfl).trans hy2
  rw [show Tryd.prog.cellsOf 9 = 1 from by kernel_rfl] at g2
  obtain ⟨a2, k2, b2, p2⟩ := opn9 g2
  obtain ⟨y3, hy3⟩ := ex_of 3 hlen (by omega)
  have g3 : DataW.trod enc Tryd.prog w base spare held n 33 ((cs.drop 3).take (Tryd.prog.cellsOf 33)) = some y3 := (hf 3 _ rfl).trans hy3
  rw [show Tryd.prog.cellsOf 33 = 1 from by kernel_rfl] at g3
  obtain ⟨a3, k3, b3, p3⟩ := opn33 g3
  obtain ⟨y4, hy4⟩ := ex_of 4 hlen (by omega)
  have g4 : DataW.trod enc Tryd.prog w base spare held n 4 ((cs.drop 4).take (Tryd.prog.cellsOf 4)) = some y4 := (hf 4 _ rfl).trans hy4
  rw [show Tryd.prog.cellsOf 4 = 1 from by kernel_rfl] at g4
  obtain ⟨a4, k4, b4, p4⟩ := opn4 g4
  obtain rfl : xs = [y0, y1, y2, y3, y4] := by
    apply List.ext_getElem?
    intro i
    match i with
    | 0 => exact hy0
    | 1 => exact hy1
    | 2 => exact hy2
    | 3 => exact hy3
    | 4 => exact hy4
    | k + 5 => rw [List.getElem?_eq_none (by omega), List.getElem?_eq_none (by simp)]
  refine ⟨⟨a0, a1, a2, a3, a4⟩, (pair_at (o := 0) (s := 1) k0 (pair_at (o := 1) (s := 1) k1 (pair_at (o := 2) (s := 1) k2 (pair_at (o := 3) (s := 1) k3 (last_at (o := 4) (s := 1) hl k4))))), ?_, ⟨p0, p1, p2, p3, p4⟩⟩
  simp only [wt56, List.map_cons, List.map_nil, Rows.uptoBulk, Rows.uptoBulkAll]
  simp only at b0 b1 b2 b3 b4
  omega
theorem opn38 : Opn Tryd.prog 38 (Kd.slice 56 k56) (fun l => (l.map wt56).sum + 1) (fun l => ∀ x ∈ l, wf56 x) := opn_slice Tryd.underlying38 (by kernel_rfl) opn56
end Go.Proofs.YtdnbaliibiginaaDoorH.TW

/- TokenWrites, in numbers and lists alone: what is bounded is written alike by both. -/
namespace Go.Proofs.YtdnbaliibiginaaDoorH.TW
open Go.RowKit Go.Proofs Go.Proofs.YtdnbaliibiginaaDoorH Go.Proofs.YtdnbaliibiginaaDoor Go.Proofs.YtdnbaliibiginaaDoorW.PrintWords

def cutS (x : S56) : S56 := ⟨x.f0, x.f1, x.f2, x.f3.take ((mn (x.f3.length : Int) 6) : Int).toNat, x.f4⟩
theorem mn6 (n : Nat) : 0 ≤ mn (n : Int) 6 ∧ mn (n : Int) 6 ≤ n := by unfold mn; split <;> omega
theorem bound_l0 (l : List S56) (hl : l.length ≤ 1000000000) : ∀ (d i k : Nat) (acc : List S56), 30 - i ≤ d → acc.length = i → d < k →
    boltinglaw06_bound.l0 k l acc i = some (acc ++ ((l.drop i).take (30 - i)).map cutS) := by
  intro d
  induction d with
  | zero =>
    intro i k acc hd ha hk
    obtain ⟨k, rfl⟩ : ∃ m, k = m + 1 := ⟨k - 1, by omega⟩
    rw [show 30 - i = 0 from by omega]
    simp only [boltinglaw06_bound.l0]
    by_cases h1 : (i : Int) < (l.length : Int)
    · rw [if_pos h1, if_neg (by omega)]; simp
    · rw [if_neg h1]; simp
  | succ d ih =>
    intro i k acc hd ha hk
    obtain ⟨k, rfl⟩ : ∃ m, k = m + 1 := ⟨k - 1, by omega⟩
    by_cases h1 : (i : Int) < (l.length : Int)
    · by_cases h2 : (i : Int) < 30
      · have hi : i < l.length := by omega
        have er : rd_T56 l i = l[i] := by simp [rd_T56, hi]
        have hm := mn6 l[i].f3.length
        have hw : wrap64 ((i : Int) + 1) = ((i + 1 : Nat) : Int) := by unfold wrap64; omega
        have := ih (i + 1) k (acc ++ [cutS l[i]]) (by omega) (by simp [ha]) (by omega)
        simp only [boltinglaw06_bound.l0]
        rw [if_pos h1, if_pos h2, if_pos (by omega), er, if_pos hm.1, if_pos hm.2, if_pos (by omega), hw]
        refine this.trans ?_
        rw [List.append_assoc]
        congr 2
        rw [show 30 - i = (30 - (i + 1)) + 1 from by omega, List.drop_eq_getElem_cons hi, List.take_succ_cons]
        rfl
      · simp only [boltinglaw06_bound.l0]
        rw [if_pos h1, if_neg h2, show 30 - i = 0 from by omega]; simp
    · simp only [boltinglaw06_bound.l0]
      rw [if_neg h1, List.drop_of_length_le (by omega)]; simp
theorem bound_f (l : List S56) (hl : l.length ≤ 1000000000) : boltinglaw06_bound.f 100 l = some ((l.take 30).map cutS) := by
  have := bound_l0 l hl 30 0 100 [] (by omega) rfl (by omega)
  simpa [boltinglaw06_bound.f] using this

theorem attrs_wt : ∀ (l : List S45), (attrsW (l.map pairS)).length ≤ 6 * (l.map wt45).sum
  | [] => by simp [attrsW]
  | a :: l => by
    have ih := attrs_wt l
    have h1 := wr_len true a.f1.data.toList
    rw [List.map_cons, show attrsW (pairS a :: l.map pairS) = attrsW [pairS a] ++ attrsW (l.map pairS) from attrsW_app [pairS a] _]
    simp only [attrsW, pairS, List.flatMap_cons, List.flatMap_nil, List.append_nil, List.length_append, List.length_cons, List.length_nil, List.map_cons, List.sum_cons, wt45, Array.length_toList] at *
    have e0 : a.f0.data.size = a.f0.size := rfl
    have e1 : a.f1.data.size = a.f1.size := rfl
    omega
theorem tokW_up (raw : Bool) (t : Go.Proofs.YtdnbaliibiginaaDoor.Tok) : (tokW raw t).length ≤ t.name.length + 6 * t.data.length + (attrsW t.attrs).length + 20 := by
  have h2 := wr_len false t.data
  have e3 : ∀ b, (selfW b).length ≤ 2 := by intro b; cases b <;> simp [selfW]
  have h3 := e3 t.self
  have h4 := e3 false
  unfold tokW
  simp only [taggedW]
  split
  · split <;> omega
  · split
    · simp only [List.length_append, List.length_cons, List.length_nil]; omega
    · split
      · simp only [List.length_append, List.length_cons, List.length_nil, attrsW, List.flatMap_nil]; omega
      · split
        · simp only [List.length_append, List.length_cons, List.length_nil]; omega
        · split
          · simp only [List.length_append, List.length_cons, List.length_nil]; omega
          · simp
theorem tok_wt (raw : Bool) (x : S56) : (tokW raw (tokS x)).length ≤ 6 * wt56 x := by
  have h1 := attrs_wt x.f3
  have h := tokW_up raw (tokS x)
  have e0 : x.f1.data.size = x.f1.size := rfl
  have e1 : x.f2.data.size = x.f2.size := rfl
  have e2 : (x.f3.map (fun x => wt45 x)).sum = (x.f3.map wt45).sum := rfl
  generalize (tokW raw (tokS x)).length = n at *
  simp only [tokS, wt56, Array.length_toList] at *
  omega
theorem write_wt : ∀ (l : List S56) (raw : Bool), (writeN raw (l.map tokS)).length ≤ 6 * (l.map wt56).sum
  | [], _ => by simp [writeN]
  | x :: l, raw => by
    have ih := write_wt l (rawT (tokS x))
    have h := tok_wt raw x
    simp only [List.map_cons, writeN, List.length_append, List.sum_cons]
    omega
theorem sum_take {α : Type} (f : α → Nat) : ∀ (l : List α) (n : Nat), ((l.take n).map f).sum ≤ (l.map f).sum
  | [], n => by simp
  | a :: l, 0 => by simp
  | a :: l, n + 1 => by have := sum_take f l n; simp only [List.take_succ_cons, List.map_cons, List.sum_cons]; omega
theorem cut_wt (x : S56) : wt56 (cutS x) ≤ wt56 x := by
  have := sum_take wt45 x.f3 (mn (x.f3.length : Int) 6).toNat
  simp only [wt56, cutS]
  omega
theorem cuts_wt : ∀ (l : List S56), ((l.map cutS).map wt56).sum ≤ (l.map wt56).sum
  | [] => by simp
  | x :: l => by have := cuts_wt l; have := cut_wt x; simp only [List.map_cons, List.sum_cons]; omega
theorem len_wt : ∀ (l : List S56), l.length ≤ (l.map wt56).sum
  | [] => by simp
  | x :: l => by have := len_wt l; simp only [List.map_cons, List.sum_cons, List.length_cons, wt56]; omega

theorem tokenWrites (l : List S56) (h : (l.map wt56).sum ≤ 2000000) : boltinglaw06_TokenWrites.f 100 l = some true := by
  have hl := len_wt l
  have h1 := write_wt ((l.take 30).map cutS) false
  have h2 := cuts_wt (l.take 30)
  have h3 := sum_take wt56 l 30
  have h4 : (wrS ((l.take 30).map cutS)).length ≤ 1000000000 := by unfold wrS writeL; omega
  unfold boltinglaw06_TokenWrites.f
  rw [bound_f l (by omega)]
  simp only [Option.bind_some, boltinglaw06_fixed.f, if_true, token_Write.f, boltingref06_Write.f, if_pos h4]
  simp
end Go.Proofs.YtdnbaliibiginaaDoorH.TW

/- boltinglaw06.TokenWrites is true of any tokens of bulk at most 1048576: its walk (printed) over the plain law. -/
namespace Go.Proofs.YtdnbaliibiginaaDoor
open Go.RowKit Go.Proofs Go.Proofs.YtdnbaliibiginaaDoorH Go.Proofs.YtdnbaliibiginaaDoorH.TW Go.Proofs.YtdnbaliibiginaaDoorW.PrintWords

theorem tokenWrites_w (A : Option Addr) (c : Nat) (l : List S56) {W : World} (hr : k56.C W A l.length l) (hc : l.length ≤ c) (wf : ∀ x ∈ l, wf56 x) (hb : (l.map wt56).sum ≤ 1048576) (hS : Std W) :
    Calls Tryd.prog 6 #[.slice A l.length c] W fun e w' => e = .returned (.bool true) ∧ Below W.heap.size W w' :=
  boltinglaw06_TokenWrites.calls 100 A c l true W hr hc (tokenWrites l (by omega)) hS
end Go.Proofs.YtdnbaliibiginaaDoor

/- A world that fits the rows of layer 3: the settled one, the listed variables holding what the program's text lays; and what a row's premises give the walks. -/
namespace Go.Proofs.YtdnbaliibiginaaDoor
open Go.ChangeShapes Go.WideShapes Go.ChangeAt Go.RowKit

theorem own : ownKnob Tryd.prog.godebug = none := by kernel_rfl
theorem gER : Tryd.prog.globalNamed "strconv.ErrRange" = some 4 := by kernel_rfl
theorem gERType : (Tryd.prog.globals[4]?).map (·.type) = some 65 := by kernel_rfl
theorem cellsES : Tryd.prog.cellsOf 153 = 1 := by kernel_rfl
theorem cellsStr : Tryd.prog.cellsOf 9 = 1 := by kernel_rfl
theorem i64_bounds {n : Int} (h : (Lit.int .i64 n).wf = true) : -9223372036854775808 ≤ n ∧ n ≤ 9223372036854775807 := by
  have e1 : IntKind.i64.min = -9223372036854775808 := rfl
  have e2 : IntKind.i64.max = 9223372036854775807 := rfl
  simp [Lit.wf, e1, e2] at h
  omega
theorem starES : "*" ++ "errors.errorString" = "*errors.errorString" := by decide
theorem rowES (u : TypeId) (h : Tryd.prog.typeName? 3 u = some "*errors.errorString") : u = 151 :=
  typeName_ptr_named (nm := "errors.errorString") (by rw [starES]; kernel_rfl) (by kernel_rfl) (by decide) u (by rw [starES]; exact h)

/-- The cells of a listed table of numbers. -/
def litCell : DataW Unit → Value
  | .lit (.int k n) => .int k n
  | _ => .bool false
def dataCells : DataW Unit → Array Value
  | .agg l => (l.map litCell).toArray
  | _ => #[]
abbrev synS : ByteArray := { data := #[105, 110, 118, 97, 108, 105, 100, 32, 115, 121, 110, 116, 97, 120] }
abbrev rngS : ByteArray := { data := #[118, 97, 108, 117, 101, 32, 111, 117, 116, 32, 111, 102, 32, 114, 97, 110, 103, 101] }
noncomputable def low : Nat := (World.holding Tryd.prog default ⟨#[], #[], []⟩).heap.size
noncomputable def laidWorld (os : Os) : World :=
  let w0 := World.holding Tryd.prog os ⟨#[.cells #[.string synS] 153, .cells #[.string rngS] 153], #[], []⟩
  let put (h : Array Obj) (g : Nat) (cs : Array Value) : Array Obj := h.modify g fun
    | .cells _ t frozen => .cells cs t frozen
    | o => o
  let h1 := put w0.heap 6 (dataCells Rows.laid_math_bits_deBruijn32tab)
  let h2 := put h1 7 (dataCells Rows.laid_math_bits_deBruijn64tab)
  let h3 := put h2 5 (dataCells Rows.laid_internal_strconv_uint64pow10)
  let h4 := put h3 3 #[.iface 151 (.pointer (some ⟨low, 0, none⟩))]
  let h5 := put h4 4 #[.iface 151 (.pointer (some ⟨low + 1, 0, none⟩))]
  { w0 with heap := h5 }
/-- What the rows of this layer list. -/
def listed {H : Type} : List (String × DataW H) := [("math/bits.deBruijn32tab", Rows.laid_math_bits_deBruijn32tab), ("math/bits.deBruijn64tab", Rows.laid_math_bits_deBruijn64tab), ("internal/strconv.uint64pow10", Rows.laid_internal_strconv_uint64pow10), ("strconv.ErrRange", Rows.laid_strconv_ErrRange), ("strconv.ErrSyntax", Rows.laid_strconv_ErrSyntax)]
set_option maxRecDepth 100000 in
theorem laid_met (os : Os) (args : Array Value) : laidMet Tryd.prog listed ((laidWorld os).forCall (fun _ _ => 0) ⟨#[], args, []⟩).memory :=
  (LaidIn.of_run [6, 7, 5, 4, 3, low, low + 1] 8 (by kernel_rfl) (by kernel_rfl) (by kernel_rfl) (by kernel_rfl)).met
theorem std_of {W : World} (hL : laidMetH Tryd.prog listed W) (hsh : W.ShapedOpen Tryd.prog) : Std W := by
  have h0 : laidMet Tryd.prog listed W := hL
  have h3 := h0.tail.tail.tail
  obtain ⟨a1, s1, hv1, -, -, -⟩ := laid_sentinel h3 gER gERType Tryd.underlying65 rowES Tryd.underlying151 Tryd.underlying153 rfl rfl Tryd.underlying9 cellsES cellsStr
  exact ⟨Go.Proofs.cell_of_shapedOpen_int (zero := #[.int .i64 0]) (t := 3) hsh (of_decide_eq_true (by kernel_rfl)) (by kernel_rfl) rfl (by kernel_rfl) (by kernel_rfl) Tryd.underlying3, ⟨_, _, by have h0 := World.var?_cell gER hv1 0; simpa using h0⟩⟩
end Go.Proofs.YtdnbaliibiginaaDoor

/- boltinglaw06.TokenWrites returns true and leaves its arguments as they were, where what it reads is of bulk at most 1048576: the row and its card. Conditions: the row's own (that bulk; the form's reach; the listed variables as the program's text lays them). -/
namespace Go.Proofs.YtdnbaliibiginaaDoor.fnTokenWrites
open Go.ChangeShapes Go.WideShapes Go.ChangeAt Go.RowKit Go.Proofs.YtdnbaliibiginaaDoorH.TW
open Go.ChangeMaps (open_string shut_string)

theorem laidOut : laidOutB Tryd.prog = true := by kernel_rfl
set_option maxRecDepth 100000 in
theorem contract (H : Type) (enc : TypeId × Value → H) (W : World) (base : Nat) (args : Array Value) (ds gs : List (DataW H)) (before : List MemPlace)
    (hval : ∀ (j : Nat) t v, Tryd.f6.params[j]? = some t → args[j]? = some v → Value.okWide Tryd.prog W .any base t v)
    (hW : DataW.Whole enc Tryd.prog Tryd.f6.params.toList Rows.tokenWritesSpec.vars false W args.toList ds gs before)
    (hk : Rows.uptoSmall H (ds ++ gs) = true)
    (hS : Std W) :
    Calls Tryd.prog 6 args W fun e W' => ∃ v, e = .returned v ∧ Rows.tokenWritesSpec.post enc Tryd.prog Tryd.f6 false true false false W args v W' := by
  have hW' := hW
  obtain ⟨p, q, hA0, hV, rfl, hfz, hnd⟩ := hW
  have hA : DataW.TrodAll enc Tryd.prog W 0 (fun _ => true) true Tryd.f6.params.toList args.toList ds p := hA0
  rw [Tryd.params6] at hA hval
  obtain ⟨v0, vs0, d0, ds0, p0, q0, hargs, rfl, rfl, h0, r0⟩ := trodAll_cons hA
  obtain ⟨rfl, rfl, rfl⟩ := trodAll_nil r0
  obtain rfl : args = #[v0] := by cases args; simp_all
  obtain ⟨rfl, rfl⟩ := trodVars_none hV
  have hlt : ∀ x ∈ p0, x.block < W.heap.size := fun x hx => hW'.lt x (by simpa using hx)
  have hbulk := of_decide_eq_true hk
  simp only [List.append_nil, List.cons_append, List.nil_append, Rows.uptoBulkAll] at hbulk
  obtain ⟨fuel0, hf0⟩ := id h0
  obtain ⟨a0, n0, m0, rfl⟩ := okWide_slice Tryd.underlying38 (hval 0 38 v0 rfl rfl)
  obtain ⟨l0, ⟨A0, c0, e0, hc0, hr0⟩, b0, w0⟩ := opn38 hf0
  obtain ⟨rfl, rfl, rfl⟩ : a0 = A0 ∧ n0 = l0.length ∧ m0 = c0 := by
    simp only [Value.cells] at e0
    simpa using e0
  clear hA0
  simp only [List.append_nil] at hW'
  simp only at b0
  have walk := tokenWrites_w a0 m0 l0 hr0 hc0 w0 (by omega) hS
  refine walk.mono fun e W' ⟨he, hb⟩ => ?_
  subst he
  have e1 : Rows.tokenWritesSpec.fn H ([d0] ++ []) = { results := [.lit (.bool true)], args := [d0] } := rfl
  refine ⟨_, rfl, _, _, _, [], (p0 ++ []), [], hW', ?_, ?_, ?_, hb.frame _, fun h => by cases h⟩
  · rw [e1]; exact trodAll_cons_mk (shut_bool Tryd.underlying4 _) trodAll_mk0
  · rw [e1]; exact (trodAll_cons_mk (Below.trod laidOut (by kernel_rfl) (of_decide_eq_true (by kernel_rfl)) h0 hb (fun x hx => hlt x hx)) trodAll_mk0)
  · rw [e1]; rfl

theorem reads (os : Os) {H : Type} (enc : TypeId × Value → H) : ∃ places, DataW.whole enc Tryd.prog ((laidWorld os).forCall (fun _ _ => 0) ⟨#[], #[.slice none 0 0], []⟩).memory Tryd.f6.params.toList Rows.tokenWritesSpec.vars false #[Value.slice none 0 0].toList 8 = some ([.nil], [], places) :=
  ⟨[], by kernel_rfl⟩

set_option maxRecDepth 100000 in
theorem lifted (os : Os) (started : os.Started) (H : Type) (enc : TypeId × Value → H) (F : Stop.Interp) :
    ReturnsInHanded {} Tryd.checked os 6 .any ((Rows.OpenSpec.upto Rows.tokenWritesSpec).preRow enc Tryd.prog Tryd.f6 Rows.tokenWritesUptoRow.domain false Rows.tokenWritesUptoRow.laid) (((Rows.OpenSpec.upto Rows.tokenWritesSpec).at F).post enc Tryd.prog Tryd.f6 false true false false) := by
  obtain ⟨places, hx⟩ := reads os enc
  refine returnsInHanded_of_row (C := Tryd.checked) (s := Rows.OpenSpec.upto Rows.tokenWritesSpec) own started (by kernel_rfl) Tryd.func6
    (witness_row_atRef (enc := enc) (C := Tryd.checked) false (laidWorld os) #[.slice none 0 0] rfl (by kernel_rfl) (by kernel_rfl) (by kernel_rfl)
      (OpenSpec.preRow_of_cond 8 hx (by kernel_rfl) (fun k hk => by cases hk; kernel_rfl) (by kernel_rfl) (laid_met os #[.slice none 0 0]))) ?_
  intro W base args ds gs before hval hW _ hcond hsz hL hsh _
  exact contract H enc W base args ds gs before hval hW (hcond _ rfl) (std_of hL hsh)

theorem said : Rows.TokenWritesUptoSaid :=
  OpenClaim.holds_of_cond 6 Tryd.f6 rfl rfl rfl rfl rfl rfl rfl ⟨rfl, rfl, rfl, rfl, rfl⟩ rfl rfl rfl rfl rfl (by kernel_rfl) Tryd.func6 (by kernel_rfl)
    (of_decide_eq_true (by kernel_rfl)) (by unfold Func.isWrapper; rw [if_neg (of_decide_eq_false (by kernel_rfl))]; exact ⟨rfl, rfl⟩)
    (fun os started H enc _ F => by rw [OpenClaim.pre_eq_preRow]; exact lifted os started H enc F)

theorem plain (f : FuncId) (fn : Func) (hf : Tryd.pinned.checked.prog.funcNamed "bolting/boltinglaw06.TokenWrites" = some f) (hfn : Tryd.pinned.checked.prog.funcs[f]? = some fn) :
    true = Tryd.pinned.checked.prog.looks [] ∧ ∀ (j : Nat) t, fn.params[j]? = some t → Tryd.pinned.checked.prog.wantsStandIn t = false := by
  obtain rfl : f = 6 := Option.some.inj ((show Tryd.prog.funcNamed "bolting/boltinglaw06.TokenWrites" = some 6 by kernel_rfl).symm.trans hf) |>.symm
  obtain rfl : fn = Tryd.f6 := (Option.some.inj (Tryd.func6.symm.trans hfn)).symm
  refine ⟨by kernel_rfl, fun j t ht => ?_⟩
  rw [Tryd.params6] at ht
  have hm := Array.mem_of_getElem? ht
  simp only [List.mem_toArray, List.mem_cons, List.mem_nil_iff, or_false] at hm
  rcases hm with rfl
  · exact (show Tryd.prog.wantsStandIn 38 = false by kernel_rfl)

theorem tokenWrites_card : Rows.TokenWritesUptoCardSaid :=
  Claim7.holds_tied_plain_at .later [] _ _ _ _ said (fun _ h => by cases h) (by kernel_rfl) (fun _ h => by cases h) tokenWritesUpto_row_tie rfl ⟨rfl, rfl⟩ (by kernel_rfl) rfl plain (by kernel_rfl)
end Go.Proofs.YtdnbaliibiginaaDoor.fnTokenWrites
namespace Go.Proofs.YtdnbaliibiginaaDoor
theorem tokenWrites_holds : Rows.TokenWritesUptoCardSaid := fnTokenWrites.tokenWrites_card
end Go.Proofs.YtdnbaliibiginaaDoor
