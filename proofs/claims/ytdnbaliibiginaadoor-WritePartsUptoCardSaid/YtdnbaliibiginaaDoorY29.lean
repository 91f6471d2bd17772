/- Lemmas and walks, part 29: QE8Q, QPW8x21, QPW8x22. -/
import Derived.Test.YtdnbaliibiginaaDoorY28
import Derived.Lib.OthersKept
import Derived.Test.YtdnbaliibiginaaDoorY4
import Derived.Test.YtdnbaliibiginaaDoorY23
set_option linter.unusedVariables false
set_option linter.unusedSimpArgs false

/- strings.ContainsAny of the two bytes 0 and 13, at every text, given to the printed walk. -/
namespace Go.Proofs.YtdnbaliibiginaaDoorH.W8
open Go.RowKit Go.Proofs Go.Proofs.YtdnbaliibiginaaDoor
theorem get_at (s : ByteArray) (i : Nat) (hi : i < s.size) : s.get! i = s[i]'hi := by
 obtain ⟨d⟩ := s
 show d[i]! = d[i]
 exact getElem!_pos d i hi
theorem get_data (s : ByteArray) (i : Nat) (hi : i < s.size) : s.data.toList[i]? = some (s.get! i) := by
 have := Lib.data_getElem? s i hi
 rw [this]
 congr 1
 exact (get_at s i hi).symm
theorem noAny_bytes {l : List UInt8} {i k : Nat} (h : Lib.NoAny l nulcr.data.toList i) (hk : ∀ j b, i ≤ j → j < i + k → l[j]? = some b → 128 ≤ b.toNat) : Lib.NoAny l nulcr.data.toList (i + k) := by
 intro j b hj hb
 by_cases hji : j < i
 ·exact h j b hji hb
 ·have h1 := hk j b (by omega) hj hb
  have : nulcr.data.toList = [0, 13] := rfl
  rw [this]
  simp only [List.contains_cons, List.contains_nil, Bool.or_false, Bool.or_eq_false_iff, beq_eq_false_iff_ne]
  refine ⟨?_, ?_⟩ <;> · rintro rfl; revert h1; decide
theorem below_iterAt {B : Nat} {w0 W : World} (h : Below B w0 W) {k : Nat} (hk : B ≤ k) (s : ByteArray) (p : Nat) : Below B w0 (W.iterAt k s p) :=
 ⟨h.os, h.tape, h.output, by simp only [World.iterAt, Array.size_setIfInBounds]; exact h.size, fun j hj => by
  simp only [World.iterAt]
  rw [Array.getElem?_setIfInBounds_ne (by omega)]
  exact h.block j hj⟩
set_option maxHeartbeats 4000000 in
set_option maxRecDepth 100000 in
theorem idxAny_short (s : ByteArray) (w : World) (h8 : s.size ≤ 8) :
  Calls Tryd.prog 81 #[.string s, .string nulcr] w fun e w' => e = .returned (.int .i64 (Lib.indexAny s.data.toList nulcr.data.toList)) ∧ Below w.heap.size w w' := by
 have hemp : nulcr.toList.isEmpty = false := by rw [Lib.toList_data]; rfl
 have hn1 : ((nulcr.size : Int) == 1) = false := by decide
 have h8z : decide ((8 : Int) < (s.size : Int)) = false := decide_eq_false (by omega)
 go_enter Tryd.func81, Tryd.ntmps81
 go_wp2_with (go_at_call 105; ((with_reducible refine (Tryd.strings_shouldUseASCIISet _ _).mono ?_); rintro e w3 ⟨rfl, hw⟩; rw [h8z, hw]))
 go_loopg [9, 10] s.size (fun g _ _ wx => ∃ i : Nat, i ≤ s.size ∧ s.size ≤ i + g ∧ wx.heap[w.heap.size]? = some (.stringIter s i) ∧ Below w.heap.size w wx ∧ Hid (Lib.NoAny s.data.toList nulcr.data.toList i))
 case atStart => exact ⟨0, Nat.zero_le _, by omega, World.iter_heap _ _ _, (Below.refl _ w).alloc (Nat.le_refl _) _, Lib.NoAny.zero _ _⟩
 case round =>
  obtain ⟨i, hi, hig, hit, hB, hno⟩ := hrel
  by_cases hlt : i < s.size
  ·obtain ⟨g, rfl⟩ : ∃ g, gk = g + 1 := ⟨gk - 1, by omega⟩
   have hnx := fun ty => Lib.run_next_any_at (P := Tryd.prog) wr w.heap.size s i ty hit hlt
   have hit2 := Lib.iterAt_heap wr w.heap.size s i (i + (Utf8.decode s i).2) hit
   have hB2 := below_iterAt hB (Nat.le_refl _) s (i + (Utf8.decode s i).2)
   have hgd := get_data s i hlt
   rcases decode_key s i hlt with ⟨hx, hd⟩ | ⟨hx, hc, hv, hw1, hw2, hby⟩
   ·rw [hd] at hnx hit2 hB2
    have hcon := Lib.contains_iff_indexByte nulcr.data.toList (s.get! i)
    have hback : (((s.get! i).toNat : Int)).toNat.toUInt8 = s.get! i := by simp
    cases hin : nulcr.data.toList.contains (s.get! i)
    ·rw [hin] at hcon
     have hng : ¬ ((0 : Int) ≤ Lib.indexByte nulcr.data.toList (s.get! i)) := of_decide_eq_false hcon.symm
     have hno2 := Lib.hid (hno.out.succ hgd hin)
     clear hcon hno hd hgd
     generalize s.get! i = x at *
     go_wp2_with (go_at_call 104; ((with_reducible refine (Tryd.strings_IndexRune_ascii _ _ _ (by omega) (by omega)).mono ?_); rintro e w4 ⟨rfl, hw4⟩; rw [hw4, hback]))
     go_roundg g
     case measure => omega
     case rel => exact ⟨i + 1, by omega, by omega, hit2, hB2, hno2⟩
    ·rw [hin] at hcon
     have hge : (0 : Int) ≤ Lib.indexByte nulcr.data.toList (s.get! i) := of_decide_eq_true hcon.symm
     have hres := Lib.hid (Lib.indexAny_hit hno.out hgd hin)
     clear hcon hno hd hgd
     generalize s.get! i = x at *
     go_wp2_with (go_at_call 104; ((with_reducible refine (Tryd.strings_IndexRune_ascii _ _ _ (by omega) (by omega)).mono ?_); rintro e w4 ⟨rfl, hw4⟩; rw [hw4, hback]))
     go_ret
     exact ⟨by rw [hres.out]; rfl, hB2⟩
   ·have hno2 := Lib.hid (noAny_bytes (k := (Utf8.decode s i).2) hno.out (fun j b h1 h2 h3 => by
     have h4 := hby (j - i) (by omega)
     rw [show i + (j - i) = j from by omega] at h4
     have h5 := get_data s j (by omega)
     rw [h3] at h5
     rw [Option.some.inj h5]
     exact h4))
    have hid := Lib.hid (fun W => idxRune_hi (Utf8.decode s i).1 hc hv W)
    clear hno hgd hby hv hx
    generalize (Utf8.decode s i).1 = c at *
    generalize (Utf8.decode s i).2 = q at *
    go_wp2_with (go_at_call 104; ((with_reducible refine (hid.out _).mono ?_); rintro e w4 ⟨rfl, hb4⟩; have hB3 := below_then hB2 hB2.size hb4; have hit3 := (hb4.block _ (Array.getElem?_eq_some_iff.1 hit2).1).trans hit2))
    go_roundg g
    case measure => omega
    case rel => exact ⟨i + q, by omega, by omega, hit3, hB3, hno2⟩
  ·obtain rfl : i = s.size := by omega
   have hnx := fun ty => Lib.run_next_end_at (P := Tryd.prog) wr w.heap.size s s.size ty hit hlt
   go_wp2
   go_ret
   exact ⟨by rw [Lib.indexAny_none (by rw [← Lib.size_eq]; exact hno.out)]; rfl, hB⟩
theorem set_zero : ∀ w, (zeroValue 107).run Tryd.prog w = .ok (.agg (Array.replicate 256 (.bool false))) w := (zero_of_info (n := 256) (by kernel_rfl)).1
theorem idxAny_c (s : ByteArray) (w : World) (hs : s.size < 4294967281) :
  Calls Tryd.prog 81 #[.string s, .string nulcr] w fun e w' => e = .returned (.int .i64 (Lib.indexAny s.data.toList nulcr.data.toList)) ∧ Below w.heap.size w w' := by
 by_cases h8 : s.size ≤ 8
 ·exact idxAny_short s w h8
 ·refine (Tryd.strings_IndexAny_long set_zero s nulcr w (show 2 ≤ 2 by omega) (by omega) hs (show 2 < 4294967281 by omega) (fun j b hb => ?_)).mono ?_
  ·have : nulcr.data.toList = [0, 13] := rfl
   rw [this] at hb
   match j, hb with
   | 0, hb => cases hb; decide
   | 1, hb => cases hb; decide
  ·rintro e w' ⟨rfl, rfl⟩
   exact ⟨rfl, ((Below.refl _ w).alloc (Nat.le_refl _) _).alloc (by rw [World.size_alloc]; omega) _⟩
def strings_ContainsAny.f (a0 a1 : ByteArray) : Option Bool := if a1 = nulcr ∧ a0.size < 4294967281 then some (Lib.containsAny a0.data.toList nulcr.data.toList) else none
set_option maxHeartbeats 1000000 in
theorem strings_ContainsAny.calls (a0 a1 : ByteArray) (r : Bool) (w : World) (h : strings_ContainsAny.f a0 a1 = some r) (hS_ : Std8 w) :
  Calls Tryd.prog 60 #[.string a0, .string a1] w fun e w' => e = .returned (.bool r) ∧ Below w.heap.size w w' := by
 unfold strings_ContainsAny.f at h
 split at h
 ·rename_i hz
  obtain ⟨rfl, hz⟩ := hz
  have hr := Option.some.inj h
  clear h
  have hi := Lib.hid (idxAny_c a0 w hz)
  unfold Lib.containsAny at hr
  generalize Lib.indexAny a0.data.toList nulcr.data.toList = n at *
  subst hr
  go_enter Tryd.func60, Tryd.ntmps60
  go_wp2_with (go_at_call 81; ((with_reducible refine hi.out.mono ?_); rintro e w1 ⟨rfl, hb⟩))
  go_ret
  exact ⟨rfl, hb⟩
 ·cases h
end Go.Proofs.YtdnbaliibiginaaDoorH.W8

/- Words and walks used below. -/
namespace Go.Proofs.YtdnbaliibiginaaDoorH.W8
open Go.RowKit Go.Proofs.YtdnbaliibiginaaDoorW.PrintWords Go.Proofs.YtdnbaliibiginaaDoorW.PrintLast Go.Proofs.YtdnbaliibiginaaDoorW.PrintMore
attribute [local go_sem] max2_int min2_int max_two min_two max_three min_three max_four min_four   -- for this text's walks alone
def write_clean.f (a0 : ByteArray) : Option (Bool) := (chars_Right.f a0).bind fun t167 => (if t167 = true then ((strings_ContainsAny.f a0 (⟨#[0, 13]⟩ : ByteArray)).bind fun t168 => (some (!t168))) else (some false))
set_option maxHeartbeats 8000000 in
set_option maxRecDepth 100000 in
theorem write_clean.calls (a0 : ByteArray) (r : Bool) (w : World) (h : write_clean.f a0 = some r) (hS_ : Go.Proofs.YtdnbaliibiginaaDoor.Std8 w) :
  Calls Tryd.prog 35 #[.string a0] w fun e w' => e = .returned (.bool r) ∧ Below w.heap.size w w' := by
 have HS_ := Aside0.mk hS_
 clear hS_
 have HB := Aside0.mk (Below.refl w.heap.size w)
 have H : ((chars_Right.f a0).bind fun t167 => (if t167 = true then ((strings_ContainsAny.f a0 (⟨#[0, 13]⟩ : ByteArray)).bind fun t168 => (some (!t168))) else (some false))) = some r := h
 clear h
 replace H := Option.bind_eq_some_iff.mp H
 obtain ⟨t167, A20, H⟩ := H
 replace H : (if t167 = true then ((strings_ContainsAny.f a0 (⟨#[0, 13]⟩ : ByteArray)).bind fun t168 => (some (!t168))) else (some false)) = some r := H
 have A2 := Aside0.mk A20
 clear A20
 by_cases c3 : t167 = true
 ·subst c3
  have H1 : ((strings_ContainsAny.f a0 (⟨#[0, 13]⟩ : ByteArray)).bind fun t168 => (some (!t168))) = some r := by rw [if_pos rfl] at H; exact H
  clear H
  have H := H1
  clear H1
  replace H := Option.bind_eq_some_iff.mp H
  obtain ⟨t168, A40, H⟩ := H
  replace H : (some (!t168)) = some r := H
  have A4 := Aside0.mk A40
  clear A40
  obtain rfl := Option.some.inj H
  go_enter Tryd.func35, Tryd.ntmps35
  go_wp2_with (first | ((with_reducible refine gate_callee (f := 59) rfl ?_); refine goesL_ (some 4) rfl rfl Tryd.func59 (by kernel_rfl) rfl #[.string a0] rfl (by (try simp only [List.map_toArray, List.map_cons, List.map_nil]); first | done | rfl | (simp only [List.length_drop, List.length_take]; rfl)) ?_; (with_reducible refine (chars_Right.calls a0 true _ A2.out (Go.Proofs.YtdnbaliibiginaaDoor.Std8.below HS_.out bz)).mono ?_); rintro e w5 ⟨rfl, hb⟩; refine ⟨_, rfl, ?_⟩; have n0_ := Aside0.mk (below_step bz hb); clear HB; have HB := n0_; clear n0_; (try clear hb); (try clear hb2); (try clear hk); (try clear hi)) | (go_at_call 60; (with_reducible refine (strings_ContainsAny.calls a0 (⟨#[0, 13]⟩ : ByteArray) t168 _ A4.out (Go.Proofs.YtdnbaliibiginaaDoor.Std8.below HS_.out bz)).mono ?_); rintro e w6 ⟨rfl, hb⟩; have n0_ := Aside0.mk (below_step bz hb); clear HB; have HB := n0_; clear n0_; (try clear hb); (try clear hb2); (try clear hk); (try clear hi)))
  go_ret
  exact ⟨by first | rfl | (simp [errW_none, errW_some] <;> rfl) | (simp [*, errW_none, errW_some] <;> rfl), bz⟩
 ·replace c3 := Bool.eq_false_iff.mpr c3
  subst c3
  have H1 : (some false) = some r := by rw [if_neg (show ¬ (false = true) by decide)] at H; first | exact H | (simp only [eq_self] at H ⊢; exact H) | (simp only [eq_self, if_true] at H ⊢; exact H)
  clear H
  have H := H1
  clear H1
  obtain rfl := Option.some.inj H
  go_enter Tryd.func35, Tryd.ntmps35
  go_wp2_with (first | ((with_reducible refine gate_callee (f := 59) rfl ?_); refine goesL_ (some 4) rfl rfl Tryd.func59 (by kernel_rfl) rfl #[.string a0] rfl (by (try simp only [List.map_toArray, List.map_cons, List.map_nil]); first | done | rfl | (simp only [List.length_drop, List.length_take]; rfl)) ?_; (with_reducible refine (chars_Right.calls a0 false _ A2.out (Go.Proofs.YtdnbaliibiginaaDoor.Std8.below HS_.out bz)).mono ?_); rintro e w7 ⟨rfl, hb⟩; refine ⟨_, rfl, ?_⟩; have n0_ := Aside0.mk (below_step bz hb); clear HB; have HB := n0_; clear n0_; (try clear hb); (try clear hb2); (try clear hk); (try clear hi)))
  go_ret
  exact ⟨by first | rfl | (simp [errW_none, errW_some] <;> rfl) | (simp [*, errW_none, errW_some] <;> rfl), bz⟩
end Go.Proofs.YtdnbaliibiginaaDoorH.W8

/- Words and walks used below. -/
namespace Go.Proofs.YtdnbaliibiginaaDoorH.W8
open Go.RowKit Go.Proofs.YtdnbaliibiginaaDoorW.PrintWords Go.Proofs.YtdnbaliibiginaaDoorW.PrintLast Go.Proofs.YtdnbaliibiginaaDoorW.PrintMore
attribute [local go_sem] max2_int min2_int max_two min_two max_three min_three max_four min_four   -- for this text's walks alone
def write_comment.f (a0 : ByteArray) : Option (Bool) := (write_clean.f a0).bind fun t169 => (if t169 = true then ((strings_Contains.f a0 (⟨#[45, 45, 62]⟩ : ByteArray)).bind fun t170 => (if t170 = true then (some false) else ((strings_Contains.f a0 (⟨#[45, 45, 33, 62]⟩ : ByteArray)).bind fun t171 => (if t171 = true then (some false) else ((strings_HasPrefix.f a0 (⟨#[62]⟩ : ByteArray)).bind fun t172 => (if t172 = true then (some false) else ((strings_HasPrefix.f a0 (⟨#[45, 62]⟩ : ByteArray)).bind fun t173 => (some (!t173))))))))) else (some false))
set_option maxHeartbeats 8000000 in
set_option maxRecDepth 100000 in
theorem write_comment.calls (a0 : ByteArray) (r : Bool) (w : World) (h : write_comment.f a0 = some r) (hS_ : Go.Proofs.YtdnbaliibiginaaDoor.Std8 w) :
  Calls Tryd.prog 36 #[.string a0] w fun e w' => e = .returned (.bool r) ∧ Below w.heap.size w w' := by
 have HS_ := Aside0.mk hS_
 clear hS_
 have HB := Aside0.mk (Below.refl w.heap.size w)
 have H : ((write_clean.f a0).bind fun t169 => (if t169 = true then ((strings_Contains.f a0 (⟨#[45, 45, 62]⟩ : ByteArray)).bind fun t170 => (if t170 = true then (some false) else ((strings_Contains.f a0 (⟨#[45, 45, 33, 62]⟩ : ByteArray)).bind fun t171 => (if t171 = true then (some false) else ((strings_HasPrefix.f a0 (⟨#[62]⟩ : ByteArray)).bind fun t172 => (if t172 = true then (some false) else ((strings_HasPrefix.f a0 (⟨#[45, 62]⟩ : ByteArray)).bind fun t173 => (some (!t173))))))))) else (some false))) = some r := h
 clear h
 replace H := Option.bind_eq_some_iff.mp H
 obtain ⟨t169, A20, H⟩ := H
 replace H : (if t169 = true then ((strings_Contains.f a0 (⟨#[45, 45, 62]⟩ : ByteArray)).bind fun t170 => (if t170 = true then (some false) else ((strings_Contains.f a0 (⟨#[45, 45, 33, 62]⟩ : ByteArray)).bind fun t171 => (if t171 = true then (some false) else ((strings_HasPrefix.f a0 (⟨#[62]⟩ : ByteArray)).bind fun t172 => (if t172 = true then (some false) else ((strings_HasPrefix.f a0 (⟨#[45, 62]⟩ : ByteArray)).bind fun t173 => (some (!t173))))))))) else (some false)) = some r := H
 have A2 := Aside0.mk A20
 clear A20
 by_cases c3 : t169 = true
 ·subst c3
  have H1 : ((strings_Contains.f a0 (⟨#[45, 45, 62]⟩ : ByteArray)).bind fun t170 => (if t170 = true then (some false) else ((strings_Contains.f a0 (⟨#[45, 45, 33, 62]⟩ : ByteArray)).bind fun t171 => (if t171 = true then (some false) else ((strings_HasPrefix.f a0 (⟨#[62]⟩ : ByteArray)).bind fun t172 => (if t172 = true then (some false) else ((strings_HasPrefix.f a0 (⟨#[45, 62]⟩ : ByteArray)).bind fun t173 => (some (!t173))))))))) = some r := by rw [if_pos rfl] at H; exact H
  clear H
  have H := H1
  clear H1
  replace H := Option.bind_eq_some_iff.mp H
  obtain ⟨t170, A40, H⟩ := H
  replace H : (if t170 = true then (some false) else ((strings_Contains.f a0 (⟨#[45, 45, 33, 62]⟩ : ByteArray)).bind fun t171 => (if t171 = true then (some false) else ((strings_HasPrefix.f a0 (⟨#[62]⟩ : ByteArray)).bind fun t172 => (if t172 = true then (some false) else ((strings_HasPrefix.f a0 (⟨#[45, 62]⟩ : ByteArray)).bind fun t173 => (some (!t173)))))))) = some r := H
  have A4 := Aside0.mk A40
  clear A40
  by_cases c5 : t170 = true
  ·subst c5
   have H1 : (some false) = some r := by rw [if_pos rfl] at H; exact H
   clear H
   have H := H1
   clear H1
   obtain rfl := Option.some.inj H
   go_enter Tryd.func36, Tryd.ntmps36
   go_wp2_with (first | ((with_reducible refine gate_callee (f := 35) rfl ?_); refine goesL_ (some 4) rfl rfl Tryd.func35 (by kernel_rfl) rfl #[.string a0] rfl (by (try simp only [List.map_toArray, List.map_cons, List.map_nil]); first | done | rfl | (simp only [List.length_drop, List.length_take]; rfl)) ?_; (with_reducible refine (write_clean.calls a0 true _ A2.out (Go.Proofs.YtdnbaliibiginaaDoor.Std8.below HS_.out bz)).mono ?_); rintro e w6 ⟨rfl, hb⟩; refine ⟨_, rfl, ?_⟩; have n0_ := Aside0.mk (below_step bz hb); clear HB; have HB := n0_; clear n0_; (try clear hb); (try clear hb2); (try clear hk); (try clear hi)) | (go_at_call 61; (with_reducible refine (strings_Contains.calls a0 (⟨#[45, 45, 62]⟩ : ByteArray) true _ A4.out (Go.Proofs.YtdnbaliibiginaaDoor.Std8.below HS_.out bz)).mono ?_); rintro e w7 ⟨rfl, hb⟩; have n0_ := Aside0.mk (below_step bz hb); clear HB; have HB := n0_; clear n0_; (try clear hb); (try clear hb2); (try clear hk); (try clear hi)))
   go_ret
   exact ⟨by first | rfl | (simp [errW_none, errW_some] <;> rfl) | (simp [*, errW_none, errW_some] <;> rfl), bz⟩
  ·replace c5 := Bool.eq_false_iff.mpr c5
   subst c5
   have H1 : ((strings_Contains.f a0 (⟨#[45, 45, 33, 62]⟩ : ByteArray)).bind fun t171 => (if t171 = true then (some false) else ((strings_HasPrefix.f a0 (⟨#[62]⟩ : ByteArray)).bind fun t172 => (if t172 = true then (some false) else ((strings_HasPrefix.f a0 (⟨#[45, 62]⟩ : ByteArray)).bind fun t173 => (some (!t173))))))) = some r := by rw [if_neg (show ¬ (false = true) by decide)] at H; first | exact H | (simp only [eq_self] at H ⊢; exact H) | (simp only [eq_self, if_true] at H ⊢; exact H)
   clear H
   have H := H1
   clear H1
   replace H := Option.bind_eq_some_iff.mp H
   obtain ⟨t171, A80, H⟩ := H
   replace H : (if t171 = true then (some false) else ((strings_HasPrefix.f a0 (⟨#[62]⟩ : ByteArray)).bind fun t172 => (if t172 = true then (some false) else ((strings_HasPrefix.f a0 (⟨#[45, 62]⟩ : ByteArray)).bind fun t173 => (some (!t173)))))) = some r := H
   have A8 := Aside0.mk A80
   clear A80
   by_cases c9 : t171 = true
   ·subst c9
    have H1 : (some false) = some r := by rw [if_pos rfl] at H; exact H
    clear H
    have H := H1
    clear H1
    obtain rfl := Option.some.inj H
    go_enter Tryd.func36, Tryd.ntmps36
    go_wp2_with (first | ((with_reducible refine gate_callee (f := 35) rfl ?_); refine goesL_ (some 4) rfl rfl Tryd.func35 (by kernel_rfl) rfl #[.string a0] rfl (by (try simp only [List.map_toArray, List.map_cons, List.map_nil]); first | done | rfl | (simp only [List.length_drop, List.length_take]; rfl)) ?_; (with_reducible refine (write_clean.calls a0 true _ A2.out (Go.Proofs.YtdnbaliibiginaaDoor.Std8.below HS_.out bz)).mono ?_); rintro e w10 ⟨rfl, hb⟩; refine ⟨_, rfl, ?_⟩; have n0_ := Aside0.mk (below_step bz hb); clear HB; have HB := n0_; clear n0_; (try clear hb); (try clear hb2); (try clear hk); (try clear hi)) | (go_at_call 61; (with_reducible refine (strings_Contains.calls a0 (⟨#[45, 45, 62]⟩ : ByteArray) false _ A4.out (Go.Proofs.YtdnbaliibiginaaDoor.Std8.below HS_.out bz)).mono ?_); rintro e w11 ⟨rfl, hb⟩; have n0_ := Aside0.mk (below_step bz hb); clear HB; have HB := n0_; clear n0_; (try clear hb); (try clear hb2); (try clear hk); (try clear hi)) | (go_at_call 61; (with_reducible refine (strings_Contains.calls a0 (⟨#[45, 45, 33, 62]⟩ : ByteArray) true _ A8.out (Go.Proofs.YtdnbaliibiginaaDoor.Std8.below HS_.out bz)).mono ?_); rintro e w12 ⟨rfl, hb⟩; have n0_ := Aside0.mk (below_step bz hb); clear HB; have HB := n0_; clear n0_; (try clear hb); (try clear hb2); (try clear hk); (try clear hi)))
    go_ret
    exact ⟨by first | rfl | (simp [errW_none, errW_some] <;> rfl) | (simp [*, errW_none, errW_some] <;> rfl), bz⟩
   ·replace c9 := Bool.eq_false_iff.mpr c9
    subst c9
    have H1 : ((strings_HasPrefix.f a0 (⟨#[62]⟩ : ByteArray)).bind fun t172 => (if t172 = true then (some false) else ((strings_HasPrefix.f a0 (⟨#[45, 62]⟩ : ByteArray)).bind fun t173 => (some (!t173))))) = some r := by rw [if_neg (show ¬ (false = true) by decide)] at H; first | exact H | (simp only [eq_self] at H ⊢; exact H) | (simp only [eq_self, if_true] at H ⊢; exact H)
    clear H
    have H := H1
    clear H1
    replace H := Option.bind_eq_some_iff.mp H
    obtain ⟨t172, A130, H⟩ := H
    replace H : (if t172 = true then (some false) else ((strings_HasPrefix.f a0 (⟨#[45, 62]⟩ : ByteArray)).bind fun t173 => (some (!t173)))) = some r := H
    have A13 := Aside0.mk A130
    clear A130
    by_cases c14 : t172 = true
    ·subst c14
     have H1 : (some false) = some r := by rw [if_pos rfl] at H; exact H
     clear H
     have H := H1
     clear H1
     obtain rfl := Option.some.inj H
     go_enter Tryd.func36, Tryd.ntmps36
     go_wp2_with (first | ((with_reducible refine gate_callee (f := 35) rfl ?_); refine goesL_ (some 4) rfl rfl Tryd.func35 (by kernel_rfl) rfl #[.string a0] rfl (by (try simp only [List.map_toArray, List.map_cons, List.map_nil]); first | done | rfl | (simp only [List.length_drop, List.length_take]; rfl)) ?_; (with_reducible refine (write_clean.calls a0 true _ A2.out (Go.Proofs.YtdnbaliibiginaaDoor.Std8.below HS_.out bz)).mono ?_); rintro e w15 ⟨rfl, hb⟩; refine ⟨_, rfl, ?_⟩; have n0_ := Aside0.mk (below_step bz hb); clear HB; have HB := n0_; clear n0_; (try clear hb); (try clear hb2); (try clear hk); (try clear hi)) | (go_at_call 61; (with_reducible refine (strings_Contains.calls a0 (⟨#[45, 45, 62]⟩ : ByteArray) false _ A4.out (Go.Proofs.YtdnbaliibiginaaDoor.Std8.below HS_.out bz)).mono ?_); rintro e w16 ⟨rfl, hb⟩; have n0_ := Aside0.mk (below_step bz hb); clear HB; have HB := n0_; clear n0_; (try clear hb); (try clear hb2); (try clear hk); (try clear hi)) | (go_at_call 61; (with_reducible refine (strings_Contains.calls a0 (⟨#[45, 45, 33, 62]⟩ : ByteArray) false _ A8.out (Go.Proofs.YtdnbaliibiginaaDoor.Std8.below HS_.out bz)).mono ?_); rintro e w17 ⟨rfl, hb⟩; have n0_ := Aside0.mk (below_step bz hb); clear HB; have HB := n0_; clear n0_; (try clear hb); (try clear hb2); (try clear hk); (try clear hi)) | (go_at_call 62; (with_reducible refine (strings_HasPrefix.calls a0 (⟨#[62]⟩ : ByteArray) true _ A13.out).mono ?_); rintro e w18 ⟨rfl, hb⟩; have n0_ := Aside0.mk (below_step bz hb); clear HB; have HB := n0_; clear n0_; (try clear hb); (try clear hb2); (try clear hk); (try clear hi)))
     go_ret
     exact ⟨by first | rfl | (simp [errW_none, errW_some] <;> rfl) | (simp [*, errW_none, errW_some] <;> rfl), bz⟩
    ·replace c14 := Bool.eq_false_iff.mpr c14
     subst c14
     have H1 : ((strings_HasPrefix.f a0 (⟨#[45, 62]⟩ : ByteArray)).bind fun t173 => (some (!t173))) = some r := by rw [if_neg (show ¬ (false = true) by decide)] at H; first | exact H | (simp only [eq_self] at H ⊢; exact H) | (simp only [eq_self, if_true] at H ⊢; exact H)
     clear H
     have H := H1
     clear H1
     replace H := Option.bind_eq_some_iff.mp H
     obtain ⟨t173, A190, H⟩ := H
     replace H : (some (!t173)) = some r := H
     have A19 := Aside0.mk A190
     clear A190
     obtain rfl := Option.some.inj H
     go_enter Tryd.func36, Tryd.ntmps36
     go_wp2_with (first | ((with_reducible refine gate_callee (f := 35) rfl ?_); refine goesL_ (some 4) rfl rfl Tryd.func35 (by kernel_rfl) rfl #[.string a0] rfl (by (try simp only [List.map_toArray, List.map_cons, List.map_nil]); first | done | rfl | (simp only [List.length_drop, List.length_take]; rfl)) ?_; (with_reducible refine (write_clean.calls a0 true _ A2.out (Go.Proofs.YtdnbaliibiginaaDoor.Std8.below HS_.out bz)).mono ?_); rintro e w20 ⟨rfl, hb⟩; refine ⟨_, rfl, ?_⟩; have n0_ := Aside0.mk (below_step bz hb); clear HB; have HB := n0_; clear n0_; (try clear hb); (try clear hb2); (try clear hk); (try clear hi)) | (go_at_call 61; (with_reducible refine (strings_Contains.calls a0 (⟨#[45, 45, 62]⟩ : ByteArray) false _ A4.out (Go.Proofs.YtdnbaliibiginaaDoor.Std8.below HS_.out bz)).mono ?_); rintro e w21 ⟨rfl, hb⟩; have n0_ := Aside0.mk (below_step bz hb); clear HB; have HB := n0_; clear n0_; (try clear hb); (try clear hb2); (try clear hk); (try clear hi)) | (go_at_call 61; (with_reducible refine (strings_Contains.calls a0 (⟨#[45, 45, 33, 62]⟩ : ByteArray) false _ A8.out (Go.Proofs.YtdnbaliibiginaaDoor.Std8.below HS_.out bz)).mono ?_); rintro e w22 ⟨rfl, hb⟩; have n0_ := Aside0.mk (below_step bz hb); clear HB; have HB := n0_; clear n0_; (try clear hb); (try clear hb2); (try clear hk); (try clear hi)) | (go_at_call 62; (with_reducible refine (strings_HasPrefix.calls a0 (⟨#[62]⟩ : ByteArray) false _ A13.out).mono ?_); rintro e w23 ⟨rfl, hb⟩; have n0_ := Aside0.mk (below_step bz hb); clear HB; have HB := n0_; clear n0_; (try clear hb); (try clear hb2); (try clear hk); (try clear hi)) | (go_at_call 62; (with_reducible refine (strings_HasPrefix.calls a0 (⟨#[45, 62]⟩ : ByteArray) t173 _ A19.out).mono ?_); rintro e w24 ⟨rfl, hb⟩; have n0_ := Aside0.mk (below_step bz hb); clear HB; have HB := n0_; clear n0_; (try clear hb); (try clear hb2); (try clear hk); (try clear hi)))
     go_ret
     exact ⟨by first | rfl | (simp [errW_none, errW_some] <;> rfl) | (simp [*, errW_none, errW_some] <;> rfl), bz⟩
 ·replace c3 := Bool.eq_false_iff.mpr c3
  subst c3
  have H1 : (some false) = some r := by rw [if_neg (show ¬ (false = true) by decide)] at H; first | exact H | (simp only [eq_self] at H ⊢; exact H) | (simp only [eq_self, if_true] at H ⊢; exact H)
  clear H
  have H := H1
  clear H1
  obtain rfl := Option.some.inj H
  go_enter Tryd.func36, Tryd.ntmps36
  go_wp2_with (first | ((with_reducible refine gate_callee (f := 35) rfl ?_); refine goesL_ (some 4) rfl rfl Tryd.func35 (by kernel_rfl) rfl #[.string a0] rfl (by (try simp only [List.map_toArray, List.map_cons, List.map_nil]); first | done | rfl | (simp only [List.length_drop, List.length_take]; rfl)) ?_; (with_reducible refine (write_clean.calls a0 false _ A2.out (Go.Proofs.YtdnbaliibiginaaDoor.Std8.below HS_.out bz)).mono ?_); rintro e w25 ⟨rfl, hb⟩; refine ⟨_, rfl, ?_⟩; have n0_ := Aside0.mk (below_step bz hb); clear HB; have HB := n0_; clear n0_; (try clear hb); (try clear hb2); (try clear hk); (try clear hi)))
  go_ret
  exact ⟨by first | rfl | (simp [errW_none, errW_some] <;> rfl) | (simp [*, errW_none, errW_some] <;> rfl), bz⟩
end Go.Proofs.YtdnbaliibiginaaDoorH.W8
