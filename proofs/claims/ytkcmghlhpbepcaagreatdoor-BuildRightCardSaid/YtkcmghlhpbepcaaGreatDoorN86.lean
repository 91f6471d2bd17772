/- Lemmas and walks, part 6: QBld, QDec, QDecode, QWrite, QTab, QOwn, QFold. -/
import Derived.Test.YtkcmghlhpbepcaaGreatDoorProg
import Derived.Shelf.Strings.BuilderK
import Derived.WalkKit
import Derived.BigCall
import Derived.Test.YtkcmghlhpbepcaaGreatDoorN85
import Derived.Lib.Builder
import Derived.Lib.AppendStr
import Derived.Laws.AppendOwn
set_option linter.unusedVariables false
set_option linter.unusedSimpArgs false

/- Contracts of strings.Builder's writing methods at this seat's numbers: behind each call the builder holds the bytes that it held and those that were written; every block that is not the builder's and no row of bytes stands as it stood. Condition: the new length takes at most 2^47 bytes. -/
namespace Go.Proofs.YtkcmghlhpbepcaaGreatDoor
open Go.RowKit Go.Proofs
theorem bSize : (Tryz.prog.info? 106).map (·.size) = some 2 := by kernel_rfl
theorem bLies : liesAt Tryz.prog Tryz.prog.depth 106 (2 / Tryz.prog.cellsOf 106) 0 106 1 = true := by kernel_rfl
theorem bByte : (Tryz.prog.info? 5).map (fun i => (i.zero, i.size, i.bytes)) = some (some (.int .u8 0), 1, 1) := by kernel_rfl
set_option maxRecDepth 100000 in
theorem copyCheck_used (b : Nat) (w : World) (h0 : w.cell? ⟨b, 0, none⟩ = some (.pointer (some ⟨b, 0, none⟩))) :
 Calls Tryz.prog 174 #[.pointer (some ⟨b, 0, none⟩)] w fun e w' => e = .returned (.tuple #[]) ∧ w' = w := by
 obtain ⟨j, hj, _⟩ := Option.map_eq_some_iff.1 bSize
 go_enter Tryz.func174, Tryz.ntmps174
 go_wp2
 rw [Lib.run_neq_ptr_same w _ Tryz.underlying104 hj]
 go_wp2
 go_end0
 exact ⟨rfl, rfl⟩
set_option maxRecDepth 100000 in
theorem copyCheck_fresh (b : Nat) (w : World) (h0 : w.cell? ⟨b, 0, none⟩ = some (.pointer none)) (hsh : w.shape? b = some (106, 2)) (hfz : w.frozen? ⟨b, 0, none⟩ = false) :
 Calls Tryz.prog 174 #[.pointer (some ⟨b, 0, none⟩)] w fun e w' => e = .returned (.tuple #[]) ∧ w' = w.setCell ⟨b, 0, none⟩ (.pointer (some ⟨b, 0, none⟩)) := by
 obtain ⟨j, hj, hjs⟩ := Option.map_eq_some_iff.1 bSize
 go_enter Tryz.func174, Tryz.ntmps174
 go_wp2
 rw [Lib.run_to_unsafe w ⟨b, 0, none⟩ Tryz.underlying104 Tryz.underlying157 hj (by rw [hjs]; decide) hsh (Nat.zero_lt_succ 1)]
 simp only [Result.andThen]
 rw [Oper.upon_value]
 go_wp2
 rw [run_callFunc_extern Tryz.func201 (by kernel_rfl) (by kernel_rfl) (by kernel_rfl) (e := Extern.AbiNoEscape.same) (by kernel_rfl)]
 rw [Lib.run_noEscape]
 simp only [Result.andThen]
 rw [Oper.upon_value]
 go_wp2
 rw [Lib.run_from_unsafe w ⟨b, 0, none⟩ Tryz.underlying157 Tryz.underlying104 hj hsh bLies]
 simp only [Result.andThen]
 rw [Oper.upon_value]
 go_wp2
 go_end0
 exact ⟨rfl, rfl⟩
theorem copyCheck_k (B b : Nat) (bs : List Value) (w : World) (h : Lib.IsBuilderF 106 5 B b bs w) :
 Calls Tryz.prog 174 #[.pointer (some ⟨b, 0, none⟩)] w fun e w' => e = .returned (.tuple #[]) ∧ (Lib.BuilderAtF 106 5 B b (.pointer (some ⟨b, 0, none⟩)) bs w' ∧ Below B w w' ∧ Lib.OthersKept 5 (some b) w w') := by
 rcases h with h | h
 ·refine (copyCheck_fresh b w h.cell0 h.shape h.frozen0).mono ?_
  rintro e w' ⟨rfl, rfl⟩
  exact ⟨rfl, h.used _, (Below.refl B w).setCell (p := ⟨b, 0, none⟩) h.1 _, (Lib.OthersKept.refl _ _ w).setCell ⟨b, 0, none⟩ rfl _⟩
 ·refine (copyCheck_used b w h.cell0).mono ?_
  rintro e w' ⟨rfl, rfl⟩
  exact ⟨rfl, h, Below.refl B _, Lib.OthersKept.refl _ _ _⟩
set_option maxHeartbeats 2000000 in
set_option maxRecDepth 100000 in
theorem writeByte_k (B b : Nat) (bs : List Value) (c : Int) (w : World) (h : Lib.IsBuilderF 106 5 B b bs w) (hlen : bs.length + 1 ≤ 140737488355328) (hBw : B ≤ w.heap.size) :
 Calls Tryz.prog 202 #[.pointer (some ⟨b, 0, none⟩), .int .u8 c] w fun e w' => e = .returned .nilIface ∧ (Lib.IsBuilderF 106 5 B b (bs ++ [.int .u8 c]) w' ∧ Below B w w' ∧ Lib.OthersKept 5 (some b) w w') := by
 obtain ⟨i0, hi, hz0, hz1, hz2⟩ := info_parts bByte
 go_enter Tryz.func202, Tryz.ntmps202
 go_wp2_with (go_at_call 174; refine (copyCheck_k B b bs _ h).mono ?_)
 rintro e w1 ⟨rfl, h1, hb1, hk1⟩
 obtain ⟨hB, v, hbk, hown, hne⟩ := h1
 have c0 : w1.cell? ⟨b, 0, none⟩ = some (.pointer (some ⟨b, 0, none⟩)) := by rw [Lib.cell_of_heap hbk]; rfl
 have c1 : w1.cell? ⟨b, 1, none⟩ = some v := by rw [Lib.cell_of_heap hbk]; rfl
 go_wp2_with (at_builtin; refine wpList_append_ownF _ rfl _ _ 43 rfl B 5 i0 (.int .u8 0) 1 1 Tryz.underlying43 hi hz0 hz1 hz2 rfl (by decide) _ _ _ rfl (hown.alloc _) ⟨w1.heap.size, 0, none⟩ 1 1 [.int .u8 c] rfl rfl ?c1 ?c2 ?c3 ?c4 ?c5 ?_)
 case c1 =>
  intro j u hj
  match j, hj with
  | 0, hj => simp at hj; subst hj; simp [Addr.add]
 case c2 => intro u hu; simp at hu; subst hu; rfl
 case c3 => unfold maxLen; omega
 case c4 => omega
 case c5 => have := hb1.size; simp; omega
 intro v' w2 hown' hgrow _
 have hlt : b < w1.heap.size := by
  rcases Nat.lt_or_ge b w1.heap.size with h' | h'
  ·exact h'
  ·simp [Array.getElem?_eq_none h'] at hbk
 have hb2 : w2.heap[b]? = some (.cells #[.pointer (some ⟨b, 0, none⟩), v] 106 (0, 0)) := by
  rw [hgrow.block b (by simp; omega) (fun e => hne e.symm), Lib.alloc_old w1 _ b hlt]
  exact hbk
 have d0 : w2.cell? ⟨b, 0, none⟩ = some (.pointer (some ⟨b, 0, none⟩)) := by rw [Lib.cell_of_heap hb2]; rfl
 have d1 : w2.cell? ⟨b, 1, none⟩ = some v := by rw [Lib.cell_of_heap hb2]; rfl
 have f1 : w2.frozen? ⟨b, 1, none⟩ = false := Lib.frozen_of_heap hb2 1
 obtain ⟨g, cap, rfl⟩ : ∃ g cap, v' = .slice (some ⟨g, 0, none⟩) (bs.length + 1) cap := by
  rcases hown'.2 with ⟨_, h0⟩ | ⟨g, cap, cur, fz, hv, _⟩
  ·omega
  ·exact ⟨g, cap, hv⟩
 go_wp2
 go_ret
 refine ⟨rfl, Or.inr ?_, ?_, ((hk1.alloc _).grown hgrow (Lib.ownsRowF_kind (hown.alloc _))).setCell ⟨b, 1, none⟩ rfl _⟩
 ·exact Lib.BuilderAtF.put (T := 106) (e := 5) hB hb2 (bs' := bs ++ [.int .u8 c]) (by simpa using hown') (by decide)
 ·exact ((hb1.alloc (by have := hb1.size; omega) _).grown hgrow (by have := hb1.size; simp; omega) (fun k hk => (hown.lt k hk).1)).setCell (p := ⟨b, 1, none⟩) hB _
set_option maxHeartbeats 2000000 in
set_option maxRecDepth 100000 in
theorem writeString_k (B b : Nat) (bs : List Value) (s : ByteArray) (w : World) (h : Lib.IsBuilderF 106 5 B b bs w) (hlen : bs.length + s.size ≤ 140737488355328) (hBw : B ≤ w.heap.size) :
 Calls Tryz.prog 135 #[.pointer (some ⟨b, 0, none⟩), .string s] w fun e w' => e = .returned (.tuple #[.int .i64 s.size, .nilIface]) ∧ (Lib.IsBuilderF 106 5 B b (bs ++ Lib.strCells s) w' ∧ Below B w w' ∧ Lib.OthersKept 5 (some b) w w') := by
 obtain ⟨i0, hi, hz0, hz1, hz2⟩ := info_parts bByte
 go_enter Tryz.func135, Tryz.ntmps135
 go_wp2_with (go_at_call 174; refine (copyCheck_k B b bs _ h).mono ?_)
 rintro e w1 ⟨rfl, h1, hb1, hk1⟩
 obtain ⟨hB, v, hbk, hown, hne⟩ := h1
 have c0 : w1.cell? ⟨b, 0, none⟩ = some (.pointer (some ⟨b, 0, none⟩)) := by rw [Lib.cell_of_heap hbk]; rfl
 have c1 : w1.cell? ⟨b, 1, none⟩ = some v := by rw [Lib.cell_of_heap hbk]; rfl
 go_wp2_with (at_builtin; refine Lib.wpList_append_own_stringF _ rfl _ _ 43 9 rfl B 5 i0 Tryz.underlying43 Tryz.underlying9 hi hz0 hz1 hz2 _ _ _ rfl hown s rfl ?c3 ?c4 ?c5 ?_)
 case c3 => unfold maxLen; omega
 case c4 => omega
 case c5 => have := hb1.size; omega
 intro v' w2 hown' hgrow _
 have hlt : b < w1.heap.size := by
  rcases Nat.lt_or_ge b w1.heap.size with h' | h'
  ·exact h'
  ·simp [Array.getElem?_eq_none h'] at hbk
 have hb2 : w2.heap[b]? = some (.cells #[.pointer (some ⟨b, 0, none⟩), v] 106 (0, 0)) := by
  rw [hgrow.block b hlt (fun e => hne e.symm)]
  exact hbk
 have d0 : w2.cell? ⟨b, 0, none⟩ = some (.pointer (some ⟨b, 0, none⟩)) := by rw [Lib.cell_of_heap hb2]; rfl
 have d1 : w2.cell? ⟨b, 1, none⟩ = some v := by rw [Lib.cell_of_heap hb2]; rfl
 have f1 : w2.frozen? ⟨b, 1, none⟩ = false := Lib.frozen_of_heap hb2 1
 obtain ⟨ao, n', cap, rfl⟩ : ∃ ao n' cap, v' = .slice ao n' cap := by
  rcases hown'.2 with ⟨hv, _⟩ | ⟨g, cap, cur, fz, hv, _⟩
  ·exact ⟨_, _, _, hv⟩
  ·exact ⟨_, _, _, hv⟩
 go_wp2
 go_ret2
 refine ⟨rfl, Or.inr ?_, ?_, (hk1.grown hgrow (Lib.ownsRowF_kind hown)).setCell ⟨b, 1, none⟩ rfl _⟩
 ·exact Lib.BuilderAtF.put (T := 106) (e := 5) hB hb2 (bs' := bs ++ Lib.strCells s) (by simpa [Lib.strCells_length] using hown') (by decide)
 ·exact (hb1.grown hgrow (by have := hb1.size; omega) (fun k hk => (hown.lt k hk).1)).setCell (p := ⟨b, 1, none⟩) hB _
end Go.Proofs.YtkcmghlhpbepcaaGreatDoor

/- Contracts of refs.kind and refs.meant, and of strings.Cut at a byte. -/
namespace Go.Proofs.YtkcmghlhpbepcaaGreatDoor
open Go.RowKit Go.Proofs
theorem cut_c (l : List UInt8) (c : UInt8) (hl : l.length ≤ 1000000000) (w : World) (hS : Std w) :
 Calls Tryz.prog 188 #[.string ⟨l.toArray⟩, .string ⟨#[c]⟩] w fun e w' => e = .returned (.tuple #[.string ⟨(cut1 c l).1.toArray⟩, .string ⟨(cut1 c l).2.1.toArray⟩, .bool (cut1 c l).2.2]) ∧ Below w.heap.size w w' := by
 obtain ⟨m, hm⟩ := hS.maxLen
 refine (Tryz.strings_Cut ⟨l.toArray⟩ ⟨#[c]⟩ m w (by rw [Lib.size_eq]; simp; omega) hm).mono ?_
 rintro e w' ⟨rfl, n, rfl⟩
 refine ⟨?_, below_drewN (Below.refl _ _) n⟩
 rw [show (⟨l.toArray⟩ : ByteArray).data.toList = l from by simp, show (⟨#[c]⟩ : ByteArray).data.toList = [c] from rfl, cut_eq]
theorem prefix_c (l p : List UInt8) (w : World) :
 Calls Tryz.prog 94 #[.string ⟨l.toArray⟩, .string ⟨p.toArray⟩] w fun e w' => e = .returned (.bool (Lib.hasPrefix l p)) ∧ w = w' := by
 refine (Tryz.strings_HasPrefix ⟨l.toArray⟩ ⟨p.toArray⟩ w).mono ?_
 rintro e w' ⟨rfl, rfl⟩
 exact ⟨rfl, rfl⟩
set_option maxHeartbeats 1000000 in
set_option maxRecDepth 100000 in
theorem kind_c (l : List UInt8) (w : World) :
 Calls Tryz.prog 210 #[.string ⟨l.toArray⟩] w fun e w' => e = .returned (.int .i64 (kindL l)) ∧ Below w.heap.size w w' := by
 go_enter Tryz.func210, Tryz.ntmps210
 go_wp2_with (go_at_call 94; refine (prefix_c _ _ _).mono ?_; rintro e w' ⟨rfl, rfl⟩)
 all_goals go_ret
 all_goals (refine ⟨ret_i64 ?_, Below.refl _ _⟩; simp_all [kindL])
theorem drop_le (l : List UInt8) (n : Nat) : (l.drop n).length ≤ l.length := by simp
theorem pre_len {l p : List UInt8} (h : Lib.hasPrefix l p = true) : p.length ≤ l.length := (List.isPrefixOf_iff_prefix.1 h).length_le
theorem coded_l (base : Nat) (hb : base = 10 ∨ base = 16) (l : List UInt8) (hl : l.length ≤ 1000000000) (w : World) (hS : Std w) :
 Calls Tryz.prog 211 #[.string ⟨l.toArray⟩, .int .i64 base] w fun e w' => e = .returned (.tuple #[.string ⟨(codedL base l).1.toArray⟩, .bool (codedL base l).2]) ∧ Below w.heap.size w w' := by
 have h := coded_c base hb ⟨l.toArray⟩ (by rw [Lib.size_eq]; simpa using hl) w hS
 rwa [Lib.toList_data, show (⟨l.toArray⟩ : ByteArray).data.toList = l from by simp] at h
theorem named_l (l : List UInt8) (w : World) :
 Calls Tryz.prog 212 #[.string ⟨l.toArray⟩] w fun e w' => e = .returned (.tuple #[.string ⟨(namedL l).1.toArray⟩, .bool (namedL l).2]) ∧ w = w' := by
 have h := named_c ⟨l.toArray⟩ w
 rwa [Lib.toList_data, show (⟨l.toArray⟩ : ByteArray).data.toList = l from by simp] at h
theorem coded_10 (l : List UInt8) (hl : l.length ≤ 1000000000) (w : World) (hS : Std w) :
 Calls Tryz.prog 211 #[.string ⟨l.toArray⟩, .int .i64 10] w fun e w' => e = .returned (.tuple #[.string ⟨(codedL 10 l).1.toArray⟩, .bool (codedL 10 l).2]) ∧ Below w.heap.size w w' := coded_l 10 (.inl rfl) l hl w hS
theorem coded_16 (l : List UInt8) (hl : l.length ≤ 1000000000) (w : World) (hS : Std w) :
 Calls Tryz.prog 211 #[.string ⟨l.toArray⟩, .int .i64 16] w fun e w' => e = .returned (.tuple #[.string ⟨(codedL 16 l).1.toArray⟩, .bool (codedL 16 l).2]) ∧ Below w.heap.size w w' := coded_l 16 (.inr rfl) l hl w hS
set_option maxHeartbeats 1000000 in
set_option maxRecDepth 100000 in
theorem meant_c (l : List UInt8) (hl : l.length ≤ 1000000000) (w : World) (hS : Std w) :
 Calls Tryz.prog 189 #[.string ⟨l.toArray⟩] w fun e w' => e = .returned (.tuple #[.string ⟨(meantL l).1.toArray⟩, .bool (meantL l).2]) ∧ Below w.heap.size w w' := by
 by_cases h2 : kindL l = 2
 ·have e1 := Lib.hid (show meantL l = codedL 16 (l.drop 2) by unfold meantL; rw [if_pos h2])
  have hk := Lib.hid (kind_c l w)
  rw [h2] at hk
  have hlen : 2 ≤ l.length := by
   unfold kindL at h2
   split at h2
   ·rename_i h
    rw [Bool.or_eq_true] at h
    rcases h with h | h <;> exact pre_len h
   ·split at h2 <;> cases h2
  clear h2
  have hc := Lib.hid (fun W hS => coded_16 (l.drop 2) (Nat.le_trans (drop_le l 2) hl) W hS)
  go_enter Tryz.func189, Tryz.ntmps189
  go_wp2_with (first
   | (go_at_call 210; ((with_reducible refine hk.out.mono ?_); rintro e w1 ⟨rfl, hb1⟩))
   | (go_at_call 211; ((with_reducible refine (hc.out _ (hS.below hb1)).mono ?_); rintro e w2 ⟨rfl, hb2⟩)))
  go_ret2
  exact ⟨by rw [e1.out]; rfl, below_seq hb1 hb2⟩
 ·by_cases h1 : kindL l = 1
  ·have e1 := Lib.hid (show meantL l = codedL 10 l.tail by unfold meantL; rw [if_neg h2, if_pos h1])
   have hk := Lib.hid (kind_c l w)
   rw [h1] at hk
   have hlen : 1 ≤ l.length := by
    unfold kindL at h1
    split at h1
    ·cases h1
    ·split at h1
     ·rename_i h
      exact pre_len h
     ·cases h1
   clear h2 h1
   have hc := Lib.hid (fun W hS => coded_10 l.tail (by have := List.length_tail (l := l); omega) W hS)
   go_enter Tryz.func189, Tryz.ntmps189
   go_wp2_with (first
    | (go_at_call 210; ((with_reducible refine hk.out.mono ?_); rintro e w1 ⟨rfl, hb1⟩))
    | (go_at_call 211; ((with_reducible refine (hc.out _ (hS.below hb1)).mono ?_); rintro e w2 ⟨rfl, hb2⟩)))
   go_ret2
   exact ⟨by rw [e1.out]; rfl, below_seq hb1 hb2⟩
  ·have e1 := Lib.hid (show meantL l = namedL l by unfold meantL; rw [if_neg h2, if_neg h1])
   have hk := Lib.hid (kind_c l w)
   have h0 : kindL l = 0 := by
    unfold kindL at h2 h1 ⊢
    repeat' split
    all_goals simp_all
   rw [h0] at hk
   clear h2 h1 h0
   go_enter Tryz.func189, Tryz.ntmps189
   go_wp2_with (first
    | (go_at_call 210; ((with_reducible refine hk.out.mono ?_); rintro e w1 ⟨rfl, hb1⟩))
    | (go_at_call 212; ((with_reducible refine (named_l _ _).mono ?_); rintro e w2 ⟨rfl, rfl⟩)))
   go_ret2
   exact ⟨by rw [e1.out]; rfl, hb1⟩
theorem bytes_str (l : List UInt8) : Lib.strCells ⟨l.toArray⟩ = Lib.byteCells l := by
 unfold Lib.strCells Lib.byteCells
 simp
theorem write_l (B b : Nat) (acc l : List UInt8) (w : World) (h : Lib.IsBuilderF 106 5 B b (Lib.byteCells acc) w) (hlen : acc.length + l.length ≤ 140737488355328) (hBw : B ≤ w.heap.size) :
 Calls Tryz.prog 135 #[.pointer (some ⟨b, 0, none⟩), .string ⟨l.toArray⟩] w fun e w' => e = .returned (.tuple #[.int .i64 l.length, .nilIface]) ∧ (Lib.IsBuilderF 106 5 B b (Lib.byteCells (acc ++ l)) w' ∧ Below B w w' ∧ Lib.OthersKept 5 (some b) w w') := by
 refine (writeString_k B b _ ⟨l.toArray⟩ w h (by rw [Lib.byteCells_length, mk_size]; exact hlen) hBw).mono ?_
 rintro e w' ⟨rfl, h1, h2, h3⟩
 rw [mk_size]
 rw [bytes_str, ← Lib.byteCells_append] at h1
 exact ⟨rfl, h1, h2, h3⟩
end Go.Proofs.YtkcmghlhpbepcaaGreatDoor

/- Contract of refs.Decode: a text with characters in the place of their references; nothing that lay in memory turns. Condition: at most 10^9 bytes. -/
namespace Go.Proofs.YtkcmghlhpbepcaaGreatDoor
open Go.RowKit Go.Proofs
theorem grown_of_below {w w1 : World} (h : Below w.heap.size w w1) (row : Option Nat) : w.grownBy w1 row := ⟨h.os, h.tape, h.output, h.size, fun i hi _ => h.block i hi⟩
theorem bld_below {T e : TypeId} {B b : Nat} {bs : List Value} {w w1 : World} (h : Lib.IsBuilderF T e B b bs w) (hb : Below w.heap.size w w1) : Lib.IsBuilderF T e B b bs w1 := by
 have key : ∀ p, Lib.BuilderAtF T e B b p bs w → Lib.BuilderAtF T e B b p bs w1 := by
  intro p hp
  have hlt := hp.lt
  obtain ⟨hB, v, hv, hown, hne⟩ := hp
  exact ⟨hB, v, (hb.block b hlt).trans hv, hown.kept (grown_of_below hb none) (by cases hv : v.ownBlock <;> simp), hne⟩
 exact h.elim (fun x => .inl (key _ x)) (fun x => .inr (key _ x))
def strLen : Value → Nat | .string s => s.size | _ => 0
theorem strLen_mk (l : List UInt8) : strLen (.string ⟨l.toArray⟩) = l.length := mk_size l
theorem bld_new (B : Nat) (w : World) (h : B ≤ w.heap.size) : Lib.IsBuilderF 106 5 B w.heap.size (Lib.byteCells []) (w.alloc (.cells #[.pointer none, .slice none 0 0] 106)) := by
 refine .inl ⟨h, .slice none 0 0, ?_, World.ownsRowF_nil _ _ _ _, by simp [Value.ownBlock]⟩
 show (w.heap.push _)[w.heap.size]? = _
 simp
def DecRel (l : List UInt8) (w : World) (v : Value) (wr : World) : Prop :=
 ∃ (rest acc : List UInt8), v = .string ⟨rest.toArray⟩ ∧ Lib.IsBuilderF 106 5 w.heap.size w.heap.size (Lib.byteCells acc) wr ∧ Below w.heap.size w wr ∧ w.heap.size < wr.heap.size ∧ decL l = acc ++ decL rest ∧ rest.length ≤ l.length ∧ acc.length + 5 * rest.length ≤ 5 * l.length
set_option maxHeartbeats 1000000 in
set_option maxRecDepth 100000 in
theorem decode_c (l : List UInt8) (hl : l.length ≤ 1000000000) (w : World) (hS : Std w) :
 Calls Tryz.prog 155 #[.string ⟨l.toArray⟩] w fun e w' => e = .returned (.string ⟨(decL l).toArray⟩) ∧ Below w.heap.size w w' := by
 go_enter Tryz.func155, Tryz.ntmps155
 go_wp2
 go_loopw [0] (fun v wr => DecRel l w v wr) (fun v wr => strLen v)
 case atStart =>
  exact ⟨l, [], rfl, bld_new _ _ (Nat.le_refl _), (Below.refl _ w).alloc (Nat.le_refl _) _, by simp, rfl, Nat.le_refl _, by simp⟩
 case round =>
  obtain ⟨rest, acc, rfl, hI, hbw, hsz, hdec, hr1, hr2⟩ := hrel
  have hSr := hS.below hbw
  have hcl := cut1_len 38 rest
  have hcut := Lib.hid (cut_c rest 38 (by omega) wr hSr)
  cases hf : (cut1 38 rest).2.2 with
  | false =>
    rw [hf] at hcut
    have hd := Lib.hid (hdec.trans (by rw [decL_miss hf]))
    clear hdec hf
    have hcl1 : (cut1 38 rest).1.length ≤ rest.length := by omega
    clear hcl
    generalize (cut1 38 rest).1 = before at *
    generalize (cut1 38 rest).2.1 = after at *
    go_wp2_with (go_at_call 188; ((with_reducible refine hcut.out.mono ?_); rintro e w1 ⟨rfl, hb1⟩))
    have hI1 := bld_below hI hb1
    have hz1 := hb1.size
    go_wp2_with (go_at_call 135; ((with_reducible refine (write_l _ _ acc before _ hI1 (by omega) (by omega)).mono ?_); rintro e w2 ⟨rfl, hI2, hb2, _⟩))
    have hz2 := hb2.size
    go_wp2_with (go_at_call 138; ((with_reducible refine (Tryz.Builder_String_any_k _ _ _ _ hI2 (by omega)).mono ?_); rintro e w3 ⟨rfl, _, hb3, _⟩))
    go_wp2
    go_ret
    rw [hd.out]
    exact ⟨rfl, ((below_then hbw (by omega) hb1).trans hb2).trans hb3⟩
  | true =>
    rw [hf] at hcut
    have hd := hdec.trans (by rw [decL_hit hf])
    clear hdec
    rw [if_pos hf] at hcl
    clear hf
    generalize (cut1 38 rest).1 = before at *
    generalize (cut1 38 rest).2.1 = r2 at *
    have hml := meantL_len (cut1 59 r2).1
    have hcut2 := Lib.hid (fun W hS => cut_c r2 59 (by omega) W hS)
    have hm := Lib.hid (fun W hS => meant_c (cut1 59 r2).1 (by have := cut1_len 59 r2; omega) W hS)
    have hlen2 := cut1_len 59 r2
    have hd1 := Lib.hid (fun h1 h2 => hd.trans (by rw [decL_ref h1 h2]))
    have hd2 := Lib.hid (fun h => hd.trans (by rw [decL_amp h]))
    clear hd
    generalize (cut1 59 r2).2.2 = ends at *
    generalize (cut1 59 r2).1 = name at *
    generalize (cut1 59 r2).2.1 = after at *
    generalize (meantL name).2 = is at *
    generalize (meantL name).1 = t at *
    cases ends <;> cases is
    all_goals
     go_wp2_with (go_at_call 188; ((with_reducible refine hcut.out.mono ?_); rintro e w1 ⟨rfl, hb1⟩))
     have hI1 := bld_below hI hb1
     have hz1 := hb1.size
     go_wp2_with (go_at_call 135; ((with_reducible refine (write_l _ _ acc before _ hI1 (by omega) (by omega)).mono ?_); rintro e w2 ⟨rfl, hI2, hb2, _⟩))
     have hz2 := hb2.size
     have hbw2 := (below_then hbw (by omega) hb1).trans hb2
     have hS2 := hS.below hbw2
     go_wp2_with (go_at_call 188; ((with_reducible refine (hcut2.out _ hS2).mono ?_); rintro e w3 ⟨rfl, hb3⟩))
     have hS3 := hS2.below hb3
     have hI3 := bld_below hI2 hb3
     have hz3 := hb3.size
     go_wp2_with (go_at_call 189; ((with_reducible refine (hm.out _ hS3).mono ?_); rintro e w4 ⟨rfl, hb4⟩))
     have hI4 := bld_below hI3 hb4
     have hz4 := hb4.size
     have hbw4 := below_then (below_then hbw2 (by omega) hb3) (by omega) hb4
     first
      | (have hd : Hid (decL l = acc ++ (before ++ 38 :: decL r2)) := by first | exact hd2.out rfl | exact hd2.out trivial | exact hd2.out
         go_wp2_with (go_at_call 135; ((with_reducible refine (write_l _ _ _ [38] _ hI4 (by simp; omega) (by omega)).mono ?_); rintro e w5 ⟨rfl, hI5, hb5, _⟩))
         go_wp2
         go_roundw
         case rel => exact ⟨r2, acc ++ before ++ [38], rfl, hI5, hbw4.trans hb5, by have := hb5.size; omega, by rw [hd.out]; simp, by omega, by simp; omega⟩
         case measure => rw [strLen_mk, strLen_mk]; omega)
      | (have hd : Hid (decL l = acc ++ (before ++ (t ++ decL after))) := by first | exact hd1.out rfl rfl | exact hd1.out trivial trivial | exact hd1.out
         go_wp2_with (go_at_call 135; ((with_reducible refine (write_l _ _ _ t _ hI4 (by simp; omega) (by omega)).mono ?_); rintro e w5 ⟨rfl, hI5, hb5, _⟩))
         go_wp2
         go_roundw
         case rel => exact ⟨after, acc ++ before ++ t, rfl, hI5, hbw4.trans hb5, by have := hb5.size; omega, by rw [hd.out]; simp, by simp at hlen2; omega, by simp at hlen2 ⊢; omega⟩
         case measure => rw [strLen_mk, strLen_mk]; simp at hlen2; omega)
end Go.Proofs.YtkcmghlhpbepcaaGreatDoor

/- Contracts of refs.written, Text and Value: a text with what may not stand so written out; nothing that lay in memory turns. Condition: at most 10^9 bytes. -/
namespace Go.Proofs.YtkcmghlhpbepcaaGreatDoor
open Go.RowKit Go.Proofs
def escL (q : Bool) (c : UInt8) : List UInt8 :=
 if c = 38 then [38, 97, 109, 112, 59] else if c = 60 then [38, 108, 116, 59] else if c = 62 then [38, 103, 116, 59] else if c = 34 ∧ q = true then [38, 113, 117, 111, 116, 59] else [c]
def wrL (q : Bool) : List UInt8 → List UInt8
 | [] => []
 | [c] => escL q c
 | c :: d :: l => if c = 194 ∧ d = 160 then [38, 110, 98, 115, 112, 59] ++ wrL q l else escL q c ++ wrL q (d :: l)
def hardL (l : List UInt8) : Bool := Lib.hasPrefix l [194, 160]
theorem wrL_hard {q : Bool} {l : List UInt8} (h : hardL l = true) : wrL q l = [38, 110, 98, 115, 112, 59] ++ wrL q (l.drop 2) := by
 obtain ⟨r, rfl⟩ := List.isPrefixOf_iff_prefix.1 h
 simp [wrL]
theorem wrL_step {q : Bool} {c : UInt8} {l : List UInt8} (h : hardL (c :: l) = false) : wrL q (c :: l) = escL q c ++ wrL q l := by
 cases l with
 | nil => simp [wrL]
 | cons d l =>
   rw [wrL, if_neg]
   rintro ⟨rfl, rfl⟩
   simp [hardL, Lib.hasPrefix] at h
theorem u8_eq {c : UInt8} {n : Nat} (h : c.toNat = n) (hn : n < 256) : c = UInt8.ofNat n := by
 apply UInt8.toNat_inj.1
 rw [h]
 simp [Nat.mod_eq_of_lt hn]
theorem esc38 {q : Bool} {c : UInt8} (h : c.toNat = 38) : escL q c = [38, 97, 109, 112, 59] := by rw [u8_eq h (by omega)]; rfl
theorem esc60 {q : Bool} {c : UInt8} (h : c.toNat = 60) : escL q c = [38, 108, 116, 59] := by rw [u8_eq h (by omega)]; rfl
theorem esc62 {q : Bool} {c : UInt8} (h : c.toNat = 62) : escL q c = [38, 103, 116, 59] := by rw [u8_eq h (by omega)]; rfl
theorem esc34 {c : UInt8} (h : c.toNat = 34) : escL true c = [38, 113, 117, 111, 116, 59] := by rw [u8_eq h (by omega)]; rfl
theorem escNo {q : Bool} {c : UInt8} (h1 : c.toNat ≠ 38) (h2 : c.toNat ≠ 60) (h3 : c.toNat ≠ 62) (h4 : ¬ (c.toNat = 34 ∧ q = true)) : escL q c = [c] := by
 unfold escL
 rw [if_neg (fun e => h1 (by rw [e]; rfl)), if_neg (fun e => h2 (by rw [e]; rfl)), if_neg (fun e => h3 (by rw [e]; rfl)), if_neg (fun e => h4 ⟨by rw [e.1]; rfl, e.2⟩)]
theorem wr_at {q : Bool} {l acc : List UInt8} {k : Nat} {c : UInt8} (hk : k < l.length) (hc : l[k] = c) (hdec : wrL q l = acc ++ wrL q (l.drop k)) (h : hardL (l.drop k) = false) {e : List UInt8} (he : escL q c = e) : wrL q l = (acc ++ e) ++ wrL q (l.drop (k + 1)) := by
 have hd : l.drop k = c :: l.drop (k + 1) := by rw [← hc]; exact List.drop_eq_getElem_cons hk
 rw [hd] at h hdec
 rw [hdec, wrL_step h, he, List.append_assoc]
theorem hard_no {l : List UInt8} {k : Nat} {c : UInt8} (hk : k < l.length) (hc : l[k] = c) (h : c.toNat ≠ 194) : hardL (l.drop k) = false := by
 have hd : l.drop k = c :: l.drop (k + 1) := by rw [← hc]; exact List.drop_eq_getElem_cons hk
 rw [hd]
 have : (194 : UInt8) ≠ c := fun e => h (by rw [← e]; rfl)
 simp [hardL, Lib.hasPrefix, List.isPrefixOf, this]
theorem wr_hard {q : Bool} {l acc : List UInt8} {k : Nat} (hdec : wrL q l = acc ++ wrL q (l.drop k)) (h : hardL (l.drop k) = true) : wrL q l = (acc ++ [38, 110, 98, 115, 112, 59]) ++ wrL q (l.drop (k + 1 + 1)) := by
 rw [hdec, wrL_hard h, List.drop_drop, List.append_assoc]
theorem hard_len {l : List UInt8} {k : Nat} (h : hardL (l.drop k) = true) : k + 2 ≤ l.length := by
 have := pre_len h
 simp at this
 omega
theorem byte_l (B b : Nat) (acc : List UInt8) (c : UInt8) (w : World) (h : Lib.IsBuilderF 106 5 B b (Lib.byteCells acc) w) (hlen : acc.length + 1 ≤ 140737488355328) (hBw : B ≤ w.heap.size) :
 Calls Tryz.prog 202 #[.pointer (some ⟨b, 0, none⟩), .int .u8 c.toNat] w fun e w' => e = .returned .nilIface ∧ (Lib.IsBuilderF 106 5 B b (Lib.byteCells (acc ++ [c])) w' ∧ Below B w w' ∧ Lib.OthersKept 5 (some b) w w') := by
 refine (writeByte_k B b _ c.toNat w h (by rw [Lib.byteCells_length]; exact hlen) hBw).mono ?_
 rintro e w' ⟨rfl, h1, h2, h3⟩
 exact ⟨rfl, by rw [Lib.byteCells_append]; exact h1, h2, h3⟩
theorem esc34f {c : UInt8} (h : c.toNat = 34) : escL false c = [34] := by rw [u8_eq h (by omega)]; rfl
theorem byte_34 (B b : Nat) (acc : List UInt8) (w : World) (h : Lib.IsBuilderF 106 5 B b (Lib.byteCells acc) w) (hlen : acc.length + 1 ≤ 140737488355328) (hBw : B ≤ w.heap.size) :
 Calls Tryz.prog 202 #[.pointer (some ⟨b, 0, none⟩), .int .u8 34] w fun e w' => e = .returned .nilIface ∧ (Lib.IsBuilderF 106 5 B b (Lib.byteCells (acc ++ [34])) w' ∧ Below B w w' ∧ Lib.OthersKept 5 (some b) w w') := byte_l B b acc 34 w h hlen hBw
set_option maxHeartbeats 1000000 in
set_option maxRecDepth 100000 in
theorem written_false (l : List UInt8) (hl : l.length ≤ 1000000000) (w : World) :
 Calls Tryz.prog 175 #[.string ⟨l.toArray⟩, .bool false] w fun e w' => e = .returned (.string ⟨(wrL false l).toArray⟩) ∧ Below w.heap.size w w' := by
 go_enter Tryz.func175, Tryz.ntmps175
 go_wp2
 go_loopw [6] (fun v wr => ∃ (k : Nat) (acc : List UInt8), v = .int .i64 k ∧ k ≤ l.length ∧ Lib.IsBuilderF 106 5 w.heap.size w.heap.size (Lib.byteCells acc) wr ∧ Below w.heap.size w wr ∧ w.heap.size < wr.heap.size ∧ Hid (wrL false l = acc ++ wrL false (l.drop k)) ∧ acc.length ≤ 6 * k) (fun v _ => l.length - (intOf v).toNat)
 case atStart =>
  exact ⟨0, [], rfl, by omega, bld_new _ _ (Nat.le_refl _), (Below.refl _ w).alloc (Nat.le_refl _) _, by simp, rfl, by simp⟩
 case round =>
  obtain ⟨k, acc, rfl, hk, hI, hbw, hsz, hdec, hal⟩ := hrel
  by_cases hlt : k < l.length
  ·obtain ⟨c, hc⟩ : ∃ c, l[k] = c := ⟨_, rfl⟩
   have hc' := Lib.hid hc
   have hhl := Lib.hid (@hard_len l k)
   go_wp2_with (first
    | (go_at_call 94; ((with_reducible refine (prefix_c _ _ _).mono ?_); rintro e w1 ⟨rfl, rfl⟩))
    | (go_at_call 135; ((with_reducible refine (write_l _ _ acc _ _ hI (by simp; omega) (by omega)).mono ?_); rintro e w5 ⟨rfl, hI5, hb5, _⟩))
    | (go_at_call 202; ((with_reducible refine (byte_l _ _ acc c _ hI (by omega) (by omega)).mono ?_); rintro e w5 ⟨rfl, hI5, hb5, _⟩))
    | (go_at_call 202; ((with_reducible refine (byte_34 _ _ acc _ hI (by omega) (by omega)).mono ?_); rintro e w5 ⟨rfl, hI5, hb5, _⟩)))
   all_goals (simp only [beq_iff_eq, beq_eq_false_iff_ne, ne_eq] at *)
   all_goals first
    | (refine ⟨⟨k + 1, acc ++ _, rfl, by omega, hI5, hbw.trans hb5, by have := hb5.size; omega, wr_at hlt hc'.out hdec.out (hard_no hlt hc'.out (by omega)) (esc38 (by omega)), by simp; omega⟩, by simp [intOf]; omega⟩)
    | (refine ⟨⟨k + 1, acc ++ _, rfl, by omega, hI5, hbw.trans hb5, by have := hb5.size; omega, wr_at hlt hc'.out hdec.out (hard_no hlt hc'.out (by omega)) (esc60 (by omega)), by simp; omega⟩, by simp [intOf]; omega⟩)
    | (refine ⟨⟨k + 1, acc ++ _, rfl, by omega, hI5, hbw.trans hb5, by have := hb5.size; omega, wr_at hlt hc'.out hdec.out (hard_no hlt hc'.out (by omega)) (esc62 (by omega)), by simp; omega⟩, by simp [intOf]; omega⟩)
    | (refine ⟨⟨k + 1, acc ++ _, rfl, by omega, hI5, hbw.trans hb5, by have := hb5.size; omega, wr_at hlt hc'.out hdec.out (hard_no hlt hc'.out (by omega)) (esc34 (by omega)), by simp; omega⟩, by simp [intOf]; omega⟩)
    | (refine ⟨⟨k + 1, acc ++ _, rfl, by omega, hI5, hbw.trans hb5, by have := hb5.size; omega, wr_at hlt hc'.out hdec.out (hard_no hlt hc'.out (by omega)) (esc34f (by omega)), by simp; omega⟩, by simp [intOf]; omega⟩)
    | (refine ⟨⟨k + 1, acc ++ _, rfl, by omega, hI5, hbw.trans hb5, by have := hb5.size; omega, wr_at hlt hc'.out hdec.out (by assumption) (escNo (by omega) (by omega) (by omega) (by simp; try omega)), by simp; omega⟩, by simp [intOf]; omega⟩)
    | (have h2 := hhl.out (by assumption); refine ⟨⟨k + 1 + 1, acc ++ _, by first | rfl | (congr 1; omega), by omega, hI5, hbw.trans hb5, by have := hb5.size; omega, wr_hard hdec.out (by assumption), by simp; omega⟩, by simp [intOf]; omega⟩)
    | skip
  ·have hd : wrL false l = acc := by
    rw [hdec.out, List.drop_eq_nil_of_le (by omega)]
    simp [wrL]
   have hd := Lib.hid hd
   rename_i hd0
   clear hd0
   go_wp2_with (go_at_call 138; ((with_reducible refine (Tryz.Builder_String_any_k _ _ _ _ hI (by omega)).mono ?_); rintro e w3 ⟨rfl, _, hb3, _⟩))
   go_ret
   rw [hd.out]
   exact ⟨rfl, hbw.trans hb3⟩
theorem text_c (l : List UInt8) (hl : l.length ≤ 1000000000) (w : World) :
 Calls Tryz.prog 136 #[.string ⟨l.toArray⟩] w fun e w' => e = .returned (.string ⟨(wrL false l).toArray⟩) ∧ Below w.heap.size w w' := by
 go_enter Tryz.func136, Tryz.ntmps136
 go_wp2_with (go_at_call 175; ((with_reducible refine (written_false l hl _).mono ?_); rintro e w3 ⟨rfl, hb3⟩))
 go_ret
 exact ⟨rfl, hb3⟩
end Go.Proofs.YtkcmghlhpbepcaaGreatDoor

/- Rows of texts and of numbers at a block. -/
namespace Go.Proofs.YtkcmghlhpbepcaaGreatDoor
open Go.RowKit Go.Proofs
theorem new_cells (w : World) (cs : Array Value) (t : TypeId) : (w.alloc (.cells cs t)).heap[w.heap.size]? = some (.cells cs t (0, 0)) := by
 show (w.heap.push _)[w.heap.size]? = _
 simp
def TextsAt (b n : Nat) (L : List (List UInt8)) (w : World) : Prop := ∀ k, k < n → w.cell? ⟨b, k, none⟩ = some (.string ⟨(L.getD k []).toArray⟩)
def IntsAt (b n : Nat) (L : List Int) (w : World) : Prop := ∀ k, k < n → w.cell? ⟨b, k, none⟩ = some (.int .i64 (L.getD k 0))
theorem TextsAt.below {b n : Nat} {L : List (List UInt8)} {w w' : World} (h : TextsAt b n L w) (hb : Below w.heap.size w w') : TextsAt b n L w' := fun k hk => cell_keep (h k hk) hb
theorem IntsAt.below {b n : Nat} {L : List Int} {w w' : World} (h : IntsAt b n L w) (hb : Below w.heap.size w w') : IntsAt b n L w' := fun k hk => cell_keep (h k hk) hb
theorem TextsAt.of {b n : Nat} {L : List (List UInt8)} {w : World} {cs : Array Value} {t : TypeId} {fr : Nat × Nat} (h : w.heap[b]? = some (.cells cs t fr)) (hc : cs.toList = L.map fun l => Value.string ⟨l.toArray⟩) (hn : n ≤ L.length) : TextsAt b n L w := by
 intro k hk
 rw [Lib.cell_of_heap h, ← Array.getElem?_toList, hc, List.getElem?_map, List.getElem?_eq_getElem (show k < L.length by omega)]
 simp [List.getD, List.getElem?_eq_getElem (show k < L.length by omega)]
theorem IntsAt.of {b n : Nat} {L : List Int} {w : World} {cs : Array Value} {t : TypeId} {fr : Nat × Nat} (h : w.heap[b]? = some (.cells cs t fr)) (hc : cs.toList = L.map fun l => Value.int .i64 l) (hn : n ≤ L.length) : IntsAt b n L w := by
 intro k hk
 rw [Lib.cell_of_heap h, ← Array.getElem?_toList, hc, List.getElem?_map, List.getElem?_eq_getElem (show k < L.length by omega)]
 simp [List.getD, List.getElem?_eq_getElem (show k < L.length by omega)]
end Go.Proofs.YtkcmghlhpbepcaaGreatDoor

/- A row of bytes that the call itself owns: appended to, and made a text. -/
namespace Go.Proofs.YtkcmghlhpbepcaaGreatDoor
open Go.RowKit Go.Proofs
def Bts (w : World) (base : Nat) (v : Value) (l : List UInt8) : Prop := w.ownsRow base 5 1 v l.length (Lib.byteCells l)
theorem Bts.below {w w1 : World} {base : Nat} {v : Value} {l : List UInt8} (h : Bts w base v l) (hb : Below w.heap.size w w1) : Bts w1 base v l :=
 World.ownsRow.kept h (grown_of_below hb none) (by cases hv : v.ownBlock <;> simp)
theorem Bts.nil (w : World) (base : Nat) : Bts w base (.slice none 0 0) [] := World.ownsRow_nil _ _ _ _
theorem Bts.new (w : World) (base : Nat) (hB : base ≤ w.heap.size) : Bts (w.alloc (.cells #[] 5)) base (.slice (some ⟨w.heap.size, 0, none⟩) 0 0) [] :=
 ⟨rfl, .inr ⟨w.heap.size, 0, #[], rfl, hB, new_cells _ _ _, Nat.le_refl _, by unfold maxLen; omega, rfl, rfl⟩⟩
theorem own_base {w : World} {base : Nat} {e : TypeId} {size n : Nat} {v : Value} {xs : List Value} (h : w.ownsRow base e size v n xs) {k : Nat} (hk : v.ownBlock = some k) : base ≤ k := by
 rcases h.2 with ⟨rfl, _⟩ | ⟨g, cap, cur, rfl, hb, _⟩
 ·simp [Value.ownBlock] at hk
 ·have : g = k := by simpa [Value.ownBlock] using hk
  omega
end Go.Proofs.YtkcmghlhpbepcaaGreatDoor

/- Contracts of package fold: Space, Letter, Lower, Same, Trim. Nothing that lay in memory turns. -/
namespace Go.Proofs.YtkcmghlhpbepcaaGreatDoor
open Go.RowKit Go.Proofs
def spaceI (n : Int) : Bool := n == 32 || n == 9 || n == 10 || n == 12 || n == 13
def letterI (n : Int) : Bool := (decide (97 ≤ n) && decide (n ≤ 122)) || (decide (65 ≤ n) && decide (n ≤ 90))
theorem spaceI_u8 (c : UInt8) : spaceI c.toNat = spaceB c := by
 have := all_u8 (p := fun c => spaceI c.toNat == spaceB c) (by decide +kernel) c
 simpa using this
theorem letterI_u8 (c : UInt8) : letterI c.toNat = letterB c := by
 have := all_u8 (p := fun c => letterI c.toNat == letterB c) (by decide +kernel) c
 simpa using this
theorem space_i (n : Int) (w : World) :
 Calls Tryz.prog 128 #[.int .u8 n] w fun e w' => e = .returned (.bool (spaceI n)) ∧ w = w' := by
 go_enter Tryz.func128, Tryz.ntmps128
 go_wp2
 all_goals go_ret
 all_goals (refine ⟨ret_b ?_, rfl⟩; simp_all [spaceI])
theorem letter_i (n : Int) (w : World) :
 Calls Tryz.prog 80 #[.int .u8 n] w fun e w' => e = .returned (.bool (letterI n)) ∧ w = w' := by
 go_enter Tryz.func80, Tryz.ntmps80
 go_wp2
 all_goals go_ret
 all_goals (refine ⟨ret_b ?_, rfl⟩; simp_all [letterI]; try omega)
end Go.Proofs.YtkcmghlhpbepcaaGreatDoor
