/- Lemmas and walks, part 6: QBld, QDec, QDecode, QWrite, QTab, QOwn, QFold, QSpan, QLower, QTrim, QTokH, QTokQ, QAttr, QAttrB, QOpened. -/
import Derived.Test.YtdnbaliibiginaaDoorProg
import Derived.Shelf.Strings.BuilderK
import Derived.WalkKit
import Derived.BigCall
import Derived.Test.YtdnbaliibiginaaDoorY5
import Derived.Lib.Builder
import Derived.Lib.AppendStr
import Derived.Laws.AppendOwn
import Derived.Lib.ConvBytes
import Derived.Laws.OwnMore
import Derived.Deep.LoopGhost
set_option linter.unusedVariables false
set_option linter.unusedSimpArgs false

/- Contracts of strings.Builder's writing methods at this seat's numbers: behind each call the builder holds the bytes that it held and those that were written; every block that is not the builder's and no row of bytes stands as it stood. Condition: the new length takes at most 2^47 bytes. -/
namespace Go.Proofs.YtdnbaliibiginaaDoor
open Go.RowKit Go.Proofs
theorem bSize : (Tryd.prog.info? 63).map (·.size) = some 2 := by kernel_rfl
theorem bLies : liesAt Tryd.prog Tryd.prog.depth 63 (2 / Tryd.prog.cellsOf 63) 0 63 1 = true := by kernel_rfl
theorem bByte : (Tryd.prog.info? 5).map (fun i => (i.zero, i.size, i.bytes)) = some (some (.int .u8 0), 1, 1) := by kernel_rfl
set_option maxRecDepth 100000 in
theorem copyCheck_used (b : Nat) (w : World) (h0 : w.cell? ⟨b, 0, none⟩ = some (.pointer (some ⟨b, 0, none⟩))) :
  Calls Tryd.prog 71 #[.pointer (some ⟨b, 0, none⟩)] w fun e w' => e = .returned (.tuple #[]) ∧ w' = w := by
 obtain ⟨j, hj, _⟩ := Option.map_eq_some_iff.1 bSize
 go_enter Tryd.func71, Tryd.ntmps71
 go_wp2
 rw [Lib.run_neq_ptr_same w _ Tryd.underlying60 hj]
 go_wp2
 go_end0
 exact ⟨rfl, rfl⟩
set_option maxRecDepth 100000 in
theorem copyCheck_fresh (b : Nat) (w : World) (h0 : w.cell? ⟨b, 0, none⟩ = some (.pointer none)) (hsh : w.shape? b = some (63, 2)) (hfz : w.frozen? ⟨b, 0, none⟩ = false) :
  Calls Tryd.prog 71 #[.pointer (some ⟨b, 0, none⟩)] w fun e w' => e = .returned (.tuple #[]) ∧ w' = w.setCell ⟨b, 0, none⟩ (.pointer (some ⟨b, 0, none⟩)) := by
 obtain ⟨j, hj, hjs⟩ := Option.map_eq_some_iff.1 bSize
 go_enter Tryd.func71, Tryd.ntmps71
 go_wp2
 rw [Lib.run_to_unsafe w ⟨b, 0, none⟩ Tryd.underlying60 Tryd.underlying94 hj (by rw [hjs]; decide) hsh (Nat.zero_lt_succ 1)]
 simp only [Result.andThen]
 rw [Oper.upon_value]
 go_wp2
 rw [run_callFunc_extern Tryd.func98 (by kernel_rfl) (by kernel_rfl) (by kernel_rfl) (e := Extern.AbiNoEscape.same) (by kernel_rfl)]
 rw [Lib.run_noEscape]
 simp only [Result.andThen]
 rw [Oper.upon_value]
 go_wp2
 rw [Lib.run_from_unsafe w ⟨b, 0, none⟩ Tryd.underlying94 Tryd.underlying60 hj hsh bLies]
 simp only [Result.andThen]
 rw [Oper.upon_value]
 go_wp2
 go_end0
 exact ⟨rfl, rfl⟩
theorem copyCheck_k (B b : Nat) (bs : List Value) (w : World) (h : Lib.IsBuilderF 63 5 B b bs w) :
  Calls Tryd.prog 71 #[.pointer (some ⟨b, 0, none⟩)] w fun e w' => e = .returned (.tuple #[]) ∧ (Lib.BuilderAtF 63 5 B b (.pointer (some ⟨b, 0, none⟩)) bs w' ∧ Below B w w' ∧ Lib.OthersKept 5 (some b) w w') := by
 rcases h with h | h
 ·refine (copyCheck_fresh b w h.cell0 h.shape h.frozen0).mono ?_
  rintro e w' ⟨rfl, rfl⟩
  exact ⟨rfl, h.used _, (Below.refl B w).setCell (p := ⟨b, 0, none⟩) h.1 _, (Lib.OthersKept.refl _ _ w).setCell ⟨b, 0, none⟩ rfl _⟩
 ·refine (copyCheck_used b w h.cell0).mono ?_
  rintro e w' ⟨rfl, rfl⟩
  exact ⟨rfl, h, Below.refl B _, Lib.OthersKept.refl _ _ _⟩
set_option maxHeartbeats 2000000 in
set_option maxRecDepth 100000 in
theorem writeByte_k (B b : Nat) (bs : List Value) (c : Int) (w : World) (h : Lib.IsBuilderF 63 5 B b bs w) (hlen : bs.length + 1 ≤ 140737488355328) (hBw : B ≤ w.heap.size) :
  Calls Tryd.prog 99 #[.pointer (some ⟨b, 0, none⟩), .int .u8 c] w fun e w' => e = .returned .nilIface ∧ (Lib.IsBuilderF 63 5 B b (bs ++ [.int .u8 c]) w' ∧ Below B w w' ∧ Lib.OthersKept 5 (some b) w w') := by
 obtain ⟨i0, hi, hz0, hz1, hz2⟩ := info_parts bByte
 go_enter Tryd.func99, Tryd.ntmps99
 go_wp2_with (go_at_call 71; refine (copyCheck_k B b bs _ h).mono ?_)
 rintro e w1 ⟨rfl, h1, hb1, hk1⟩
 obtain ⟨hB, v, hbk, hown, hne⟩ := h1
 have c0 : w1.cell? ⟨b, 0, none⟩ = some (.pointer (some ⟨b, 0, none⟩)) := by rw [Lib.cell_of_heap hbk]; rfl
 have c1 : w1.cell? ⟨b, 1, none⟩ = some v := by rw [Lib.cell_of_heap hbk]; rfl
 go_wp2_with (at_builtin; refine wpList_append_ownF _ rfl _ _ 61 rfl B 5 i0 (.int .u8 0) 1 1 Tryd.underlying61 hi hz0 hz1 hz2 rfl (by decide) _ _ _ rfl (hown.alloc _) ⟨w1.heap.size, 0, none⟩ 1 1 [.int .u8 c] rfl rfl ?c1 ?c2 ?c3 ?c4 ?c5 ?_)
 case c1 =>
  intro j u hj
  match j, hj with
  | 0, hj => simp at hj; subst hj; simp [Addr.add]
 case c2 => intro u hu; simp at hu; subst hu; rfl
 case c3 => unfold maxLen; omega
 case c4 => omega
 case c5 => have := hb1.size; simp; omega
 intro v' w2 hown' hgrow _
 have hlt : b < w1.heap.size := by
  rcases Nat.lt_or_ge b w1.heap.size with h' | h'
  ·exact h'
  ·simp [Array.getElem?_eq_none h'] at hbk
 have hb2 : w2.heap[b]? = some (.cells #[.pointer (some ⟨b, 0, none⟩), v] 63 (0, 0)) := by
  rw [hgrow.block b (by simp; omega) (fun e => hne e.symm), Lib.alloc_old w1 _ b hlt]
  exact hbk
 have d0 : w2.cell? ⟨b, 0, none⟩ = some (.pointer (some ⟨b, 0, none⟩)) := by rw [Lib.cell_of_heap hb2]; rfl
 have d1 : w2.cell? ⟨b, 1, none⟩ = some v := by rw [Lib.cell_of_heap hb2]; rfl
 have f1 : w2.frozen? ⟨b, 1, none⟩ = false := Lib.frozen_of_heap hb2 1
 obtain ⟨g, cap, rfl⟩ : ∃ g cap, v' = .slice (some ⟨g, 0, none⟩) (bs.length + 1) cap := by
  rcases hown'.2 with ⟨_, h0⟩ | ⟨g, cap, cur, fz, hv, _⟩
  ·omega
  ·exact ⟨g, cap, hv⟩
 go_wp2
 go_ret
 refine ⟨rfl, Or.inr ?_, ?_, ((hk1.alloc _).grown hgrow (Lib.ownsRowF_kind (hown.alloc _))).setCell ⟨b, 1, none⟩ rfl _⟩
 ·exact Lib.BuilderAtF.put (T := 63) (e := 5) hB hb2 (bs' := bs ++ [.int .u8 c]) (by simpa using hown') (by decide)
 ·exact ((hb1.alloc (by have := hb1.size; omega) _).grown hgrow (by have := hb1.size; simp; omega) (fun k hk => (hown.lt k hk).1)).setCell (p := ⟨b, 1, none⟩) hB _
set_option maxHeartbeats 2000000 in
set_option maxRecDepth 100000 in
theorem writeString_k (B b : Nat) (bs : List Value) (s : ByteArray) (w : World) (h : Lib.IsBuilderF 63 5 B b bs w) (hlen : bs.length + s.size ≤ 140737488355328) (hBw : B ≤ w.heap.size) :
  Calls Tryd.prog 43 #[.pointer (some ⟨b, 0, none⟩), .string s] w fun e w' => e = .returned (.tuple #[.int .i64 s.size, .nilIface]) ∧ (Lib.IsBuilderF 63 5 B b (bs ++ Lib.strCells s) w' ∧ Below B w w' ∧ Lib.OthersKept 5 (some b) w w') := by
 obtain ⟨i0, hi, hz0, hz1, hz2⟩ := info_parts bByte
 go_enter Tryd.func43, Tryd.ntmps43
 go_wp2_with (go_at_call 71; refine (copyCheck_k B b bs _ h).mono ?_)
 rintro e w1 ⟨rfl, h1, hb1, hk1⟩
 obtain ⟨hB, v, hbk, hown, hne⟩ := h1
 have c0 : w1.cell? ⟨b, 0, none⟩ = some (.pointer (some ⟨b, 0, none⟩)) := by rw [Lib.cell_of_heap hbk]; rfl
 have c1 : w1.cell? ⟨b, 1, none⟩ = some v := by rw [Lib.cell_of_heap hbk]; rfl
 go_wp2_with (at_builtin; refine Lib.wpList_append_own_stringF _ rfl _ _ 61 9 rfl B 5 i0 Tryd.underlying61 Tryd.underlying9 hi hz0 hz1 hz2 _ _ _ rfl hown s rfl ?c3 ?c4 ?c5 ?_)
 case c3 => unfold maxLen; omega
 case c4 => omega
 case c5 => have := hb1.size; omega
 intro v' w2 hown' hgrow _
 have hlt : b < w1.heap.size := by
  rcases Nat.lt_or_ge b w1.heap.size with h' | h'
  ·exact h'
  ·simp [Array.getElem?_eq_none h'] at hbk
 have hb2 : w2.heap[b]? = some (.cells #[.pointer (some ⟨b, 0, none⟩), v] 63 (0, 0)) := by
  rw [hgrow.block b hlt (fun e => hne e.symm)]
  exact hbk
 have d0 : w2.cell? ⟨b, 0, none⟩ = some (.pointer (some ⟨b, 0, none⟩)) := by rw [Lib.cell_of_heap hb2]; rfl
 have d1 : w2.cell? ⟨b, 1, none⟩ = some v := by rw [Lib.cell_of_heap hb2]; rfl
 have f1 : w2.frozen? ⟨b, 1, none⟩ = false := Lib.frozen_of_heap hb2 1
 obtain ⟨ao, n', cap, rfl⟩ : ∃ ao n' cap, v' = .slice ao n' cap := by
  rcases hown'.2 with ⟨hv, _⟩ | ⟨g, cap, cur, fz, hv, _⟩
  ·exact ⟨_, _, _, hv⟩
  ·exact ⟨_, _, _, hv⟩
 go_wp2
 go_ret2
 refine ⟨rfl, Or.inr ?_, ?_, (hk1.grown hgrow (Lib.ownsRowF_kind hown)).setCell ⟨b, 1, none⟩ rfl _⟩
 ·exact Lib.BuilderAtF.put (T := 63) (e := 5) hB hb2 (bs' := bs ++ Lib.strCells s) (by simpa [Lib.strCells_length] using hown') (by decide)
 ·exact (hb1.grown hgrow (by have := hb1.size; omega) (fun k hk => (hown.lt k hk).1)).setCell (p := ⟨b, 1, none⟩) hB _
end Go.Proofs.YtdnbaliibiginaaDoor

/- Contracts of refs.kind and refs.meant, and of strings.Cut at a byte. -/
namespace Go.Proofs.YtdnbaliibiginaaDoor
open Go.RowKit Go.Proofs
theorem prefix_c (l p : List UInt8) (w : World) :
  Calls Tryd.prog 62 #[.string ⟨l.toArray⟩, .string ⟨p.toArray⟩] w fun e w' => e = .returned (.bool (Lib.hasPrefix l p)) ∧ w = w' := by
 refine (Tryd.strings_HasPrefix ⟨l.toArray⟩ ⟨p.toArray⟩ w).mono ?_
 rintro e w' ⟨rfl, rfl⟩
 exact ⟨rfl, rfl⟩
theorem pre_len {l p : List UInt8} (h : Lib.hasPrefix l p = true) : p.length ≤ l.length := (List.isPrefixOf_iff_prefix.1 h).length_le
theorem bytes_str (l : List UInt8) : Lib.strCells ⟨l.toArray⟩ = Lib.byteCells l := by
 unfold Lib.strCells Lib.byteCells
 simp
theorem write_l (B b : Nat) (acc l : List UInt8) (w : World) (h : Lib.IsBuilderF 63 5 B b (Lib.byteCells acc) w) (hlen : acc.length + l.length ≤ 140737488355328) (hBw : B ≤ w.heap.size) :
  Calls Tryd.prog 43 #[.pointer (some ⟨b, 0, none⟩), .string ⟨l.toArray⟩] w fun e w' => e = .returned (.tuple #[.int .i64 l.length, .nilIface]) ∧ (Lib.IsBuilderF 63 5 B b (Lib.byteCells (acc ++ l)) w' ∧ Below B w w' ∧ Lib.OthersKept 5 (some b) w w') := by
 refine (writeString_k B b _ ⟨l.toArray⟩ w h (by rw [Lib.byteCells_length, mk_size]; exact hlen) hBw).mono ?_
 rintro e w' ⟨rfl, h1, h2, h3⟩
 rw [mk_size]
 rw [bytes_str, ← Lib.byteCells_append] at h1
 exact ⟨rfl, h1, h2, h3⟩
end Go.Proofs.YtdnbaliibiginaaDoor

/- Contract of refs.Decode: a text with characters in the place of their references; nothing that lay in memory turns. Condition: at most 10^9 bytes. -/
namespace Go.Proofs.YtdnbaliibiginaaDoor
open Go.RowKit Go.Proofs
theorem grown_of_below {w w1 : World} (h : Below w.heap.size w w1) (row : Option Nat) : w.grownBy w1 row := ⟨h.os, h.tape, h.output, h.size, fun i hi _ => h.block i hi⟩
theorem bld_below {T e : TypeId} {B b : Nat} {bs : List Value} {w w1 : World} (h : Lib.IsBuilderF T e B b bs w) (hb : Below w.heap.size w w1) : Lib.IsBuilderF T e B b bs w1 := by
 have key : ∀ p, Lib.BuilderAtF T e B b p bs w → Lib.BuilderAtF T e B b p bs w1 := by
  intro p hp
  have hlt := hp.lt
  obtain ⟨hB, v, hv, hown, hne⟩ := hp
  exact ⟨hB, v, (hb.block b hlt).trans hv, hown.kept (grown_of_below hb none) (by cases hv : v.ownBlock <;> simp), hne⟩
 exact h.elim (fun x => .inl (key _ x)) (fun x => .inr (key _ x))
def strLen : Value → Nat | .string s => s.size | _ => 0
theorem bld_new (B : Nat) (w : World) (h : B ≤ w.heap.size) : Lib.IsBuilderF 63 5 B w.heap.size (Lib.byteCells []) (w.alloc (.cells #[.pointer none, .slice none 0 0] 63)) := by
 refine .inl ⟨h, .slice none 0 0, ?_, World.ownsRowF_nil _ _ _ _, by simp [Value.ownBlock]⟩
 show (w.heap.push _)[w.heap.size]? = _
 simp
def DecRel (l : List UInt8) (w : World) (v : Value) (wr : World) : Prop :=
 ∃ (rest acc : List UInt8), v = .string ⟨rest.toArray⟩ ∧ Lib.IsBuilderF 63 5 w.heap.size w.heap.size (Lib.byteCells acc) wr ∧ Below w.heap.size w wr ∧ w.heap.size < wr.heap.size ∧ decL l = acc ++ decL rest ∧ rest.length ≤ l.length ∧ acc.length + 5 * rest.length ≤ 5 * l.length
end Go.Proofs.YtdnbaliibiginaaDoor

/- Contracts of refs.written, Text and Value: a text with what may not stand so written out; nothing that lay in memory turns. Condition: at most 10^9 bytes. -/
namespace Go.Proofs.YtdnbaliibiginaaDoor
open Go.RowKit Go.Proofs
def escL (q : Bool) (c : UInt8) : List UInt8 :=
 if c = 38 then [38, 97, 109, 112, 59] else if c = 60 then [38, 108, 116, 59] else if c = 62 then [38, 103, 116, 59] else if c = 34 ∧ q = true then [38, 113, 117, 111, 116, 59] else [c]
def wrL (q : Bool) : List UInt8 → List UInt8
 | [] => []
 | [c] => escL q c
 | c :: d :: l => if c = 194 ∧ d = 160 then [38, 110, 98, 115, 112, 59] ++ wrL q l else escL q c ++ wrL q (d :: l)
def hardL (l : List UInt8) : Bool := Lib.hasPrefix l [194, 160]
theorem wrL_hard {q : Bool} {l : List UInt8} (h : hardL l = true) : wrL q l = [38, 110, 98, 115, 112, 59] ++ wrL q (l.drop 2) := by
 obtain ⟨r, rfl⟩ := List.isPrefixOf_iff_prefix.1 h
 simp [wrL]
theorem wrL_step {q : Bool} {c : UInt8} {l : List UInt8} (h : hardL (c :: l) = false) : wrL q (c :: l) = escL q c ++ wrL q l := by
 cases l with
 | nil => simp [wrL]
 | cons d l =>
  rw [wrL, if_neg]
  rintro ⟨rfl, rfl⟩
  simp [hardL, Lib.hasPrefix] at h
theorem u8_eq {c : UInt8} {n : Nat} (h : c.toNat = n) (hn : n < 256) : c = UInt8.ofNat n := by
 apply UInt8.toNat_inj.1
 rw [h]
 simp [Nat.mod_eq_of_lt hn]
theorem esc38 {q : Bool} {c : UInt8} (h : c.toNat = 38) : escL q c = [38, 97, 109, 112, 59] := by rw [u8_eq h (by omega)]; rfl
theorem esc60 {q : Bool} {c : UInt8} (h : c.toNat = 60) : escL q c = [38, 108, 116, 59] := by rw [u8_eq h (by omega)]; rfl
theorem esc62 {q : Bool} {c : UInt8} (h : c.toNat = 62) : escL q c = [38, 103, 116, 59] := by rw [u8_eq h (by omega)]; rfl
theorem esc34 {c : UInt8} (h : c.toNat = 34) : escL true c = [38, 113, 117, 111, 116, 59] := by rw [u8_eq h (by omega)]; rfl
theorem escNo {q : Bool} {c : UInt8} (h1 : c.toNat ≠ 38) (h2 : c.toNat ≠ 60) (h3 : c.toNat ≠ 62) (h4 : ¬ (c.toNat = 34 ∧ q = true)) : escL q c = [c] := by
 unfold escL
 rw [if_neg (fun e => h1 (by rw [e]; rfl)), if_neg (fun e => h2 (by rw [e]; rfl)), if_neg (fun e => h3 (by rw [e]; rfl)), if_neg (fun e => h4 ⟨by rw [e.1]; rfl, e.2⟩)]
theorem wr_at {q : Bool} {l acc : List UInt8} {k : Nat} {c : UInt8} (hk : k < l.length) (hc : l[k] = c) (hdec : wrL q l = acc ++ wrL q (l.drop k)) (h : hardL (l.drop k) = false) {e : List UInt8} (he : escL q c = e) : wrL q l = (acc ++ e) ++ wrL q (l.drop (k + 1)) := by
 have hd : l.drop k = c :: l.drop (k + 1) := by rw [← hc]; exact List.drop_eq_getElem_cons hk
 rw [hd] at h hdec
 rw [hdec, wrL_step h, he, List.append_assoc]
theorem hard_no {l : List UInt8} {k : Nat} {c : UInt8} (hk : k < l.length) (hc : l[k] = c) (h : c.toNat ≠ 194) : hardL (l.drop k) = false := by
 have hd : l.drop k = c :: l.drop (k + 1) := by rw [← hc]; exact List.drop_eq_getElem_cons hk
 rw [hd]
 have : (194 : UInt8) ≠ c := fun e => h (by rw [← e]; rfl)
 simp [hardL, Lib.hasPrefix, List.isPrefixOf, this]
theorem wr_hard {q : Bool} {l acc : List UInt8} {k : Nat} (hdec : wrL q l = acc ++ wrL q (l.drop k)) (h : hardL (l.drop k) = true) : wrL q l = (acc ++ [38, 110, 98, 115, 112, 59]) ++ wrL q (l.drop (k + 1 + 1)) := by
 rw [hdec, wrL_hard h, List.drop_drop, List.append_assoc]
theorem hard_len {l : List UInt8} {k : Nat} (h : hardL (l.drop k) = true) : k + 2 ≤ l.length := by
 have := pre_len h
 simp at this
 omega
theorem byte_l (B b : Nat) (acc : List UInt8) (c : UInt8) (w : World) (h : Lib.IsBuilderF 63 5 B b (Lib.byteCells acc) w) (hlen : acc.length + 1 ≤ 140737488355328) (hBw : B ≤ w.heap.size) :
  Calls Tryd.prog 99 #[.pointer (some ⟨b, 0, none⟩), .int .u8 c.toNat] w fun e w' => e = .returned .nilIface ∧ (Lib.IsBuilderF 63 5 B b (Lib.byteCells (acc ++ [c])) w' ∧ Below B w w' ∧ Lib.OthersKept 5 (some b) w w') := by
 refine (writeByte_k B b _ c.toNat w h (by rw [Lib.byteCells_length]; exact hlen) hBw).mono ?_
 rintro e w' ⟨rfl, h1, h2, h3⟩
 exact ⟨rfl, by rw [Lib.byteCells_append]; exact h1, h2, h3⟩
theorem esc34f {c : UInt8} (h : c.toNat = 34) : escL false c = [34] := by rw [u8_eq h (by omega)]; rfl
theorem byte_34 (B b : Nat) (acc : List UInt8) (w : World) (h : Lib.IsBuilderF 63 5 B b (Lib.byteCells acc) w) (hlen : acc.length + 1 ≤ 140737488355328) (hBw : B ≤ w.heap.size) :
  Calls Tryd.prog 99 #[.pointer (some ⟨b, 0, none⟩), .int .u8 34] w fun e w' => e = .returned .nilIface ∧ (Lib.IsBuilderF 63 5 B b (Lib.byteCells (acc ++ [34])) w' ∧ Below B w w' ∧ Lib.OthersKept 5 (some b) w w') := byte_l B b acc 34 w h hlen hBw
set_option maxHeartbeats 1000000 in
set_option maxRecDepth 100000 in
theorem written_false (l : List UInt8) (hl : l.length ≤ 1000000000) (w : World) :
  Calls Tryd.prog 72 #[.string ⟨l.toArray⟩, .bool false] w fun e w' => e = .returned (.string ⟨(wrL false l).toArray⟩) ∧ Below w.heap.size w w' := by
 go_enter Tryd.func72, Tryd.ntmps72
 go_wp2
 go_loopw [6] (fun v wr => ∃ (k : Nat) (acc : List UInt8), v = .int .i64 k ∧ k ≤ l.length ∧ Lib.IsBuilderF 63 5 w.heap.size w.heap.size (Lib.byteCells acc) wr ∧ Below w.heap.size w wr ∧ w.heap.size < wr.heap.size ∧ Hid (wrL false l = acc ++ wrL false (l.drop k)) ∧ acc.length ≤ 6 * k) (fun v _ => l.length - (intOf v).toNat)
 case atStart =>
  exact ⟨0, [], rfl, by omega, bld_new _ _ (Nat.le_refl _), (Below.refl _ w).alloc (Nat.le_refl _) _, by simp, rfl, by simp⟩
 case round =>
  obtain ⟨k, acc, rfl, hk, hI, hbw, hsz, hdec, hal⟩ := hrel
  by_cases hlt : k < l.length
  ·obtain ⟨c, hc⟩ : ∃ c, l[k] = c := ⟨_, rfl⟩
   have hc' := Lib.hid hc
   have hhl := Lib.hid (@hard_len l k)
   go_wp2_with (first
    | (go_at_call 62; ((with_reducible refine (prefix_c _ _ _).mono ?_); rintro e w1 ⟨rfl, rfl⟩))
    | (go_at_call 43; ((with_reducible refine (write_l _ _ acc _ _ hI (by simp; omega) (by omega)).mono ?_); rintro e w5 ⟨rfl, hI5, hb5, _⟩))
    | (go_at_call 99; ((with_reducible refine (byte_l _ _ acc c _ hI (by omega) (by omega)).mono ?_); rintro e w5 ⟨rfl, hI5, hb5, _⟩))
    | (go_at_call 99; ((with_reducible refine (byte_34 _ _ acc _ hI (by omega) (by omega)).mono ?_); rintro e w5 ⟨rfl, hI5, hb5, _⟩)))
   all_goals (simp only [beq_iff_eq, beq_eq_false_iff_ne, ne_eq] at *)
   all_goals first
    | (refine ⟨⟨k + 1, acc ++ _, rfl, by omega, hI5, hbw.trans hb5, by have := hb5.size; omega, wr_at hlt hc'.out hdec.out (hard_no hlt hc'.out (by omega)) (esc38 (by omega)), by simp; omega⟩, by simp [intOf]; omega⟩)
    | (refine ⟨⟨k + 1, acc ++ _, rfl, by omega, hI5, hbw.trans hb5, by have := hb5.size; omega, wr_at hlt hc'.out hdec.out (hard_no hlt hc'.out (by omega)) (esc60 (by omega)), by simp; omega⟩, by simp [intOf]; omega⟩)
    | (refine ⟨⟨k + 1, acc ++ _, rfl, by omega, hI5, hbw.trans hb5, by have := hb5.size; omega, wr_at hlt hc'.out hdec.out (hard_no hlt hc'.out (by omega)) (esc62 (by omega)), by simp; omega⟩, by simp [intOf]; omega⟩)
    | (refine ⟨⟨k + 1, acc ++ _, rfl, by omega, hI5, hbw.trans hb5, by have := hb5.size; omega, wr_at hlt hc'.out hdec.out (hard_no hlt hc'.out (by omega)) (esc34 (by omega)), by simp; omega⟩, by simp [intOf]; omega⟩)
    | (refine ⟨⟨k + 1, acc ++ _, rfl, by omega, hI5, hbw.trans hb5, by have := hb5.size; omega, wr_at hlt hc'.out hdec.out (hard_no hlt hc'.out (by omega)) (esc34f (by omega)), by simp; omega⟩, by simp [intOf]; omega⟩)
    | (refine ⟨⟨k + 1, acc ++ _, rfl, by omega, hI5, hbw.trans hb5, by have := hb5.size; omega, wr_at hlt hc'.out hdec.out (by assumption) (escNo (by omega) (by omega) (by omega) (by simp; try omega)), by simp; omega⟩, by simp [intOf]; omega⟩)
    | (have h2 := hhl.out (by assumption); refine ⟨⟨k + 1 + 1, acc ++ _, by first | rfl | (congr 1; omega), by omega, hI5, hbw.trans hb5, by have := hb5.size; omega, wr_hard hdec.out (by assumption), by simp; omega⟩, by simp [intOf]; omega⟩)
    | skip
  ·have hd : wrL false l = acc := by
    rw [hdec.out, List.drop_eq_nil_of_le (by omega)]
    simp [wrL]
   have hd := Lib.hid hd
   rename_i hd0
   clear hd0
   go_wp2_with (go_at_call 46; ((with_reducible refine (Tryd.Builder_String_any_k _ _ _ _ hI (by omega)).mono ?_); rintro e w3 ⟨rfl, _, hb3, _⟩))
   go_ret
   rw [hd.out]
   exact ⟨rfl, hbw.trans hb3⟩
theorem text_c (l : List UInt8) (hl : l.length ≤ 1000000000) (w : World) :
  Calls Tryd.prog 44 #[.string ⟨l.toArray⟩] w fun e w' => e = .returned (.string ⟨(wrL false l).toArray⟩) ∧ Below w.heap.size w w' := by
 go_enter Tryd.func44, Tryd.ntmps44
 go_wp2_with (go_at_call 72; ((with_reducible refine (written_false l hl _).mono ?_); rintro e w3 ⟨rfl, hb3⟩))
 go_ret
 exact ⟨rfl, hb3⟩
set_option maxHeartbeats 1000000 in
set_option maxRecDepth 100000 in
theorem written_true (l : List UInt8) (hl : l.length ≤ 1000000000) (w : World) :
  Calls Tryd.prog 72 #[.string ⟨l.toArray⟩, .bool true] w fun e w' => e = .returned (.string ⟨(wrL true l).toArray⟩) ∧ Below w.heap.size w w' := by
 go_enter Tryd.func72, Tryd.ntmps72
 go_wp2
 go_loopw [6] (fun v wr => ∃ (k : Nat) (acc : List UInt8), v = .int .i64 k ∧ k ≤ l.length ∧ Lib.IsBuilderF 63 5 w.heap.size w.heap.size (Lib.byteCells acc) wr ∧ Below w.heap.size w wr ∧ w.heap.size < wr.heap.size ∧ Hid (wrL true l = acc ++ wrL true (l.drop k)) ∧ acc.length ≤ 6 * k) (fun v _ => l.length - (intOf v).toNat)
 case atStart =>
  exact ⟨0, [], rfl, by omega, bld_new _ _ (Nat.le_refl _), (Below.refl _ w).alloc (Nat.le_refl _) _, by simp, rfl, by simp⟩
 case round =>
  obtain ⟨k, acc, rfl, hk, hI, hbw, hsz, hdec, hal⟩ := hrel
  by_cases hlt : k < l.length
  ·obtain ⟨c, hc⟩ : ∃ c, l[k] = c := ⟨_, rfl⟩
   have hc' := Lib.hid hc
   have hhl := Lib.hid (@hard_len l k)
   go_wp2_with (first
    | (go_at_call 62; ((with_reducible refine (prefix_c _ _ _).mono ?_); rintro e w1 ⟨rfl, rfl⟩))
    | (go_at_call 43; ((with_reducible refine (write_l _ _ acc _ _ hI (by simp; omega) (by omega)).mono ?_); rintro e w5 ⟨rfl, hI5, hb5, _⟩))
    | (go_at_call 99; ((with_reducible refine (byte_l _ _ acc c _ hI (by omega) (by omega)).mono ?_); rintro e w5 ⟨rfl, hI5, hb5, _⟩))
    | (go_at_call 99; ((with_reducible refine (byte_34 _ _ acc _ hI (by omega) (by omega)).mono ?_); rintro e w5 ⟨rfl, hI5, hb5, _⟩)))
   all_goals (simp only [beq_iff_eq, beq_eq_false_iff_ne, ne_eq] at *)
   all_goals first
    | (refine ⟨⟨k + 1, acc ++ _, rfl, by omega, hI5, hbw.trans hb5, by have := hb5.size; omega, wr_at hlt hc'.out hdec.out (hard_no hlt hc'.out (by omega)) (esc38 (by omega)), by simp; omega⟩, by simp [intOf]; omega⟩)
    | (refine ⟨⟨k + 1, acc ++ _, rfl, by omega, hI5, hbw.trans hb5, by have := hb5.size; omega, wr_at hlt hc'.out hdec.out (hard_no hlt hc'.out (by omega)) (esc60 (by omega)), by simp; omega⟩, by simp [intOf]; omega⟩)
    | (refine ⟨⟨k + 1, acc ++ _, rfl, by omega, hI5, hbw.trans hb5, by have := hb5.size; omega, wr_at hlt hc'.out hdec.out (hard_no hlt hc'.out (by omega)) (esc62 (by omega)), by simp; omega⟩, by simp [intOf]; omega⟩)
    | (refine ⟨⟨k + 1, acc ++ _, rfl, by omega, hI5, hbw.trans hb5, by have := hb5.size; omega, wr_at hlt hc'.out hdec.out (hard_no hlt hc'.out (by omega)) (esc34 (by omega)), by simp; omega⟩, by simp [intOf]; omega⟩)
    | (refine ⟨⟨k + 1, acc ++ _, rfl, by omega, hI5, hbw.trans hb5, by have := hb5.size; omega, wr_at hlt hc'.out hdec.out (hard_no hlt hc'.out (by omega)) (esc34f (by omega)), by simp; omega⟩, by simp [intOf]; omega⟩)
    | (refine ⟨⟨k + 1, acc ++ _, rfl, by omega, hI5, hbw.trans hb5, by have := hb5.size; omega, wr_at hlt hc'.out hdec.out (by assumption) (escNo (by omega) (by omega) (by omega) (by simp; try omega)), by simp; omega⟩, by simp [intOf]; omega⟩)
    | (have h2 := hhl.out (by assumption); refine ⟨⟨k + 1 + 1, acc ++ _, by first | rfl | (congr 1; omega), by omega, hI5, hbw.trans hb5, by have := hb5.size; omega, wr_hard hdec.out (by assumption), by simp; omega⟩, by simp [intOf]; omega⟩)
    | skip
  ·have hd : wrL true l = acc := by
    rw [hdec.out, List.drop_eq_nil_of_le (by omega)]
    simp [wrL]
   have hd := Lib.hid hd
   rename_i hd0
   clear hd0
   go_wp2_with (go_at_call 46; ((with_reducible refine (Tryd.Builder_String_any_k _ _ _ _ hI (by omega)).mono ?_); rintro e w3 ⟨rfl, _, hb3, _⟩))
   go_ret
   rw [hd.out]
   exact ⟨rfl, hbw.trans hb3⟩
theorem value_c (l : List UInt8) (hl : l.length ≤ 1000000000) (w : World) :
  Calls Tryd.prog 73 #[.string ⟨l.toArray⟩] w fun e w' => e = .returned (.string ⟨(wrL true l).toArray⟩) ∧ Below w.heap.size w w' := by
 go_enter Tryd.func73, Tryd.ntmps73
 go_wp2_with (go_at_call 72; ((with_reducible refine (written_true l hl _).mono ?_); rintro e w3 ⟨rfl, hb3⟩))
 go_ret
 exact ⟨rfl, hb3⟩
end Go.Proofs.YtdnbaliibiginaaDoor

/- Rows of texts and of numbers at a block. -/
namespace Go.Proofs.YtdnbaliibiginaaDoor
open Go.RowKit Go.Proofs
theorem new_cells (w : World) (cs : Array Value) (t : TypeId) : (w.alloc (.cells cs t)).heap[w.heap.size]? = some (.cells cs t (0, 0)) := by
 show (w.heap.push _)[w.heap.size]? = _
 simp
def TextsAt (b n : Nat) (L : List (List UInt8)) (w : World) : Prop := ∀ k, k < n → w.cell? ⟨b, k, none⟩ = some (.string ⟨(L.getD k []).toArray⟩)
def IntsAt (b n : Nat) (L : List Int) (w : World) : Prop := ∀ k, k < n → w.cell? ⟨b, k, none⟩ = some (.int .i64 (L.getD k 0))
theorem TextsAt.below {b n : Nat} {L : List (List UInt8)} {w w' : World} (h : TextsAt b n L w) (hb : Below w.heap.size w w') : TextsAt b n L w' := fun k hk => cell_keep (h k hk) hb
theorem IntsAt.below {b n : Nat} {L : List Int} {w w' : World} (h : IntsAt b n L w) (hb : Below w.heap.size w w') : IntsAt b n L w' := fun k hk => cell_keep (h k hk) hb
end Go.Proofs.YtdnbaliibiginaaDoor

/- A row of bytes that the call itself owns: appended to, and made a text. -/
namespace Go.Proofs.YtdnbaliibiginaaDoor
open Go.RowKit Go.Proofs
def Bts (w : World) (base : Nat) (v : Value) (l : List UInt8) : Prop := w.ownsRow base 5 1 v l.length (Lib.byteCells l)
theorem Bts.below {w w1 : World} {base : Nat} {v : Value} {l : List UInt8} (h : Bts w base v l) (hb : Below w.heap.size w w1) : Bts w1 base v l :=
 World.ownsRow.kept h (grown_of_below hb none) (by cases hv : v.ownBlock <;> simp)
theorem Bts.nil (w : World) (base : Nat) : Bts w base (.slice none 0 0) [] := World.ownsRow_nil _ _ _ _
theorem Bts.new (w : World) (base : Nat) (hB : base ≤ w.heap.size) : Bts (w.alloc (.cells #[] 5)) base (.slice (some ⟨w.heap.size, 0, none⟩) 0 0) [] :=
 ⟨rfl, .inr ⟨w.heap.size, 0, #[], rfl, hB, new_cells _ _ _, Nat.le_refl _, by unfold maxLen; omega, rfl, rfl⟩⟩
theorem own_base {w : World} {base : Nat} {e : TypeId} {size n : Nat} {v : Value} {xs : List Value} (h : w.ownsRow base e size v n xs) {k : Nat} (hk : v.ownBlock = some k) : base ≤ k := by
 rcases h.2 with ⟨rfl, _⟩ | ⟨g, cap, cur, rfl, hb, _⟩
 ·simp [Value.ownBlock] at hk
 ·have : g = k := by simpa [Value.ownBlock] using hk
  omega
end Go.Proofs.YtdnbaliibiginaaDoor

/- Contracts of package fold: Space, Letter, Lower, Same, Trim. Nothing that lay in memory turns. -/
namespace Go.Proofs.YtdnbaliibiginaaDoor
open Go.RowKit Go.Proofs
def spaceI (n : Int) : Bool := n == 32 || n == 9 || n == 10 || n == 12 || n == 13
def letterI (n : Int) : Bool := (decide (97 ≤ n) && decide (n ≤ 122)) || (decide (65 ≤ n) && decide (n ≤ 90))
end Go.Proofs.YtdnbaliibiginaaDoor

/- Contracts of package token: slashed, letter, the predicates, and span over each of them. Nothing that lay in memory turns. -/
namespace Go.Proofs.YtdnbaliibiginaaDoor
open Go.RowKit Go.Proofs
def slashedI (n : Int) : Bool := spaceI n || n == 47 || n == 62
def op1I (n : Int) : Bool := !spaceI n && n != 47
def at1I (n : Int) : Bool := slashedI n || n == 61
def at2I (n : Int) : Bool := !spaceI n
def at4I (n : Int) : Bool := spaceI n || n == 62
def all1I (n : Int) : Bool := n == 60
end Go.Proofs.YtdnbaliibiginaaDoor

/- Contracts of fold.Lower, Same, Trim and token.letter. Nothing that lay in memory turns. -/
namespace Go.Proofs.YtdnbaliibiginaaDoor
open Go.RowKit Go.Proofs
def lowI (n : Int) : Int := if 65 ≤ n ∧ n ≤ 90 then n + 32 else n
def BRow (w : World) (g n : Nat) (f : Nat → Int) : Prop := ∀ j, j < n → w.cell? ⟨g, j, none⟩ = some (.int .u8 (f j)) ∧ w.frozen? ⟨g, j, none⟩ = false
def lowF (l : Txt) (k j : Nat) : Int := if j < k then lowI (l.getD j 0).toNat else (l.getD j 0).toNat
theorem BRow.conv (w : World) (l : Txt) : BRow (Lib.bytesWorld w 5 ⟨l.toArray⟩) w.heap.size l.length (lowF l 0) := by
 intro j hj
 refine ⟨?_, ?_⟩
 ·rw [Lib.bytesWorld_cell _ _ _ _ (by rw [mk_size]; exact hj), mk_data_list]
  rfl
 ·unfold World.frozen?
  rw [Lib.bytesWorld_at_new]
  have : l.length ≤ (Lib.bytesCells w 5 ⟨l.toArray⟩).size := by simp [Lib.bytesCells]
  simp
  omega
theorem BRow.set {w : World} {g n : Nat} {f f' : Nat → Int} (h : BRow w g n f) (k : Nat) (v : Int) (hk : f' k = v) (ho : ∀ j, j ≠ k → f' j = f j) : BRow (w.setCell ⟨g, k, none⟩ (.int .u8 v)) g n f' := by
 intro j hj
 obtain ⟨h1, h2⟩ := h j hj
 refine ⟨?_, by rw [World.frozen?_setCell]; exact h2⟩
 by_cases e : j = k
 ·subst e
  rw [World.cell?_setCell_same _ _ _ h1, hk]
 ·rw [World.cell?_setCell_other _ _ _ _ (by intro e'; injection e' with _ e''; omega), ho j e]
  exact h1
theorem BRow.same {w : World} {g n : Nat} {f f' : Nat → Int} (h : BRow w g n f) (ho : ∀ j, f' j = f j) : BRow w g n f' := fun j hj => by rw [ho j]; exact h j hj
end Go.Proofs.YtdnbaliibiginaaDoor

/- Contracts of fold.Same, Trim and token.letter. Nothing that lay in memory turns. -/
namespace Go.Proofs.YtdnbaliibiginaaDoor
open Go.RowKit Go.Proofs
def sameB (a b : Txt) : Bool := lowL a == lowL b
theorem tail_string {c : UInt8} {t : Txt} : (⟨(c :: t).toArray⟩ : ByteArray).extract 1 (t.length + 1) = ⟨t.toArray⟩ := by
 have := ext_end (c :: t) 1
 simpa using this
end Go.Proofs.YtdnbaliibiginaaDoor

/- Rows of attributes and of tokens that the call itself owns; the scanner. -/
namespace Go.Proofs.YtdnbaliibiginaaDoor
open Go.RowKit Go.Proofs
theorem own_ne {w : World} {base : Nat} {e e' : TypeId} {size n b : Nat} {v : Value} {xs : List Value} {cur : Array Value} {fz : Nat × Nat} (h : w.ownsRow base e size v n xs) (hb : w.heap[b]? = some (.cells cur e' fz)) (hne : e' ≠ e) : v.ownBlock ≠ some b := by
 rcases h.2 with ⟨rfl, _⟩ | ⟨g, cap, cr, rfl, hg, hh, _⟩
 ·simp [Value.ownBlock]
 ·intro e0
  have : g = b := by simpa [Value.ownBlock] using e0
  subst this
  rw [hb] at hh
  simp at hh
  exact hne hh.2.1
theorem own_other {w w' : World} {base : Nat} {e e' : TypeId} {size n b : Nat} {v : Value} {xs : List Value} {cur : Array Value} {fz : Nat × Nat} (h : w.ownsRow base e size v n xs) (hg : w.grownBy w' (some b)) (hb : w.heap[b]? = some (.cells cur e' fz)) (hne : e' ≠ e) : w'.ownsRow base e size v n xs :=
 World.ownsRow.kept h hg (.inr (own_ne h hb hne))
theorem own_below {w w1 : World} {base : Nat} {e : TypeId} {size n : Nat} {v : Value} {xs : List Value} (h : w.ownsRow base e size v n xs) (hb : Below w.heap.size w w1) : w1.ownsRow base e size v n xs :=
 World.ownsRow.kept h (grown_of_below hb none) (by cases hv : v.ownBlock <;> simp)
def attrV (l : List (Txt × Txt)) : List Value := l.flatMap fun a => [.string ⟨a.1.toArray⟩, .string ⟨a.2.toArray⟩]
def Atts (w : World) (base : Nat) (v : Value) (l : List (Txt × Txt)) : Prop := w.ownsRow base 45 2 v l.length (attrV l)
def tokV (t : Tok) (va : Value) : List Value := [.int .i64 t.kind, .string ⟨t.name.toArray⟩, .string ⟨t.data.toArray⟩, va, .bool t.self]
def Toks (w : World) (base : Nat) (v : Value) (l : List Tok) : Prop :=
 ∃ ps : List (Tok × Value), ps.map Prod.fst = l ∧ w.ownsRow base 56 5 v l.length (ps.flatMap fun p => tokV p.1 p.2) ∧ ∀ p ∈ ps, Atts w base p.2 p.1.attrs
theorem Atts.nil (w : World) (base : Nat) : Atts w base (.slice none 0 0) [] := World.ownsRow_nil _ _ _ _
theorem Toks.nil (w : World) (base : Nat) : Toks w base (.slice none 0 0) [] := ⟨[], rfl, World.ownsRow_nil _ _ _ _, by simp⟩
theorem Atts.below {w w1 : World} {base : Nat} {v : Value} {l : List (Txt × Txt)} (h : Atts w base v l) (hb : Below w.heap.size w w1) : Atts w1 base v l := own_below h hb
theorem Toks.below {w w1 : World} {base : Nat} {v : Value} {l : List Tok} (h : Toks w base v l) (hb : Below w.heap.size w w1) : Toks w1 base v l := by
 obtain ⟨ps, h1, h2, h3⟩ := h
 exact ⟨ps, h1, own_below h2 hb, fun p hp => (h3 p hp).below hb⟩
theorem Toks.other {w w' : World} {base b : Nat} {v : Value} {l : List Tok} {cur : Array Value} {e' : TypeId} {fz : Nat × Nat} (h : Toks w base v l) (hg : w.grownBy w' (some b)) (hb : w.heap[b]? = some (.cells cur e' fz)) (h1 : e' ≠ 56) (h2 : e' ≠ 45) : Toks w' base v l := by
 obtain ⟨ps, k1, k2, k3⟩ := h
 exact ⟨ps, k1, own_other k2 hg hb h1, fun p hp => own_other (k3 p hp) hg hb h2⟩
def Sc (w : World) (base b : Nat) (s t : Txt) (l : List Tok) : Prop :=
 base ≤ b ∧ ∃ v, w.heap[b]? = some (.cells #[.string ⟨s.toArray⟩, .string ⟨t.toArray⟩, v] 80 (0, 0)) ∧ Toks w base v l
theorem Sc.below {w w1 : World} {base b : Nat} {s t : Txt} {l : List Tok} (h : Sc w base b s t l) (hb : Below w.heap.size w w1) : Sc w1 base b s t l := by
 obtain ⟨h1, v, h2, h3⟩ := h
 exact ⟨h1, v, (hb.block b (Array.getElem?_eq_some_iff.1 h2).1).trans h2, h3.below hb⟩
theorem grown_set (w : World) (a : Addr) (v : Value) : w.grownBy (w.setCell a v) (some a.block) :=
 ⟨rfl, rfl, rfl, by simp, fun k _ hk => heap_setCell_other w a k v (fun e => hk (by simp [e]))⟩
theorem below_set {B b j : Nat} {w W : World} (h : Below B w W) (hb : B ≤ b) (v : Value) : Below B w (W.setCell ⟨b, j, none⟩ v) := h.setCell (p := ⟨b, j, none⟩) hb v
end Go.Proofs.YtdnbaliibiginaaDoor

/- Plain: the cutting of bytes to tokens ends: the fuel does not count; the rest is no longer than what was. No program in sight. -/
namespace Go.Proofs.YtdnbaliibiginaaDoor
open Go.Proofs
end Go.Proofs.YtdnbaliibiginaaDoor

/- Contract of token.attribute: an attribute that stands at the beginning, what follows it, whether it ended. Nothing that lay in memory turns. -/
namespace Go.Proofs.YtdnbaliibiginaaDoor
open Go.RowKit Go.Proofs
@[go_sem] theorem tail_go (c : UInt8) (t : Txt) : (⟨(c :: t).toArray⟩ : ByteArray).extract 1 (t.length + 1) = ⟨t.toArray⟩ := tail_string
end Go.Proofs.YtdnbaliibiginaaDoor

/- Contract of token.attribute, the last cases, and all of it: an attribute that stands at the beginning, what follows it, whether it ended. Nothing that lay in memory turns. -/
namespace Go.Proofs.YtdnbaliibiginaaDoor
open Go.RowKit Go.Proofs
end Go.Proofs.YtdnbaliibiginaaDoor

/- Contract of token.opened: what a tag is, and what follows it. Nothing that lay in memory turns. -/
namespace Go.Proofs.YtdnbaliibiginaaDoor
open Go.RowKit Go.Proofs
theorem five_facts {w : World} {b : Nat} {v0 v1 v2 v3 v4 : Value} {t : TypeId} (h : w.heap[b]? = some (.cells #[v0, v1, v2, v3, v4] t (0, 0))) :
  (w.cell? ⟨b, 0, none⟩ = some v0 ∧ w.cell? ⟨b, 1, none⟩ = some v1 ∧ w.cell? ⟨b, 2, none⟩ = some v2 ∧ w.cell? ⟨b, 3, none⟩ = some v3 ∧ w.cell? ⟨b, 4, none⟩ = some v4) ∧ (∀ j, w.frozen? ⟨b, j, none⟩ = false) := by
 refine ⟨⟨?_, ?_, ?_, ?_, ?_⟩, fun j => frozen_of_row w b j _ _ h⟩ <;> (rw [Lib.cell_of_heap h]; rfl)
theorem heap_below {w w1 : World} {b : Nat} {x : Obj} (h : w.heap[b]? = some x) (hb : Below w.heap.size w w1) : w1.heap[b]? = some x := (hb.block b (Array.getElem?_eq_some_iff.1 h).1).trans h
theorem heap_lt {w : World} {b : Nat} {x : Obj} (h : w.heap[b]? = some x) : b < w.heap.size := (Array.getElem?_eq_some_iff.1 h).1
theorem Atts.len {w : World} {base : Nat} {va : Value} {acc : List (Txt × Txt)} (h : Atts w base va acc) : ∃ a c, va = .slice a acc.length c := by
 rcases h.2 with ⟨rfl, h0⟩ | ⟨g, cap, cur, rfl, _⟩
 ·exact ⟨none, 0, by rw [h0]⟩
 ·exact ⟨_, _, rfl⟩
theorem Atts.at {w : World} {base : Nat} {va : Value} {acc : List (Txt × Txt)} (h : Atts w base va acc) {i : Nat} (hi : i < acc.length) : ∃ g cap, va = .slice (some ⟨g, 0, none⟩) acc.length cap ∧ base ≤ g ∧ g < w.heap.size ∧ w.cell? ⟨g, i * 2, none⟩ = some (.string ⟨acc[i].1.toArray⟩) ∧ w.cell? ⟨g, i * 2 + 1, none⟩ = some (.string ⟨acc[i].2.toArray⟩) := by
 rcases h.2 with ⟨rfl, h0⟩ | ⟨g, cap, cur, rfl, hg, hh, hn, hc, hs, ht⟩
 ·omega
 ·have key : ∀ j, j < 2 → w.cell? ⟨g, i * 2 + j, none⟩ = (attrV acc)[i * 2 + j]? := by
   intro j hj
   rw [Lib.cell_of_heap hh, ← Array.getElem?_toList, ← ht, List.getElem?_take, if_pos (by omega)]
  have hv : ∀ (l : List (Txt × Txt)) (i : Nat) (hi : i < l.length), (attrV l)[i * 2]? = some (.string ⟨l[i].1.toArray⟩) ∧ (attrV l)[i * 2 + 1]? = some (.string ⟨l[i].2.toArray⟩) := by
   intro l
   induction l with
   | nil => intro i hi; simp at hi
   | cons a l ih =>
    intro i hi
    cases i with
    | zero => simp [attrV]
    | succ i =>
     have := ih i (by simpa using hi)
     rw [show (i + 1) * 2 = i * 2 + 2 from by omega]
     simpa [attrV] using this
  exact ⟨g, cap, rfl, hg, heap_lt hh, by rw [← (hv acc i hi).1]; exact key 0 (by omega), by rw [← (hv acc i hi).2]; exact key 1 (by omega)⟩
def tok0 (nm va sf : Value) : Array Value := #[.int .i64 0, nm, .string ⟨#[]⟩, va, sf]
def openV (r : Option (Tok × Txt)) (va : Value) : Value :=
 match r with
 | none => .tuple #[.agg #[.int .i64 0, .string ⟨#[]⟩, .string ⟨#[]⟩, .slice none 0 0, .bool false], .string ⟨#[]⟩, .bool false]
 | some (t, r) => .tuple #[.agg #[.int .i64 0, .string ⟨t.name.toArray⟩, .string ⟨#[]⟩, va, .bool t.self], .string ⟨r.toArray⟩, .bool true]
def openA (r : Option (Tok × Txt)) : List (Txt × Txt) := match r with | none => [] | some (t, _) => t.attrs
def IsT (w : World) (b : Nat) : Prop := ∃ cur, w.heap[b]? = some (.cells cur 56 (0, 0))
end Go.Proofs.YtdnbaliibiginaaDoor
