/- Lemmas and walks, part 22: QChars, QW7R, QTokR, QHasP, QBackP, QMoreP, QTokW, QTokT, QTokS, QTokG, QTokA. -/
import Derived.Shelf.Strings.BuilderRune
import Derived.Test.YtkcmghlhpbepcaaGreatDoorN85
import Derived.Test.YtkcmghlhpbepcaaGreatDoorN86
import Derived.Test.YtkcmghlhpbepcaaGreatDoorN84
import Derived.Lib.SplitLaws
import Derived.Test.YtkcmghlhpbepcaaGreatDoorN88
set_option linter.unusedVariables false
set_option linter.unusedSimpArgs false

/- Contracts of chars.Decode, chars.Lines and chars.Ready: what bytes are, made ready, in lists of bytes. Nothing that lay in memory turns. Condition: at most 2^26 bytes. -/
namespace Go.Proofs.YtkcmghlhpbepcaaGreatDoor.Ch
open Go.RowKit Go.Proofs Go.Shelf
def runeRen : Go.Shelf.Ren := ⟨fun | 242 => 196 | 278 => 219 | n => n, fun | 0 => 0 | 3 => 3 | 4 => 4 | 5 => 5 | 9 => 9 | 21 => 21 | 37 => 43 | 46 => 140 | 51 => 172 | 72 => 106 | n => n, fun | n => n⟩
theorem runeLays : Go.Proofs.Lays.n242 Tryz.prog runeRen := {
 mixed := by kernel_rfl
 f242 := Tryz.func196.trans (congrArg some (by kernel_rfl))
 f278 := Tryz.func219.trans (congrArg some (by kernel_rfl))
 t4 := Tryz.underlying4
 a4 := Tryz.isAgg4
 z4 := Tryz.sizeOf4
 v4 := Tryz.zeroValue4
 t5 := Tryz.underlying5
 a5 := Tryz.isAgg5
 z5 := Tryz.sizeOf5
 v5 := Tryz.zeroValue5
 t21 := Tryz.underlying21
 a21 := Tryz.isAgg21
 z21 := Tryz.sizeOf21
 v21 := Tryz.zeroValue21
 t37 := Tryz.underlying43
 a37 := Tryz.isAgg43
 z37 := Tryz.sizeOf43
 v37 := Tryz.zeroValue43
 t46 := Tryz.underlying140
 a46 := Tryz.isAgg140
 z46 := Tryz.sizeOf140
 v46 := Tryz.zeroValue140
 t51 := Tryz.underlying172
 a51 := Tryz.isAgg172
 z51 := Tryz.sizeOf172
 v51 := Tryz.zeroValue172 }
theorem runeExtra : Builder.Extra Tryz.prog runeRen := {
 sizeBuilder := by kernel_rfl
 liesBuilder := by kernel_rfl
 t5 := Tryz.underlying5
 a5 := Tryz.isAgg5
 z5 := Tryz.sizeOf5
 v5 := Tryz.zeroValue5
 infoByte := by kernel_rfl
 cellsByte := by kernel_rfl
 sizeByte := by kernel_rfl
 neB5 := by decide }
set_option maxHeartbeats 4000000 in
set_option maxRecDepth 100000 in
theorem writeRune_k (B b : Nat) (bs : List Value) (r : Int) (hr0 : -2147483648 ≤ r) (hr1 : r ≤ 2147483647) (w : World) (h : Lib.IsBuilderF 106 5 B b bs w) (hlen : bs.length + 4 ≤ 140737488355328) (hBw : B ≤ w.heap.size) :
 Calls Tryz.prog 161 #[.pointer (some ⟨b, 0, none⟩), .int .i32 r] w fun e w' => e = .returned (.tuple #[.int .i64 (Lib.runeCells r).length, .nilIface]) ∧ (Lib.IsBuilderF 106 5 B b (bs ++ Lib.runeCells r) w' ∧ Below B w w' ∧ Lib.OthersKept 5 (some b) w w') := by
 have hk4 := Lib.runeCells_le r
 go_enter Tryz.func161, Tryz.ntmps161
 go_wp2_with (go_at_call 174; refine (copyCheck_k B b bs _ h).mono ?_)
 rintro e w1 ⟨rfl, h1, hb1, hk1⟩
 obtain ⟨hB, v, hbk, hown, hne⟩ := h1
 obtain ⟨ao, cap, rfl⟩ : ∃ ao cap, v = .slice ao bs.length cap := by
  rcases hown.2 with ⟨hv, h0⟩ | ⟨g, cap, cur, fz, hv, _⟩
  ·exact ⟨none, 0, by rw [hv, h0]⟩
  ·exact ⟨_, _, hv⟩
 have c0 : w1.cell? ⟨b, 0, none⟩ = some (.pointer (some ⟨b, 0, none⟩)) := by rw [Lib.cell_of_heap hbk]; rfl
 have c1 : w1.cell? ⟨b, 1, none⟩ = some (.slice ao bs.length cap) := by rw [Lib.cell_of_heap hbk]; rfl
 go_wp2_with (go_at_call 196; refine (Any.utf8_AppendRune_own runeLays runeExtra B _ bs.length bs r hr0 hr1 _ hown hlen (by have := hb1.size; omega)).mono ?_)
 rintro e w2 ⟨v', rfl, hown', o, hgrow⟩
 have hlt : b < w1.heap.size := by
  rcases Nat.lt_or_ge b w1.heap.size with h' | h'
  ·exact h'
  ·simp [Array.getElem?_eq_none h'] at hbk
 have hb2 : w2.heap[b]? = some (.cells #[.pointer (some ⟨b, 0, none⟩), .slice ao bs.length cap] 106 (0, 0)) := by
  rw [hgrow.block b (by simp; omega) (fun e => hne e.symm), Lib.alloc_old w1 _ b hlt]
  exact hbk
 have d0 : w2.cell? ⟨b, 0, none⟩ = some (.pointer (some ⟨b, 0, none⟩)) := by rw [Lib.cell_of_heap hb2]; rfl
 have d1 : w2.cell? ⟨b, 1, none⟩ = some (.slice ao bs.length cap) := by rw [Lib.cell_of_heap hb2]; rfl
 have f1 : w2.frozen? ⟨b, 1, none⟩ = false := Lib.frozen_of_heap hb2 1
 obtain ⟨g, cap', rfl⟩ : ∃ g cap', v' = .slice (some ⟨g, 0, none⟩) (bs.length + (Lib.runeCells r).length) cap' := by
  rcases hown'.2 with ⟨_, h0⟩ | ⟨g, cap', cur, fz, hv, _⟩
  ·omega
  ·exact ⟨g, cap', hv⟩
 go_wp2
 go_ret2
 refine ⟨?_, Or.inr ?_, ?_, ((hk1.alloc _).grown hgrow (Lib.ownsRowF_kind (hown.alloc _))).setCell ⟨b, 1, none⟩ rfl _⟩
 ·have e : ((bs.length : Int) + ((Lib.runeCells r).length : Int) - (bs.length : Int)) = ((Lib.runeCells r).length : Int) := by omega
  simp [e]
 ·exact Lib.BuilderAtF.put (T := 106) (e := 5) hB hb2 (bs' := bs ++ Lib.runeCells r) (by rw [List.length_append]; exact hown') (by decide)
 ·exact ((hb1.alloc (by have := hb1.size; omega) _).grown hgrow (by have := hb1.size; simp; omega) (fun k hk => (hown.lt k hk).1)).setCell (p := ⟨b, 1, none⟩) hB _
def ruF (r : Nat) : List UInt8 := Lib.encodeRune (if r = 0 then 65533 else (r : Int))
def deFrom (s : ByteArray) : Nat → Nat → List UInt8
 | 0, _ => []
 | fuel + 1, pos => if pos < s.size then ruF (Utf8.decode s pos).1 ++ deFrom s fuel (pos + (Utf8.decode s pos).2) else []
def deF (s : ByteArray) : List UInt8 := deFrom s s.size 0
theorem width_pos (s : ByteArray) (pos : Nat) (h : pos < s.size) : 1 ≤ (Utf8.decode s pos).2 := by
 by_cases ha : (s[pos]'h).toNat < 128
 ·rw [decode_ascii s pos h ha]
  exact Nat.le_refl _
 ·exact (decode_high s pos h (by omega)).2
theorem deFrom_end (s : ByteArray) (fuel pos : Nat) (h : ¬ pos < s.size) : deFrom s fuel pos = [] := by
 cases fuel with
 | zero => rfl
 | succ f => simp [deFrom, h]
set_option maxHeartbeats 4000000 in
set_option maxRecDepth 1000000 in
theorem decode_walk (s : ByteArray) (w : World) (hs : s.size ≤ 35184372088832) :
 Calls Tryz.prog 118 #[.string s] w fun e w' => e = .returned (.string ⟨(deF s).toArray⟩) ∧ Below w.heap.size w w' := by
 go_enter Tryz.func118, Tryz.ntmps118
 go_wp2
 go_loopw [] (fun wr => ∃ (pos fuel : Nat) (acc : List UInt8), Lib.IsBuilderF 106 5 w.heap.size w.heap.size (Lib.byteCells acc) wr ∧ wr.heap[w.heap.size + 1]? = some (.stringIter s pos) ∧ Below w.heap.size w wr ∧ Hid (acc ++ deFrom s fuel pos = deF s) ∧ s.size ≤ pos + fuel ∧ acc.length ≤ 4 * pos) (fun wr => s.size - wr.iterPos (w.heap.size + 1))
 case atStart =>
  refine ⟨0, s.size, [], (Lib.IsBuilderF.of (Lib.fresh_isBuilder 106 5 w)).alloc _, ?_, ((Below.refl _ w).alloc (Nat.le_refl _) _).alloc (by simp) _, rfl, by omega, by simp⟩
  have := World.iter_heap (w.alloc (.cells #[.pointer none, .slice none 0 0] 106)) s 0
  simpa using this
 case round =>
  obtain ⟨pos, fuel, acc, hI, hit, hbw, hacc, hfu, hal⟩ := hrel
  have hsz : w.heap.size + 1 < wr.heap.size := (Array.getElem?_eq_some_iff.1 hit).1
  by_cases hp : pos < s.size
  ·have hnx : ∀ ty, (Instr.next (.pointer (some ⟨w.heap.size + 1, 0, none⟩)) true ty).run Tryz.prog wr = _ := fun ty => Lib.run_next_any_at wr (w.heap.size + 1) s pos ty hit hp
   have hwd := width_pos s pos hp
   have hd1 := decode_le s pos
   have hI2 := hI.iterAt hit (pos + (Utf8.decode s pos).2)
   have hit2 := Lib.iterAt_heap wr (w.heap.size + 1) s pos (pos + (Utf8.decode s pos).2) hit
   have hbw2 := Lib.below_iterAt hbw (k := w.heap.size + 1) (by omega) s (pos + (Utf8.decode s pos).2)
   have hsz2 : w.heap.size ≤ (wr.iterAt (w.heap.size + 1) s (pos + (Utf8.decode s pos).2)).heap.size := by rw [Lib.iterAt_size]; omega
   obtain ⟨f, rfl⟩ : ∃ f, fuel = f + 1 := ⟨fuel - 1, by omega⟩
   have hacc2 := hacc.out
   simp only [deFrom] at hacc2
   rw [if_pos hp] at hacc2
   by_cases h0 : (Utf8.decode s pos).1 = 0
   ·have g1 : (((Utf8.decode s pos).1 : Int) == 0) = true := by rw [h0]; rfl
    go_wp2_with (go_at_call 161; refine (writeRune_k w.heap.size w.heap.size _ 65533 (by omega) (by omega) _ hI2 (by rw [Lib.byteCells_length]; omega) hsz2).mono ?_)
    rintro e W1 ⟨rfl, h1, b1, k1⟩
    go_wp2
    go_roundw
    case rel =>
     have hl4 := Lib.runeCells_le (65533 : Int)
     rw [Lib.runeCells_length] at hl4
     have he : ruF (Utf8.decode s pos).1 = Lib.encodeRune 65533 := by rw [h0]; rfl
     refine ⟨pos + (Utf8.decode s pos).2, f, acc ++ Lib.encodeRune 65533, ?_, k1.iter hit2 (by omega), hbw2.trans b1, ?_, by omega, by simp; omega⟩
     ·rw [Lib.byteCells_append, Lib.byteCells_encodeRune]; exact h1
     ·rw [he] at hacc2
      exact Lib.hid (by rw [← hacc2, List.append_assoc])
    case measure =>
     simp only [World.iterPos, k1.iter hit2 (by omega), hit]
     omega
   ·have g1 : (((Utf8.decode s pos).1 : Int) == 0) = false := by rw [beq_eq_false_iff_ne]; omega
    have g2 : ((Utf8.decode s pos).1 : Int) ≠ 0 := by omega
    go_wp2_with (go_at_call 161; refine (writeRune_k w.heap.size w.heap.size _ _ (by omega) (by omega) _ hI2 (by rw [Lib.byteCells_length]; omega) hsz2).mono ?_)
    rintro e W1 ⟨rfl, h1, b1, k1⟩
    go_wp2
    go_roundw
    case rel =>
     have hl4 := Lib.runeCells_le ((Utf8.decode s pos).1 : Int)
     rw [Lib.runeCells_length] at hl4
     have he : ruF (Utf8.decode s pos).1 = Lib.encodeRune ((Utf8.decode s pos).1 : Int) := by unfold ruF; rw [if_neg h0]
     refine ⟨pos + (Utf8.decode s pos).2, f, acc ++ Lib.encodeRune (Utf8.decode s pos).1, ?_, k1.iter hit2 (by omega), hbw2.trans b1, ?_, by omega, by simp; omega⟩
     ·rw [Lib.byteCells_append, Lib.byteCells_encodeRune]; exact h1
     ·rw [he] at hacc2
      exact Lib.hid (by rw [← hacc2, List.append_assoc])
    case measure =>
     simp only [World.iterPos, k1.iter hit2 (by omega), hit]
     omega
  ·have hnx : ∀ ty, (Instr.next (.pointer (some ⟨w.heap.size + 1, 0, none⟩)) true ty).run Tryz.prog wr = _ := fun ty => Lib.run_next_end_at wr (w.heap.size + 1) s pos ty hit hp
   go_wp2_with (go_at_call 138; refine (Tryz.Builder_String_any_k w.heap.size w.heap.size acc _ hI (by omega)).mono ?_)
   rintro e W1 ⟨rfl, _, b1, _⟩
   go_wp2
   go_ret
   have hacc2 := hacc.out
   rw [deFrom_end s fuel pos hp, List.append_nil] at hacc2
   subst hacc2
   exact ⟨rfl, hbw.trans b1⟩
theorem replaceK_len (old new : List UInt8) (h : new.length ≤ old.length) : ∀ (k : Nat) (s : List UInt8), (Lib.replaceK old new k s).length ≤ s.length
 | 0, s => Nat.le_refl _
 | k + 1, s => by
   by_cases hm : (Lib.index s old == -1) = true
   ·rw [Lib.replaceK, if_pos hm]
    exact Nat.le_refl _
   ·have hge := Lib.index_ge s old
    have h0 : 0 ≤ Lib.index s old := by
     have : Lib.index s old ≠ -1 := fun e => hm (by rw [e]; rfl)
     omega
    have hr := Lib.index_room s old h0
    have ih := replaceK_len old new h k (s.drop ((Lib.index s old).toNat + old.length))
    rw [Lib.replaceK, if_neg hm, List.length_append, List.length_append, List.length_take]
    rw [List.length_drop] at ih
    omega
theorem replaceAll_len (s old new : List UInt8) (h : new.length ≤ old.length) : (Lib.replaceAll s old new).length ≤ s.length := by
 unfold Lib.replaceAll Lib.replace
 split
 ·exact Nat.le_refl _
 ·exact replaceK_len old new h _ s
def lineF (l : List UInt8) : List UInt8 := Lib.replaceAll (Lib.replaceAll l [13, 10] [10]) [13] [10]
theorem all_c (s old new : ByteArray) (h1 : 1 ≤ old.size) (h2 : new.size ≤ old.size) (hs : s.size ≤ 4000000000) (w : World) (hS : Std w) :
 Calls Tryz.prog 160 #[.string s, .string old, .string new] w fun e w' => e = .returned (.string ⟨(Lib.replaceAll s.data.toList old.data.toList new.data.toList).toArray⟩) ∧ Below w.heap.size w w' := by
 obtain ⟨m, hm⟩ := hS.maxLen
 have hc := Lib.countB_mul_le old h1 s.size s (Nat.le_refl _)
 have hm2 := Nat.mul_le_mul_left (Lib.countB s old) h2
 exact Tryz.strings_ReplaceAll s old new m w (by omega) hm h1 (by omega)
theorem lines_c (s : ByteArray) (hs : s.size ≤ 4000000000) (w : World) (hS : Std w) :
 Calls Tryz.prog 117 #[.string s] w fun e w' => e = .returned (.string ⟨(lineF s.data.toList).toArray⟩) ∧ Below w.heap.size w w' := by
 have c1 := Lib.hid (all_c s ⟨#[13, 10]⟩ ⟨#[10]⟩ (by decide) (by decide) hs w hS)
 have hl := replaceAll_len s.data.toList [13, 10] [10] (by decide)
 have hz : s.size = s.data.toList.length := (Array.length_toList).symm
 have c2 := Lib.hid (fun (W : World) (hW : Below w.heap.size w W) => all_c ⟨(Lib.replaceAll s.data.toList [13, 10] [10]).toArray⟩ ⟨#[13]⟩ ⟨#[10]⟩ (by decide) (by decide) (by show (List.toArray _).size ≤ _; rw [List.size_toArray]; omega) W (hS.below hW))
 go_enter Tryz.func117, Tryz.ntmps117
 go_wp2_with (first
  | (go_at_call 160; ((with_reducible refine c1.out.mono ?_); rintro e w1 ⟨rfl, hb1⟩))
  | (go_at_call 160; ((with_reducible refine (c2.out _ hb1).mono ?_); rintro e w2 ⟨rfl, hb2⟩)))
 go_ret
 exact ⟨rfl, hb1.trans (hb2.mono hb1.size)⟩
def readyF (l : List UInt8) : List UInt8 := lineF (deF ⟨l.toArray⟩)
theorem deFrom_len (s : ByteArray) : ∀ (fuel pos : Nat), (deFrom s fuel pos).length ≤ 4 * fuel
 | 0, pos => by simp [deFrom]
 | fuel + 1, pos => by
   simp only [deFrom]
   by_cases h : pos < s.size
   ·rw [if_pos h]
    have ih := deFrom_len s fuel (pos + (Utf8.decode s pos).2)
    have h4 : (ruF (Utf8.decode s pos).1).length ≤ 4 := by
     unfold ruF Lib.encodeRune
     rw [List.length_map]
     exact (Lib.encodeRuneZ_length _).2
    simp only [List.length_append]
    omega
   ·rw [if_neg h]
    exact Nat.zero_le _
theorem ready_c (l : List UInt8) (hl : l.length ≤ 100000000) (w : World) (hS : Std w) :
 Calls Tryz.prog 73 #[.string ⟨l.toArray⟩] w fun e w' => e = .returned (.string ⟨(readyF l).toArray⟩) ∧ Below w.heap.size w w' := by
 have hz : (⟨l.toArray⟩ : ByteArray).size = l.length := List.size_toArray
 have hd := deFrom_len ⟨l.toArray⟩ (⟨l.toArray⟩ : ByteArray).size 0
 have c1 := Lib.hid (decode_walk ⟨l.toArray⟩ w (by omega))
 have c2 := Lib.hid (fun (W : World) (hW : Below w.heap.size w W) => lines_c ⟨(deF ⟨l.toArray⟩).toArray⟩ (by show (List.toArray _).size ≤ _; rw [List.size_toArray]; unfold deF; omega) W (hS.below hW))
 go_enter Tryz.func73, Tryz.ntmps73
 go_wp2_with (first
  | (go_at_call 118; ((with_reducible refine c1.out.mono ?_); rintro e w1 ⟨rfl, hb1⟩))
  | (go_at_call 117; ((with_reducible refine (c2.out _ hb1).mono ?_); rintro e w2 ⟨rfl, hb2⟩)))
 go_ret
 exact ⟨rfl, hb1.trans (hb2.mono hb1.size)⟩
end Go.Proofs.YtkcmghlhpbepcaaGreatDoor.Ch

/- Bytes made ready: what stands ahead of others stays as it is, where it is ASCII without NUL and CR. -/
namespace Go.Proofs.YtkcmghlhpbepcaaGreatDoor.Ch
open Go Go.RowKit
def easyB (c : UInt8) : Bool := decide (c ≠ 0) && decide (c ≠ 13) && decide (c.toNat < 128)
theorem readyF_len (l : List UInt8) : (readyF l).length ≤ 4 * l.length := by
 have hd := deFrom_len ⟨l.toArray⟩ (⟨l.toArray⟩ : ByteArray).size 0
 have h2 : (readyF l).length ≤ (deF ⟨l.toArray⟩).length := by
  unfold readyF lineF
  exact Nat.le_trans (replaceAll_len _ _ _ (by decide)) (replaceAll_len _ _ _ (by decide))
 have hz : (⟨l.toArray⟩ : ByteArray).size = l.length := by show (List.toArray l).size = _; simp
 unfold deF at h2
 omega
end Go.Proofs.YtkcmghlhpbepcaaGreatDoor.Ch

/- Plain: TokenEnds, TokenRaw, TokenComments: what the cut makes of texts of these shapes. No program in sight. -/
namespace Go.Proofs.YtkcmghlhpbepcaaGreatDoor
open Go.Proofs
theorem fi_none {p : UInt8 → Bool} : ∀ {a : Txt}, (∀ x ∈ a, p x = false) → a.findIdx p = a.length
 | [], _ => rfl
 | x :: a, ha => by
   rw [List.findIdx_cons, ha x (by simp), fi_none (fun y hy => ha y (by simp [hy]))]
   simp
theorem run_none {t a : Txt} (ha : (60 : UInt8) ∉ a) : runF t a = tellF (t ++ a) := by
 have hf : textF a = a.length := fi_none (fun x hx => beq_eq_false_iff_ne.2 (fun e => ha (by rw [← e]; exact hx)))
 rw [runF_eq, hf]
 simp
theorem run_nil (t : Txt) : runF t [] = tellF t := by simpa using run_none (t := t) (a := []) (by simp)
def quietB : Txt → Bool
 | [] => true
 | [c] => c != 60
 | c :: d :: r => !(c == 60 && d == 47) && quietB (d :: r)
end Go.Proofs.YtkcmghlhpbepcaaGreatDoor

/- Plain: whether a byte stands in a text. No program in sight. -/
namespace Go.Proofs.YtkcmghlhpbepcaaGreatDoor
open Go.Proofs
def hasL (l : List UInt8) (c : Nat) : Bool := l.any fun x => x.toNat == c
end Go.Proofs.YtkcmghlhpbepcaaGreatDoor

/- Plain laws of what is written out: it is decoded to the text that was; nothing of it opens or closes a tag, or a value. No program in sight. -/
namespace Go.Proofs.YtkcmghlhpbepcaaGreatDoor
open Go.RowKit Go.Proofs
theorem esc_len (q : Bool) (c : UInt8) : (escL q c).length ≤ 6 := by
 unfold escL
 repeat' split
 all_goals simp
theorem wr_len (q : Bool) : ∀ l, (wrL q l).length ≤ 6 * l.length
 | [] => by simp [wrL]
 | [c] => by rw [wrL]; have := esc_len q c; simp; omega
 | c :: d :: l => by
   rw [wrL]
   split
   ·have := wr_len q l
    simp; omega
   ·have := wr_len q (d :: l)
    have := esc_len q c
    simp at *; omega
end Go.Proofs.YtkcmghlhpbepcaaGreatDoor

/- Plain laws of decoding and writing out: lengths; a text without & or without ; is decoded as it stands; what is written out twice; a text behind another one. No program in sight. -/
namespace Go.Proofs.YtkcmghlhpbepcaaGreatDoor
open Go.RowKit Go.Proofs
theorem numberL_short {l : List UInt8} (h : l.length < 2) : numberL l = 0 := by
 unfold numberL
 repeat rw [if_neg (fun e => by rw [e] at h; simp at h)]
theorem numberL_len {l : List UInt8} (h : numberL l ≠ 0) : 2 ≤ l.length := by
 rcases Nat.lt_or_ge l.length 2 with e | e
 ·exact absurd (numberL_short e) h
 ·exact e
theorem digitsL_ne {b : Nat} {l : List UInt8} (h : digitsL b l = true) : 1 ≤ l.length := by
 unfold digitsL at h
 rw [Bool.and_eq_true] at h
 cases l with
 | nil => simp at h
 | cons c l => simp
theorem meantL_two {l : List UInt8} (h : (meantL l).2 = true) : 2 ≤ l.length := by
 unfold meantL at h
 split at h
 ·unfold codedL at h
  split at h
  ·rename_i hd
   have := digitsL_ne hd
   simp at this
   omega
  ·cases h
 ·split at h
  ·unfold codedL at h
   split at h
   ·rename_i hd
    have := digitsL_ne hd
    have := List.length_tail (l := l)
    omega
   ·cases h
  ·unfold namedL at h
   split at h
   ·cases h
   ·rename_i hn
    exact numberL_len hn
theorem decL_len : ∀ (n : Nat) (l : List UInt8), l.length ≤ n → (decL l).length ≤ l.length
 | 0, l, h => by
   have : l = [] := List.eq_nil_of_length_eq_zero (by omega)
   rw [this, decL_nil]
   exact Nat.le_refl _
 | n + 1, [], h => by rw [decL_nil]; exact Nat.le_refl _
 | n + 1, c :: l, h => by
   simp only [List.length_cons] at h
   rw [decL_cons]
   split
   ·split
    ·rename_i hm
     rw [Bool.and_eq_true] at hm
     have h1 := cut1_len 59 l
     rw [if_pos hm.1] at h1
     have h2 := meantL_two hm.2
     have h3 := meantL_len (cut1 59 l).1
     have h4 := decL_len n (cut1 59 l).2.1 (by omega)
     simp only [List.length_append, List.length_cons]
     omega
    ·have := decL_len n l (by omega)
     simp only [List.length_cons]
     omega
   ·have := decL_len n l (by omega)
    simp only [List.length_cons]
    omega
end Go.Proofs.YtkcmghlhpbepcaaGreatDoor

/- Plain: tokens, written; TokenBack: a start tag whose names may be, written, is cut as it was. No program in sight. -/
namespace Go.Proofs.YtkcmghlhpbepcaaGreatDoor
open Go.Proofs
def attrsW (l : List (Txt × Txt)) : Txt := l.flatMap fun a => 32 :: (a.1 ++ 61 :: 34 :: (wrL true a.2 ++ [34]))
def selfW (b : Bool) : Txt := if b then [32, 47] else []
def taggedW (o : Txt) (t : Tok) : Txt := o ++ t.name ++ attrsW t.attrs ++ selfW t.self ++ [62]
def tokW (raw : Bool) (t : Tok) : Txt :=
 if t.kind = 0 then (if raw then t.data else wrL false t.data)
 else if t.kind = 1 then taggedW [60] t
 else if t.kind = 2 then taggedW [60, 47] ⟨0, t.name, [], [], false⟩
 else if t.kind = 3 then [60, 33, 45, 45] ++ t.data ++ [45, 45, 62]
 else if t.kind = 4 then [60, 33, 100, 111, 99, 116, 121, 112, 101, 32] ++ t.data ++ [62]
 else []
def rawT (t : Tok) : Bool := t.kind == 1 && rawB t.name
def writeN (raw : Bool) : List Tok → Txt
 | [] => []
 | t :: r => tokW raw t ++ writeN (rawT t) r
def writeL (l : List Tok) : Txt := writeN false l
structure AttrName (s : Txt) : Prop where
 ne : s ≠ []
 low : lowL s = s
 first : ∀ c r, s = c :: r → spaceB c = false ∧ c ≠ 47 ∧ c ≠ 62
 rest : ∀ x ∈ s.tail, slashedB x = false ∧ x ≠ 61
structure TagName (s : Txt) : Prop where
 low : lowL s = s
 letter : letterL s = true
 all : ∀ x ∈ s, slashedB x = false
def plainB (s but : Txt) : Bool := s.all (fun c => !(spaceB c || (decide (65 ≤ c.toNat) && decide (c.toNat ≤ 90)) || c == 0 || but.contains c)) && !s.isEmpty
def rightB (s : Txt) : Bool := plainB s [47, 62] && letterL s
def attrB (s : Txt) : Bool := plainB s [47, 62, 34, 39, 60, 61]
end Go.Proofs.YtkcmghlhpbepcaaGreatDoor

/- Plain: TokenShapes: each token of any bytes has what its kind has, and nothing else. No program in sight. -/
namespace Go.Proofs.YtkcmghlhpbepcaaGreatDoor
open Go.Proofs
def okB (c : UInt8) : Bool := !((decide (65 ≤ c.toNat) && decide (c.toNat ≤ 90)) || c == 32 || c == 9 || c == 10 || c == 12 || c == 13 || c == 62)
def lowerOK (s : Txt) : Bool := s.all okB
structure NameOK (s : Txt) : Prop where
 ne : s ≠ []
 ok : lowerOK s = true
structure AttrsOK (l : List (Txt × Txt)) : Prop where
 each : ∀ a ∈ l, NameOK a.1
 once : (l.map Prod.fst).Nodup
structure ShapeOK (t : Tok) : Prop where
 ge : 0 ≤ t.kind
 le : t.kind ≤ 4
 tag : t.kind = 1 ∨ t.kind = 2 → NameOK t.name ∧ t.data = []
 other : t.kind ≠ 1 → t.kind ≠ 2 → t.name = []
 start : t.kind ≠ 1 → t.attrs = [] ∧ t.self = false
 text : t.kind = 0 → t.data ≠ []
 attrs : AttrsOK t.attrs
theorem encode_ne (i : Int) : (Utf8.encode i).data.toList ≠ [] := by
 unfold Utf8.encode
 simp only
 repeat' split
 all_goals simp
theorem meantL_ne {l : Txt} (h : (meantL l).2 = true) : (meantL l).1 ≠ [] := by
 unfold meantL codedL namedL codeL at *
 repeat' split
 all_goals first | exact encode_ne _ | simp_all
theorem dec_ne : ∀ {l : Txt}, l ≠ [] → decL l ≠ []
 | [], h => absurd rfl h
 | c :: l, _ => by
   rw [decL_cons]
   split
   ·split
    ·rename_i h
     rw [Bool.and_eq_true] at h
     have := meantL_ne h.2
     simp [this]
    ·simp
   ·simp
theorem tk_no {p : UInt8 → Bool} : ∀ {s : Txt} {x : UInt8}, x ∈ s.take (s.findIdx p) → p x = false
 | [], _, h => by simp at h
 | c :: s, x, h => by
   rw [List.findIdx_cons] at h
   cases hc : p c with
   | true => rw [hc] at h; simp at h
   | false =>
     rw [hc] at h
     simp at h
     rcases h with rfl | h
     ·exact hc
     ·exact tk_no h
theorem dr_yes {p : UInt8 → Bool} : ∀ {s r : Txt} {c : UInt8}, s.drop (s.findIdx p) = c :: r → p c = true
 | [], _, _, h => by simp at h
 | x :: s, r, c, h => by
   rw [List.findIdx_cons] at h
   cases hx : p x with
   | true =>
     rw [hx] at h
     simp at h
     rw [← h.1]
     exact hx
   | false =>
     rw [hx] at h
     simp at h
     exact dr_yes h
theorem low_ok : ∀ c : UInt8, (slashedB c || okB (lowB c)) = true := all_u8 (by decide +kernel)
theorem low_first : ∀ c : UInt8, (spaceB c || c == 62 || okB (lowB c)) = true := all_u8 (by decide +kernel)
theorem letter_no : ∀ c : UInt8, (!letterB c || !slashedB c) = true := all_u8 (by decide +kernel)
theorem lowL_ok {s : Txt} (h : ∀ x ∈ s, slashedB x = false) : lowerOK (lowL s) = true := by
 unfold lowerOK lowL
 rw [List.all_eq_true]
 intro x hx
 obtain ⟨y, hy, rfl⟩ := List.mem_map.1 hx
 have := low_ok y
 rw [h y hy] at this
 simpa using this
theorem attrF_fst (s : Txt) : (attrF s).1.1 = lowL (s.take (attrK s)) := by
 unfold attrF attrR valF
 repeat' split
 all_goals rfl
theorem attrF_name {c : UInt8} {s : Txt} (h1 : spaceB c = false) (h2 : c ≠ 62) : NameOK (attrF (c :: s)).1.1 := by
 have e : attrK (c :: s) = s.findIdx (fun c => slashedB c || c == 61) + 1 := by unfold attrK; simp only [List.tail_cons]; omega
 rw [attrF_fst, e, List.take_succ_cons]
 refine ⟨by simp [lowL], ?_⟩
 have h3 := low_first c
 rw [h1, show (c == 62) = false from beq_eq_false_iff_ne.2 h2] at h3
 have h4 := lowL_ok (s := s.take (s.findIdx (fun c => slashedB c || c == 61))) (fun x hx => by
  have := tk_no hx
  simp only [Bool.or_eq_false_iff] at this
  exact this.1)
 unfold lowerOK lowL at *
 rw [List.map_cons, List.all_cons, h4]
 simpa using h3
theorem addA_ok {acc : List (Txt × Txt)} {a : Txt × Txt} (h : AttrsOK acc) (ha : NameOK a.1) : AttrsOK (addA acc a) := by
 unfold addA
 split
 ·exact h
 ·rename_i hn
  refine ⟨?_, ?_⟩
  ·intro b hb
   rw [List.mem_append] at hb
   rcases hb with hb | hb
   ·exact h.each b hb
   ·simp at hb
    subst hb
    exact ha
  ·rw [List.map_append, List.nodup_append]
   refine ⟨h.once, by simp, ?_⟩
   intro x hx y hy
   simp at hy
   subst hy
   intro e
   subst e
   obtain ⟨b, hb, hb2⟩ := List.mem_map.1 hx
   exact hn (List.any_eq_true.2 ⟨b, hb, by simp [hb2]⟩)
theorem gap_head {s r : Txt} {c : UInt8} (h : s.drop (gapF s) = c :: r) : spaceB c = false ∧ c ≠ 47 := by
 have := dr_yes h
 simpa using this
theorem attrsN_ok : ∀ (n : Nat) (acc : List (Txt × Txt)) (s : Txt) r, AttrsOK acc → attrsN n acc s = some r → AttrsOK r.1
 | 0, _, _, _, _, h => by simp [attrsN] at h
 | n + 1, acc, s, r, ha, h => by
   unfold attrsN at h
   cases hd : s.drop (gapF s) with
   | nil => rw [hd] at h; simp at h
   | cons c s1 =>
     rw [hd] at h
     have hg := gap_head hd
     simp only at h
     split at h
     ·simp at h
      subst h
      exact ha
     ·rename_i hc
      split at h
      ·exact attrsN_ok n _ _ r (addA_ok ha (attrF_name hg.1 hc)) h
      ·simp at h
theorem attrs0 : AttrsOK [] := ⟨by simp, by simp⟩
theorem opened_ok {s : Txt} {r : Tok × Txt} (hl : letterL s = true) (h : openedF s = some r) : r.1.kind = 0 ∧ NameOK r.1.name ∧ (∀ x ∈ r.1.name, slashedB x = false) ∧ r.1.data = [] ∧ AttrsOK r.1.attrs := by
 unfold openedF at h
 cases ha : attrsF [] (s.drop (s.findIdx slashedB)) with
 | none => rw [ha] at h; simp at h
 | some q =>
   rw [ha] at h
   simp at h
   have hq := attrsN_ok _ _ _ _ attrs0 ha
   have hl2 : ∀ c : UInt8, (slashedB c || !slashedB (lowB c)) = true := all_u8 (by decide +kernel)
   subst h
   refine ⟨rfl, ⟨?_, lowL_ok fun x hx => tk_no hx⟩, ?_, rfl, hq⟩
   ·cases s with
    | nil => simp [letterL] at hl
    | cons c t =>
      have := letter_no c
      have hc : letterB c = true := hl
      rw [hc] at this
      have hc2 : slashedB c = false := by simpa using this
      simp [lowL, List.findIdx_cons, hc2]
   ·intro x hx
    unfold lowL at hx
    obtain ⟨y, hy, rfl⟩ := List.mem_map.1 hx
    have := hl2 y
    rw [tk_no hy] at this
    simpa using this
theorem text_ok {d : Txt} (h : d ≠ []) : ShapeOK ⟨0, [], [], d, false⟩ := ⟨by simp, by simp, by simp, by simp, by simp, fun _ => h, attrs0⟩
theorem inside_ok (nm s : Txt) : ∀ t ∈ insideT nm s, ShapeOK t := by
 unfold insideT
 split
 ·simp
 ·rename_i h
  intro t ht
  simp only [List.mem_singleton] at ht
  subst ht
  refine text_ok ?_
  split
  ·exact dec_ne h
  ·exact h
theorem tag_ok {k : Int} {s : Txt} (hk : k = 1 ∨ k = 2) (hl : letterL s = true) : ∀ t ∈ (tagF k s).1, ShapeOK t := by
 unfold tagF
 cases ho : openedF s with
 | none => simp
 | some r =>
   obtain ⟨h1, h2, h3, h4, h5⟩ := opened_ok hl ho
   obtain ⟨t, q⟩ := r
   simp only at *
   split
   ·intro x hx
    simp only [List.mem_singleton] at hx
    subst hx
    exact ⟨by simp, by simp, fun _ => ⟨h2, rfl⟩, by simp, by simp, by simp, attrs0⟩
   ·rename_i hk2
    have hk1 : k = 1 := by omega
    subst hk1
    have h0 : ShapeOK ⟨1, t.name, t.attrs, t.data, t.self⟩ := ⟨by simp, by simp, fun _ => ⟨h2, h4⟩, by simp, by simp, by simp, h5⟩
    split
    ·intro x hx
     rw [List.mem_cons] at hx
     rcases hx with rfl | hx
     ·exact h0
     ·exact inside_ok _ _ x hx
    ·intro x hx
     simp only [List.mem_singleton] at hx
     subst hx
     exact h0
theorem note_ok {k : Int} {d : Txt} (hk : k = 3 ∨ k = 4) : ShapeOK ⟨k, [], [], d, false⟩ := by
 rcases hk with rfl | rfl <;> exact ⟨by simp, by simp, by simp, by simp, by simp, by simp, attrs0⟩
theorem noteF_ok {k : Int} (s e : Txt) (hk : k = 3 ∨ k = 4) : ∀ t ∈ (noteF k s e).1, ShapeOK t := by
 intro t ht
 unfold noteF at ht
 simp only [List.mem_singleton] at ht
 subst ht
 exact note_ok hk
theorem comment_ok (s : Txt) : ∀ t ∈ (commentF s).1, ShapeOK t := by
 have h3 : ShapeOK ⟨3, [], [], [], false⟩ := note_ok (.inl rfl)
 unfold commentF
 split
 ·simpa using h3
 ·split
  ·simpa using h3
  ·exact noteF_ok _ _ (.inl rfl)
theorem open_ok {s : Txt} {r : List Tok × Txt} (h : openF s = some r) : ∀ t ∈ r.1, ShapeOK t := by
 unfold openF at h
 split at h
 ·rename_i hl
  simp at h; subst h; exact tag_ok (.inl rfl) hl
 ·split at h
  ·rename_i hl
   rw [Bool.and_eq_true] at hl
   simp at h; subst h; exact tag_ok (.inr rfl) hl.2
  ·split at h
   ·simp at h; subst h; simp
   ·split at h
    ·simp at h; subst h; exact comment_ok _
    ·split at h
     ·simp at h; subst h; exact noteF_ok _ _ (.inr rfl)
     ·split at h
      ·simp at h; subst h; exact noteF_ok _ _ (.inl rfl)
      ·split at h
       ·simp at h; subst h; exact noteF_ok _ _ (.inl rfl)
       ·split at h
        ·simp at h; subst h; exact noteF_ok _ _ (.inl rfl)
        ·simp at h
theorem tell_ok (t : Txt) : ∀ x ∈ tellF t, ShapeOK x := by
 unfold tellF
 split
 ·simp
 ·rename_i h
  intro x hx
  simp only [List.mem_singleton] at hx
  subst hx
  exact text_ok (dec_ne h)
theorem runN_ok : ∀ (n : Nat) (t s : Txt), ∀ x ∈ runN n t s, ShapeOK x
 | 0, t, s, x, h => tell_ok t x h
 | n + 1, t, s, x, h => by
   unfold runN at h
   cases hd : s.drop (textF s) with
   | nil => rw [hd] at h; exact tell_ok _ x h
   | cons c s1 =>
     rw [hd] at h
     simp only at h
     cases ho : openF s1 with
     | none => rw [ho] at h; exact runN_ok n _ _ x h
     | some r =>
       rw [ho] at h
       obtain ⟨ts, q⟩ := r
       simp only [List.mem_append] at h
       rcases h with (h | h) | h
       ·exact tell_ok _ x h
       ·exact open_ok ho x h
       ·exact runN_ok n _ _ x h
end Go.Proofs.YtkcmghlhpbepcaaGreatDoor

/- Plain: TokenComments: a comment's text without > comes back; a doctype's is no longer than it was. No program in sight. -/
namespace Go.Proofs.YtkcmghlhpbepcaaGreatDoor
open Go.Proofs
theorem dropWhile_le {p : UInt8 → Bool} : ∀ l : Txt, (l.dropWhile p).length ≤ l.length
 | [] => by simp
 | c :: l => by
   have := dropWhile_le (p := p) l
   rw [List.dropWhile_cons]
   split
   ·simp only [List.length_cons]; omega
   ·exact Nat.le_refl _
end Go.Proofs.YtkcmghlhpbepcaaGreatDoor

/- Plain: TokenAgain, first part: what the tokens of any bytes are like. No program in sight. -/
namespace Go.Proofs.YtkcmghlhpbepcaaGreatDoor
open Go.Proofs
structure NoteOK (d : Txt) : Prop where
 no1 : ∀ j, Lib.occAt d [45, 45, 62] j = false
 no2 : ∀ j, Lib.occAt d [45, 45, 33, 62] j = false
 gt : Lib.hasPrefix d [62] = false
 arrow : Lib.hasPrefix d [45, 62] = false
structure DocOK (d : Txt) : Prop where
 no : (62 : UInt8) ∉ d
 trim : trimL (32 :: d) = d
structure StartOK (nm : Txt) (l : List (Txt × Txt)) : Prop where
 name : TagName nm
 attrs : ∀ a ∈ l, AttrName a.1
 once : (l.map Prod.fst).Nodup
def Closed (nm : Txt) (r : List Tok) : Prop := r = [] ∨ ∃ q, r = ⟨2, nm, [], [], false⟩ :: q
def RawOK (nm d : Txt) : Prop := ∀ j, j < d.length → closesB nm (d.drop j) = false
inductive Good : List Tok → Prop
 | nil : Good []
 | text {d : Txt} {r : List Tok} : d ≠ [] → Good r → Good (⟨0, [], [], d, false⟩ :: r)
 | start {nm : Txt} {l : List (Txt × Txt)} {b : Bool} {r : List Tok} : StartOK nm l → (rawB nm || softB nm) = false → Good r → Good (⟨1, nm, l, [], b⟩ :: r)
 | shut {nm : Txt} {l : List (Txt × Txt)} {b : Bool} {r : List Tok} : StartOK nm l → (rawB nm || softB nm) = true → Closed nm r → Good r → Good (⟨1, nm, l, [], b⟩ :: r)
 | full {nm : Txt} {l : List (Txt × Txt)} {b : Bool} {d : Txt} {r : List Tok} : StartOK nm l → (rawB nm || softB nm) = true → d ≠ [] → (rawB nm = true → RawOK nm d) → Closed nm r → Good r → Good (⟨1, nm, l, [], b⟩ :: ⟨0, [], [], d, false⟩ :: r)
 | shuts {nm : Txt} {r : List Tok} : TagName nm → Good r → Good (⟨2, nm, [], [], false⟩ :: r)
 | note {d : Txt} {r : List Tok} : NoteOK d → Good r → Good (⟨3, [], [], d, false⟩ :: r)
 | doct {d : Txt} {r : List Tok} : DocOK d → Good r → Good (⟨4, [], [], d, false⟩ :: r)
theorem endF_le (nm : Txt) : ∀ s : Txt, endF nm s ≤ s.length
 | [] => by simp [endF]
 | c :: t => by
   have := endF_le nm t
   rw [endF]
   split
   ·omega
   ·simp only [List.length_cons]; omega
theorem endF_no (nm : Txt) : ∀ (s : Txt) (j : Nat), j < endF nm s → closesB nm (s.drop j) = false
 | [], j, h => by simp [endF] at h
 | c :: t, j, h => by
   rw [endF] at h
   split at h
   ·omega
   ·rename_i hc
    cases j with
    | zero => simpa using hc
    | succ j =>
      rw [List.drop_succ_cons]
      exact endF_no nm t j (by omega)
theorem endF_at (nm : Txt) : ∀ (s : Txt), s.drop (endF nm s) = [] ∨ closesB nm (s.drop (endF nm s)) = true
 | [] => by simp
 | c :: t => by
   rw [endF]
   split
   ·rename_i hc
    exact .inr hc
   ·rw [Nat.add_comm, List.drop_succ_cons]
    exact endF_at nm t
theorem insideR_le (nm s : Txt) : (insideR nm s).length ≤ s.length := by simp [insideR]
end Go.Proofs.YtkcmghlhpbepcaaGreatDoor

/- Plain: TokenAgain, second part: what is written of the tokens of any bytes is cut to these, texts that stood side by side joined. No program in sight. -/
namespace Go.Proofs.YtkcmghlhpbepcaaGreatDoor
open Go.Proofs
def tellP (p : Txt) : List Tok := if p = [] then [] else [⟨0, [], [], p, false⟩]
def joinP : Txt → List Tok → List Tok
 | p, [] => tellP p
 | p, t :: r => if t.kind = 0 then joinP (p ++ t.data) r else tellP p ++ t :: joinP [] r
structure Pend (q p : Txt) : Prop where
 dec : ∀ r, decL (q ++ r) = p ++ decL r
 no : (60 : UInt8) ∉ q
 nil : q = [] ↔ p = []
end Go.Proofs.YtkcmghlhpbepcaaGreatDoor
