/- Lemmas and walks, part 1: PTIx0, Base, RefsB, Shelf, Parse, Std, RefsA, Coded, DecP, TokP, Bld, Dec, Decode, Write, Tab, Own, Fold. -/
import Derived.Test.YtdnbaliibiginaaGreatDoorProg
import Derived.Below
import Derived.Deep.Draws
import Derived.Deep.AppendLies
import Derived.Maps.AppendAt
import Derived.OwnWalk
import Derived.Laws.BytesArg
import Derived.Laws.MakeOwn
import Derived.Laws.OwnMore
import Derived.Deep.OwnRows
import Derived.Tactics
import Derived.Lib.ConvBytes
import Derived.Laws.Slices
import Derived.WalkKit
import Derived.KernelRfl
import Derived.RowKit3
import Derived.Deep.LoopGhost
import Derived.Deep.QuietTactic
import Derived.BigQuiet
import Derived.WideLaws
import Derived.Deep.DeepCutAuto
import Derived.Deep.CutBlock
import Derived.Deep.RegionHeld3
import Derived.Laws.Rows
import Derived.Lib.AppendStr
import Derived.ArgAppend
import Derived.Laws.IdiomCopy
import Derived.OrdersHeld
import Derived.Laws.BitsLemmas
import Derived.RowKit
import Derived.Test.YtdnbaliibiginaaGreatDoorTIV
import Derived.Lib.Strings
import Derived.Lib.OthersKept
import Derived.Laws.RangeAny
import Derived.Lib.Hide
import Derived.BigGuard
import Derived.BigGuardPart
import Derived.Shelf.Strings.Builder1
import Derived.Shelf.Small.Utf8
import Derived.Shelf.Small.Strs
import Derived.Shelf.Strings.BuilderF
import Derived.Shelf.Strings.BuilderK
import Derived.Shelf.Strconv.Itoa0
import Derived.Shelf.Strconv.Itoa1
import Derived.Shelf.LaysM
import Derived.Shelf.Strconv.Itoa2
import Derived.Shelf.Strconv.Itoa3
import Derived.Shelf.Strconv.Clone
import Derived.Shelf.Strconv.RangeError
import Derived.Shelf.LaysC
import Derived.Shelf.Strconv.ToErrorRange
import Derived.Shelf.Strings.Search1
import Derived.Shelf.Strings.Search2
import Derived.Shelf.Strings.Search3
import Derived.Shelf.Strings.Cut
import Derived.Shelf.Strings.Shaped
import Derived.Shelf.Strings.Prefix
import Derived.Shelf.Strings.Runes
import Derived.Shelf.Strings.IndexAny
import Derived.Shelf.Strings.AsciiSet
import Derived.Shelf.Strings.IndexAnyAll
import Derived.Shelf.Slices.Turned
import Derived.Lib.AtoiErrMem
import Derived.Laws.Runes
import Derived.WalkLawsBesides
import Derived.Lib.IfaceNeq
import Derived.Lib.IndexMore
import Derived.Laws.Cover4
import Derived.BigCall
import Derived.Lib.Builder
import Derived.Laws.AppendOwn
set_option linter.unusedVariables false
set_option linter.unusedSimpArgs false

-- Walks of Go functions by a program (wip/hook/hook.py over the kit's printer): each as a Lean function, and that the call comes to what it tells. Not trusted: Lean checks it.
namespace Go.Proofs.YtdnbaliibiginaaGreatDoorH.TI
open Go.RowKit Go.Proofs.YtdnbaliibiginaaGreatDoorW.PrintWords Go.Proofs.YtdnbaliibiginaaGreatDoorW.PrintLast Go.Proofs.YtdnbaliibiginaaGreatDoorW.PrintMore
attribute [local go_sem] max2_int min2_int max_two min_two max_three min_three max_four min_four   -- for this text's walks alone



def errW : Option Int → Value
  | none => .nilIface
  | some c => .iface 0 (.int .i64 c)
theorem errW_none : errW none = .nilIface := rfl
theorem errW_some (c : Int) : errW (some c) = .iface 0 (.int .i64 c) := rfl

theorem info40 : (Tryz.prog.info? 40).map (fun i => (i.zero, i.size, i.bytes)) = some (some (.agg #[(.string ⟨#[]⟩), (.string ⟨#[]⟩)]), 2, 32) := by kernel_rfl
-- the values' own types
/-! #### struct type 40 -/
structure S40 where
  f0 : ByteArray
  f1 : ByteArray
def z40 : S40 := ⟨(⟨#[]⟩ : ByteArray), (⟨#[]⟩ : ByteArray)⟩
def k40 : Kd S40 := Kd.iso (Kd.pair Kd.string Kd.string) (fun x : S40 => (x.f0, x.f1))
theorem k40_open {w : World} {x : S40} {cs : List Value} (h : k40.K w x cs) : cs = [.string x.f0, .string x.f1] := by
  obtain ⟨_, _, rfl, rfl, rfl⟩ := h
  exact rfl
theorem k40_openM {w : World} {base : Nat} {ok : Nat → Prop} {x : S40} {cs : List Value} (h : k40.M w base ok x cs) : cs = [.string x.f0, .string x.f1] := by
  obtain ⟨_, _, rfl, rfl, rfl⟩ := h
  exact rfl
theorem k40_mk (w : World) (x : S40)  : k40.K w x [.string x.f0, .string x.f1] := ⟨[.string x.f0], [.string x.f1], rfl, rfl, rfl⟩
theorem k40_mkM (w : World) (base : Nat) (ok : Nat → Prop) (x : S40)  : k40.M w base ok x [.string x.f0, .string x.f1] := ⟨[.string x.f0], [.string x.f1], rfl, rfl, rfl⟩
def rd_T40 (xs : List S40) (i : Int) : S40 := xs.getD i.toNat z40
theorem at_T40 {w : World} {A : Option Addr} {n : Nat} {xs : List S40} (h : Kd.C k40 w A n xs) (i : Int) (h0 : 0 ≤ i) (h1 : i < n) : ∃ ad , A = some ad ∧ w.cell? (ad.add (i.toNat * 2)) = some (.string (rd_T40 xs i).f0) ∧ w.cell? ⟨(ad.add (i.toNat * 2)).block, (ad.add (i.toNat * 2)).off + 1, none⟩ = some (.string (rd_T40 xs i).f1) := by
  obtain ⟨ad, c, e, _, hK, hc0⟩ := Kd.C_get h z40 i h0 h1
  have hc : ∀ j u, c[j]? = some u → w.cell? (ad.add (i.toNat * 2 + j)) = some u := hc0
  obtain rfl := k40_open hK
  exact ⟨ad, e, hc 0 _ rfl, by rw [← add_field _ _ 1 (by omega)]; exact hc 1 _ rfl⟩

def rd_L3 (xs : List (List S40)) (i : Int) : (List S40) := xs.getD i.toNat ([] : List S40)
theorem at_L3 {w : World} {A : Option Addr} {n : Nat} {xs : List (List S40)} (h : Kd.C (Kd.slice 40 k40) w A n xs) (i : Int) (h0 : 0 ≤ i) (h1 : i < n) : ∃ ad A0 c0, A = some ad ∧ w.cell? (ad.add i.toNat) = some (.slice A0 (rd_L3 xs i).length c0) ∧ (rd_L3 xs i).length ≤ c0 ∧ k40.C w A0 (rd_L3 xs i).length (rd_L3 xs i) := by
  obtain ⟨ad, c, e, _, hK, hc0⟩ := Kd.C_get h ([] : List S40) i h0 h1
  have hc : ∀ j u, c[j]? = some u → w.cell? (ad.add (i.toNat * 1 + j)) = some u := hc0
  obtain ⟨A0, c0, rfl, l0, g0⟩ := hK
  exact ⟨ad, A0, c0, e, by have hq := hc 0 _ rfl; rwa [Nat.mul_one, Nat.add_zero] at hq, l0, g0⟩

/-! #### struct type 59 -/
structure S59 where
  f0 : Int
  f1 : ByteArray
  f2 : ByteArray
  f3 : (List S40)
  f4 : Bool
def z59 : S59 := ⟨(0 : Int), (⟨#[]⟩ : ByteArray), (⟨#[]⟩ : ByteArray), ([] : List S40), false⟩
def k59 : Kd S59 := Kd.iso (Kd.pair (Kd.int .i64) (Kd.pair Kd.string (Kd.pair Kd.string (Kd.pair (Kd.slice 40 k40) Kd.bool)))) (fun x : S59 => (x.f0, x.f1, x.f2, x.f3, x.f4))
theorem k59_open {w : World} {x : S59} {cs : List Value} (h : k59.K w x cs) : ∃ A3 c3, cs = [.int .i64 x.f0, .string x.f1, .string x.f2, .slice A3 x.f3.length c3, .bool x.f4] ∧ x.f3.length ≤ c3 ∧ k40.C w A3 x.f3.length x.f3 := by
  obtain ⟨_, _, rfl, rfl, ⟨_, _, rfl, rfl, ⟨_, _, rfl, rfl, ⟨_, _, rfl, ⟨A3, c3, rfl, l3, g3⟩, rfl⟩⟩⟩⟩ := h
  exact ⟨A3, c3, rfl, l3, g3⟩
theorem k59_openM {w : World} {base : Nat} {ok : Nat → Prop} {x : S59} {cs : List Value} (h : k59.M w base ok x cs) : ∃ v3, cs = [.int .i64 x.f0, .string x.f1, .string x.f2, v3, .bool x.f4] ∧ k40.R 40 w base ok v3 x.f3 := by
  obtain ⟨_, _, rfl, rfl, ⟨_, _, rfl, rfl, ⟨_, _, rfl, rfl, ⟨_, _, rfl, ⟨v3, rfl, g3⟩, rfl⟩⟩⟩⟩ := h
  exact ⟨v3, rfl, g3⟩
theorem k59_mk (w : World) (x : S59) {A3 : Option Addr} {c3 : Nat} (l3 : x.f3.length ≤ c3) (g3 : k40.C w A3 x.f3.length x.f3) : k59.K w x [.int .i64 x.f0, .string x.f1, .string x.f2, .slice A3 x.f3.length c3, .bool x.f4] := ⟨[.int .i64 x.f0], [.string x.f1, .string x.f2, .slice A3 x.f3.length c3, .bool x.f4], rfl, rfl, ⟨[.string x.f1], [.string x.f2, .slice A3 x.f3.length c3, .bool x.f4], rfl, rfl, ⟨[.string x.f2], [.slice A3 x.f3.length c3, .bool x.f4], rfl, rfl, ⟨[.slice A3 x.f3.length c3], [.bool x.f4], rfl, ⟨A3, c3, rfl, l3, g3⟩, rfl⟩⟩⟩⟩
theorem k59_mkM (w : World) (base : Nat) (ok : Nat → Prop) (x : S59) {v3 : Value} (g3 : k40.R 40 w base ok v3 x.f3) : k59.M w base ok x [.int .i64 x.f0, .string x.f1, .string x.f2, v3, .bool x.f4] := ⟨[.int .i64 x.f0], [.string x.f1, .string x.f2, v3, .bool x.f4], rfl, rfl, ⟨[.string x.f1], [.string x.f2, v3, .bool x.f4], rfl, rfl, ⟨[.string x.f2], [v3, .bool x.f4], rfl, rfl, ⟨[v3], [.bool x.f4], rfl, ⟨v3, rfl, g3⟩, rfl⟩⟩⟩⟩
def rd_T59 (xs : List S59) (i : Int) : S59 := xs.getD i.toNat z59
theorem at_T59 {w : World} {A : Option Addr} {n : Nat} {xs : List S59} (h : Kd.C k59 w A n xs) (i : Int) (h0 : 0 ≤ i) (h1 : i < n) : ∃ ad A3 c3, A = some ad ∧ w.cell? (ad.add (i.toNat * 5)) = some (.int .i64 (rd_T59 xs i).f0) ∧ w.cell? ⟨(ad.add (i.toNat * 5)).block, (ad.add (i.toNat * 5)).off + 1, none⟩ = some (.string (rd_T59 xs i).f1) ∧ w.cell? ⟨(ad.add (i.toNat * 5)).block, (ad.add (i.toNat * 5)).off + 2, none⟩ = some (.string (rd_T59 xs i).f2) ∧ w.cell? ⟨(ad.add (i.toNat * 5)).block, (ad.add (i.toNat * 5)).off + 3, none⟩ = some (.slice A3 (rd_T59 xs i).f3.length c3) ∧ w.cell? ⟨(ad.add (i.toNat * 5)).block, (ad.add (i.toNat * 5)).off + 4, none⟩ = some (.bool (rd_T59 xs i).f4) ∧ (rd_T59 xs i).f3.length ≤ c3 ∧ k40.C w A3 (rd_T59 xs i).f3.length (rd_T59 xs i).f3 := by
  obtain ⟨ad, c, e, _, hK, hc0⟩ := Kd.C_get h z59 i h0 h1
  have hc : ∀ j u, c[j]? = some u → w.cell? (ad.add (i.toNat * 5 + j)) = some u := hc0
  obtain ⟨A3, c3, rfl, l3, g3⟩ := k59_open hK
  exact ⟨ad, A3, c3, e, hc 0 _ rfl, by rw [← add_field _ _ 1 (by omega)]; exact hc 1 _ rfl, by rw [← add_field _ _ 2 (by omega)]; exact hc 2 _ rfl, by rw [← add_field _ _ 3 (by omega)]; exact hc 3 _ rfl, by rw [← add_field _ _ 4 (by omega)]; exact hc 4 _ rfl, l3, g3⟩

end Go.Proofs.YtdnbaliibiginaaGreatDoorH.TI

/- Small closing lemmas for walks: endings compared part by part. No condition. -/
namespace Go.Proofs.YtdnbaliibiginaaGreatDoor
open Go.RowKit Go.Proofs

theorem ba_ext {a b : ByteArray} (h : a.data.toList = b.data.toList) : a = b := by
  cases a; cases b; congr; exact Array.toList_inj.mp h
theorem ba_mk (a : ByteArray) : (⟨a.data.toList.toArray⟩ : ByteArray) = a := ba_ext (by simp)
theorem ret_i32 {a b : Int} (h : a = b) : Ending.returned (.int .i32 a) = .returned (.int .i32 b) := by rw [h]
theorem ret_i64 {a b : Int} (h : a = b) : Ending.returned (.int .i64 a) = .returned (.int .i64 b) := by rw [h]
theorem ret_b {a b : Bool} (h : a = b) : Ending.returned (.bool a) = .returned (.bool b) := by rw [h]
theorem ret_s {a b : ByteArray} (h : a.data.toList = b.data.toList) : Ending.returned (.string a) = .returned (.string b) := by rw [ba_ext h]
theorem ret_sb {a b : ByteArray} {x y : Bool} (h : a.data.toList = b.data.toList) (k : x = y) : Ending.returned (.tuple #[.string a, .bool x]) = .returned (.tuple #[.string b, .bool y]) := by rw [ba_ext h, k]
theorem below_drewN {B : Nat} {w W : World} (h : Below B w W) (n : Nat) : Below B w (W.drewN n) := ⟨h.os, h.tape, h.output, h.size, h.block⟩
theorem below_then {B : Nat} {w w1 w2 : World} (h : Below B w w1) (hB : B ≤ w1.heap.size) (k : Below w1.heap.size w1 w2) : Below B w w2 :=
  h.trans ⟨k.os, k.tape, k.output, k.size, fun i hi => k.block i (Nat.lt_of_lt_of_le hi hB)⟩
theorem below_seq {w w1 w2 : World} (h : Below w.heap.size w w1) (k : Below w1.heap.size w1 w2) : Below w.heap.size w w2 := below_then h h.size k
theorem mk_data_list (l : List UInt8) : (⟨l.toArray⟩ : ByteArray).data.toList = l := by simp
theorem mk_toList (l : List UInt8) : (⟨l.toArray⟩ : ByteArray).toList = l := by rw [Lib.toList_data, mk_data_list]
theorem mk_size (l : List UInt8) : (⟨l.toArray⟩ : ByteArray).size = l.length := by rw [Lib.size_eq, mk_data_list]
@[go_sem] theorem ext_end (l : List UInt8) (a : Nat) : (⟨l.toArray⟩ : ByteArray).extract a l.length = ⟨(l.drop a).toArray⟩ := by
  rw [Lib.extract_eq, mk_data_list, List.take_of_length_le (by simp)]
@[go_sem] theorem ext_take (l : List UInt8) (n : Nat) : (⟨l.toArray⟩ : ByteArray).extract 0 n = ⟨(l.take n).toArray⟩ := by
  rw [Lib.extract_eq, mk_data_list]
  simp
@[go_sem] theorem get_mk (l : List UInt8) (k : Nat) (h : k < (⟨l.toArray⟩ : ByteArray).size) : (⟨l.toArray⟩ : ByteArray)[k]'h = l[k]'(by rwa [mk_size] at h) := by
  rw [ByteArray.getElem_eq_getElem_data]
  simp
end Go.Proofs.YtdnbaliibiginaaGreatDoor

/- Contract of refs.digits at the bases 10 and 16: whether all bytes are digits of the base, and there is one; nothing that lay in memory turns. -/
namespace Go.Proofs.YtdnbaliibiginaaGreatDoor
open Go.RowKit Go.Proofs

def digN (base c : Nat) : Bool := decide ((48 ≤ c ∧ c ≤ 57) ∨ (base = 16 ∧ ((97 ≤ c ∧ c ≤ 102) ∨ (65 ≤ c ∧ c ≤ 70))))
theorem digN_no {base c : Nat} (h : ¬ ((48 ≤ c ∧ c ≤ 57) ∨ (base = 16 ∧ ((97 ≤ c ∧ c ≤ 102) ∨ (65 ≤ c ∧ c ≤ 70))))) : digN base c = false := decide_eq_false h
theorem digN_yes {base c : Nat} (h : (48 ≤ c ∧ c ≤ 57) ∨ (base = 16 ∧ ((97 ≤ c ∧ c ≤ 102) ∨ (65 ≤ c ∧ c ≤ 70)))) : digN base c = true := decide_eq_true h
def digitsL (base : Nat) (l : List UInt8) : Bool := l.all (fun c => digN base c.toNat) && !l.isEmpty

theorem all_of_get {s : ByteArray} {p : UInt8 → Bool} (h : ∀ j (hj : j < s.size), p (s[j]'hj) = true) : s.toList.all p = true := by
  rw [Lib.toList_data, List.all_eq_true]
  intro x hx
  obtain ⟨j, hj, e⟩ := List.getElem_of_mem hx
  have hj' : j < s.size := by simpa using hj
  have := h j hj'
  rw [← e]
  simpa [ByteArray.getElem_eq_getElem_data] using this
theorem not_all_of_get {s : ByteArray} {p : UInt8 → Bool} {j : Nat} (hj : j < s.size) (h : p (s[j]'hj) = false) : s.toList.all p = false := by
  rw [Lib.toList_data, List.all_eq_false]
  exact ⟨s[j], by simp [ByteArray.getElem_eq_getElem_data], by simp [h]⟩

theorem digits_no {base : Nat} {s : ByteArray} {j : Nat} (hj : j < s.size) (h : digN base (s[j]'hj).toNat = false) : digitsL base s.toList = false := by
  unfold digitsL
  rw [not_all_of_get hj h]
  rfl
theorem digits_yes {base : Nat} {s : ByteArray} (h : ∀ j (hj : j < s.size), digN base (s[j]'hj).toNat = true) : digitsL base s.toList = !s.toList.isEmpty := by
  unfold digitsL
  rw [all_of_get h]
  rfl
theorem digits_step {base pos : Nat} {s : ByteArray} (h : ∀ j (hj : j < s.size), j < pos → digN base (s[j]'hj).toNat = true) (hp : pos < s.size) (hd : digN base (s[pos]'hp).toNat = true) :
    ∀ j (hj : j < s.size), j < pos + 1 → digN base (s[j]'hj).toNat = true := by
  intro j hj hlt
  by_cases e : j = pos
  · subst e; exact hd
  · exact h j hj (by omega)

set_option maxHeartbeats 4000000 in
set_option maxRecDepth 100000 in
theorem digits_c (base : Nat) (hb : base = 10 ∨ base = 16) (s : ByteArray) (w : World) (hs : s.size ≤ 9223372036854775807) :
    Calls Tryz.prog 189 #[.string s, .int .i64 base] w fun e w' => e = .returned (.bool (digitsL base s.toList)) ∧ Below w.heap.size w w' := by
  go_enter Tryz.func189, Tryz.ntmps189
  go_wp2
  go_loopw [] (fun wr => ∃ (pos : Nat), pos ≤ s.size ∧ wr.heap[w.heap.size]? = some (.stringIter s pos) ∧ Below w.heap.size w wr ∧ Hid (∀ j (hj : j < s.size), j < pos → digN base (s[j]'hj).toNat = true)) (fun wr => s.size - wr.iterPos w.heap.size)
  case atStart =>
    refine ⟨0, by omega, by simpa using World.iter_heap w s 0, (Below.refl _ w).alloc (Nat.le_refl _) _, fun j _ h => by omega⟩
  case round =>
    obtain ⟨pos, hp, hit, hbw, hall⟩ := hrel
    by_cases hlt : pos < s.size
    · by_cases ha : (s[pos]'hlt).toNat < 128
      · have hnx : ∀ ty, (Instr.next (.pointer (some ⟨w.heap.size, 0, none⟩)) true ty).run Tryz.prog wr = _ := fun ty => Lib.run_next_ascii_at wr w.heap.size s pos ty hit hlt ha
        generalize hc : (s[pos]'hlt).toNat = c at *
        have hc' := Lib.hid hc
        clear hc
        rcases hb with rfl | rfl
        all_goals
          go_wp2
          all_goals (try simp only [Bool.not_eq_true', Bool.not_eq_false', Bool.not_true, Bool.not_false, decide_eq_true_eq, decide_eq_false_iff_not] at *)
          all_goals first
            | (go_ret; refine ⟨ret_b (digits_no hlt ?_).symm, Lib.below_iterAt hbw (Nat.le_refl _) _ _⟩; rw [hc'.out]; refine digN_no ?_; omega)
            | (refine ⟨⟨pos + 1, ?_, Lib.iterAt_heap _ _ _ _ _ hit, Lib.below_iterAt hbw (Nat.le_refl _) _ _, digits_step hall.out hlt ?_⟩, ?_⟩; omega; rw [hc'.out]; refine digN_yes ?_; omega; simp only [World.iterPos, Lib.iterAt_heap _ _ _ _ _ hit, hit]; omega)
            | skip
      · have hh := decode_high s pos hlt (by omega)
        obtain ⟨hh1, hh2⟩ := hh
        have hnx : ∀ ty, (Instr.next (.pointer (some ⟨w.heap.size, 0, none⟩)) true ty).run Tryz.prog wr = _ := fun ty => Lib.run_next_any_at wr w.heap.size s pos ty hit hlt
        have h64 : (128 : Int) ≤ (Utf8.decode s pos).1 := by omega
        have hle := decode_le s pos
        generalize (Utf8.decode s pos).1 = c at *
        generalize (Utf8.decode s pos).2 = d at *
        have hno : digN base (s[pos]'hlt).toNat = false := by
          refine digN_no ?_; omega
        have hno := Lib.hid hno
        rename_i hno0 
        clear hno0
        rcases hb with rfl | rfl
        all_goals
          go_wp2
          all_goals (try simp only [Bool.not_eq_true', Bool.not_eq_false', Bool.not_true, Bool.not_false, decide_eq_true_eq, decide_eq_false_iff_not] at *)
          all_goals first
            | (go_ret; refine ⟨ret_b (digits_no hlt hno.out).symm, Lib.below_iterAt hbw (Nat.le_refl _) _ _⟩)
            | (exfalso; omega)
    · have hnx : ∀ ty, (Instr.next (.pointer (some ⟨w.heap.size, 0, none⟩)) true ty).run Tryz.prog wr = _ := fun ty => Lib.run_next_end_at wr w.heap.size s pos ty hit hlt
      have hy := Lib.hid (digits_yes fun j hj => hall.out j hj (by omega))
      go_wp2
      go_ret
      refine ⟨ret_b ?_, hbw⟩
      rw [hy.out]
end Go.Proofs.YtdnbaliibiginaaGreatDoor

/-
  DERIVED: THE SHELF's CONTRACTS AT THIS DUMP, IN PLAIN WORDS (tools/lay-plain.mjs out of 'TryzShelf.lean', which tools/lay-shelf.mjs wrote): THE SAME DECLARATIONS UNDER THE SAME NAMES: 'import', 'namespace', 'open', 'def', 'theorem' AND NOTHING ELSE: no command of the shelf's: FOR A HAND-IN. Each laying: the table of numbers ('.._ren') and one theorem, a field a fact of the dump's own or the kernel's comparison; each contract: ONE APPLICATION.
-/
namespace Go.Proofs
open Go.Shelf
def Tryz.lays169_ren : Go.Shelf.Ren := ⟨fun | 169 => 98 | n => n, fun | 70 => 86 | 9 => 9 | 0 => 0 | 72 => 89 | 37 => 87 | 127 => 115 | 3 => 3 | 5 => 5 | n => n, fun | n => n⟩
theorem Tryz.lays169 : Go.Proofs.Lays.n169 Tryz.prog Tryz.lays169_ren := {
  mixed := by kernel_rfl
  f169 := Tryz.func98.trans (congrArg some (by kernel_rfl))
  t0 := Tryz.underlying0
  a0 := Tryz.isAgg0
  z0 := Tryz.sizeOf0
  v0 := Tryz.zeroValue0
  t3 := Tryz.underlying3
  a3 := Tryz.isAgg3
  z3 := Tryz.sizeOf3
  v3 := Tryz.zeroValue3
  t9 := Tryz.underlying9
  a9 := Tryz.isAgg9
  z9 := Tryz.sizeOf9
  v9 := Tryz.zeroValue9
  t37 := Tryz.underlying87
  a37 := Tryz.isAgg87
  z37 := Tryz.sizeOf87
  v37 := Tryz.zeroValue87
  t70 := Tryz.underlying86
  a70 := Tryz.isAgg86
  z70 := Tryz.sizeOf86
  v70 := Tryz.zeroValue86
  t72 := Tryz.underlying89
  a72 := Tryz.isAgg89
  z72 := Tryz.sizeOf89
  v72 := Tryz.zeroValue89
  t127 := Tryz.underlying115
  a127 := Tryz.isAgg115
  z127 := Tryz.sizeOf115
  v127 := Tryz.zeroValue115 }
theorem Tryz.Builder_Extra_169 : Builder.Extra Tryz.prog Tryz.lays169_ren := {
  sizeBuilder := by kernel_rfl
  liesBuilder := by kernel_rfl
  t5 := Tryz.underlying5
  a5 := Tryz.isAgg5
  z5 := Tryz.sizeOf5
  v5 := Tryz.zeroValue5
  infoByte := by kernel_rfl
  cellsByte := by kernel_rfl
  sizeByte := by kernel_rfl
  neB5 := by decide }
open Go.RowKit in
/-- (*strings.Builder).String: "String returns the accumulated string.": OF A BUILDER THAT HOLDS AT LEAST ONE BYTE. ✋ THE MODEL FREEZES THOSE BYTES IN THE BUFFER (unsafe.String): a later write INTO them ends the model's run without an answer; a later append BEHIND them goes on. The statement's order of evaluation is drawn: one draw. (LAID: no walk: one application.) -/
theorem Tryz.Builder_String (B b : Nat) (l : List UInt8) (w : World) (h : Lib.IsBuilder 89 5 B b (Lib.byteCells l) w) (h0 : l ≠ []) :
    Calls Tryz.prog 98 #[.pointer (some ⟨b, 0, none⟩)] w fun e w' => e = .returned (.string ⟨l.toArray⟩) ∧ Below B w w' := Any.Builder_String Tryz.lays169 Tryz.Builder_Extra_169 B b l w h h0
open Go.RowKit in
/-- (*strings.Builder).String OF A BUILDER THAT HOLDS NO BYTE: the empty string. (Its buffer is nil, or a row of which it has taken nothing yet; where that row has NO capacity the model lays one new block for unsafe.SliceData's 'some address'.) One draw. (LAID: no walk: one application.) -/
theorem Tryz.Builder_String_empty (B b : Nat) (w : World) (h : Lib.IsBuilder 89 5 B b [] w) (hBw : B ≤ w.heap.size) :
    Calls Tryz.prog 98 #[.pointer (some ⟨b, 0, none⟩)] w fun e w' => e = .returned (.string ⟨#[]⟩) ∧ Below B w w' := Any.Builder_String_empty Tryz.lays169 Tryz.Builder_Extra_169 B b w h hBw
open Go.RowKit in
/-- (*strings.Builder).String: "String returns the accumulated string.": WHATEVER THE BUILDER HOLDS. (LAID: no walk: one application.) -/
theorem Tryz.Builder_String_any (B b : Nat) (l : List UInt8) (w : World) (h : Lib.IsBuilder 89 5 B b (Lib.byteCells l) w) (hBw : B ≤ w.heap.size) :
    Calls Tryz.prog 98 #[.pointer (some ⟨b, 0, none⟩)] w fun e w' => e = .returned (.string ⟨l.toArray⟩) ∧ Below B w w' := Any.Builder_String_any Tryz.lays169 Tryz.Builder_Extra_169 B b l w h hBw
def Tryz.lays119_ren : Go.Shelf.Ren := ⟨fun | 119 => 176 | n => n, fun | 21 => 21 | 4 => 4 | n => n, fun | n => n⟩
theorem Tryz.lays119 : Go.Proofs.Lays.n119 Tryz.prog Tryz.lays119_ren := {
  mixed := by kernel_rfl
  f119 := Tryz.func176.trans (congrArg some (by kernel_rfl))
  t4 := Tryz.underlying4
  a4 := Tryz.isAgg4
  z4 := Tryz.sizeOf4
  v4 := Tryz.zeroValue4
  t21 := Tryz.underlying21
  a21 := Tryz.isAgg21
  z21 := Tryz.sizeOf21
  v21 := Tryz.zeroValue21 }
/-- utf8.ValidRune: "ValidRune reports whether r can be legally encoded as UTF-8. Code points that are out of range or a surrogate half are illegal.": IT RETURNS 'Lib.validRune r'; the world is as it was. (LAID: no walk: one application.) -/
theorem Tryz.utf8_ValidRune (r : Int) (w : World) :
    Calls Tryz.prog 176 #[.int .i32 r] w fun e w' => e = .returned (.bool (Lib.validRune r)) ∧ w' = w := Any.utf8_ValidRune Tryz.lays119 r w
def Tryz.lays137_ren : Go.Shelf.Ren := ⟨fun | 137 => 175 | 217 => 179 | 266 => 193 | n => n, fun | 9 => 9 | 5 => 5 | 3 => 3 | n => n, fun | n => n⟩
theorem Tryz.lays137 : Go.Proofs.Lays.n137 Tryz.prog Tryz.lays137_ren := {
  mixed := by kernel_rfl
  f137 := Tryz.func175.trans (congrArg some (by kernel_rfl))
  f217 := Tryz.func179.trans (congrArg some (by kernel_rfl))
  f266 := Tryz.func193.trans (congrArg some (by kernel_rfl))
  t3 := Tryz.underlying3
  a3 := Tryz.isAgg3
  z3 := Tryz.sizeOf3
  v3 := Tryz.zeroValue3
  t5 := Tryz.underlying5
  a5 := Tryz.isAgg5
  z5 := Tryz.sizeOf5
  v5 := Tryz.zeroValue5
  t9 := Tryz.underlying9
  a9 := Tryz.isAgg9
  z9 := Tryz.sizeOf9
  v9 := Tryz.zeroValue9 }
open Go.RowKit in
/-- strings.IndexByte: "IndexByte returns the index of the first instance of c in s, or -1 if c is not present in s.": IT RETURNS 'Lib.indexByte s c'; the world is as it was. (LAID: no walk: one application.) -/
theorem Tryz.strings_IndexByte (s : ByteArray) (c : Int) (w : World) :
    Calls Tryz.prog 175 #[.string s, .int .u8 c] w fun e w' => e = .returned (.int .i64 (Lib.indexByte s.data.toList c.toNat.toUInt8)) ∧ w' = w := Any.strings_IndexByte Tryz.lays137 s c w
open Go.RowKit in
/-- (*strings.Builder).String: "String returns the accumulated string.": OF A BUILDER THAT HOLDS AT LEAST ONE BYTE. ✋ THE MODEL FREEZES THOSE BYTES IN THE BUFFER (unsafe.String): a later write INTO them ends the model's run without an answer; a later append BEHIND them goes on. The statement's order of evaluation is drawn: one draw. THE FORM '_f': IT SAYS BESIDES THAT THE BUILDER IS A BUILDER STILL ('Lib.IsBuilderF', the same bytes): SO IT CAN BE WRITTEN ON: 'b.WriteString(b.String()[:k])'. (LAID: no walk: one application.) -/
theorem Tryz.Builder_String_f (B b : Nat) (l : List UInt8) (w : World) (h : Lib.IsBuilderF 89 5 B b (Lib.byteCells l) w) (h0 : l ≠ []) :
    Calls Tryz.prog 98 #[.pointer (some ⟨b, 0, none⟩)] w fun e w' => e = .returned (.string ⟨l.toArray⟩) ∧ (Lib.IsBuilderF 89 5 B b (Lib.byteCells l) w' ∧ Below B w w') := Any.Builder_String_f Tryz.lays169 Tryz.Builder_Extra_169 B b l w h h0
open Go.RowKit in
/-- (*strings.Builder).String OF A BUILDER THAT HOLDS NO BYTE: the empty string; THE FORM '_f': a builder still. (LAID: no walk: one application.) -/
theorem Tryz.Builder_String_empty_f (B b : Nat) (w : World) (h : Lib.IsBuilderF 89 5 B b [] w) (hBw : B ≤ w.heap.size) :
    Calls Tryz.prog 98 #[.pointer (some ⟨b, 0, none⟩)] w fun e w' => e = .returned (.string ⟨#[]⟩) ∧ (Lib.IsBuilderF 89 5 B b [] w' ∧ Below B w w') := Any.Builder_String_empty_f Tryz.lays169 Tryz.Builder_Extra_169 B b w h hBw
open Go.RowKit in
/-- (*strings.Builder).String: "String returns the accumulated string.": WHATEVER THE BUILDER HOLDS; THE FORM '_f': OF A BUILDER THAT MAY HAVE BEEN READ BEFORE; AND IT IS A BUILDER STILL, holding the same bytes: it can be written on. (LAID: no walk: one application.) -/
theorem Tryz.Builder_String_any_f (B b : Nat) (l : List UInt8) (w : World) (h : Lib.IsBuilderF 89 5 B b (Lib.byteCells l) w) (hBw : B ≤ w.heap.size) :
    Calls Tryz.prog 98 #[.pointer (some ⟨b, 0, none⟩)] w fun e w' => e = .returned (.string ⟨l.toArray⟩) ∧ (Lib.IsBuilderF 89 5 B b (Lib.byteCells l) w' ∧ Below B w w') := Any.Builder_String_any_f Tryz.lays169 Tryz.Builder_Extra_169 B b l w h hBw
open Go.RowKit in
/-- (*strings.Builder).String: "String returns the accumulated string.": OF A BUILDER THAT HOLDS AT LEAST ONE BYTE. ✋ THE MODEL FREEZES THOSE BYTES IN THE BUFFER (unsafe.String): a later write INTO them ends the model's run without an answer; a later append BEHIND them goes on. The statement's order of evaluation is drawn: one draw. THE FORM '_k': OVER 'Lib.IsBuilderF' (a builder that 'String()' may have read), AND WITH THE FRAME THAT REACHES ABOVE THE BUILDER: 'Lib.OthersKept': every block that is not b and is no row of uint8's stands as it stood: the iterator of a range among them. (LAID: no walk: one application.) -/
theorem Tryz.Builder_String_k (B b : Nat) (l : List UInt8) (w : World) (h : Lib.IsBuilderF 89 5 B b (Lib.byteCells l) w) (h0 : l ≠ []) :
    Calls Tryz.prog 98 #[.pointer (some ⟨b, 0, none⟩)] w fun e w' => e = .returned (.string ⟨l.toArray⟩) ∧ (Lib.IsBuilderF 89 5 B b (Lib.byteCells l) w' ∧ Below B w w' ∧ Lib.OthersKept 5 (some b) w w') := Any.Builder_String_k Tryz.lays169 Tryz.Builder_Extra_169 B b l w h h0
open Go.RowKit in
/-- (*strings.Builder).String OF A BUILDER THAT HOLDS NO BYTE: the empty string; THE FORM '_k': OVER 'Lib.IsBuilderF' (a builder that 'String()' may have read), AND WITH THE FRAME THAT REACHES ABOVE THE BUILDER: 'Lib.OthersKept': every block that is not b and is no row of uint8's stands as it stood: the iterator of a range among them. (LAID: no walk: one application.) -/
theorem Tryz.Builder_String_empty_k (B b : Nat) (w : World) (h : Lib.IsBuilderF 89 5 B b [] w) (hBw : B ≤ w.heap.size) :
    Calls Tryz.prog 98 #[.pointer (some ⟨b, 0, none⟩)] w fun e w' => e = .returned (.string ⟨#[]⟩) ∧ (Lib.IsBuilderF 89 5 B b [] w' ∧ Below B w w' ∧ Lib.OthersKept 5 (some b) w w') := Any.Builder_String_empty_k Tryz.lays169 Tryz.Builder_Extra_169 B b w h hBw
open Go.RowKit in
/-- (*strings.Builder).String: "String returns the accumulated string.": WHATEVER THE BUILDER HOLDS; THE FORM '_k': OVER 'Lib.IsBuilderF' (a builder that 'String()' may have read), AND WITH THE FRAME THAT REACHES ABOVE THE BUILDER: 'Lib.OthersKept': every block that is not b and is no row of uint8's stands as it stood: the iterator of a range among them. (LAID: no walk: one application.) -/
theorem Tryz.Builder_String_any_k (B b : Nat) (l : List UInt8) (w : World) (h : Lib.IsBuilderF 89 5 B b (Lib.byteCells l) w) (hBw : B ≤ w.heap.size) :
    Calls Tryz.prog 98 #[.pointer (some ⟨b, 0, none⟩)] w fun e w' => e = .returned (.string ⟨l.toArray⟩) ∧ (Lib.IsBuilderF 89 5 B b (Lib.byteCells l) w' ∧ Below B w w' ∧ Lib.OthersKept 5 (some b) w w') := Any.Builder_String_any_k Tryz.lays169 Tryz.Builder_Extra_169 B b l w h hBw
def Tryz.lays129_ren : Go.Shelf.Ren := ⟨fun | 129 => 218 | n => n, fun | 53 => 145 | 3 => 3 | 4 => 4 | 46 => 124 | 5 => 5 | 9 => 9 | n => n, fun | n => n⟩
theorem Tryz.lays129 : Go.Proofs.Lays.n129 Tryz.prog Tryz.lays129_ren := {
  mixed := by kernel_rfl
  f129 := Tryz.func218.trans (congrArg some (by kernel_rfl))
  t3 := Tryz.underlying3
  a3 := Tryz.isAgg3
  z3 := Tryz.sizeOf3
  v3 := Tryz.zeroValue3
  t4 := Tryz.underlying4
  a4 := Tryz.isAgg4
  z4 := Tryz.sizeOf4
  v4 := Tryz.zeroValue4
  t5 := Tryz.underlying5
  a5 := Tryz.isAgg5
  z5 := Tryz.sizeOf5
  v5 := Tryz.zeroValue5
  t9 := Tryz.underlying9
  a9 := Tryz.isAgg9
  z9 := Tryz.sizeOf9
  v9 := Tryz.zeroValue9
  t46 := Tryz.underlying124
  a46 := Tryz.isAgg124
  z46 := Tryz.sizeOf124
  v46 := Tryz.zeroValue124
  t53 := Tryz.underlying145
  a53 := Tryz.isAgg145
  z53 := Tryz.sizeOf145
  v53 := Tryz.zeroValue145 }
/-- bits.Len64: "Len64 returns the minimum number of bits required to represent x; the result is 0 for x == 0.": IT RETURNS 'Lib.bitLen x'; the world is as it was. ('h0', 'h1': x is a uint64.) (LAID: no walk: one application.) -/
theorem Tryz.bits_Len64 (x : Int) (w : World) (h0 : 0 ≤ x) (h1 : x ≤ 18446744073709551615) :
    Calls Tryz.prog 218 #[.int .u64 x] w fun e w' => e = .returned (.int .i64 (Lib.bitLen x.toNat)) ∧ w' = w := Any.bits_Len64 Tryz.lays129 x w h0 h1
def Tryz.lays317_ren : Go.Shelf.Ren := ⟨fun | 317 => 217 | n => n, fun | 3 => 3 | 46 => 124 | n => n, fun | n => n⟩
theorem Tryz.lays317 : Go.Proofs.Lays.n317 Tryz.prog Tryz.lays317_ren := {
  mixed := by kernel_rfl
  f317 := Tryz.func217.trans (congrArg some (by kernel_rfl))
  t3 := Tryz.underlying3
  a3 := Tryz.isAgg3
  z3 := Tryz.sizeOf3
  v3 := Tryz.zeroValue3
  t46 := Tryz.underlying124
  a46 := Tryz.isAgg124
  z46 := Tryz.sizeOf124
  v46 := Tryz.zeroValue124 }
open Go.Lib in
/-- internal/strconv.log10Pow2: "log10Pow2(x) returns ⌊log₁₀ 2**x⌋ = ⌊x * log₁₀ 2⌋.": '(x * 78913) >> 18', at an x up to 64 (a length in bits). The world is as it was. (LAID: no walk: one application.) -/
theorem Tryz.internal_strconv_log10Pow2 (x : Nat) (h : x ≤ 64) (w : World) :
    Calls Tryz.prog 217 #[.int .i64 x] w fun e w' => e = .returned (.int .i64 (Lib.l10 x)) ∧ w' = w := Any.internal_strconv_log10Pow2 Tryz.lays317 x h w
def Tryz.lays318_ren : Go.Shelf.Ren := ⟨fun | 318 => 219 | n => n, fun | 3 => 3 | 4 => 4 | n => n, fun | n => n⟩
theorem Tryz.lays318 : Go.Proofs.Lays.n318 Tryz.prog Tryz.lays318_ren := {
  mixed := by kernel_rfl
  f318 := Tryz.func219.trans (congrArg some (by kernel_rfl))
  t3 := Tryz.underlying3
  a3 := Tryz.isAgg3
  z3 := Tryz.sizeOf3
  v3 := Tryz.zeroValue3
  t4 := Tryz.underlying4
  a4 := Tryz.isAgg4
  z4 := Tryz.sizeOf4
  v4 := Tryz.zeroValue4 }
open Go.Lib in
/-- internal/strconv.bool2: "bool2 converts b to an integer: 1 for true, 0 for false." The world is as it was. (LAID: no walk: one application.) -/
theorem Tryz.internal_strconv_bool2_int (b : Bool) (w : World) :
    Calls Tryz.prog 219 #[.bool b] w fun e w' => e = .returned (.int .i64 (if b then 1 else 0)) ∧ w' = w := Any.internal_strconv_bool2_int Tryz.lays318 b w
def Tryz.lays283_ren : Go.Shelf.Ren := ⟨fun | 283 => 213 | n => n, fun | 3 => 3 | 9 => 9 | 4 => 4 | n => n, fun | n => n⟩
theorem Tryz.lays283 : Go.Proofs.Lays.n283 Tryz.prog Tryz.lays283_ren := {
  mixed := by kernel_rfl
  f283 := Tryz.func213.trans (congrArg some (by kernel_rfl))
  t3 := Tryz.underlying3
  a3 := Tryz.isAgg3
  z3 := Tryz.sizeOf3
  v3 := Tryz.zeroValue3
  t4 := Tryz.underlying4
  a4 := Tryz.isAgg4
  z4 := Tryz.sizeOf4
  v4 := Tryz.zeroValue4
  t9 := Tryz.underlying9
  a9 := Tryz.isAgg9
  z9 := Tryz.sizeOf9
  v9 := Tryz.zeroValue9 }
open Go.Lib in
/-- internal/strconv.small: "small returns the string for an i with 0 <= i < nSmalls.": i's decimal numeral. The world is as it was. (LAID: no walk: one application.) -/
theorem Tryz.internal_strconv_small (i : Nat) (h : i < 100) (w : World) :
    Calls Tryz.prog 213 #[.int .i64 i] w fun e w' => e = .returned (.string ⟨(Lib.decDigits i).toArray⟩) ∧ w' = w := Any.internal_strconv_small Tryz.lays283 i h w
def Tryz.laysM284_ren : Go.Shelf.Ren := ⟨fun | 284 => 214 | 129 => 218 | 317 => 217 | 318 => 219 | n => n, fun | 53 => 145 | 3 => 3 | 212 => 183 | 0 => 0 | 4 => 4 | 46 => 124 | 5 => 5 | 9 => 9 | n => n, fun | 17 => 5 | n => n⟩
theorem Tryz.laysM284 : Go.Proofs.LaysM.n284 Tryz.prog Tryz.laysM284_ren := {
  mixed := by kernel_rfl
  f129 := Tryz.func218.trans (congrArg some (by kernel_rfl))
  f284 := Tryz.func214.trans (congrArg some (by kernel_rfl))
  f317 := Tryz.func217.trans (congrArg some (by kernel_rfl))
  f318 := Tryz.func219.trans (congrArg some (by kernel_rfl))
  t0 := Tryz.underlying0
  a0 := Tryz.isAgg0
  z0 := Tryz.sizeOf0
  v0 := Tryz.zeroValue0
  t3 := Tryz.underlying3
  a3 := Tryz.isAgg3
  z3 := Tryz.sizeOf3
  v3 := Tryz.zeroValue3
  t4 := Tryz.underlying4
  a4 := Tryz.isAgg4
  z4 := Tryz.sizeOf4
  v4 := Tryz.zeroValue4
  t5 := Tryz.underlying5
  a5 := Tryz.isAgg5
  z5 := Tryz.sizeOf5
  v5 := Tryz.zeroValue5
  t9 := Tryz.underlying9
  a9 := Tryz.isAgg9
  z9 := Tryz.sizeOf9
  v9 := Tryz.zeroValue9
  t46 := Tryz.underlying124
  a46 := Tryz.isAgg124
  z46 := Tryz.sizeOf124
  v46 := Tryz.zeroValue124
  t53 := Tryz.underlying145
  a53 := Tryz.isAgg145
  z53 := Tryz.sizeOf145
  v53 := Tryz.zeroValue145
  t212 := Tryz.underlying183
  a212 := Tryz.isAgg183
  z212 := Tryz.sizeOf183
  v212 := Tryz.zeroValue183
  g17 := by kernel_rfl
  i0 := by kernel_rfl
  i3 := by kernel_rfl
  i4 := by kernel_rfl
  i5 := by kernel_rfl
  i9 := by kernel_rfl
  i46 := by kernel_rfl
  i53 := by kernel_rfl
  i212 := by kernel_rfl
  m17 := by kernel_rfl }
open Go.Lib in
/-- internal/strconv.numDigits, at a d that is not 0: THE NUMBER OF d's DECIMAL DIGITS. The world is as it was. (LAID: no walk: one application.) -/
theorem Tryz.internal_strconv_numDigits (u : Nat) (h1 : 1 ≤ u) (h2 : u < 18446744073709551616) (w : World) (htab : Lib.TabIs Tryz.prog w "internal/strconv.uint64pow10" .u64 Lib.pow10Tab) :
    Calls Tryz.prog 214 #[.int .u64 u] w fun e w' => e = .returned (.int .i64 (Lib.nDigits u)) ∧ w' = w := Any.internal_strconv_numDigits Tryz.laysM284 u h1 h2 w htab
def Tryz.lays285_ren : Go.Shelf.Ren := ⟨fun | 285 => 215 | n => n, fun | 37 => 87 | 53 => 145 | 3 => 3 | 4 => 4 | 51 => 159 | 9 => 9 | 5 => 5 | 0 => 0 | n => n, fun | n => n⟩
theorem Tryz.lays285 : Go.Proofs.Lays.n285 Tryz.prog Tryz.lays285_ren := {
  mixed := by kernel_rfl
  f285 := Tryz.func215.trans (congrArg some (by kernel_rfl))
  t0 := Tryz.underlying0
  a0 := Tryz.isAgg0
  z0 := Tryz.sizeOf0
  v0 := Tryz.zeroValue0
  t3 := Tryz.underlying3
  a3 := Tryz.isAgg3
  z3 := Tryz.sizeOf3
  v3 := Tryz.zeroValue3
  t4 := Tryz.underlying4
  a4 := Tryz.isAgg4
  z4 := Tryz.sizeOf4
  v4 := Tryz.zeroValue4
  t5 := Tryz.underlying5
  a5 := Tryz.isAgg5
  z5 := Tryz.sizeOf5
  v5 := Tryz.zeroValue5
  t9 := Tryz.underlying9
  a9 := Tryz.isAgg9
  z9 := Tryz.sizeOf9
  v9 := Tryz.zeroValue9
  t37 := Tryz.underlying87
  a37 := Tryz.isAgg87
  z37 := Tryz.sizeOf87
  v37 := Tryz.zeroValue87
  t51 := Tryz.underlying159
  a51 := Tryz.isAgg159
  z51 := Tryz.sizeOf159
  v51 := Tryz.zeroValue159
  t53 := Tryz.underlying145
  a53 := Tryz.isAgg145
  z53 := Tryz.sizeOf145
  v53 := Tryz.zeroValue145 }
open Go.RowKit Go.Sort Go.Lib in
/-- internal/strconv.formatBase10: "formatBase10 formats the decimal representation of u into a. The caller is responsible for ensuring that a is big enough to hold u. If a is too big, leading zeros will be filled in as needed.": THE ROW HOLDS u's DIGITS ('FmtInv .. 0 ..': every place t holds 'dg u (len - 1 - t)'); all else is as it was but for the count of draws. (LAID: no walk: one application.) -/
theorem Tryz.internal_strconv_formatBase10 (blk off cap : Nat) (u : Nat) (d : Array UInt8) (w : World) (hH : Holds (fun (b : UInt8) => Value.int .u8 (b.toNat : Int)) w blk off d) (hu : u < 10 ^ d.size) (hu64 : u < 18446744073709551616) (hsz : d.size < 4611686018427387904) :
    Calls Tryz.prog 215 #[.slice (some ⟨blk, off, none⟩) d.size cap, .int .u64 u] w fun e w' =>
      e = .returned (.tuple #[]) ∧ ∃ (n v' : Nat) (dk : Array UInt8), w' = (putRow (fun (b : UInt8) => Value.int .u8 (b.toNat : Int)) w blk off dk).drewN n ∧ FmtInv d.size u 0 v' dk := Any.internal_strconv_formatBase10 Tryz.lays285 blk off cap u d w hH hu hu64 hsz
def Tryz.laysM246_ren : Go.Shelf.Ren := ⟨fun | 246 => 212 | 283 => 213 | 284 => 214 | 285 => 215 | 286 => 216 | 129 => 218 | 317 => 217 | 318 => 219 | 319 => 220 | 320 => 221 | 337 => 222 | 338 => 223 | n => n, fun | 2 => 2 | 3 => 3 | 9 => 9 | 4 => 4 | 171 => 177 | 0 => 0 | 53 => 145 | 37 => 87 | 5 => 5 | 173 => 180 | 212 => 183 | 51 => 159 | 20 => 20 | 213 => 184 | 46 => 124 | 232 => 187 | 233 => 188 | n => n, fun | 17 => 5 | 18 => 6 | 19 => 7 | n => n⟩
theorem Tryz.laysM246 : Go.Proofs.LaysM.n246 Tryz.prog Tryz.laysM246_ren := {
  mixed := by kernel_rfl
  f129 := Tryz.func218.trans (congrArg some (by kernel_rfl))
  f246 := Tryz.func212.trans (congrArg some (by kernel_rfl))
  f283 := Tryz.func213.trans (congrArg some (by kernel_rfl))
  f284 := Tryz.func214.trans (congrArg some (by kernel_rfl))
  f285 := Tryz.func215.trans (congrArg some (by kernel_rfl))
  f286 := Tryz.func216.trans (congrArg some (by kernel_rfl))
  f317 := Tryz.func217.trans (congrArg some (by kernel_rfl))
  f318 := Tryz.func219.trans (congrArg some (by kernel_rfl))
  f319 := Tryz.func220.trans (congrArg some (by kernel_rfl))
  f320 := Tryz.func221.trans (congrArg some (by kernel_rfl))
  f337 := Tryz.func222.trans (congrArg some (by kernel_rfl))
  f338 := Tryz.func223.trans (congrArg some (by kernel_rfl))
  t0 := Tryz.underlying0
  a0 := Tryz.isAgg0
  z0 := Tryz.sizeOf0
  v0 := Tryz.zeroValue0
  t2 := Tryz.underlying2
  a2 := Tryz.isAgg2
  z2 := Tryz.sizeOf2
  v2 := Tryz.zeroValue2
  t3 := Tryz.underlying3
  a3 := Tryz.isAgg3
  z3 := Tryz.sizeOf3
  v3 := Tryz.zeroValue3
  t4 := Tryz.underlying4
  a4 := Tryz.isAgg4
  z4 := Tryz.sizeOf4
  v4 := Tryz.zeroValue4
  t5 := Tryz.underlying5
  a5 := Tryz.isAgg5
  z5 := Tryz.sizeOf5
  v5 := Tryz.zeroValue5
  t9 := Tryz.underlying9
  a9 := Tryz.isAgg9
  z9 := Tryz.sizeOf9
  v9 := Tryz.zeroValue9
  t20 := Tryz.underlying20
  a20 := Tryz.isAgg20
  z20 := Tryz.sizeOf20
  v20 := Tryz.zeroValue20
  t37 := Tryz.underlying87
  a37 := Tryz.isAgg87
  z37 := Tryz.sizeOf87
  v37 := Tryz.zeroValue87
  t46 := Tryz.underlying124
  a46 := Tryz.isAgg124
  z46 := Tryz.sizeOf124
  v46 := Tryz.zeroValue124
  t51 := Tryz.underlying159
  a51 := Tryz.isAgg159
  z51 := Tryz.sizeOf159
  v51 := Tryz.zeroValue159
  t53 := Tryz.underlying145
  a53 := Tryz.isAgg145
  z53 := Tryz.sizeOf145
  v53 := Tryz.zeroValue145
  t171 := Tryz.underlying177
  a171 := Tryz.isAgg177
  z171 := Tryz.sizeOf177
  v171 := Tryz.zeroValue177
  t173 := Tryz.underlying180
  a173 := Tryz.isAgg180
  z173 := Tryz.sizeOf180
  v173 := Tryz.zeroValue180
  t212 := Tryz.underlying183
  a212 := Tryz.isAgg183
  z212 := Tryz.sizeOf183
  v212 := Tryz.zeroValue183
  t213 := Tryz.underlying184
  a213 := Tryz.isAgg184
  z213 := Tryz.sizeOf184
  t232 := Tryz.underlying187
  a232 := Tryz.isAgg187
  z232 := Tryz.sizeOf187
  v232 := Tryz.zeroValue187
  t233 := Tryz.underlying188
  a233 := Tryz.isAgg188
  z233 := Tryz.sizeOf188
  v233 := Tryz.zeroValue188
  g17 := by kernel_rfl
  g18 := by kernel_rfl
  g19 := by kernel_rfl
  i0 := by kernel_rfl
  i2 := by kernel_rfl
  i3 := by kernel_rfl
  i4 := by kernel_rfl
  i5 := by kernel_rfl
  i9 := by kernel_rfl
  i20 := by kernel_rfl
  i37 := by kernel_rfl
  i46 := by kernel_rfl
  i51 := by kernel_rfl
  i53 := by kernel_rfl
  i171 := by kernel_rfl
  i173 := by kernel_rfl
  i212 := by kernel_rfl
  i232 := by kernel_rfl
  i233 := by kernel_rfl
  m17 := by kernel_rfl
  m18 := by kernel_rfl
  m19 := by kernel_rfl }
open Go.RowKit Go.Sort Go.Lib in
/-- internal/strconv.FormatInt: "FormatInt returns the string representation of i in the given base": AT BASE 10: i's decimal numeral, for every int64. The world behind the call: the world before it, new blocks behind the heap, draws. (LAID: no walk: one application.) -/
theorem Tryz.internal_strconv_FormatInt_10 (n : Int) (h0 : -9223372036854775808 ≤ n) (h1 : n ≤ 9223372036854775807) (w : World) (htab : Lib.TabIs Tryz.prog w "internal/strconv.uint64pow10" .u64 Lib.pow10Tab) :
    Calls Tryz.prog 212 #[.int .i64 n, .int .i64 10] w fun e w' => e = .returned (.string ⟨(Lib.itoa n).toArray⟩) ∧ ∃ k os, w' = grow (w.drewN k) os := Any.internal_strconv_FormatInt_10 Tryz.laysM246 n h0 h1 w htab
def Tryz.lays246_ren : Go.Shelf.Ren := ⟨fun | 246 => 212 | 283 => 213 | 284 => 214 | 285 => 215 | 286 => 216 | 129 => 218 | 317 => 217 | 318 => 219 | 319 => 220 | 320 => 221 | 337 => 222 | 338 => 223 | n => n, fun | 2 => 2 | 3 => 3 | 9 => 9 | 4 => 4 | 171 => 177 | 0 => 0 | 53 => 145 | 37 => 87 | 5 => 5 | 173 => 180 | 212 => 183 | 51 => 159 | 20 => 20 | 213 => 184 | 46 => 124 | 232 => 187 | 233 => 188 | n => n, fun | 17 => 5 | 18 => 6 | 19 => 7 | n => n⟩
theorem Tryz.lays246 : Go.Proofs.Lays.n246 Tryz.prog Tryz.lays246_ren := {
  mixed := by kernel_rfl
  f129 := Tryz.func218.trans (congrArg some (by kernel_rfl))
  f246 := Tryz.func212.trans (congrArg some (by kernel_rfl))
  f283 := Tryz.func213.trans (congrArg some (by kernel_rfl))
  f284 := Tryz.func214.trans (congrArg some (by kernel_rfl))
  f285 := Tryz.func215.trans (congrArg some (by kernel_rfl))
  f286 := Tryz.func216.trans (congrArg some (by kernel_rfl))
  f317 := Tryz.func217.trans (congrArg some (by kernel_rfl))
  f318 := Tryz.func219.trans (congrArg some (by kernel_rfl))
  f319 := Tryz.func220.trans (congrArg some (by kernel_rfl))
  f320 := Tryz.func221.trans (congrArg some (by kernel_rfl))
  f337 := Tryz.func222.trans (congrArg some (by kernel_rfl))
  f338 := Tryz.func223.trans (congrArg some (by kernel_rfl))
  t0 := Tryz.underlying0
  a0 := Tryz.isAgg0
  z0 := Tryz.sizeOf0
  v0 := Tryz.zeroValue0
  t2 := Tryz.underlying2
  a2 := Tryz.isAgg2
  z2 := Tryz.sizeOf2
  v2 := Tryz.zeroValue2
  t3 := Tryz.underlying3
  a3 := Tryz.isAgg3
  z3 := Tryz.sizeOf3
  v3 := Tryz.zeroValue3
  t4 := Tryz.underlying4
  a4 := Tryz.isAgg4
  z4 := Tryz.sizeOf4
  v4 := Tryz.zeroValue4
  t5 := Tryz.underlying5
  a5 := Tryz.isAgg5
  z5 := Tryz.sizeOf5
  v5 := Tryz.zeroValue5
  t9 := Tryz.underlying9
  a9 := Tryz.isAgg9
  z9 := Tryz.sizeOf9
  v9 := Tryz.zeroValue9
  t20 := Tryz.underlying20
  a20 := Tryz.isAgg20
  z20 := Tryz.sizeOf20
  v20 := Tryz.zeroValue20
  t37 := Tryz.underlying87
  a37 := Tryz.isAgg87
  z37 := Tryz.sizeOf87
  v37 := Tryz.zeroValue87
  t46 := Tryz.underlying124
  a46 := Tryz.isAgg124
  z46 := Tryz.sizeOf124
  v46 := Tryz.zeroValue124
  t51 := Tryz.underlying159
  a51 := Tryz.isAgg159
  z51 := Tryz.sizeOf159
  v51 := Tryz.zeroValue159
  t53 := Tryz.underlying145
  a53 := Tryz.isAgg145
  z53 := Tryz.sizeOf145
  v53 := Tryz.zeroValue145
  t171 := Tryz.underlying177
  a171 := Tryz.isAgg177
  z171 := Tryz.sizeOf177
  v171 := Tryz.zeroValue177
  t173 := Tryz.underlying180
  a173 := Tryz.isAgg180
  z173 := Tryz.sizeOf180
  v173 := Tryz.zeroValue180
  t212 := Tryz.underlying183
  a212 := Tryz.isAgg183
  z212 := Tryz.sizeOf183
  v212 := Tryz.zeroValue183
  t213 := Tryz.underlying184
  a213 := Tryz.isAgg184
  z213 := Tryz.sizeOf184
  t232 := Tryz.underlying187
  a232 := Tryz.isAgg187
  z232 := Tryz.sizeOf187
  v232 := Tryz.zeroValue187
  t233 := Tryz.underlying188
  a233 := Tryz.isAgg188
  z233 := Tryz.sizeOf188
  v233 := Tryz.zeroValue188
  g17 := by kernel_rfl
  g18 := by kernel_rfl
  g19 := by kernel_rfl }
open Go.RowKit Go.Sort Go.Lib in
/-- THE ROAD WITHOUT THE TABLE: 0 <= i < 100: two constants are read, nothing is laid: no premise on the world, and the world is as it was. (LAID: no walk: one application.) -/
theorem Tryz.internal_strconv_FormatInt_10_small (i : Nat) (hi : i < 100) (w : World) :
    Calls Tryz.prog 212 #[.int .i64 i, .int .i64 10] w fun e w' => e = .returned (.string ⟨(Lib.decDigits i).toArray⟩) ∧ w' = w := Any.internal_strconv_FormatInt_10_small Tryz.lays246 i hi w
def Tryz.laysM243_ren : Go.Shelf.Ren := ⟨fun | 243 => 211 | 246 => 212 | 283 => 213 | 284 => 214 | 285 => 215 | 286 => 216 | 129 => 218 | 317 => 217 | 318 => 219 | 319 => 220 | 320 => 221 | 337 => 222 | 338 => 223 | n => n, fun | 3 => 3 | 9 => 9 | 2 => 2 | 4 => 4 | 171 => 177 | 0 => 0 | 53 => 145 | 37 => 87 | 5 => 5 | 173 => 180 | 212 => 183 | 51 => 159 | 20 => 20 | 213 => 184 | 46 => 124 | 232 => 187 | 233 => 188 | n => n, fun | 17 => 5 | 18 => 6 | 19 => 7 | n => n⟩
theorem Tryz.laysM243 : Go.Proofs.LaysM.n243 Tryz.prog Tryz.laysM243_ren := {
  mixed := by kernel_rfl
  f129 := Tryz.func218.trans (congrArg some (by kernel_rfl))
  f243 := Tryz.func211.trans (congrArg some (by kernel_rfl))
  f246 := Tryz.func212.trans (congrArg some (by kernel_rfl))
  f283 := Tryz.func213.trans (congrArg some (by kernel_rfl))
  f284 := Tryz.func214.trans (congrArg some (by kernel_rfl))
  f285 := Tryz.func215.trans (congrArg some (by kernel_rfl))
  f286 := Tryz.func216.trans (congrArg some (by kernel_rfl))
  f317 := Tryz.func217.trans (congrArg some (by kernel_rfl))
  f318 := Tryz.func219.trans (congrArg some (by kernel_rfl))
  f319 := Tryz.func220.trans (congrArg some (by kernel_rfl))
  f320 := Tryz.func221.trans (congrArg some (by kernel_rfl))
  f337 := Tryz.func222.trans (congrArg some (by kernel_rfl))
  f338 := Tryz.func223.trans (congrArg some (by kernel_rfl))
  t0 := Tryz.underlying0
  a0 := Tryz.isAgg0
  z0 := Tryz.sizeOf0
  v0 := Tryz.zeroValue0
  t2 := Tryz.underlying2
  a2 := Tryz.isAgg2
  z2 := Tryz.sizeOf2
  v2 := Tryz.zeroValue2
  t3 := Tryz.underlying3
  a3 := Tryz.isAgg3
  z3 := Tryz.sizeOf3
  v3 := Tryz.zeroValue3
  t4 := Tryz.underlying4
  a4 := Tryz.isAgg4
  z4 := Tryz.sizeOf4
  v4 := Tryz.zeroValue4
  t5 := Tryz.underlying5
  a5 := Tryz.isAgg5
  z5 := Tryz.sizeOf5
  v5 := Tryz.zeroValue5
  t9 := Tryz.underlying9
  a9 := Tryz.isAgg9
  z9 := Tryz.sizeOf9
  v9 := Tryz.zeroValue9
  t20 := Tryz.underlying20
  a20 := Tryz.isAgg20
  z20 := Tryz.sizeOf20
  v20 := Tryz.zeroValue20
  t37 := Tryz.underlying87
  a37 := Tryz.isAgg87
  z37 := Tryz.sizeOf87
  v37 := Tryz.zeroValue87
  t46 := Tryz.underlying124
  a46 := Tryz.isAgg124
  z46 := Tryz.sizeOf124
  v46 := Tryz.zeroValue124
  t51 := Tryz.underlying159
  a51 := Tryz.isAgg159
  z51 := Tryz.sizeOf159
  v51 := Tryz.zeroValue159
  t53 := Tryz.underlying145
  a53 := Tryz.isAgg145
  z53 := Tryz.sizeOf145
  v53 := Tryz.zeroValue145
  t171 := Tryz.underlying177
  a171 := Tryz.isAgg177
  z171 := Tryz.sizeOf177
  v171 := Tryz.zeroValue177
  t173 := Tryz.underlying180
  a173 := Tryz.isAgg180
  z173 := Tryz.sizeOf180
  v173 := Tryz.zeroValue180
  t212 := Tryz.underlying183
  a212 := Tryz.isAgg183
  z212 := Tryz.sizeOf183
  v212 := Tryz.zeroValue183
  t213 := Tryz.underlying184
  a213 := Tryz.isAgg184
  z213 := Tryz.sizeOf184
  t232 := Tryz.underlying187
  a232 := Tryz.isAgg187
  z232 := Tryz.sizeOf187
  v232 := Tryz.zeroValue187
  t233 := Tryz.underlying188
  a233 := Tryz.isAgg188
  z233 := Tryz.sizeOf188
  v233 := Tryz.zeroValue188
  g17 := by kernel_rfl
  g18 := by kernel_rfl
  g19 := by kernel_rfl
  i0 := by kernel_rfl
  i2 := by kernel_rfl
  i3 := by kernel_rfl
  i4 := by kernel_rfl
  i5 := by kernel_rfl
  i9 := by kernel_rfl
  i20 := by kernel_rfl
  i37 := by kernel_rfl
  i46 := by kernel_rfl
  i51 := by kernel_rfl
  i53 := by kernel_rfl
  i171 := by kernel_rfl
  i173 := by kernel_rfl
  i212 := by kernel_rfl
  i232 := by kernel_rfl
  i233 := by kernel_rfl
  m17 := by kernel_rfl
  m18 := by kernel_rfl
  m19 := by kernel_rfl }
open Go.RowKit Go.Sort Go.Lib in
/-- internal/strconv.Itoa: "Itoa is equivalent to FormatInt(int64(i), 10).": i's decimal numeral, for every int. (LAID: no walk: one application.) -/
theorem Tryz.internal_strconv_Itoa (n : Int) (h0 : -9223372036854775808 ≤ n) (h1 : n ≤ 9223372036854775807) (w : World) (htab : Lib.TabIs Tryz.prog w "internal/strconv.uint64pow10" .u64 Lib.pow10Tab) :
    Calls Tryz.prog 211 #[.int .i64 n] w fun e w' => e = .returned (.string ⟨(Lib.itoa n).toArray⟩) ∧ ∃ k os, w' = grow (w.drewN k) os := Any.internal_strconv_Itoa Tryz.laysM243 n h0 h1 w htab
def Tryz.lays243_ren : Go.Shelf.Ren := ⟨fun | 243 => 211 | 246 => 212 | 283 => 213 | 284 => 214 | 285 => 215 | 286 => 216 | 129 => 218 | 317 => 217 | 318 => 219 | 319 => 220 | 320 => 221 | 337 => 222 | 338 => 223 | n => n, fun | 3 => 3 | 9 => 9 | 2 => 2 | 4 => 4 | 171 => 177 | 0 => 0 | 53 => 145 | 37 => 87 | 5 => 5 | 173 => 180 | 212 => 183 | 51 => 159 | 20 => 20 | 213 => 184 | 46 => 124 | 232 => 187 | 233 => 188 | n => n, fun | 17 => 5 | 18 => 6 | 19 => 7 | n => n⟩
theorem Tryz.lays243 : Go.Proofs.Lays.n243 Tryz.prog Tryz.lays243_ren := {
  mixed := by kernel_rfl
  f129 := Tryz.func218.trans (congrArg some (by kernel_rfl))
  f243 := Tryz.func211.trans (congrArg some (by kernel_rfl))
  f246 := Tryz.func212.trans (congrArg some (by kernel_rfl))
  f283 := Tryz.func213.trans (congrArg some (by kernel_rfl))
  f284 := Tryz.func214.trans (congrArg some (by kernel_rfl))
  f285 := Tryz.func215.trans (congrArg some (by kernel_rfl))
  f286 := Tryz.func216.trans (congrArg some (by kernel_rfl))
  f317 := Tryz.func217.trans (congrArg some (by kernel_rfl))
  f318 := Tryz.func219.trans (congrArg some (by kernel_rfl))
  f319 := Tryz.func220.trans (congrArg some (by kernel_rfl))
  f320 := Tryz.func221.trans (congrArg some (by kernel_rfl))
  f337 := Tryz.func222.trans (congrArg some (by kernel_rfl))
  f338 := Tryz.func223.trans (congrArg some (by kernel_rfl))
  t0 := Tryz.underlying0
  a0 := Tryz.isAgg0
  z0 := Tryz.sizeOf0
  v0 := Tryz.zeroValue0
  t2 := Tryz.underlying2
  a2 := Tryz.isAgg2
  z2 := Tryz.sizeOf2
  v2 := Tryz.zeroValue2
  t3 := Tryz.underlying3
  a3 := Tryz.isAgg3
  z3 := Tryz.sizeOf3
  v3 := Tryz.zeroValue3
  t4 := Tryz.underlying4
  a4 := Tryz.isAgg4
  z4 := Tryz.sizeOf4
  v4 := Tryz.zeroValue4
  t5 := Tryz.underlying5
  a5 := Tryz.isAgg5
  z5 := Tryz.sizeOf5
  v5 := Tryz.zeroValue5
  t9 := Tryz.underlying9
  a9 := Tryz.isAgg9
  z9 := Tryz.sizeOf9
  v9 := Tryz.zeroValue9
  t20 := Tryz.underlying20
  a20 := Tryz.isAgg20
  z20 := Tryz.sizeOf20
  v20 := Tryz.zeroValue20
  t37 := Tryz.underlying87
  a37 := Tryz.isAgg87
  z37 := Tryz.sizeOf87
  v37 := Tryz.zeroValue87
  t46 := Tryz.underlying124
  a46 := Tryz.isAgg124
  z46 := Tryz.sizeOf124
  v46 := Tryz.zeroValue124
  t51 := Tryz.underlying159
  a51 := Tryz.isAgg159
  z51 := Tryz.sizeOf159
  v51 := Tryz.zeroValue159
  t53 := Tryz.underlying145
  a53 := Tryz.isAgg145
  z53 := Tryz.sizeOf145
  v53 := Tryz.zeroValue145
  t171 := Tryz.underlying177
  a171 := Tryz.isAgg177
  z171 := Tryz.sizeOf177
  v171 := Tryz.zeroValue177
  t173 := Tryz.underlying180
  a173 := Tryz.isAgg180
  z173 := Tryz.sizeOf180
  v173 := Tryz.zeroValue180
  t212 := Tryz.underlying183
  a212 := Tryz.isAgg183
  z212 := Tryz.sizeOf183
  v212 := Tryz.zeroValue183
  t213 := Tryz.underlying184
  a213 := Tryz.isAgg184
  z213 := Tryz.sizeOf184
  t232 := Tryz.underlying187
  a232 := Tryz.isAgg187
  z232 := Tryz.sizeOf187
  v232 := Tryz.zeroValue187
  t233 := Tryz.underlying188
  a233 := Tryz.isAgg188
  z233 := Tryz.sizeOf188
  v233 := Tryz.zeroValue188
  g17 := by kernel_rfl
  g18 := by kernel_rfl
  g19 := by kernel_rfl }
open Go.RowKit Go.Sort Go.Lib in
/-- THE ROAD WITHOUT THE TABLE: 0 <= i < 100. (LAID: no walk: one application.) -/
theorem Tryz.internal_strconv_Itoa_small (i : Nat) (hi : i < 100) (w : World) :
    Calls Tryz.prog 211 #[.int .i64 i] w fun e w' => e = .returned (.string ⟨(Lib.decDigits i).toArray⟩) ∧ w' = w := Any.internal_strconv_Itoa_small Tryz.lays243 i hi w
def Tryz.laysM171_ren : Go.Shelf.Ren := ⟨fun | 171 => 210 | 243 => 211 | 246 => 212 | 283 => 213 | 284 => 214 | 285 => 215 | 286 => 216 | 129 => 218 | 317 => 217 | 318 => 219 | 319 => 220 | 320 => 221 | 337 => 222 | 338 => 223 | n => n, fun | 3 => 3 | 9 => 9 | 2 => 2 | 4 => 4 | 171 => 177 | 0 => 0 | 53 => 145 | 37 => 87 | 5 => 5 | 173 => 180 | 212 => 183 | 51 => 159 | 20 => 20 | 213 => 184 | 46 => 124 | 232 => 187 | 233 => 188 | n => n, fun | 17 => 5 | 18 => 6 | 19 => 7 | n => n⟩
theorem Tryz.laysM171 : Go.Proofs.LaysM.n171 Tryz.prog Tryz.laysM171_ren := {
  mixed := by kernel_rfl
  f129 := Tryz.func218.trans (congrArg some (by kernel_rfl))
  f171 := Tryz.func210.trans (congrArg some (by kernel_rfl))
  f243 := Tryz.func211.trans (congrArg some (by kernel_rfl))
  f246 := Tryz.func212.trans (congrArg some (by kernel_rfl))
  f283 := Tryz.func213.trans (congrArg some (by kernel_rfl))
  f284 := Tryz.func214.trans (congrArg some (by kernel_rfl))
  f285 := Tryz.func215.trans (congrArg some (by kernel_rfl))
  f286 := Tryz.func216.trans (congrArg some (by kernel_rfl))
  f317 := Tryz.func217.trans (congrArg some (by kernel_rfl))
  f318 := Tryz.func219.trans (congrArg some (by kernel_rfl))
  f319 := Tryz.func220.trans (congrArg some (by kernel_rfl))
  f320 := Tryz.func221.trans (congrArg some (by kernel_rfl))
  f337 := Tryz.func222.trans (congrArg some (by kernel_rfl))
  f338 := Tryz.func223.trans (congrArg some (by kernel_rfl))
  t0 := Tryz.underlying0
  a0 := Tryz.isAgg0
  z0 := Tryz.sizeOf0
  v0 := Tryz.zeroValue0
  t2 := Tryz.underlying2
  a2 := Tryz.isAgg2
  z2 := Tryz.sizeOf2
  v2 := Tryz.zeroValue2
  t3 := Tryz.underlying3
  a3 := Tryz.isAgg3
  z3 := Tryz.sizeOf3
  v3 := Tryz.zeroValue3
  t4 := Tryz.underlying4
  a4 := Tryz.isAgg4
  z4 := Tryz.sizeOf4
  v4 := Tryz.zeroValue4
  t5 := Tryz.underlying5
  a5 := Tryz.isAgg5
  z5 := Tryz.sizeOf5
  v5 := Tryz.zeroValue5
  t9 := Tryz.underlying9
  a9 := Tryz.isAgg9
  z9 := Tryz.sizeOf9
  v9 := Tryz.zeroValue9
  t20 := Tryz.underlying20
  a20 := Tryz.isAgg20
  z20 := Tryz.sizeOf20
  v20 := Tryz.zeroValue20
  t37 := Tryz.underlying87
  a37 := Tryz.isAgg87
  z37 := Tryz.sizeOf87
  v37 := Tryz.zeroValue87
  t46 := Tryz.underlying124
  a46 := Tryz.isAgg124
  z46 := Tryz.sizeOf124
  v46 := Tryz.zeroValue124
  t51 := Tryz.underlying159
  a51 := Tryz.isAgg159
  z51 := Tryz.sizeOf159
  v51 := Tryz.zeroValue159
  t53 := Tryz.underlying145
  a53 := Tryz.isAgg145
  z53 := Tryz.sizeOf145
  v53 := Tryz.zeroValue145
  t171 := Tryz.underlying177
  a171 := Tryz.isAgg177
  z171 := Tryz.sizeOf177
  v171 := Tryz.zeroValue177
  t173 := Tryz.underlying180
  a173 := Tryz.isAgg180
  z173 := Tryz.sizeOf180
  v173 := Tryz.zeroValue180
  t212 := Tryz.underlying183
  a212 := Tryz.isAgg183
  z212 := Tryz.sizeOf183
  v212 := Tryz.zeroValue183
  t213 := Tryz.underlying184
  a213 := Tryz.isAgg184
  z213 := Tryz.sizeOf184
  t232 := Tryz.underlying187
  a232 := Tryz.isAgg187
  z232 := Tryz.sizeOf187
  v232 := Tryz.zeroValue187
  t233 := Tryz.underlying188
  a233 := Tryz.isAgg188
  z233 := Tryz.sizeOf188
  v233 := Tryz.zeroValue188
  g17 := by kernel_rfl
  g18 := by kernel_rfl
  g19 := by kernel_rfl
  i0 := by kernel_rfl
  i2 := by kernel_rfl
  i3 := by kernel_rfl
  i4 := by kernel_rfl
  i5 := by kernel_rfl
  i9 := by kernel_rfl
  i20 := by kernel_rfl
  i37 := by kernel_rfl
  i46 := by kernel_rfl
  i51 := by kernel_rfl
  i53 := by kernel_rfl
  i171 := by kernel_rfl
  i173 := by kernel_rfl
  i212 := by kernel_rfl
  i232 := by kernel_rfl
  i233 := by kernel_rfl
  m17 := by kernel_rfl
  m18 := by kernel_rfl
  m19 := by kernel_rfl }
open Go.RowKit Go.Sort Go.Lib in
/-- strconv.Itoa: "Itoa is equivalent to FormatInt(int64(i), 10).": i's DECIMAL NUMERAL ('Lib.itoa': a '-' where i is negative, then the digits), FOR EVERY int. The world behind the call: the world before it, new blocks behind the heap (the library's 'var a [24]byte'), draws. (LAID: no walk: one application.) -/
theorem Tryz.strconv_Itoa (n : Int) (h0 : -9223372036854775808 ≤ n) (h1 : n ≤ 9223372036854775807) (w : World) (htab : Lib.TabIs Tryz.prog w "internal/strconv.uint64pow10" .u64 Lib.pow10Tab) :
    Calls Tryz.prog 210 #[.int .i64 n] w fun e w' => e = .returned (.string ⟨(Lib.itoa n).toArray⟩) ∧ ∃ k os, w' = grow (w.drewN k) os := Any.strconv_Itoa Tryz.laysM171 n h0 h1 w htab
def Tryz.lays171_ren : Go.Shelf.Ren := ⟨fun | 171 => 210 | 243 => 211 | 246 => 212 | 283 => 213 | 284 => 214 | 285 => 215 | 286 => 216 | 129 => 218 | 317 => 217 | 318 => 219 | 319 => 220 | 320 => 221 | 337 => 222 | 338 => 223 | n => n, fun | 3 => 3 | 9 => 9 | 2 => 2 | 4 => 4 | 171 => 177 | 0 => 0 | 53 => 145 | 37 => 87 | 5 => 5 | 173 => 180 | 212 => 183 | 51 => 159 | 20 => 20 | 213 => 184 | 46 => 124 | 232 => 187 | 233 => 188 | n => n, fun | 17 => 5 | 18 => 6 | 19 => 7 | n => n⟩
theorem Tryz.lays171 : Go.Proofs.Lays.n171 Tryz.prog Tryz.lays171_ren := {
  mixed := by kernel_rfl
  f129 := Tryz.func218.trans (congrArg some (by kernel_rfl))
  f171 := Tryz.func210.trans (congrArg some (by kernel_rfl))
  f243 := Tryz.func211.trans (congrArg some (by kernel_rfl))
  f246 := Tryz.func212.trans (congrArg some (by kernel_rfl))
  f283 := Tryz.func213.trans (congrArg some (by kernel_rfl))
  f284 := Tryz.func214.trans (congrArg some (by kernel_rfl))
  f285 := Tryz.func215.trans (congrArg some (by kernel_rfl))
  f286 := Tryz.func216.trans (congrArg some (by kernel_rfl))
  f317 := Tryz.func217.trans (congrArg some (by kernel_rfl))
  f318 := Tryz.func219.trans (congrArg some (by kernel_rfl))
  f319 := Tryz.func220.trans (congrArg some (by kernel_rfl))
  f320 := Tryz.func221.trans (congrArg some (by kernel_rfl))
  f337 := Tryz.func222.trans (congrArg some (by kernel_rfl))
  f338 := Tryz.func223.trans (congrArg some (by kernel_rfl))
  t0 := Tryz.underlying0
  a0 := Tryz.isAgg0
  z0 := Tryz.sizeOf0
  v0 := Tryz.zeroValue0
  t2 := Tryz.underlying2
  a2 := Tryz.isAgg2
  z2 := Tryz.sizeOf2
  v2 := Tryz.zeroValue2
  t3 := Tryz.underlying3
  a3 := Tryz.isAgg3
  z3 := Tryz.sizeOf3
  v3 := Tryz.zeroValue3
  t4 := Tryz.underlying4
  a4 := Tryz.isAgg4
  z4 := Tryz.sizeOf4
  v4 := Tryz.zeroValue4
  t5 := Tryz.underlying5
  a5 := Tryz.isAgg5
  z5 := Tryz.sizeOf5
  v5 := Tryz.zeroValue5
  t9 := Tryz.underlying9
  a9 := Tryz.isAgg9
  z9 := Tryz.sizeOf9
  v9 := Tryz.zeroValue9
  t20 := Tryz.underlying20
  a20 := Tryz.isAgg20
  z20 := Tryz.sizeOf20
  v20 := Tryz.zeroValue20
  t37 := Tryz.underlying87
  a37 := Tryz.isAgg87
  z37 := Tryz.sizeOf87
  v37 := Tryz.zeroValue87
  t46 := Tryz.underlying124
  a46 := Tryz.isAgg124
  z46 := Tryz.sizeOf124
  v46 := Tryz.zeroValue124
  t51 := Tryz.underlying159
  a51 := Tryz.isAgg159
  z51 := Tryz.sizeOf159
  v51 := Tryz.zeroValue159
  t53 := Tryz.underlying145
  a53 := Tryz.isAgg145
  z53 := Tryz.sizeOf145
  v53 := Tryz.zeroValue145
  t171 := Tryz.underlying177
  a171 := Tryz.isAgg177
  z171 := Tryz.sizeOf177
  v171 := Tryz.zeroValue177
  t173 := Tryz.underlying180
  a173 := Tryz.isAgg180
  z173 := Tryz.sizeOf180
  v173 := Tryz.zeroValue180
  t212 := Tryz.underlying183
  a212 := Tryz.isAgg183
  z212 := Tryz.sizeOf183
  v212 := Tryz.zeroValue183
  t213 := Tryz.underlying184
  a213 := Tryz.isAgg184
  z213 := Tryz.sizeOf184
  t232 := Tryz.underlying187
  a232 := Tryz.isAgg187
  z232 := Tryz.sizeOf187
  v232 := Tryz.zeroValue187
  t233 := Tryz.underlying188
  a233 := Tryz.isAgg188
  z233 := Tryz.sizeOf188
  v233 := Tryz.zeroValue188
  g17 := by kernel_rfl
  g18 := by kernel_rfl
  g19 := by kernel_rfl }
open Go.RowKit Go.Sort Go.Lib in
/-- THE ROAD WITHOUT THE TABLE: 0 <= i < 100: NO PREMISE ON THE WORLD, AND THE WORLD IS AS IT WAS: a row that keeps its argument in that range need list no table ('laid = []'). (LAID: no walk: one application.) -/
theorem Tryz.strconv_Itoa_small (i : Nat) (hi : i < 100) (w : World) :
    Calls Tryz.prog 210 #[.int .i64 i] w fun e w' => e = .returned (.string ⟨(Lib.decDigits i).toArray⟩) ∧ w' = w := Any.strconv_Itoa_small Tryz.lays171 i hi w
def Tryz.laysM316_ren : Go.Shelf.Ren := ⟨fun | 316 => 208 | n => n, fun | 9 => 9 | 3 => 3 | 4 => 4 | 37 => 87 | 0 => 0 | 127 => 115 | 5 => 5 | n => n, fun | n => n⟩
theorem Tryz.laysM316 : Go.Proofs.LaysM.n316 Tryz.prog Tryz.laysM316_ren := {
  mixed := by kernel_rfl
  f316 := Tryz.func208.trans (congrArg some (by kernel_rfl))
  t0 := Tryz.underlying0
  a0 := Tryz.isAgg0
  z0 := Tryz.sizeOf0
  v0 := Tryz.zeroValue0
  t3 := Tryz.underlying3
  a3 := Tryz.isAgg3
  z3 := Tryz.sizeOf3
  v3 := Tryz.zeroValue3
  t4 := Tryz.underlying4
  a4 := Tryz.isAgg4
  z4 := Tryz.sizeOf4
  v4 := Tryz.zeroValue4
  t9 := Tryz.underlying9
  a9 := Tryz.isAgg9
  z9 := Tryz.sizeOf9
  v9 := Tryz.zeroValue9
  t37 := Tryz.underlying87
  a37 := Tryz.isAgg87
  z37 := Tryz.sizeOf87
  v37 := Tryz.zeroValue87
  t127 := Tryz.underlying115
  a127 := Tryz.isAgg115
  z127 := Tryz.sizeOf115
  v127 := Tryz.zeroValue115
  t5 := Tryz.underlying5
  a5 := Tryz.isAgg5
  z5 := Tryz.sizeOf5
  v5 := Tryz.zeroValue5
  i0 := by kernel_rfl
  i3 := by kernel_rfl
  i4 := by kernel_rfl
  i5 := by kernel_rfl
  i9 := by kernel_rfl
  i37 := by kernel_rfl
  i127 := by kernel_rfl }
open Go.RowKit in
/-- internal/stringslite.Clone (what strings.Clone calls): "Clone returns a fresh copy of s.": THE SAME BYTES. Of what was there nothing has turned (a new row is laid, and frozen, where s is not empty). (LAID: no walk: one application.) -/
theorem Tryz.stringslite_Clone (s : ByteArray) (w : World) (hlim : s.size ≤ 281474976710656) :
    Calls Tryz.prog 208 #[.string s] w fun e w' => e = .returned (.string s) ∧ Below w.heap.size w w' := Any.stringslite_Clone Tryz.laysM316 s w hlim
def Tryz.laysM280_ren : Go.Shelf.Ren := ⟨fun | 280 => 203 | 316 => 208 | n => n, fun | 9 => 9 | 168 => 166 | 75 => 91 | 210 => 171 | 3 => 3 | 4 => 4 | 37 => 87 | 0 => 0 | 127 => 115 | 80 => 95 | 5 => 5 | n => n, fun | 16 => 4 | n => n⟩
theorem Tryz.laysM280 : Go.Proofs.LaysM.n280 Tryz.prog Tryz.laysM280_ren := {
  mixed := by kernel_rfl
  f280 := Tryz.func203.trans (congrArg some (by kernel_rfl))
  f316 := Tryz.func208.trans (congrArg some (by kernel_rfl))
  t0 := Tryz.underlying0
  a0 := Tryz.isAgg0
  z0 := Tryz.sizeOf0
  v0 := Tryz.zeroValue0
  t3 := Tryz.underlying3
  a3 := Tryz.isAgg3
  z3 := Tryz.sizeOf3
  v3 := Tryz.zeroValue3
  t4 := Tryz.underlying4
  a4 := Tryz.isAgg4
  z4 := Tryz.sizeOf4
  v4 := Tryz.zeroValue4
  t9 := Tryz.underlying9
  a9 := Tryz.isAgg9
  z9 := Tryz.sizeOf9
  v9 := Tryz.zeroValue9
  t37 := Tryz.underlying87
  a37 := Tryz.isAgg87
  z37 := Tryz.sizeOf87
  v37 := Tryz.zeroValue87
  t75 := Tryz.underlying91
  a75 := Tryz.isAgg91
  z75 := Tryz.sizeOf91
  v75 := Tryz.zeroValue91
  t127 := Tryz.underlying115
  a127 := Tryz.isAgg115
  z127 := Tryz.sizeOf115
  v127 := Tryz.zeroValue115
  t168 := Tryz.underlying166
  a168 := Tryz.isAgg166
  z168 := Tryz.sizeOf166
  v168 := Tryz.zeroValue166
  t210 := Tryz.underlying171
  a210 := Tryz.isAgg171
  z210 := Tryz.sizeOf171
  v210 := Tryz.zeroValue171
  g16 := by kernel_rfl
  t5 := Tryz.underlying5
  a5 := Tryz.isAgg5
  z5 := Tryz.sizeOf5
  v5 := Tryz.zeroValue5
  t80 := Tryz.underlying95
  a80 := Tryz.isAgg95
  z80 := Tryz.sizeOf95
  v80 := Tryz.zeroValue95
  i0 := by kernel_rfl
  i3 := by kernel_rfl
  i4 := by kernel_rfl
  i5 := by kernel_rfl
  i9 := by kernel_rfl
  i37 := by kernel_rfl
  i75 := by kernel_rfl
  i80 := by kernel_rfl
  i127 := by kernel_rfl
  i168 := by kernel_rfl
  i210 := by kernel_rfl
  m16 := by kernel_rfl }
open Go.RowKit in
/-- strconv.rangeError: '&NumError{fn, stringslite.Clone(str), ErrRange}': A POINTER TO A NEW BLOCK that holds fn, str's bytes, and what the variable ErrRange holds. Of what was there nothing has turned. (LAID: no walk: one application.) -/
theorem Tryz.strconv_rangeError (fn s : ByteArray) (ev : Value) (w : World) (hlim : s.size ≤ 281474976710656) (hv : w.cell? ⟨4, 0, none⟩ = some ev) (hev : ev = .nilIface ∨ ∃ te pe, ev = .iface te pe) :
    Calls Tryz.prog 203 #[.string fn, .string s] w fun e w' => ∃ N, e = .returned (.pointer (some ⟨N, 0, none⟩)) ∧ w.heap.size ≤ N ∧ w'.heap[N]? = some (.cells #[.string fn, .string s, ev] 171 (0, 0)) ∧ Below w.heap.size w w' := Any.strconv_rangeError Tryz.laysM280 fn s ev w hlim hv hev
def Tryz.laysC245_ren : Go.Shelf.Ren := ⟨fun | 245 => 200 | 279 => 202 | 280 => 203 | 281 => 204 | 282 => 205 | 316 => 208 | 171 => 210 | 205 => 209 | 243 => 211 | 246 => 212 | 283 => 213 | 284 => 214 | 285 => 215 | 286 => 216 | 129 => 218 | 317 => 217 | 318 => 219 | 319 => 220 | 320 => 221 | 337 => 222 | 338 => 223 | n => n, fun | 9 => 9 | 3 => 3 | 75 => 91 | 167 => 163 | 4 => 4 | 168 => 166 | 210 => 171 | 37 => 87 | 0 => 0 | 127 => 115 | 145 => 175 | 143 => 173 | 2 => 2 | 171 => 177 | 53 => 145 | 5 => 5 | 173 => 180 | 212 => 183 | 51 => 159 | 20 => 20 | 213 => 184 | 46 => 124 | 232 => 187 | 233 => 188 | 80 => 95 | n => n, fun | 15 => 3 | 16 => 4 | 17 => 5 | 18 => 6 | 19 => 7 | n => n⟩
theorem Tryz.laysC245 : Go.Proofs.LaysC.n245 Tryz.prog Tryz.laysC245_ren := {
  mixed := by kernel_rfl
  f129 := Tryz.func218.trans (congrArg some (by kernel_rfl))
  f171 := Tryz.func210.trans (congrArg some (by kernel_rfl))
  f205 := Tryz.func209.trans (congrArg some (by kernel_rfl))
  f243 := Tryz.func211.trans (congrArg some (by kernel_rfl))
  f245 := Tryz.func200.trans (congrArg some (by kernel_rfl))
  f246 := Tryz.func212.trans (congrArg some (by kernel_rfl))
  f279 := Tryz.func202.trans (congrArg some (by kernel_rfl))
  f280 := Tryz.func203.trans (congrArg some (by kernel_rfl))
  f281 := Tryz.func204.trans (congrArg some (by kernel_rfl))
  f282 := Tryz.func205.trans (congrArg some (by kernel_rfl))
  f283 := Tryz.func213.trans (congrArg some (by kernel_rfl))
  f284 := Tryz.func214.trans (congrArg some (by kernel_rfl))
  f285 := Tryz.func215.trans (congrArg some (by kernel_rfl))
  f286 := Tryz.func216.trans (congrArg some (by kernel_rfl))
  f316 := Tryz.func208.trans (congrArg some (by kernel_rfl))
  f317 := Tryz.func217.trans (congrArg some (by kernel_rfl))
  f318 := Tryz.func219.trans (congrArg some (by kernel_rfl))
  f319 := Tryz.func220.trans (congrArg some (by kernel_rfl))
  f320 := Tryz.func221.trans (congrArg some (by kernel_rfl))
  f337 := Tryz.func222.trans (congrArg some (by kernel_rfl))
  f338 := Tryz.func223.trans (congrArg some (by kernel_rfl))
  t0 := Tryz.underlying0
  a0 := Tryz.isAgg0
  z0 := Tryz.sizeOf0
  v0 := Tryz.zeroValue0
  t2 := Tryz.underlying2
  a2 := Tryz.isAgg2
  z2 := Tryz.sizeOf2
  v2 := Tryz.zeroValue2
  t3 := Tryz.underlying3
  a3 := Tryz.isAgg3
  z3 := Tryz.sizeOf3
  v3 := Tryz.zeroValue3
  t4 := Tryz.underlying4
  a4 := Tryz.isAgg4
  z4 := Tryz.sizeOf4
  v4 := Tryz.zeroValue4
  t5 := Tryz.underlying5
  a5 := Tryz.isAgg5
  z5 := Tryz.sizeOf5
  v5 := Tryz.zeroValue5
  t9 := Tryz.underlying9
  a9 := Tryz.isAgg9
  z9 := Tryz.sizeOf9
  v9 := Tryz.zeroValue9
  t20 := Tryz.underlying20
  a20 := Tryz.isAgg20
  z20 := Tryz.sizeOf20
  v20 := Tryz.zeroValue20
  t37 := Tryz.underlying87
  a37 := Tryz.isAgg87
  z37 := Tryz.sizeOf87
  v37 := Tryz.zeroValue87
  t46 := Tryz.underlying124
  a46 := Tryz.isAgg124
  z46 := Tryz.sizeOf124
  v46 := Tryz.zeroValue124
  t51 := Tryz.underlying159
  a51 := Tryz.isAgg159
  z51 := Tryz.sizeOf159
  v51 := Tryz.zeroValue159
  t53 := Tryz.underlying145
  a53 := Tryz.isAgg145
  z53 := Tryz.sizeOf145
  v53 := Tryz.zeroValue145
  t75 := Tryz.underlying91
  a75 := Tryz.isAgg91
  z75 := Tryz.sizeOf91
  v75 := Tryz.zeroValue91
  t127 := Tryz.underlying115
  a127 := Tryz.isAgg115
  z127 := Tryz.sizeOf115
  v127 := Tryz.zeroValue115
  t143 := Tryz.underlying173
  a143 := Tryz.isAgg173
  z143 := Tryz.sizeOf173
  v143 := Tryz.zeroValue173
  t145 := Tryz.underlying175
  a145 := Tryz.isAgg175
  z145 := Tryz.sizeOf175
  v145 := Tryz.zeroValue175
  t167 := Tryz.underlying163
  a167 := Tryz.isAgg163
  z167 := Tryz.sizeOf163
  v167 := Tryz.zeroValue163
  t168 := Tryz.underlying166
  a168 := Tryz.isAgg166
  z168 := Tryz.sizeOf166
  v168 := Tryz.zeroValue166
  t171 := Tryz.underlying177
  a171 := Tryz.isAgg177
  z171 := Tryz.sizeOf177
  v171 := Tryz.zeroValue177
  t173 := Tryz.underlying180
  a173 := Tryz.isAgg180
  z173 := Tryz.sizeOf180
  v173 := Tryz.zeroValue180
  t210 := Tryz.underlying171
  a210 := Tryz.isAgg171
  z210 := Tryz.sizeOf171
  v210 := Tryz.zeroValue171
  t212 := Tryz.underlying183
  a212 := Tryz.isAgg183
  z212 := Tryz.sizeOf183
  v212 := Tryz.zeroValue183
  t213 := Tryz.underlying184
  a213 := Tryz.isAgg184
  z213 := Tryz.sizeOf184
  t232 := Tryz.underlying187
  a232 := Tryz.isAgg187
  z232 := Tryz.sizeOf187
  v232 := Tryz.zeroValue187
  t233 := Tryz.underlying188
  a233 := Tryz.isAgg188
  z233 := Tryz.sizeOf188
  v233 := Tryz.zeroValue188
  g15 := by kernel_rfl
  g16 := by kernel_rfl
  g17 := by kernel_rfl
  g18 := by kernel_rfl
  g19 := by kernel_rfl
  t80 := Tryz.underlying95
  a80 := Tryz.isAgg95
  z80 := Tryz.sizeOf95
  v80 := Tryz.zeroValue95
  i0 := by kernel_rfl
  i2 := by kernel_rfl
  i3 := by kernel_rfl
  i4 := by kernel_rfl
  i5 := by kernel_rfl
  i9 := by kernel_rfl
  i20 := by kernel_rfl
  i37 := by kernel_rfl
  i46 := by kernel_rfl
  i51 := by kernel_rfl
  i53 := by kernel_rfl
  i75 := by kernel_rfl
  i80 := by kernel_rfl
  i127 := by kernel_rfl
  i143 := by kernel_rfl
  i145 := by kernel_rfl
  i167 := by kernel_rfl
  i168 := by kernel_rfl
  i171 := by kernel_rfl
  i173 := by kernel_rfl
  i210 := by kernel_rfl
  i212 := by kernel_rfl
  i232 := by kernel_rfl
  i233 := by kernel_rfl
  m15 := by kernel_rfl
  m16 := by kernel_rfl
  m17 := by kernel_rfl
  m18 := by kernel_rfl
  m19 := by kernel_rfl
  c0 := by kernel_rfl
  c2 := by kernel_rfl
  c3 := by kernel_rfl
  c4 := by kernel_rfl
  c5 := by kernel_rfl
  c9 := by kernel_rfl
  c20 := by kernel_rfl
  c37 := by kernel_rfl
  c46 := by kernel_rfl
  c51 := by kernel_rfl
  c53 := by kernel_rfl
  c75 := by kernel_rfl
  c80 := by kernel_rfl
  c127 := by kernel_rfl
  c143 := by kernel_rfl
  c145 := by kernel_rfl
  c167 := by kernel_rfl
  c168 := by kernel_rfl
  c171 := by kernel_rfl
  c173 := by kernel_rfl
  c210 := by kernel_rfl
  c212 := by kernel_rfl
  c213 := by kernel_rfl
  c232 := by kernel_rfl
  c233 := by kernel_rfl }
open Go.RowKit in
/-- strconv.toError, at the inner package's ErrRange: 'rangeError(fn, s)' as an error: A *NumError IN A NEW BLOCK. (LAID: no walk: one application.) -/
theorem Tryz.strconv_toError_range (fn s : ByteArray) (base bits : Int) (ev : Value) (w : World) (hlim : s.size ≤ 281474976710656) (hv : w.cell? ⟨4, 0, none⟩ = some ev) (hev : ev = .nilIface ∨ ∃ te pe, ev = .iface te pe) :
    Calls Tryz.prog 200 #[.string fn, .string s, .int .i64 base, .int .i64 bits, .iface 163 (.int .i64 1)] w fun e w' => ∃ N, e = .returned (.iface 166 (.pointer (some ⟨N, 0, none⟩))) ∧ w.heap.size ≤ N ∧ w'.heap[N]? = some (.cells #[.string fn, .string s, ev] 171 (0, 0)) ∧ Below w.heap.size w w' := Any.strconv_toError_range Tryz.laysC245 fn s base bits ev w hlim hv hev
def Tryz.lays217_ren : Go.Shelf.Ren := ⟨fun | 217 => 179 | 266 => 193 | n => n, fun | 9 => 9 | 5 => 5 | 3 => 3 | n => n, fun | n => n⟩
theorem Tryz.lays217 : Go.Proofs.Lays.n217 Tryz.prog Tryz.lays217_ren := {
  mixed := by kernel_rfl
  f217 := Tryz.func179.trans (congrArg some (by kernel_rfl))
  f266 := Tryz.func193.trans (congrArg some (by kernel_rfl))
  t3 := Tryz.underlying3
  a3 := Tryz.isAgg3
  z3 := Tryz.sizeOf3
  v3 := Tryz.zeroValue3
  t5 := Tryz.underlying5
  a5 := Tryz.isAgg5
  z5 := Tryz.sizeOf5
  v5 := Tryz.zeroValue5
  t9 := Tryz.underlying9
  a9 := Tryz.isAgg9
  z9 := Tryz.sizeOf9
  v9 := Tryz.zeroValue9 }
open Go.RowKit Go.Lib in
/-- internal/stringslite.IndexByte (what strings.IndexByte calls): IT RETURNS 'Lib.indexByte s c'; the world is as it was. (LAID: no walk: one application.) -/
theorem Tryz.stringslite_IndexByte (s : ByteArray) (c : Int) (w : World) :
    Calls Tryz.prog 179 #[.string s, .int .u8 c] w fun e w' => e = .returned (.int .i64 (Lib.indexByte s.data.toList c.toNat.toUInt8)) ∧ w' = w := Any.stringslite_IndexByte Tryz.lays217 s c w
def Tryz.lays224_ren : Go.Shelf.Ren := ⟨fun | 224 => 177 | n => n, fun | 3 => 3 | n => n, fun | n => n⟩
theorem Tryz.lays224 : Go.Proofs.Lays.n224 Tryz.prog Tryz.lays224_ren := {
  mixed := by kernel_rfl
  f224 := Tryz.func177.trans (congrArg some (by kernel_rfl))
  t3 := Tryz.underlying3
  a3 := Tryz.isAgg3
  z3 := Tryz.sizeOf3
  v3 := Tryz.zeroValue3 }
open Go.RowKit Go.Lib in
/-- internal/bytealg.Cutover: "Cutover reports the number of failures of IndexByte we should tolerate before switching over to Index. n is the number of bytes processed so far.": on amd64: (n + 16) / 8. (LAID: no walk: one application.) -/
theorem Tryz.bytealg_Cutover (n : Int) (h0 : 0 ≤ n) (h1 : n < 4611686018427387904) (w : World) :
    Calls Tryz.prog 177 #[.int .i64 n] w fun e w' => e = .returned (.int .i64 ((n + 16) / 8)) ∧ w' = w := Any.bytealg_Cutover Tryz.lays224 n h0 h1 w
def Tryz.lays314_ren : Go.Shelf.Ren := ⟨fun | 314 => 194 | n => n, fun | 9 => 9 | 51 => 159 | 3 => 3 | 4 => 4 | 5 => 5 | 46 => 124 | n => n, fun | n => n⟩
theorem Tryz.lays314 : Go.Proofs.Lays.n314 Tryz.prog Tryz.lays314_ren := {
  mixed := by kernel_rfl
  f314 := Tryz.func194.trans (congrArg some (by kernel_rfl))
  t3 := Tryz.underlying3
  a3 := Tryz.isAgg3
  z3 := Tryz.sizeOf3
  v3 := Tryz.zeroValue3
  t4 := Tryz.underlying4
  a4 := Tryz.isAgg4
  z4 := Tryz.sizeOf4
  v4 := Tryz.zeroValue4
  t5 := Tryz.underlying5
  a5 := Tryz.isAgg5
  z5 := Tryz.sizeOf5
  v5 := Tryz.zeroValue5
  t9 := Tryz.underlying9
  a9 := Tryz.isAgg9
  z9 := Tryz.sizeOf9
  v9 := Tryz.zeroValue9
  t46 := Tryz.underlying124
  a46 := Tryz.isAgg124
  z46 := Tryz.sizeOf124
  v46 := Tryz.zeroValue124
  t51 := Tryz.underlying159
  a51 := Tryz.isAgg159
  z51 := Tryz.sizeOf159
  v51 := Tryz.zeroValue159 }
open Go.RowKit Go.Lib in
/-- hashStr: "returns the hash and the appropriate multiplicative factor for use in Rabin-Karp algorithm": THE HASH OF ALL OF sep, AND 16777619 ^ len(sep), both in uint32. (LAID: no walk: one application.) -/
theorem Tryz.bytealg_hashStr (sep : ByteArray) (hs : sep.size < 4294967281) (w : World) :
    Calls Tryz.prog 194 #[.string sep] w fun e w' => e = .returned (.tuple #[.int .u32 (RK.H sep.data.toList % 4294967296), .int .u32 (16777619 ^ sep.size % 4294967296)]) ∧ w' = w := Any.bytealg_hashStr Tryz.lays314 sep hs w
def Tryz.lays267_ren : Go.Shelf.Ren := ⟨fun | 267 => 180 | 314 => 194 | n => n, fun | 9 => 9 | 3 => 3 | 146 => 160 | 51 => 159 | 4 => 4 | 5 => 5 | 46 => 124 | n => n, fun | n => n⟩
theorem Tryz.lays267 : Go.Proofs.Lays.n267 Tryz.prog Tryz.lays267_ren := {
  mixed := by kernel_rfl
  f267 := Tryz.func180.trans (congrArg some (by kernel_rfl))
  f314 := Tryz.func194.trans (congrArg some (by kernel_rfl))
  t3 := Tryz.underlying3
  a3 := Tryz.isAgg3
  z3 := Tryz.sizeOf3
  v3 := Tryz.zeroValue3
  t4 := Tryz.underlying4
  a4 := Tryz.isAgg4
  z4 := Tryz.sizeOf4
  v4 := Tryz.zeroValue4
  t5 := Tryz.underlying5
  a5 := Tryz.isAgg5
  z5 := Tryz.sizeOf5
  v5 := Tryz.zeroValue5
  t9 := Tryz.underlying9
  a9 := Tryz.isAgg9
  z9 := Tryz.sizeOf9
  v9 := Tryz.zeroValue9
  t46 := Tryz.underlying124
  a46 := Tryz.isAgg124
  z46 := Tryz.sizeOf124
  v46 := Tryz.zeroValue124
  t51 := Tryz.underlying159
  a51 := Tryz.isAgg159
  z51 := Tryz.sizeOf159
  v51 := Tryz.zeroValue159
  t146 := Tryz.underlying160
  a146 := Tryz.isAgg160
  z146 := Tryz.sizeOf160
  v146 := Tryz.zeroValue160 }
open Go.RowKit Go.Lib in
theorem Tryz.bytealg_IndexRabinKarp (s sep : ByteArray) (h1 : 1 ≤ sep.size) (h2 : sep.size ≤ s.size) (hs : s.size < 4294967281) (w : World) :
    Calls Tryz.prog 180 #[.string s, .string sep] w fun e w' => e = .returned (.int .i64 (Lib.index s.data.toList sep.data.toList)) ∧ w' = w := Any.bytealg_IndexRabinKarp Tryz.lays267 s sep h1 h2 hs w
def Tryz.lays219_ren : Go.Shelf.Ren := ⟨fun | 219 => 152 | 217 => 179 | 225 => 178 | 224 => 177 | 267 => 180 | 266 => 193 | 314 => 194 | n => n, fun | 9 => 9 | 3 => 3 | 4 => 4 | 5 => 5 | 46 => 124 | 146 => 160 | 51 => 159 | n => n, fun | 1 => 2 | n => n⟩
theorem Tryz.lays219 : Go.Proofs.Lays.n219 Tryz.prog Tryz.lays219_ren := {
  mixed := by kernel_rfl
  f217 := Tryz.func179.trans (congrArg some (by kernel_rfl))
  f219 := Tryz.func152.trans (congrArg some (by kernel_rfl))
  f224 := Tryz.func177.trans (congrArg some (by kernel_rfl))
  f225 := Tryz.func178.trans (congrArg some (by kernel_rfl))
  f266 := Tryz.func193.trans (congrArg some (by kernel_rfl))
  f267 := Tryz.func180.trans (congrArg some (by kernel_rfl))
  f314 := Tryz.func194.trans (congrArg some (by kernel_rfl))
  t3 := Tryz.underlying3
  a3 := Tryz.isAgg3
  z3 := Tryz.sizeOf3
  v3 := Tryz.zeroValue3
  t4 := Tryz.underlying4
  a4 := Tryz.isAgg4
  z4 := Tryz.sizeOf4
  v4 := Tryz.zeroValue4
  t5 := Tryz.underlying5
  a5 := Tryz.isAgg5
  z5 := Tryz.sizeOf5
  v5 := Tryz.zeroValue5
  t9 := Tryz.underlying9
  a9 := Tryz.isAgg9
  z9 := Tryz.sizeOf9
  v9 := Tryz.zeroValue9
  t46 := Tryz.underlying124
  a46 := Tryz.isAgg124
  z46 := Tryz.sizeOf124
  v46 := Tryz.zeroValue124
  t51 := Tryz.underlying159
  a51 := Tryz.isAgg159
  z51 := Tryz.sizeOf159
  v51 := Tryz.zeroValue159
  t146 := Tryz.underlying160
  a146 := Tryz.isAgg160
  z146 := Tryz.sizeOf160
  v146 := Tryz.zeroValue160
  g1 := by kernel_rfl }
open Go.RowKit Go.Lib in
/-- internal/stringslite.Index (what strings.Index calls) AT A substr OF ONE BYTE c: IT RETURNS 'Lib.indexByte s c'; the world is as it was. (LAID: no walk: one application.) -/
theorem Tryz.stringslite_Index_one (s : ByteArray) (c : UInt8) (w : World) :
    Calls Tryz.prog 152 #[.string s, .string ⟨#[c]⟩] w fun e w' => e = .returned (.int .i64 (Lib.indexByte s.data.toList c)) ∧ w' = w := Any.stringslite_Index_one Tryz.lays219 s c w
open Go.RowKit Go.Lib in
/-- internal/stringslite.Index (what strings.Index calls) AT A substr OF WHATEVER LENGTH: IT RETURNS 'Lib.index s substr'; the world is as it was. 'm': what internal/bytealg.MaxLen holds: whatever. (LAID: no walk: one application.) -/
theorem Tryz.stringslite_Index (s sub : ByteArray) (m : Int) (w : World) (hs : s.size < 4294967281) (hm : w.cell? ⟨2, 0, none⟩ = some (.int .i64 m)) :
    Calls Tryz.prog 152 #[.string s, .string sub] w fun e w' => e = .returned (.int .i64 (Lib.index s.data.toList sub.data.toList)) ∧ w' = w := Any.stringslite_Index Tryz.lays219 s sub m w hs hm
def Tryz.lays143_ren : Go.Shelf.Ren := ⟨fun | 143 => 112 | 219 => 152 | 217 => 179 | 225 => 178 | 224 => 177 | 267 => 180 | 266 => 193 | 314 => 194 | n => n, fun | 9 => 9 | 3 => 3 | 4 => 4 | 5 => 5 | 46 => 124 | 146 => 160 | 51 => 159 | n => n, fun | 1 => 2 | n => n⟩
theorem Tryz.lays143 : Go.Proofs.Lays.n143 Tryz.prog Tryz.lays143_ren := {
  mixed := by kernel_rfl
  f143 := Tryz.func112.trans (congrArg some (by kernel_rfl))
  f217 := Tryz.func179.trans (congrArg some (by kernel_rfl))
  f219 := Tryz.func152.trans (congrArg some (by kernel_rfl))
  f224 := Tryz.func177.trans (congrArg some (by kernel_rfl))
  f225 := Tryz.func178.trans (congrArg some (by kernel_rfl))
  f266 := Tryz.func193.trans (congrArg some (by kernel_rfl))
  f267 := Tryz.func180.trans (congrArg some (by kernel_rfl))
  f314 := Tryz.func194.trans (congrArg some (by kernel_rfl))
  t3 := Tryz.underlying3
  a3 := Tryz.isAgg3
  z3 := Tryz.sizeOf3
  v3 := Tryz.zeroValue3
  t4 := Tryz.underlying4
  a4 := Tryz.isAgg4
  z4 := Tryz.sizeOf4
  v4 := Tryz.zeroValue4
  t5 := Tryz.underlying5
  a5 := Tryz.isAgg5
  z5 := Tryz.sizeOf5
  v5 := Tryz.zeroValue5
  t9 := Tryz.underlying9
  a9 := Tryz.isAgg9
  z9 := Tryz.sizeOf9
  v9 := Tryz.zeroValue9
  t46 := Tryz.underlying124
  a46 := Tryz.isAgg124
  z46 := Tryz.sizeOf124
  v46 := Tryz.zeroValue124
  t51 := Tryz.underlying159
  a51 := Tryz.isAgg159
  z51 := Tryz.sizeOf159
  v51 := Tryz.zeroValue159
  t146 := Tryz.underlying160
  a146 := Tryz.isAgg160
  z146 := Tryz.sizeOf160
  v146 := Tryz.zeroValue160
  g1 := by kernel_rfl }
open Go.RowKit Go.Lib in
/-- strings.Index: "Index returns the index of the first instance of substr in s, or -1 if substr is not present in s.": AT A substr OF ONE BYTE c: IT RETURNS 'Lib.indexByte s c'; the world is as it was. (LAID: no walk: one application.) -/
theorem Tryz.strings_Index_one (s : ByteArray) (c : UInt8) (w : World) :
    Calls Tryz.prog 112 #[.string s, .string ⟨#[c]⟩] w fun e w' => e = .returned (.int .i64 (Lib.indexByte s.data.toList c)) ∧ w' = w := Any.strings_Index_one Tryz.lays143 s c w
open Go.RowKit Go.Lib in
/-- strings.Index: "Index returns the index of the first instance of substr in s, or -1 if substr is not present in s.": IT RETURNS 'Lib.index s substr'; the world is as it was. (LAID: no walk: one application.) -/
theorem Tryz.strings_Index (s sub : ByteArray) (m : Int) (w : World) (hs : s.size < 4294967281) (hm : w.cell? ⟨2, 0, none⟩ = some (.int .i64 m)) :
    Calls Tryz.prog 112 #[.string s, .string sub] w fun e w' => e = .returned (.int .i64 (Lib.index s.data.toList sub.data.toList)) ∧ w' = w := Any.strings_Index Tryz.lays143 s sub m w hs hm
def Tryz.lays144_ren : Go.Shelf.Ren := ⟨fun | 144 => 60 | 143 => 112 | 219 => 152 | 217 => 179 | 225 => 178 | 224 => 177 | 267 => 180 | 266 => 193 | 314 => 194 | n => n, fun | 9 => 9 | 4 => 4 | 3 => 3 | 5 => 5 | 46 => 124 | 146 => 160 | 51 => 159 | n => n, fun | 1 => 2 | n => n⟩
theorem Tryz.lays144 : Go.Proofs.Lays.n144 Tryz.prog Tryz.lays144_ren := {
  mixed := by kernel_rfl
  f143 := Tryz.func112.trans (congrArg some (by kernel_rfl))
  f144 := Tryz.func60.trans (congrArg some (by kernel_rfl))
  f217 := Tryz.func179.trans (congrArg some (by kernel_rfl))
  f219 := Tryz.func152.trans (congrArg some (by kernel_rfl))
  f224 := Tryz.func177.trans (congrArg some (by kernel_rfl))
  f225 := Tryz.func178.trans (congrArg some (by kernel_rfl))
  f266 := Tryz.func193.trans (congrArg some (by kernel_rfl))
  f267 := Tryz.func180.trans (congrArg some (by kernel_rfl))
  f314 := Tryz.func194.trans (congrArg some (by kernel_rfl))
  t3 := Tryz.underlying3
  a3 := Tryz.isAgg3
  z3 := Tryz.sizeOf3
  v3 := Tryz.zeroValue3
  t4 := Tryz.underlying4
  a4 := Tryz.isAgg4
  z4 := Tryz.sizeOf4
  v4 := Tryz.zeroValue4
  t5 := Tryz.underlying5
  a5 := Tryz.isAgg5
  z5 := Tryz.sizeOf5
  v5 := Tryz.zeroValue5
  t9 := Tryz.underlying9
  a9 := Tryz.isAgg9
  z9 := Tryz.sizeOf9
  v9 := Tryz.zeroValue9
  t46 := Tryz.underlying124
  a46 := Tryz.isAgg124
  z46 := Tryz.sizeOf124
  v46 := Tryz.zeroValue124
  t51 := Tryz.underlying159
  a51 := Tryz.isAgg159
  z51 := Tryz.sizeOf159
  v51 := Tryz.zeroValue159
  t146 := Tryz.underlying160
  a146 := Tryz.isAgg160
  z146 := Tryz.sizeOf160
  v146 := Tryz.zeroValue160
  g1 := by kernel_rfl }
open Go.RowKit Go.Lib in
/-- strings.Contains: "Contains reports whether substr is within s.": AT A substr OF ONE BYTE c: IT RETURNS 'decide (0 ≤ Lib.indexByte s c)'; the world is as it was. (LAID: no walk: one application.) -/
theorem Tryz.strings_Contains_one (s : ByteArray) (c : UInt8) (w : World) :
    Calls Tryz.prog 60 #[.string s, .string ⟨#[c]⟩] w fun e w' => e = .returned (.bool (decide (0 ≤ Lib.indexByte s.data.toList c))) ∧ w' = w := Any.strings_Contains_one Tryz.lays144 s c w
open Go.RowKit Go.Lib in
/-- strings.Contains: "Contains reports whether substr is within s.": IT RETURNS 'Lib.contains s substr'; the world is as it was. (LAID: no walk: one application.) -/
theorem Tryz.strings_Contains (s sub : ByteArray) (m : Int) (w : World) (hs : s.size < 4294967281) (hm : w.cell? ⟨2, 0, none⟩ = some (.int .i64 m)) :
    Calls Tryz.prog 60 #[.string s, .string sub] w fun e w' => e = .returned (.bool (Lib.contains s.data.toList sub.data.toList)) ∧ w' = w := Any.strings_Contains Tryz.lays144 s sub m w hs hm
def Tryz.lays220_ren : Go.Shelf.Ren := ⟨fun | 220 => 171 | 219 => 152 | 217 => 179 | 225 => 178 | 224 => 177 | 267 => 180 | 266 => 193 | 314 => 194 | n => n, fun | 9 => 9 | 4 => 4 | 3 => 3 | 5 => 5 | 46 => 124 | 146 => 160 | 51 => 159 | n => n, fun | 1 => 2 | n => n⟩
theorem Tryz.lays220 : Go.Proofs.Lays.n220 Tryz.prog Tryz.lays220_ren := {
  mixed := by kernel_rfl
  f217 := Tryz.func179.trans (congrArg some (by kernel_rfl))
  f219 := Tryz.func152.trans (congrArg some (by kernel_rfl))
  f220 := Tryz.func171.trans (congrArg some (by kernel_rfl))
  f224 := Tryz.func177.trans (congrArg some (by kernel_rfl))
  f225 := Tryz.func178.trans (congrArg some (by kernel_rfl))
  f266 := Tryz.func193.trans (congrArg some (by kernel_rfl))
  f267 := Tryz.func180.trans (congrArg some (by kernel_rfl))
  f314 := Tryz.func194.trans (congrArg some (by kernel_rfl))
  t3 := Tryz.underlying3
  a3 := Tryz.isAgg3
  z3 := Tryz.sizeOf3
  v3 := Tryz.zeroValue3
  t4 := Tryz.underlying4
  a4 := Tryz.isAgg4
  z4 := Tryz.sizeOf4
  v4 := Tryz.zeroValue4
  t5 := Tryz.underlying5
  a5 := Tryz.isAgg5
  z5 := Tryz.sizeOf5
  v5 := Tryz.zeroValue5
  t9 := Tryz.underlying9
  a9 := Tryz.isAgg9
  z9 := Tryz.sizeOf9
  v9 := Tryz.zeroValue9
  t46 := Tryz.underlying124
  a46 := Tryz.isAgg124
  z46 := Tryz.sizeOf124
  v46 := Tryz.zeroValue124
  t51 := Tryz.underlying159
  a51 := Tryz.isAgg159
  z51 := Tryz.sizeOf159
  v51 := Tryz.zeroValue159
  t146 := Tryz.underlying160
  a146 := Tryz.isAgg160
  z146 := Tryz.sizeOf160
  v146 := Tryz.zeroValue160
  g1 := by kernel_rfl }
open Go.RowKit Go.Lib in
/-- internal/stringslite.Cut (what strings.Cut calls): IT RETURNS 'Lib.cut s sep'; the world is as it was but for the count of draws. (LAID: no walk: one application.) -/
theorem Tryz.stringslite_Cut (s sep : ByteArray) (m : Int) (w : World) (hs : s.size < 4294967281) (hm : w.cell? ⟨2, 0, none⟩ = some (.int .i64 m)) :
    Calls Tryz.prog 171 #[.string s, .string sep] w fun e w' => e = .returned (.tuple #[.string ⟨(Lib.cut s.data.toList sep.data.toList).1.toArray⟩, .string ⟨(Lib.cut s.data.toList sep.data.toList).2.1.toArray⟩, .bool (Lib.cut s.data.toList sep.data.toList).2.2]) ∧ ∃ n, w' = w.drewN n := Any.stringslite_Cut Tryz.lays220 s sep m w hs hm
def Tryz.lays145_ren : Go.Shelf.Ren := ⟨fun | 145 => 144 | 220 => 171 | 219 => 152 | 217 => 179 | 225 => 178 | 224 => 177 | 267 => 180 | 266 => 193 | 314 => 194 | n => n, fun | 9 => 9 | 4 => 4 | 59 => 116 | 3 => 3 | 5 => 5 | 46 => 124 | 146 => 160 | 51 => 159 | n => n, fun | 1 => 2 | n => n⟩
theorem Tryz.lays145 : Go.Proofs.Lays.n145 Tryz.prog Tryz.lays145_ren := {
  mixed := by kernel_rfl
  f145 := Tryz.func144.trans (congrArg some (by kernel_rfl))
  f217 := Tryz.func179.trans (congrArg some (by kernel_rfl))
  f219 := Tryz.func152.trans (congrArg some (by kernel_rfl))
  f220 := Tryz.func171.trans (congrArg some (by kernel_rfl))
  f224 := Tryz.func177.trans (congrArg some (by kernel_rfl))
  f225 := Tryz.func178.trans (congrArg some (by kernel_rfl))
  f266 := Tryz.func193.trans (congrArg some (by kernel_rfl))
  f267 := Tryz.func180.trans (congrArg some (by kernel_rfl))
  f314 := Tryz.func194.trans (congrArg some (by kernel_rfl))
  t3 := Tryz.underlying3
  a3 := Tryz.isAgg3
  z3 := Tryz.sizeOf3
  v3 := Tryz.zeroValue3
  t4 := Tryz.underlying4
  a4 := Tryz.isAgg4
  z4 := Tryz.sizeOf4
  v4 := Tryz.zeroValue4
  t5 := Tryz.underlying5
  a5 := Tryz.isAgg5
  z5 := Tryz.sizeOf5
  v5 := Tryz.zeroValue5
  t9 := Tryz.underlying9
  a9 := Tryz.isAgg9
  z9 := Tryz.sizeOf9
  v9 := Tryz.zeroValue9
  t46 := Tryz.underlying124
  a46 := Tryz.isAgg124
  z46 := Tryz.sizeOf124
  v46 := Tryz.zeroValue124
  t51 := Tryz.underlying159
  a51 := Tryz.isAgg159
  z51 := Tryz.sizeOf159
  v51 := Tryz.zeroValue159
  t59 := Tryz.underlying116
  a59 := Tryz.isAgg116
  z59 := Tryz.sizeOf116
  v59 := Tryz.zeroValue116
  t146 := Tryz.underlying160
  a146 := Tryz.isAgg160
  z146 := Tryz.sizeOf160
  v146 := Tryz.zeroValue160
  g1 := by kernel_rfl }
open Go.RowKit Go.Lib in
/-- strings.Cut: "Cut slices s around the first instance of sep, returning the text before and after sep. The found result reports whether sep appears in s. If sep does not appear in s, cut returns s, "", false.": IT RETURNS 'Lib.cut s sep'; the world is as it was but for the count of draws. (LAID: no walk: one application.) -/
theorem Tryz.strings_Cut (s sep : ByteArray) (m : Int) (w : World) (hs : s.size < 4294967281) (hm : w.cell? ⟨2, 0, none⟩ = some (.int .i64 m)) :
    Calls Tryz.prog 144 #[.string s, .string sep] w fun e w' => e = .returned (.tuple #[.string ⟨(Lib.cut s.data.toList sep.data.toList).1.toArray⟩, .string ⟨(Lib.cut s.data.toList sep.data.toList).2.1.toArray⟩, .bool (Lib.cut s.data.toList sep.data.toList).2.2]) ∧ ∃ n, w' = w.drewN n := Any.strings_Cut Tryz.lays145 s sep m w hs hm
def Tryz.laysM219_ren : Go.Shelf.Ren := ⟨fun | 219 => 152 | 217 => 179 | 225 => 178 | 224 => 177 | 267 => 180 | 266 => 193 | 314 => 194 | n => n, fun | 9 => 9 | 3 => 3 | 4 => 4 | 5 => 5 | 46 => 124 | 146 => 160 | 51 => 159 | n => n, fun | 1 => 2 | n => n⟩
theorem Tryz.laysM219 : Go.Proofs.LaysM.n219 Tryz.prog Tryz.laysM219_ren := {
  mixed := by kernel_rfl
  f217 := Tryz.func179.trans (congrArg some (by kernel_rfl))
  f219 := Tryz.func152.trans (congrArg some (by kernel_rfl))
  f224 := Tryz.func177.trans (congrArg some (by kernel_rfl))
  f225 := Tryz.func178.trans (congrArg some (by kernel_rfl))
  f266 := Tryz.func193.trans (congrArg some (by kernel_rfl))
  f267 := Tryz.func180.trans (congrArg some (by kernel_rfl))
  f314 := Tryz.func194.trans (congrArg some (by kernel_rfl))
  t3 := Tryz.underlying3
  a3 := Tryz.isAgg3
  z3 := Tryz.sizeOf3
  v3 := Tryz.zeroValue3
  t4 := Tryz.underlying4
  a4 := Tryz.isAgg4
  z4 := Tryz.sizeOf4
  v4 := Tryz.zeroValue4
  t5 := Tryz.underlying5
  a5 := Tryz.isAgg5
  z5 := Tryz.sizeOf5
  v5 := Tryz.zeroValue5
  t9 := Tryz.underlying9
  a9 := Tryz.isAgg9
  z9 := Tryz.sizeOf9
  v9 := Tryz.zeroValue9
  t46 := Tryz.underlying124
  a46 := Tryz.isAgg124
  z46 := Tryz.sizeOf124
  v46 := Tryz.zeroValue124
  t51 := Tryz.underlying159
  a51 := Tryz.isAgg159
  z51 := Tryz.sizeOf159
  v51 := Tryz.zeroValue159
  t146 := Tryz.underlying160
  a146 := Tryz.isAgg160
  z146 := Tryz.sizeOf160
  v146 := Tryz.zeroValue160
  g1 := by kernel_rfl
  i3 := by kernel_rfl
  i4 := by kernel_rfl
  i5 := by kernel_rfl
  i9 := by kernel_rfl
  i46 := by kernel_rfl
  i51 := by kernel_rfl
  i146 := by kernel_rfl
  m1 := by kernel_rfl
  s1_3 := fun w h => Go.Proofs.cell_of_shapedOpen_int (zero := #[.int .i64 0]) (t := 3) h (of_decide_eq_true (by kernel_rfl)) (by kernel_rfl) rfl (by kernel_rfl) (by kernel_rfl) Tryz.underlying3 }
open Go.RowKit Go.Lib in
theorem Tryz.stringslite_Index_shaped (s sub : ByteArray) (w : World) (h : w.ShapedOpen Tryz.prog) (hs : s.size < 4294967281) :
    Calls Tryz.prog 152 #[.string s, .string sub] w fun e w' => e = .returned (.int .i64 (Lib.index s.data.toList sub.data.toList)) ∧ w' = w := Any.stringslite_Index_shaped Tryz.laysM219 s sub w h hs
def Tryz.laysM143_ren : Go.Shelf.Ren := ⟨fun | 143 => 112 | 219 => 152 | 217 => 179 | 225 => 178 | 224 => 177 | 267 => 180 | 266 => 193 | 314 => 194 | n => n, fun | 9 => 9 | 3 => 3 | 4 => 4 | 5 => 5 | 46 => 124 | 146 => 160 | 51 => 159 | n => n, fun | 1 => 2 | n => n⟩
theorem Tryz.laysM143 : Go.Proofs.LaysM.n143 Tryz.prog Tryz.laysM143_ren := {
  mixed := by kernel_rfl
  f143 := Tryz.func112.trans (congrArg some (by kernel_rfl))
  f217 := Tryz.func179.trans (congrArg some (by kernel_rfl))
  f219 := Tryz.func152.trans (congrArg some (by kernel_rfl))
  f224 := Tryz.func177.trans (congrArg some (by kernel_rfl))
  f225 := Tryz.func178.trans (congrArg some (by kernel_rfl))
  f266 := Tryz.func193.trans (congrArg some (by kernel_rfl))
  f267 := Tryz.func180.trans (congrArg some (by kernel_rfl))
  f314 := Tryz.func194.trans (congrArg some (by kernel_rfl))
  t3 := Tryz.underlying3
  a3 := Tryz.isAgg3
  z3 := Tryz.sizeOf3
  v3 := Tryz.zeroValue3
  t4 := Tryz.underlying4
  a4 := Tryz.isAgg4
  z4 := Tryz.sizeOf4
  v4 := Tryz.zeroValue4
  t5 := Tryz.underlying5
  a5 := Tryz.isAgg5
  z5 := Tryz.sizeOf5
  v5 := Tryz.zeroValue5
  t9 := Tryz.underlying9
  a9 := Tryz.isAgg9
  z9 := Tryz.sizeOf9
  v9 := Tryz.zeroValue9
  t46 := Tryz.underlying124
  a46 := Tryz.isAgg124
  z46 := Tryz.sizeOf124
  v46 := Tryz.zeroValue124
  t51 := Tryz.underlying159
  a51 := Tryz.isAgg159
  z51 := Tryz.sizeOf159
  v51 := Tryz.zeroValue159
  t146 := Tryz.underlying160
  a146 := Tryz.isAgg160
  z146 := Tryz.sizeOf160
  v146 := Tryz.zeroValue160
  g1 := by kernel_rfl
  i3 := by kernel_rfl
  i4 := by kernel_rfl
  i5 := by kernel_rfl
  i9 := by kernel_rfl
  i46 := by kernel_rfl
  i51 := by kernel_rfl
  i146 := by kernel_rfl
  m1 := by kernel_rfl
  s1_3 := fun w h => Go.Proofs.cell_of_shapedOpen_int (zero := #[.int .i64 0]) (t := 3) h (of_decide_eq_true (by kernel_rfl)) (by kernel_rfl) rfl (by kernel_rfl) (by kernel_rfl) Tryz.underlying3 }
open Go.RowKit Go.Lib in
theorem Tryz.strings_Index_shaped (s sub : ByteArray) (w : World) (h : w.ShapedOpen Tryz.prog) (hs : s.size < 4294967281) :
    Calls Tryz.prog 112 #[.string s, .string sub] w fun e w' => e = .returned (.int .i64 (Lib.index s.data.toList sub.data.toList)) ∧ w' = w := Any.strings_Index_shaped Tryz.laysM143 s sub w h hs
def Tryz.laysM144_ren : Go.Shelf.Ren := ⟨fun | 144 => 60 | 143 => 112 | 219 => 152 | 217 => 179 | 225 => 178 | 224 => 177 | 267 => 180 | 266 => 193 | 314 => 194 | n => n, fun | 9 => 9 | 4 => 4 | 3 => 3 | 5 => 5 | 46 => 124 | 146 => 160 | 51 => 159 | n => n, fun | 1 => 2 | n => n⟩
theorem Tryz.laysM144 : Go.Proofs.LaysM.n144 Tryz.prog Tryz.laysM144_ren := {
  mixed := by kernel_rfl
  f143 := Tryz.func112.trans (congrArg some (by kernel_rfl))
  f144 := Tryz.func60.trans (congrArg some (by kernel_rfl))
  f217 := Tryz.func179.trans (congrArg some (by kernel_rfl))
  f219 := Tryz.func152.trans (congrArg some (by kernel_rfl))
  f224 := Tryz.func177.trans (congrArg some (by kernel_rfl))
  f225 := Tryz.func178.trans (congrArg some (by kernel_rfl))
  f266 := Tryz.func193.trans (congrArg some (by kernel_rfl))
  f267 := Tryz.func180.trans (congrArg some (by kernel_rfl))
  f314 := Tryz.func194.trans (congrArg some (by kernel_rfl))
  t3 := Tryz.underlying3
  a3 := Tryz.isAgg3
  z3 := Tryz.sizeOf3
  v3 := Tryz.zeroValue3
  t4 := Tryz.underlying4
  a4 := Tryz.isAgg4
  z4 := Tryz.sizeOf4
  v4 := Tryz.zeroValue4
  t5 := Tryz.underlying5
  a5 := Tryz.isAgg5
  z5 := Tryz.sizeOf5
  v5 := Tryz.zeroValue5
  t9 := Tryz.underlying9
  a9 := Tryz.isAgg9
  z9 := Tryz.sizeOf9
  v9 := Tryz.zeroValue9
  t46 := Tryz.underlying124
  a46 := Tryz.isAgg124
  z46 := Tryz.sizeOf124
  v46 := Tryz.zeroValue124
  t51 := Tryz.underlying159
  a51 := Tryz.isAgg159
  z51 := Tryz.sizeOf159
  v51 := Tryz.zeroValue159
  t146 := Tryz.underlying160
  a146 := Tryz.isAgg160
  z146 := Tryz.sizeOf160
  v146 := Tryz.zeroValue160
  g1 := by kernel_rfl
  i3 := by kernel_rfl
  i4 := by kernel_rfl
  i5 := by kernel_rfl
  i9 := by kernel_rfl
  i46 := by kernel_rfl
  i51 := by kernel_rfl
  i146 := by kernel_rfl
  m1 := by kernel_rfl
  s1_3 := fun w h => Go.Proofs.cell_of_shapedOpen_int (zero := #[.int .i64 0]) (t := 3) h (of_decide_eq_true (by kernel_rfl)) (by kernel_rfl) rfl (by kernel_rfl) (by kernel_rfl) Tryz.underlying3 }
open Go.RowKit Go.Lib in
theorem Tryz.strings_Contains_shaped (s sub : ByteArray) (w : World) (h : w.ShapedOpen Tryz.prog) (hs : s.size < 4294967281) :
    Calls Tryz.prog 60 #[.string s, .string sub] w fun e w' => e = .returned (.bool (Lib.contains s.data.toList sub.data.toList)) ∧ w' = w := Any.strings_Contains_shaped Tryz.laysM144 s sub w h hs
def Tryz.laysM220_ren : Go.Shelf.Ren := ⟨fun | 220 => 171 | 219 => 152 | 217 => 179 | 225 => 178 | 224 => 177 | 267 => 180 | 266 => 193 | 314 => 194 | n => n, fun | 9 => 9 | 4 => 4 | 3 => 3 | 5 => 5 | 46 => 124 | 146 => 160 | 51 => 159 | n => n, fun | 1 => 2 | n => n⟩
theorem Tryz.laysM220 : Go.Proofs.LaysM.n220 Tryz.prog Tryz.laysM220_ren := {
  mixed := by kernel_rfl
  f217 := Tryz.func179.trans (congrArg some (by kernel_rfl))
  f219 := Tryz.func152.trans (congrArg some (by kernel_rfl))
  f220 := Tryz.func171.trans (congrArg some (by kernel_rfl))
  f224 := Tryz.func177.trans (congrArg some (by kernel_rfl))
  f225 := Tryz.func178.trans (congrArg some (by kernel_rfl))
  f266 := Tryz.func193.trans (congrArg some (by kernel_rfl))
  f267 := Tryz.func180.trans (congrArg some (by kernel_rfl))
  f314 := Tryz.func194.trans (congrArg some (by kernel_rfl))
  t3 := Tryz.underlying3
  a3 := Tryz.isAgg3
  z3 := Tryz.sizeOf3
  v3 := Tryz.zeroValue3
  t4 := Tryz.underlying4
  a4 := Tryz.isAgg4
  z4 := Tryz.sizeOf4
  v4 := Tryz.zeroValue4
  t5 := Tryz.underlying5
  a5 := Tryz.isAgg5
  z5 := Tryz.sizeOf5
  v5 := Tryz.zeroValue5
  t9 := Tryz.underlying9
  a9 := Tryz.isAgg9
  z9 := Tryz.sizeOf9
  v9 := Tryz.zeroValue9
  t46 := Tryz.underlying124
  a46 := Tryz.isAgg124
  z46 := Tryz.sizeOf124
  v46 := Tryz.zeroValue124
  t51 := Tryz.underlying159
  a51 := Tryz.isAgg159
  z51 := Tryz.sizeOf159
  v51 := Tryz.zeroValue159
  t146 := Tryz.underlying160
  a146 := Tryz.isAgg160
  z146 := Tryz.sizeOf160
  v146 := Tryz.zeroValue160
  g1 := by kernel_rfl
  i3 := by kernel_rfl
  i4 := by kernel_rfl
  i5 := by kernel_rfl
  i9 := by kernel_rfl
  i46 := by kernel_rfl
  i51 := by kernel_rfl
  i146 := by kernel_rfl
  m1 := by kernel_rfl
  s1_3 := fun w h => Go.Proofs.cell_of_shapedOpen_int (zero := #[.int .i64 0]) (t := 3) h (of_decide_eq_true (by kernel_rfl)) (by kernel_rfl) rfl (by kernel_rfl) (by kernel_rfl) Tryz.underlying3 }
open Go.RowKit Go.Lib in
theorem Tryz.stringslite_Cut_shaped (s sep : ByteArray) (w : World) (h : w.ShapedOpen Tryz.prog) (hs : s.size < 4294967281) :
    Calls Tryz.prog 171 #[.string s, .string sep] w fun e w' => e = .returned (.tuple #[.string ⟨(Lib.cut s.data.toList sep.data.toList).1.toArray⟩, .string ⟨(Lib.cut s.data.toList sep.data.toList).2.1.toArray⟩, .bool (Lib.cut s.data.toList sep.data.toList).2.2]) ∧ ∃ n, w' = w.drewN n := Any.stringslite_Cut_shaped Tryz.laysM220 s sep w h hs
def Tryz.laysM145_ren : Go.Shelf.Ren := ⟨fun | 145 => 144 | 220 => 171 | 219 => 152 | 217 => 179 | 225 => 178 | 224 => 177 | 267 => 180 | 266 => 193 | 314 => 194 | n => n, fun | 9 => 9 | 4 => 4 | 59 => 116 | 3 => 3 | 5 => 5 | 46 => 124 | 146 => 160 | 51 => 159 | n => n, fun | 1 => 2 | n => n⟩
theorem Tryz.laysM145 : Go.Proofs.LaysM.n145 Tryz.prog Tryz.laysM145_ren := {
  mixed := by kernel_rfl
  f145 := Tryz.func144.trans (congrArg some (by kernel_rfl))
  f217 := Tryz.func179.trans (congrArg some (by kernel_rfl))
  f219 := Tryz.func152.trans (congrArg some (by kernel_rfl))
  f220 := Tryz.func171.trans (congrArg some (by kernel_rfl))
  f224 := Tryz.func177.trans (congrArg some (by kernel_rfl))
  f225 := Tryz.func178.trans (congrArg some (by kernel_rfl))
  f266 := Tryz.func193.trans (congrArg some (by kernel_rfl))
  f267 := Tryz.func180.trans (congrArg some (by kernel_rfl))
  f314 := Tryz.func194.trans (congrArg some (by kernel_rfl))
  t3 := Tryz.underlying3
  a3 := Tryz.isAgg3
  z3 := Tryz.sizeOf3
  v3 := Tryz.zeroValue3
  t4 := Tryz.underlying4
  a4 := Tryz.isAgg4
  z4 := Tryz.sizeOf4
  v4 := Tryz.zeroValue4
  t5 := Tryz.underlying5
  a5 := Tryz.isAgg5
  z5 := Tryz.sizeOf5
  v5 := Tryz.zeroValue5
  t9 := Tryz.underlying9
  a9 := Tryz.isAgg9
  z9 := Tryz.sizeOf9
  v9 := Tryz.zeroValue9
  t46 := Tryz.underlying124
  a46 := Tryz.isAgg124
  z46 := Tryz.sizeOf124
  v46 := Tryz.zeroValue124
  t51 := Tryz.underlying159
  a51 := Tryz.isAgg159
  z51 := Tryz.sizeOf159
  v51 := Tryz.zeroValue159
  t59 := Tryz.underlying116
  a59 := Tryz.isAgg116
  z59 := Tryz.sizeOf116
  v59 := Tryz.zeroValue116
  t146 := Tryz.underlying160
  a146 := Tryz.isAgg160
  z146 := Tryz.sizeOf160
  v146 := Tryz.zeroValue160
  g1 := by kernel_rfl
  i3 := by kernel_rfl
  i4 := by kernel_rfl
  i5 := by kernel_rfl
  i9 := by kernel_rfl
  i46 := by kernel_rfl
  i51 := by kernel_rfl
  i59 := by kernel_rfl
  i146 := by kernel_rfl
  m1 := by kernel_rfl
  s1_3 := fun w h => Go.Proofs.cell_of_shapedOpen_int (zero := #[.int .i64 0]) (t := 3) h (of_decide_eq_true (by kernel_rfl)) (by kernel_rfl) rfl (by kernel_rfl) (by kernel_rfl) Tryz.underlying3 }
open Go.RowKit Go.Lib in
theorem Tryz.strings_Cut_shaped (s sep : ByteArray) (w : World) (h : w.ShapedOpen Tryz.prog) (hs : s.size < 4294967281) :
    Calls Tryz.prog 144 #[.string s, .string sep] w fun e w' => e = .returned (.tuple #[.string ⟨(Lib.cut s.data.toList sep.data.toList).1.toArray⟩, .string ⟨(Lib.cut s.data.toList sep.data.toList).2.1.toArray⟩, .bool (Lib.cut s.data.toList sep.data.toList).2.2]) ∧ ∃ n, w' = w.drewN n := Any.strings_Cut_shaped Tryz.laysM145 s sep w h hs
def Tryz.lays206_ren : Go.Shelf.Ren := ⟨fun | 206 => 113 | n => n, fun | 9 => 9 | 4 => 4 | 3 => 3 | n => n, fun | n => n⟩
theorem Tryz.lays206 : Go.Proofs.Lays.n206 Tryz.prog Tryz.lays206_ren := {
  mixed := by kernel_rfl
  f206 := Tryz.func113.trans (congrArg some (by kernel_rfl))
  t3 := Tryz.underlying3
  a3 := Tryz.isAgg3
  z3 := Tryz.sizeOf3
  v3 := Tryz.zeroValue3
  t4 := Tryz.underlying4
  a4 := Tryz.isAgg4
  z4 := Tryz.sizeOf4
  v4 := Tryz.zeroValue4
  t9 := Tryz.underlying9
  a9 := Tryz.isAgg9
  z9 := Tryz.sizeOf9
  v9 := Tryz.zeroValue9 }
open Go.RowKit Go.Lib in
/-- internal/stringslite.HasPrefix (what strings.HasPrefix calls). (LAID: no walk: one application.) -/
theorem Tryz.stringslite_HasPrefix (s p : ByteArray) (w : World) :
    Calls Tryz.prog 113 #[.string s, .string p] w fun e w' => e = .returned (.bool (Lib.hasPrefix s.data.toList p.data.toList)) ∧ w' = w := Any.stringslite_HasPrefix Tryz.lays206 s p w
def Tryz.lays99_ren : Go.Shelf.Ren := ⟨fun | 99 => 61 | 206 => 113 | n => n, fun | 9 => 9 | 4 => 4 | 3 => 3 | n => n, fun | n => n⟩
theorem Tryz.lays99 : Go.Proofs.Lays.n99 Tryz.prog Tryz.lays99_ren := {
  mixed := by kernel_rfl
  f99 := Tryz.func61.trans (congrArg some (by kernel_rfl))
  f206 := Tryz.func113.trans (congrArg some (by kernel_rfl))
  t3 := Tryz.underlying3
  a3 := Tryz.isAgg3
  z3 := Tryz.sizeOf3
  v3 := Tryz.zeroValue3
  t4 := Tryz.underlying4
  a4 := Tryz.isAgg4
  z4 := Tryz.sizeOf4
  v4 := Tryz.zeroValue4
  t9 := Tryz.underlying9
  a9 := Tryz.isAgg9
  z9 := Tryz.sizeOf9
  v9 := Tryz.zeroValue9 }
open Go.RowKit Go.Lib in
/-- strings.HasPrefix: "HasPrefix reports whether the string s begins with prefix.": IT RETURNS 'Lib.hasPrefix s prefix'; the world is as it was. (LAID: no walk: one application.) -/
theorem Tryz.strings_HasPrefix (s p : ByteArray) (w : World) :
    Calls Tryz.prog 61 #[.string s, .string p] w fun e w' => e = .returned (.bool (Lib.hasPrefix s.data.toList p.data.toList)) ∧ w' = w := Any.strings_HasPrefix Tryz.lays99 s p w
def Tryz.lays207_ren : Go.Shelf.Ren := ⟨fun | 207 => 122 | n => n, fun | 9 => 9 | 4 => 4 | 3 => 3 | n => n, fun | n => n⟩
theorem Tryz.lays207 : Go.Proofs.Lays.n207 Tryz.prog Tryz.lays207_ren := {
  mixed := by kernel_rfl
  f207 := Tryz.func122.trans (congrArg some (by kernel_rfl))
  t3 := Tryz.underlying3
  a3 := Tryz.isAgg3
  z3 := Tryz.sizeOf3
  v3 := Tryz.zeroValue3
  t4 := Tryz.underlying4
  a4 := Tryz.isAgg4
  z4 := Tryz.sizeOf4
  v4 := Tryz.zeroValue4
  t9 := Tryz.underlying9
  a9 := Tryz.isAgg9
  z9 := Tryz.sizeOf9
  v9 := Tryz.zeroValue9 }
open Go.RowKit Go.Lib in
/-- internal/stringslite.HasSuffix (what strings.HasSuffix calls). (LAID: no walk: one application.) -/
theorem Tryz.stringslite_HasSuffix (s p : ByteArray) (w : World) (hs : s.size ≤ 9223372036854775807) :
    Calls Tryz.prog 122 #[.string s, .string p] w fun e w' => e = .returned (.bool (Lib.hasSuffix s.data.toList p.data.toList)) ∧ w' = w := Any.stringslite_HasSuffix Tryz.lays207 s p w hs
def Tryz.lays100_ren : Go.Shelf.Ren := ⟨fun | 100 => 67 | 207 => 122 | n => n, fun | 9 => 9 | 4 => 4 | 3 => 3 | n => n, fun | n => n⟩
theorem Tryz.lays100 : Go.Proofs.Lays.n100 Tryz.prog Tryz.lays100_ren := {
  mixed := by kernel_rfl
  f100 := Tryz.func67.trans (congrArg some (by kernel_rfl))
  f207 := Tryz.func122.trans (congrArg some (by kernel_rfl))
  t3 := Tryz.underlying3
  a3 := Tryz.isAgg3
  z3 := Tryz.sizeOf3
  v3 := Tryz.zeroValue3
  t4 := Tryz.underlying4
  a4 := Tryz.isAgg4
  z4 := Tryz.sizeOf4
  v4 := Tryz.zeroValue4
  t9 := Tryz.underlying9
  a9 := Tryz.isAgg9
  z9 := Tryz.sizeOf9
  v9 := Tryz.zeroValue9 }
open Go.RowKit Go.Lib in
/-- strings.HasSuffix: "HasSuffix reports whether the string s ends with suffix.": IT RETURNS 'Lib.hasSuffix s suffix'; the world is as it was. ('hs': no Go string is longer: a caller has it of every string that it was handed.) (LAID: no walk: one application.) -/
theorem Tryz.strings_HasSuffix (s p : ByteArray) (w : World) (hs : s.size ≤ 9223372036854775807) :
    Calls Tryz.prog 67 #[.string s, .string p] w fun e w' => e = .returned (.bool (Lib.hasSuffix s.data.toList p.data.toList)) ∧ w' = w := Any.strings_HasSuffix Tryz.lays100 s p w hs
def Tryz.lays152_ren : Go.Shelf.Ren := ⟨fun | 152 => 148 | 137 => 175 | 119 => 176 | 224 => 177 | 225 => 178 | 217 => 179 | 266 => 193 | n => n, fun | 9 => 9 | 21 => 21 | 3 => 3 | 4 => 4 | 5 => 5 | 0 => 0 | 46 => 124 | n => n, fun | n => n⟩
theorem Tryz.lays152 : Go.Proofs.Lays.n152 Tryz.prog Tryz.lays152_ren := {
  mixed := by kernel_rfl
  f119 := Tryz.func176.trans (congrArg some (by kernel_rfl))
  f137 := Tryz.func175.trans (congrArg some (by kernel_rfl))
  f152 := Tryz.func148.trans (congrArg some (by kernel_rfl))
  f217 := Tryz.func179.trans (congrArg some (by kernel_rfl))
  f224 := Tryz.func177.trans (congrArg some (by kernel_rfl))
  f225 := Tryz.func178.trans (congrArg some (by kernel_rfl))
  f266 := Tryz.func193.trans (congrArg some (by kernel_rfl))
  t0 := Tryz.underlying0
  a0 := Tryz.isAgg0
  z0 := Tryz.sizeOf0
  v0 := Tryz.zeroValue0
  t3 := Tryz.underlying3
  a3 := Tryz.isAgg3
  z3 := Tryz.sizeOf3
  v3 := Tryz.zeroValue3
  t4 := Tryz.underlying4
  a4 := Tryz.isAgg4
  z4 := Tryz.sizeOf4
  v4 := Tryz.zeroValue4
  t5 := Tryz.underlying5
  a5 := Tryz.isAgg5
  z5 := Tryz.sizeOf5
  v5 := Tryz.zeroValue5
  t9 := Tryz.underlying9
  a9 := Tryz.isAgg9
  z9 := Tryz.sizeOf9
  v9 := Tryz.zeroValue9
  t21 := Tryz.underlying21
  a21 := Tryz.isAgg21
  z21 := Tryz.sizeOf21
  v21 := Tryz.zeroValue21
  t46 := Tryz.underlying124
  a46 := Tryz.isAgg124
  z46 := Tryz.sizeOf124
  v46 := Tryz.zeroValue124 }
open Go.RowKit Go.Lib in
theorem Tryz.strings_IndexRune_ascii (s : ByteArray) (r : Int) (w : World) (h0 : 0 ≤ r) (h1 : r < 128) :
    Calls Tryz.prog 148 #[.string s, .int .i32 r] w fun e w' => e = .returned (.int .i64 (Lib.indexByte s.data.toList r.toNat.toUInt8)) ∧ w' = w := Any.strings_IndexRune_ascii Tryz.lays152 s r w h0 h1
def Tryz.lays226_ren : Go.Shelf.Ren := ⟨fun | 226 => 149 | n => n, fun | 3 => 3 | 4 => 4 | n => n, fun | n => n⟩
theorem Tryz.lays226 : Go.Proofs.Lays.n226 Tryz.prog Tryz.lays226_ren := {
  mixed := by kernel_rfl
  f226 := Tryz.func149.trans (congrArg some (by kernel_rfl))
  t3 := Tryz.underlying3
  a3 := Tryz.isAgg3
  z3 := Tryz.sizeOf3
  v3 := Tryz.zeroValue3
  t4 := Tryz.underlying4
  a4 := Tryz.isAgg4
  z4 := Tryz.sizeOf4
  v4 := Tryz.zeroValue4 }
open Go.RowKit Go.Lib in
theorem Tryz.strings_shouldUseASCIISet (n : Int) (w : World) :
    Calls Tryz.prog 149 #[.int .i64 n] w fun e w' => e = .returned (.bool (decide (8 < n))) ∧ w' = w := Any.strings_shouldUseASCIISet Tryz.lays226 n w
def Tryz.lays153_ren : Go.Shelf.Ren := ⟨fun | 153 => 111 | 152 => 148 | 226 => 149 | 227 => 150 | 228 => 151 | 137 => 175 | 119 => 176 | 224 => 177 | 225 => 178 | 217 => 179 | 266 => 193 | n => n, fun | 9 => 9 | 3 => 3 | 4 => 4 | 5 => 5 | 21 => 21 | 117 => 129 | 116 => 128 | 0 => 0 | 46 => 124 | 124 => 149 | n => n, fun | n => n⟩
theorem Tryz.lays153 : Go.Proofs.Lays.n153 Tryz.prog Tryz.lays153_ren := {
  mixed := by kernel_rfl
  f119 := Tryz.func176.trans (congrArg some (by kernel_rfl))
  f137 := Tryz.func175.trans (congrArg some (by kernel_rfl))
  f152 := Tryz.func148.trans (congrArg some (by kernel_rfl))
  f153 := Tryz.func111.trans (congrArg some (by kernel_rfl))
  f217 := Tryz.func179.trans (congrArg some (by kernel_rfl))
  f224 := Tryz.func177.trans (congrArg some (by kernel_rfl))
  f225 := Tryz.func178.trans (congrArg some (by kernel_rfl))
  f226 := Tryz.func149.trans (congrArg some (by kernel_rfl))
  f227 := Tryz.func150.trans (congrArg some (by kernel_rfl))
  f228 := Tryz.func151.trans (congrArg some (by kernel_rfl))
  f266 := Tryz.func193.trans (congrArg some (by kernel_rfl))
  t0 := Tryz.underlying0
  a0 := Tryz.isAgg0
  z0 := Tryz.sizeOf0
  v0 := Tryz.zeroValue0
  t3 := Tryz.underlying3
  a3 := Tryz.isAgg3
  z3 := Tryz.sizeOf3
  v3 := Tryz.zeroValue3
  t4 := Tryz.underlying4
  a4 := Tryz.isAgg4
  z4 := Tryz.sizeOf4
  v4 := Tryz.zeroValue4
  t5 := Tryz.underlying5
  a5 := Tryz.isAgg5
  z5 := Tryz.sizeOf5
  v5 := Tryz.zeroValue5
  t9 := Tryz.underlying9
  a9 := Tryz.isAgg9
  z9 := Tryz.sizeOf9
  v9 := Tryz.zeroValue9
  t21 := Tryz.underlying21
  a21 := Tryz.isAgg21
  z21 := Tryz.sizeOf21
  v21 := Tryz.zeroValue21
  t46 := Tryz.underlying124
  a46 := Tryz.isAgg124
  z46 := Tryz.sizeOf124
  v46 := Tryz.zeroValue124
  t116 := Tryz.underlying128
  a116 := Tryz.isAgg128
  z116 := Tryz.sizeOf128
  t117 := Tryz.underlying129
  a117 := Tryz.isAgg129
  z117 := Tryz.sizeOf129
  v117 := Tryz.zeroValue129
  t124 := Tryz.underlying149
  a124 := Tryz.isAgg149
  z124 := Tryz.sizeOf149
  v124 := Tryz.zeroValue149 }
open Go.RowKit Go.Lib in
/-- chars is empty. (LAID: no walk: one application.) -/
theorem Tryz.strings_IndexAny_none (s chars : ByteArray) (w : World) (h0 : chars.size = 0) :
    Calls Tryz.prog 111 #[.string s, .string chars] w fun e w' => e = .returned (.int .i64 (Lib.indexAny s.data.toList chars.data.toList)) ∧ w' = w := Any.strings_IndexAny_none Tryz.lays153 s chars w h0
open Go.RowKit Go.Lib in
/-- chars is one ASCII byte. (LAID: no walk: one application.) -/
theorem Tryz.strings_IndexAny_one (s chars : ByteArray) (w : World) (h1 : chars.size = 1) (hascii : ∀ (j : Nat) b, chars.data.toList[j]? = some b → b.toNat < 128) :
    Calls Tryz.prog 111 #[.string s, .string chars] w fun e w' => e = .returned (.int .i64 (Lib.indexAny s.data.toList chars.data.toList)) ∧ w' = w := Any.strings_IndexAny_one Tryz.lays153 s chars w h1 hascii
open Go.RowKit Go.Lib in
/-- s of at most 8 bytes; chars of two or more: 'for i, c := range s { if IndexRune(chars, c) >= 0 { return i } }'. One block more: the model's iterator over s. (LAID: no walk: one application.) -/
theorem Tryz.strings_IndexAny_short (s chars : ByteArray) (w : World) (h2 : 2 ≤ chars.size) (h8 : s.size ≤ 8) (hascii : ∀ (j : Nat) b, s.data.toList[j]? = some b → b.toNat < 128) :
    Calls Tryz.prog 111 #[.string s, .string chars] w fun e w' => e = .returned (.int .i64 (Lib.indexAny s.data.toList chars.data.toList)) ∧ ∃ pos, w' = w.iter s pos := Any.strings_IndexAny_short Tryz.lays153 s chars w h2 h8 hascii
def Tryz.lays227_ren : Go.Shelf.Ren := ⟨fun | 227 => 150 | n => n, fun | 9 => 9 | 116 => 128 | 4 => 4 | 0 => 0 | 3 => 3 | 5 => 5 | n => n, fun | n => n⟩
theorem Tryz.lays227 : Go.Proofs.Lays.n227 Tryz.prog Tryz.lays227_ren := {
  mixed := by kernel_rfl
  f227 := Tryz.func150.trans (congrArg some (by kernel_rfl))
  t0 := Tryz.underlying0
  a0 := Tryz.isAgg0
  z0 := Tryz.sizeOf0
  v0 := Tryz.zeroValue0
  t3 := Tryz.underlying3
  a3 := Tryz.isAgg3
  z3 := Tryz.sizeOf3
  v3 := Tryz.zeroValue3
  t4 := Tryz.underlying4
  a4 := Tryz.isAgg4
  z4 := Tryz.sizeOf4
  v4 := Tryz.zeroValue4
  t5 := Tryz.underlying5
  a5 := Tryz.isAgg5
  z5 := Tryz.sizeOf5
  v5 := Tryz.zeroValue5
  t9 := Tryz.underlying9
  a9 := Tryz.isAgg9
  z9 := Tryz.sizeOf9
  v9 := Tryz.zeroValue9
  t116 := Tryz.underlying128
  a116 := Tryz.isAgg128
  z116 := Tryz.sizeOf128 }
open Go.RowKit Go.Lib in
theorem Tryz.strings_makeASCIISet (hv116 : ∀ w, (zeroValue 128).run Tryz.prog w = .ok (.agg (Array.replicate 256 (.bool false))) w) (chars : ByteArray) (w : World) (hs : chars.size < 4294967281) (hascii : ∀ (j : Nat) b, chars.data.toList[j]? = some b → b.toNat < 128) :
    Calls Tryz.prog 150 #[.string chars] w fun e w' => e = .returned (.tuple #[.agg (Lib.setCells chars.data.toList), .bool true]) ∧ w' = w.alloc (.cells (Lib.setCells chars.data.toList) 128) := Any.strings_makeASCIISet Tryz.lays227 hv116 (by kernel_rfl) chars w hs hascii
def Tryz.lays228_ren : Go.Shelf.Ren := ⟨fun | 228 => 151 | n => n, fun | 124 => 149 | 5 => 5 | 4 => 4 | 0 => 0 | 116 => 128 | n => n, fun | n => n⟩
theorem Tryz.lays228 : Go.Proofs.Lays.n228 Tryz.prog Tryz.lays228_ren := {
  mixed := by kernel_rfl
  f228 := Tryz.func151.trans (congrArg some (by kernel_rfl))
  t0 := Tryz.underlying0
  a0 := Tryz.isAgg0
  z0 := Tryz.sizeOf0
  v0 := Tryz.zeroValue0
  t4 := Tryz.underlying4
  a4 := Tryz.isAgg4
  z4 := Tryz.sizeOf4
  v4 := Tryz.zeroValue4
  t5 := Tryz.underlying5
  a5 := Tryz.isAgg5
  z5 := Tryz.sizeOf5
  v5 := Tryz.zeroValue5
  t116 := Tryz.underlying128
  a116 := Tryz.isAgg128
  z116 := Tryz.sizeOf128
  t124 := Tryz.underlying149
  a124 := Tryz.isAgg149
  z124 := Tryz.sizeOf149
  v124 := Tryz.zeroValue149 }
open Go.RowKit Go.Lib in
/-- '(as *asciiSet) contains(c)': 'as[c]': the set lies at block b, whole. (LAID: no walk: one application.) -/
theorem Tryz.asciiSet_contains (b : Nat) (x : UInt8) (v : Bool) (w : World) (hc : w.cell? ⟨b, x.toNat, none⟩ = some (.bool v)) :
    Calls Tryz.prog 151 #[.pointer (some ⟨b, 0, none⟩), .int .u8 x.toNat] w fun e w' => e = .returned (.bool v) ∧ w' = w := Any.asciiSet_contains Tryz.lays228 b x v w hc
open Go.RowKit Go.Lib in
theorem Tryz.strings_IndexAny_long (hv116 : ∀ w, (zeroValue 128).run Tryz.prog w = .ok (.agg (Array.replicate 256 (.bool false))) w) (s chars : ByteArray) (w : World) (h2 : 2 ≤ chars.size) (h8 : 8 < s.size) (hs : s.size < 4294967281) (hcs : chars.size < 4294967281) (hascii : ∀ (j : Nat) b, chars.data.toList[j]? = some b → b.toNat < 128) :
    Calls Tryz.prog 111 #[.string s, .string chars] w fun e w' => e = .returned (.int .i64 (Lib.indexAny s.data.toList chars.data.toList)) ∧ w' = ((w.alloc (.cells (Lib.setCells chars.data.toList) 128)).alloc (.cells (Lib.setCells chars.data.toList) 128)) := Any.strings_IndexAny_long Tryz.lays153 hv116 (by kernel_rfl) s chars w h2 h8 hs hcs hascii
open Go.RowKit Go.Lib in
/-- strings.IndexAny ON ASCII BYTES: the four roads under one statement. (LAID: no walk: one application.) -/
theorem Tryz.strings_IndexAny (hv116 : ∀ w, (zeroValue 128).run Tryz.prog w = .ok (.agg (Array.replicate 256 (.bool false))) w) (s chars : ByteArray) (w : World) (hs : s.size < 4294967281) (hcs : chars.size < 4294967281) (has : ∀ (j : Nat) b, s.data.toList[j]? = some b → b.toNat < 128) (hac : ∀ (j : Nat) b, chars.data.toList[j]? = some b → b.toNat < 128) :
    Calls Tryz.prog 111 #[.string s, .string chars] w fun e w' => e = .returned (.int .i64 (Lib.indexAny s.data.toList chars.data.toList)) ∧ Below w.heap.size w w' := Any.strings_IndexAny Tryz.lays153 hv116 (by kernel_rfl) s chars w hs hcs has hac
def Tryz.lays150_ren : Go.Shelf.Ren := ⟨fun | 150 => 59 | 153 => 111 | 152 => 148 | 226 => 149 | 227 => 150 | 228 => 151 | 137 => 175 | 119 => 176 | 224 => 177 | 225 => 178 | 217 => 179 | 266 => 193 | n => n, fun | 9 => 9 | 4 => 4 | 3 => 3 | 5 => 5 | 21 => 21 | 117 => 129 | 116 => 128 | 0 => 0 | 46 => 124 | 124 => 149 | n => n, fun | n => n⟩
theorem Tryz.lays150 : Go.Proofs.Lays.n150 Tryz.prog Tryz.lays150_ren := {
  mixed := by kernel_rfl
  f119 := Tryz.func176.trans (congrArg some (by kernel_rfl))
  f137 := Tryz.func175.trans (congrArg some (by kernel_rfl))
  f150 := Tryz.func59.trans (congrArg some (by kernel_rfl))
  f152 := Tryz.func148.trans (congrArg some (by kernel_rfl))
  f153 := Tryz.func111.trans (congrArg some (by kernel_rfl))
  f217 := Tryz.func179.trans (congrArg some (by kernel_rfl))
  f224 := Tryz.func177.trans (congrArg some (by kernel_rfl))
  f225 := Tryz.func178.trans (congrArg some (by kernel_rfl))
  f226 := Tryz.func149.trans (congrArg some (by kernel_rfl))
  f227 := Tryz.func150.trans (congrArg some (by kernel_rfl))
  f228 := Tryz.func151.trans (congrArg some (by kernel_rfl))
  f266 := Tryz.func193.trans (congrArg some (by kernel_rfl))
  t0 := Tryz.underlying0
  a0 := Tryz.isAgg0
  z0 := Tryz.sizeOf0
  v0 := Tryz.zeroValue0
  t3 := Tryz.underlying3
  a3 := Tryz.isAgg3
  z3 := Tryz.sizeOf3
  v3 := Tryz.zeroValue3
  t4 := Tryz.underlying4
  a4 := Tryz.isAgg4
  z4 := Tryz.sizeOf4
  v4 := Tryz.zeroValue4
  t5 := Tryz.underlying5
  a5 := Tryz.isAgg5
  z5 := Tryz.sizeOf5
  v5 := Tryz.zeroValue5
  t9 := Tryz.underlying9
  a9 := Tryz.isAgg9
  z9 := Tryz.sizeOf9
  v9 := Tryz.zeroValue9
  t21 := Tryz.underlying21
  a21 := Tryz.isAgg21
  z21 := Tryz.sizeOf21
  v21 := Tryz.zeroValue21
  t46 := Tryz.underlying124
  a46 := Tryz.isAgg124
  z46 := Tryz.sizeOf124
  v46 := Tryz.zeroValue124
  t116 := Tryz.underlying128
  a116 := Tryz.isAgg128
  z116 := Tryz.sizeOf128
  t117 := Tryz.underlying129
  a117 := Tryz.isAgg129
  z117 := Tryz.sizeOf129
  v117 := Tryz.zeroValue129
  t124 := Tryz.underlying149
  a124 := Tryz.isAgg149
  z124 := Tryz.sizeOf149
  v124 := Tryz.zeroValue149 }
open Go.RowKit Go.Lib in
/-- strings.ContainsAny ON ASCII BYTES. (LAID: no walk: one application.) -/
theorem Tryz.strings_ContainsAny (hv116 : ∀ w, (zeroValue 128).run Tryz.prog w = .ok (.agg (Array.replicate 256 (.bool false))) w) (s chars : ByteArray) (w : World) (hs : s.size < 4294967281) (hcs : chars.size < 4294967281) (has : ∀ (j : Nat) b, s.data.toList[j]? = some b → b.toNat < 128) (hac : ∀ (j : Nat) b, chars.data.toList[j]? = some b → b.toNat < 128) :
    Calls Tryz.prog 59 #[.string s, .string chars] w fun e w' => e = .returned (.bool (Lib.containsAny s.data.toList chars.data.toList)) ∧ Below w.heap.size w w' := Any.strings_ContainsAny Tryz.lays150 hv116 (by kernel_rfl) s chars w hs hcs has hac
open Go.RowKit Go.Lib in
theorem Tryz.strings_IndexAny_laid (s chars : ByteArray) (w : World) (hs : s.size < 4294967281) (hcs : chars.size < 4294967281) (has : ∀ (j : Nat) b, s.data.toList[j]? = some b → b.toNat < 128) (hac : ∀ (j : Nat) b, chars.data.toList[j]? = some b → b.toNat < 128) :
    Calls Tryz.prog 111 #[.string s, .string chars] w fun e w' => e = .returned (.int .i64 (Lib.indexAny s.data.toList chars.data.toList)) ∧ Below w.heap.size w w' := Any.strings_IndexAny_laid Tryz.lays153 (by kernel_rfl) s chars w hs hcs has hac
open Go.RowKit Go.Lib in
theorem Tryz.strings_ContainsAny_laid (s chars : ByteArray) (w : World) (hs : s.size < 4294967281) (hcs : chars.size < 4294967281) (has : ∀ (j : Nat) b, s.data.toList[j]? = some b → b.toNat < 128) (hac : ∀ (j : Nat) b, chars.data.toList[j]? = some b → b.toNat < 128) :
    Calls Tryz.prog 59 #[.string s, .string chars] w fun e w' => e = .returned (.bool (Lib.containsAny s.data.toList chars.data.toList)) ∧ Below w.heap.size w w' := Any.strings_ContainsAny_laid Tryz.lays150 (by kernel_rfl) s chars w hs hcs has hac
def Tryz.lays109_ren : Go.Shelf.Ren := ⟨fun | 109 => 182 | n => n, fun | 31 => 44 | 9 => 9 | 3 => 3 | 0 => 0 | 4 => 4 | n => n, fun | n => n⟩
theorem Tryz.lays109 : Go.Proofs.Lays.n109 Tryz.prog Tryz.lays109_ren := {
  mixed := by kernel_rfl
  f109 := Tryz.func182.trans (congrArg some (by kernel_rfl))
  t0 := Tryz.underlying0
  a0 := Tryz.isAgg0
  z0 := Tryz.sizeOf0
  v0 := Tryz.zeroValue0
  t3 := Tryz.underlying3
  a3 := Tryz.isAgg3
  z3 := Tryz.sizeOf3
  v3 := Tryz.zeroValue3
  t4 := Tryz.underlying4
  a4 := Tryz.isAgg4
  z4 := Tryz.sizeOf4
  v4 := Tryz.zeroValue4
  t9 := Tryz.underlying9
  a9 := Tryz.isAgg9
  z9 := Tryz.sizeOf9
  v9 := Tryz.zeroValue9
  t31 := Tryz.underlying44
  a31 := Tryz.isAgg44
  z31 := Tryz.sizeOf44
  v31 := Tryz.zeroValue44 }
open Go.Lib in
/-- slices.Index at []string: "Index returns the index of the first occurrence of v in s, or -1 if not present.": IT RETURNS 'Lib.idxOfS (the elements) v'; the world is as it was. 'zs': what the cells behind the slice's address hold (its spare capacity too, if you have it); 'zs.take n': its elements. (LAID: no walk: one application.) -/
theorem Tryz.slices_Index_string (b off n c : Nat) (zs : List ByteArray) (x : ByteArray) (w : World) (hz : n ≤ zs.length) (hbig : n ≤ 9223372036854775807) (hc : ∀ j, j < zs.length → w.cell? ⟨b, off + j, none⟩ = some (.string (zs.getD j ByteArray.empty))) :
    Calls Tryz.prog 182 #[.slice (some ⟨b, off, none⟩) n c, .string x] w fun e w' => e = .returned (.int .i64 (Lib.idxOfS (zs.take n) x)) ∧ w' = w := Any.slices_Index_string Tryz.lays109 b off n c zs x w hz hbig hc
open Go.Lib in
/-- The same at a slice of length 0, a nil one too: no cell is known, none is asked for. (LAID: no walk: one application.) -/
theorem Tryz.slices_Index_string_empty (a : Option Addr) (c : Nat) (x : ByteArray) (w : World) :
    Calls Tryz.prog 182 #[.slice a 0 c, .string x] w fun e w' => e = .returned (.int .i64 (Lib.idxOfS [] x)) ∧ w' = w := Any.slices_Index_string_empty Tryz.lays109 a c x w
def Tryz.lays110_ren : Go.Shelf.Ren := ⟨fun | 110 => 154 | 109 => 182 | n => n, fun | 31 => 44 | 9 => 9 | 4 => 4 | 3 => 3 | 0 => 0 | n => n, fun | n => n⟩
theorem Tryz.lays110 : Go.Proofs.Lays.n110 Tryz.prog Tryz.lays110_ren := {
  mixed := by kernel_rfl
  f109 := Tryz.func182.trans (congrArg some (by kernel_rfl))
  f110 := Tryz.func154.trans (congrArg some (by kernel_rfl))
  t0 := Tryz.underlying0
  a0 := Tryz.isAgg0
  z0 := Tryz.sizeOf0
  v0 := Tryz.zeroValue0
  t3 := Tryz.underlying3
  a3 := Tryz.isAgg3
  z3 := Tryz.sizeOf3
  v3 := Tryz.zeroValue3
  t4 := Tryz.underlying4
  a4 := Tryz.isAgg4
  z4 := Tryz.sizeOf4
  v4 := Tryz.zeroValue4
  t9 := Tryz.underlying9
  a9 := Tryz.isAgg9
  z9 := Tryz.sizeOf9
  v9 := Tryz.zeroValue9
  t31 := Tryz.underlying44
  a31 := Tryz.isAgg44
  z31 := Tryz.sizeOf44
  v31 := Tryz.zeroValue44 }
open Go.Lib in
/-- slices.Contains at []string: "Contains reports whether v is present in s.": IT RETURNS 'Lib.containsS (the elements) v', which is true just where v is among them ('Lib.containsS_iff'); the world is as it was. ITS CALLEE slices.Index IS MET BY ITS OWN CONTRACT OFF THE SHELF (lay that first): no loop is walked here. (LAID: no walk: one application.) -/
theorem Tryz.slices_Contains_string (b off n c : Nat) (zs : List ByteArray) (x : ByteArray) (w : World) (hz : n ≤ zs.length) (hbig : n ≤ 9223372036854775807) (hc : ∀ j, j < zs.length → w.cell? ⟨b, off + j, none⟩ = some (.string (zs.getD j ByteArray.empty))) :
    Calls Tryz.prog 154 #[.slice (some ⟨b, off, none⟩) n c, .string x] w fun e w' => e = .returned (.bool (Lib.containsS (zs.take n) x)) ∧ w' = w := Any.slices_Contains_string Tryz.lays110 b off n c zs x w hz hbig hc
open Go.Lib in
/-- The same at a slice of length 0, a nil one too. (LAID: no walk: one application.) -/
theorem Tryz.slices_Contains_string_empty (a : Option Addr) (c : Nat) (x : ByteArray) (w : World) :
    Calls Tryz.prog 154 #[.slice a 0 c, .string x] w fun e w' => e = .returned (.bool false) ∧ w' = w := Any.slices_Contains_string_empty Tryz.lays110 a c x w
end Go.Proofs

/- Contracts of internal/strconv.lower, ParseUint, ParseInt and strconv.ParseInt at the bases 10 and 16 (64 bits), where all bytes are digits of the base and there is one: the number, or an error where it is 2^63 or more. -/
namespace Go.Proofs.YtdnbaliibiginaaGreatDoor
open Go.RowKit Go.Proofs

def digV (c : Nat) : Nat := if c ≤ 57 then c - 48 else if 97 ≤ c then c - 87 else c - 55
def numFrom (base : Nat) : Nat → List UInt8 → Nat
  | n, [] => n
  | n, c :: l => numFrom base (n * base + digV c.toNat) l
def numN (base : Nat) (l : List UInt8) : Nat := numFrom base 0 l
theorem numFrom_ge (base : Nat) (hb : 1 ≤ base) (l : List UInt8) : ∀ n, n ≤ numFrom base n l := by
  induction l with
  | nil => intro n; exact Nat.le_refl _
  | cons c l ih =>
    intro n
    refine Nat.le_trans ?_ (ih (n * base + digV c.toNat))
    have : n * 1 ≤ n * base := Nat.mul_le_mul_left n hb
    omega

theorem lower_small (c : Int) (h : 97 ≤ c ∧ c ≤ 102) : Go.bits .or .u8 c 32 = c := by
  have : c = 97 ∨ c = 98 ∨ c = 99 ∨ c = 100 ∨ c = 101 ∨ c = 102 := by omega
  rcases this with rfl | rfl | rfl | rfl | rfl | rfl <;> decide
theorem lower_great (c : Int) (h : 65 ≤ c ∧ c ≤ 70) : Go.bits .or .u8 c 32 = c + 32 := by
  have : c = 65 ∨ c = 66 ∨ c = 67 ∨ c = 68 ∨ c = 69 ∨ c = 70 := by omega
  rcases this with rfl | rfl | rfl | rfl | rfl | rfl <;> decide
theorem lower_c (c : Int) (w : World) :
    Calls Tryz.prog 206 #[.int .u8 c] w fun e w' => e = .returned (.int .u8 (Go.bits .or .u8 c 32)) ∧ w = w' := by
  go_enter Tryz.func206, Tryz.ntmps206
  go_wp2
  go_ret
  exact ⟨rfl, rfl⟩

def pU (T : TypeId) (N : Nat) : Value := if N < 18446744073709551616 then .tuple #[.int .u64 N, .nilIface] else .tuple #[.int .u64 18446744073709551615, .iface T (.int .i64 1)]
theorem pU_ok {T : TypeId} {N : Nat} (h : N < 18446744073709551616) : pU T N = .tuple #[.int .u64 N, .nilIface] := if_pos h
theorem pU_big {T : TypeId} {N : Nat} (h : 18446744073709551616 ≤ N) : pU T N = .tuple #[.int .u64 18446744073709551615, .iface T (.int .i64 1)] := if_neg (by omega)
theorem numFrom_cons (base n : Nat) (c : UInt8) (l : List UInt8) : numFrom base n (c :: l) = numFrom base (n * base + digV c.toNat) l := rfl
theorem dig_at {base : Nat} {s : ByteArray} (h : digitsL base s.toList = true) {k : Nat} (hk : k < s.size) : digN base (s.data.toList.getD k 0).toNat = true := by
  unfold digitsL at h
  rw [Bool.and_eq_true, List.all_eq_true, Lib.toList_data] at h
  have e : s.data.toList.getD k 0 = s.data.toList[k]'(by simpa using hk) := by simp [List.getD, hk]
  rw [e]
  exact h.1 _ (List.getElem_mem _)
theorem dig_ne {base : Nat} {s : ByteArray} (h : digitsL base s.toList = true) : s.toList.isEmpty = false := by
  unfold digitsL at h
  rw [Bool.and_eq_true] at h
  simpa using h.2

set_option maxHeartbeats 4000000 in
set_option maxRecDepth 100000 in
theorem parseUint_10 (t : ByteArray) (hd : digitsL 10 t.toList = true) (hmax : t.size ≤ 9223372036854775806) (w : World) :
    Calls Tryz.prog 201 #[.string t, .int .i64 10, .int .i64 64] w fun e w' => e = .returned (pU 163 (numN 10 t.data.toList)) ∧ Below w.heap.size w w' := by
  have hemp : t.toList.isEmpty = false := dig_ne hd
  have hdig := Lib.hid (fun k (hk : k < t.size) => dig_at hd hk)
  clear hd
  have hcv := Lib.run_convert_string_bytes (P := Tryz.prog) w 9 87 5 t (u := .string) Tryz.underlying9 Tryz.underlying87 Tryz.underlying5
  have hB : ∀ j, j < t.size → (Lib.bytesWorld w 5 t).cell? ⟨w.heap.size, j, none⟩ = some (.int .u8 (t.data.toList.getD j 0).toNat) := fun j hj => Lib.bytesWorld_cell w 5 t j hj
  have hbel := Lib.bytesWorld_below w 5 t
  obtain ⟨W1, hW1⟩ : ∃ W1, W1 = Lib.bytesWorld w 5 t := ⟨_, rfl⟩
  rw [← hW1] at hcv hB hbel
  clear hW1
  have hLn : t.data.toList.length = t.size := by simp
  have hLn1 : t.data.toList.length ≤ t.size := by omega
  have hLn2 : t.size ≤ t.data.toList.length := by omega
  clear hLn
  generalize t.data.toList = bs at *
  have hmv : IntKind.u64.wrap (IntKind.u64.wrap 18446744073709551616 - 1) = 18446744073709551615 := by
    rw [IntKind.wrap_u64, IntKind.wrap_u64]
    decide
  go_enter Tryz.func201, Tryz.ntmps201
  go_wp2
  go_loop [12, 13, 101] (fun vu vn vi => ∃ (k acc : Nat) (a : Int), vu = .bool false ∧ vn = .int .u64 a ∧ vi = .int .i64 k ∧ k ≤ t.size ∧ Hid (a = (acc : Int) ∧ acc < 18446744073709551616 ∧ numN 10 bs = numFrom 10 acc (bs.drop k)))
    (fun _ _ vi => t.size - (intOf vi).toNat)
  case atStart => exact ⟨0, 0, 0, rfl, rfl, rfl, by omega, rfl, by omega, rfl⟩
  case round =>
    obtain ⟨k, acc, a, rfl, rfl, rfl, hk, hh⟩ := hrel
    obtain ⟨ha, hacc, hdec⟩ := hh.out
    clear hh
    have a0 : 0 ≤ a := by omega
    have a1 : a < 18446744073709551616 := by omega
    by_cases hkn : k < t.size
    · have hc := hB k hkn
      have hdg := hdig.out k hkn
      have hdrop : bs.drop k = bs[k]'(by omega) :: bs.drop (k + 1) := List.drop_eq_getElem_cons (by omega)
      have hget : bs.getD k 0 = bs[k]'(by omega) := by simp [List.getD, List.getElem?_eq_getElem (show k < bs.length by omega)]
      rw [hdrop, numFrom_cons] at hdec
      rw [hget] at hc hdg
      generalize bs[k]'(by omega) = c at hc hdec hdg
      have hc256 : c.toNat < 256 := c.toNat_lt
      generalize c.toNat = n at *
      clear hB hdrop hget hdig
      have hge := numFrom_ge 10 (by omega) (bs.drop (k + 1)) (acc * 10 + digV n)
      have hdg' := of_decide_eq_true hdg
      clear hdg
      obtain ⟨hd0, hd1⟩ : (48 : Int) ≤ n ∧ (n : Int) ≤ 57 := by omega
      clear hdg'
      have hV : digV n = n - 48 := by unfold digV; rw [if_pos (by omega)]
      by_cases hcut : 1844674407370955162 ≤ acc
      · have hP := Lib.hid (show pU 163 (numN 10 bs) = .tuple #[.int .u64 18446744073709551615, .iface 163 (.int .i64 1)] from pU_big (by omega))
        have icut : 1844674407370955162 ≤ a := by omega
        clear hcut hacc hdec hge ha hV
        go_wp2
        all_goals first | (exfalso; omega) | skip
        go_ret2
        exact ⟨by rw [hP.out]; rfl, hbel⟩
      · have icut : a < 1844674407370955162 := by omega
        by_cases hov : 18446744073709551616 ≤ acc * 10 + digV n
        · have hP := Lib.hid (show pU 163 (numN 10 bs) = .tuple #[.int .u64 18446744073709551615, .iface 163 (.int .i64 1)] from pU_big (by omega))
          have iov : 18446744073709551616 ≤ a * 10 + ((n : Int) - 48) := by omega
          have hwr : IntKind.u64.wrap (a * 10 + ((n : Int) - 48)) = a * 10 + ((n : Int) - 48) - 18446744073709551616 := by
            rw [IntKind.wrap_u64]
            omega
          clear hcut hacc hov ha hdec hge hV
          go_wp2
          go_ret2
          exact ⟨by rw [hP.out]; rfl, hbel⟩
        · have HN : Hid (a * 10 + ((n : Int) - 48) = ((acc * 10 + digV n : Nat) : Int) ∧ acc * 10 + digV n < 18446744073709551616 ∧ numN 10 bs = numFrom 10 (acc * 10 + digV n) (bs.drop (k + 1))) := Lib.hid ⟨by omega, by omega, hdec⟩
          have iov : a * 10 + ((n : Int) - 48) < 18446744073709551616 := by omega
          clear hcut hacc hov hdec ha hge hV
          go_wp2
          all_goals first | (exfalso; omega) | skip
          refine ⟨⟨k + 1, acc * 10 + digV n, a * 10 + ((n : Int) - 48), rfl, (by first | rfl | (congr 1; omega)), (by first | rfl | (congr 1; omega)), by omega, HN⟩, by simp [intOf]; omega⟩
    · have hkk : k = t.size := by omega
      subst hkk
      have hF : numFrom 10 acc (bs.drop t.size) = acc := by rw [List.drop_eq_nil_of_le (by omega)]; rfl
      rw [hF] at hdec
      have hP := Lib.hid (show pU 163 (numN 10 bs) = .tuple #[.int .u64 a, .nilIface] by rw [hdec, pU_ok hacc, ha])
      clear hacc hF hdec ha hdig hB
      go_wp2
      go_ret2
      exact ⟨by rw [hP.out]; rfl, hbel⟩

set_option maxHeartbeats 4000000 in
set_option maxRecDepth 100000 in
theorem parseUint_16 (t : ByteArray) (hd : digitsL 16 t.toList = true) (hmax : t.size ≤ 9223372036854775806) (w : World) :
    Calls Tryz.prog 201 #[.string t, .int .i64 16, .int .i64 64] w fun e w' => e = .returned (pU 163 (numN 16 t.data.toList)) ∧ Below w.heap.size w w' := by
  have hemp : t.toList.isEmpty = false := dig_ne hd
  have hdig := Lib.hid (fun k (hk : k < t.size) => dig_at hd hk)
  clear hd
  have hcv := Lib.run_convert_string_bytes (P := Tryz.prog) w 9 87 5 t (u := .string) Tryz.underlying9 Tryz.underlying87 Tryz.underlying5
  have hB : ∀ j, j < t.size → (Lib.bytesWorld w 5 t).cell? ⟨w.heap.size, j, none⟩ = some (.int .u8 (t.data.toList.getD j 0).toNat) := fun j hj => Lib.bytesWorld_cell w 5 t j hj
  have hbel := Lib.bytesWorld_below w 5 t
  obtain ⟨W1, hW1⟩ : ∃ W1, W1 = Lib.bytesWorld w 5 t := ⟨_, rfl⟩
  rw [← hW1] at hcv hB hbel
  clear hW1
  have hLn : t.data.toList.length = t.size := by simp
  have hLn1 : t.data.toList.length ≤ t.size := by omega
  have hLn2 : t.size ≤ t.data.toList.length := by omega
  clear hLn
  generalize t.data.toList = bs at *
  have hmv : IntKind.u64.wrap (IntKind.u64.wrap 18446744073709551616 - 1) = 18446744073709551615 := by
    rw [IntKind.wrap_u64, IntKind.wrap_u64]
    decide
  go_enter Tryz.func201, Tryz.ntmps201
  go_wp2
  go_loop [12, 13, 101] (fun vu vn vi => ∃ (k acc : Nat) (a : Int), vu = .bool false ∧ vn = .int .u64 a ∧ vi = .int .i64 k ∧ k ≤ t.size ∧ Hid (a = (acc : Int) ∧ acc < 18446744073709551616 ∧ numN 16 bs = numFrom 16 acc (bs.drop k)))
    (fun _ _ vi => t.size - (intOf vi).toNat)
  case atStart => exact ⟨0, 0, 0, rfl, rfl, rfl, by omega, rfl, by omega, rfl⟩
  case round =>
    obtain ⟨k, acc, a, rfl, rfl, rfl, hk, hh⟩ := hrel
    obtain ⟨ha, hacc, hdec⟩ := hh.out
    clear hh
    have a0 : 0 ≤ a := by omega
    have a1 : a < 18446744073709551616 := by omega
    by_cases hkn : k < t.size
    · have hc := hB k hkn
      have hdg := hdig.out k hkn
      have hdrop : bs.drop k = bs[k]'(by omega) :: bs.drop (k + 1) := List.drop_eq_getElem_cons (by omega)
      have hget : bs.getD k 0 = bs[k]'(by omega) := by simp [List.getD, List.getElem?_eq_getElem (show k < bs.length by omega)]
      rw [hdrop, numFrom_cons] at hdec
      rw [hget] at hc hdg
      generalize bs[k]'(by omega) = c at hc hdec hdg
      have hc256 : c.toNat < 256 := c.toNat_lt
      generalize c.toNat = n at *
      clear hB hdrop hget hdig
      have hge := numFrom_ge 16 (by omega) (bs.drop (k + 1)) (acc * 16 + digV n)
      have hdg' := of_decide_eq_true hdg
      clear hdg
      have hdg'' : (48 ≤ n ∧ n ≤ 57) ∨ (97 ≤ n ∧ n ≤ 102) ∨ (65 ≤ n ∧ n ≤ 70) := by omega
      clear hdg'
      rcases hdg'' with h | h | h
      · obtain ⟨hd0, hd1⟩ : (48 : Int) ≤ n ∧ (n : Int) ≤ 57 := by omega
        clear h
        have hV : digV n = n - 48 := by unfold digV; rw [if_pos (by omega)]
        by_cases hcut : 1152921504606846976 ≤ acc
        · have hP := Lib.hid (show pU 163 (numN 16 bs) = .tuple #[.int .u64 18446744073709551615, .iface 163 (.int .i64 1)] from pU_big (by omega))
          have icut : 1152921504606846976 ≤ a := by omega
          clear hcut hacc hdec hge ha hV
          go_wp2
          all_goals first | (exfalso; omega) | skip
          go_ret2
          exact ⟨by rw [hP.out]; rfl, hbel⟩
        · have icut : a < 1152921504606846976 := by omega
          by_cases hov : 18446744073709551616 ≤ acc * 16 + digV n
          · exfalso; omega
          · have HN : Hid (a * 16 + ((n : Int) - 48) = ((acc * 16 + digV n : Nat) : Int) ∧ acc * 16 + digV n < 18446744073709551616 ∧ numN 16 bs = numFrom 16 (acc * 16 + digV n) (bs.drop (k + 1))) := Lib.hid ⟨by omega, by omega, hdec⟩
            have iov : a * 16 + ((n : Int) - 48) < 18446744073709551616 := by omega
            clear hcut hacc hov hdec ha hge hV
            go_wp2
            all_goals first | (exfalso; omega) | skip
            refine ⟨⟨k + 1, acc * 16 + digV n, a * 16 + ((n : Int) - 48), rfl, (by first | rfl | (congr 1; omega)), (by first | rfl | (congr 1; omega)), by omega, HN⟩, by simp [intOf]; omega⟩
      · obtain ⟨hd0, hd1⟩ : (97 : Int) ≤ n ∧ (n : Int) ≤ 102 := by omega
        clear h
        have hV : digV n = n - 87 := by unfold digV; rw [if_neg (by omega), if_pos (by omega)]
        have hlow : Go.bits .or .u8 (n : Int) 32 = n := lower_small n (by omega)
        by_cases hcut : 1152921504606846976 ≤ acc
        · have hP := Lib.hid (show pU 163 (numN 16 bs) = .tuple #[.int .u64 18446744073709551615, .iface 163 (.int .i64 1)] from pU_big (by omega))
          have icut : 1152921504606846976 ≤ a := by omega
          clear hcut hacc hdec hge ha hV
          go_wp2_with (go_at_call 206; refine (lower_c _ _).mono ?_; rintro e w' ⟨rfl, rfl⟩; try simp only [hlow])
          all_goals first | (exfalso; omega) | skip
          go_ret2
          exact ⟨by rw [hP.out]; rfl, hbel⟩
        · have icut : a < 1152921504606846976 := by omega
          by_cases hov : 18446744073709551616 ≤ acc * 16 + digV n
          · exfalso; omega
          · have HN : Hid (a * 16 + ((n : Int) - 87) = ((acc * 16 + digV n : Nat) : Int) ∧ acc * 16 + digV n < 18446744073709551616 ∧ numN 16 bs = numFrom 16 (acc * 16 + digV n) (bs.drop (k + 1))) := Lib.hid ⟨by omega, by omega, hdec⟩
            have iov : a * 16 + ((n : Int) - 87) < 18446744073709551616 := by omega
            clear hcut hacc hov hdec ha hge hV
            go_wp2_with (go_at_call 206; refine (lower_c _ _).mono ?_; rintro e w' ⟨rfl, rfl⟩; try simp only [hlow])
            all_goals first | (exfalso; omega) | skip
            refine ⟨⟨k + 1, acc * 16 + digV n, a * 16 + ((n : Int) - 87), rfl, (by first | rfl | (congr 1; omega)), (by first | rfl | (congr 1; omega)), by omega, HN⟩, by simp [intOf]; omega⟩
      · obtain ⟨hd0, hd1⟩ : (65 : Int) ≤ n ∧ (n : Int) ≤ 70 := by omega
        clear h
        have hV : digV n = n - 55 := by unfold digV; rw [if_neg (by omega), if_neg (by omega)]
        have hlow : Go.bits .or .u8 (n : Int) 32 = n + 32 := lower_great n (by omega)
        by_cases hcut : 1152921504606846976 ≤ acc
        · have hP := Lib.hid (show pU 163 (numN 16 bs) = .tuple #[.int .u64 18446744073709551615, .iface 163 (.int .i64 1)] from pU_big (by omega))
          have icut : 1152921504606846976 ≤ a := by omega
          clear hcut hacc hdec hge ha hV
          go_wp2_with (go_at_call 206; refine (lower_c _ _).mono ?_; rintro e w' ⟨rfl, rfl⟩; try simp only [hlow])
          all_goals first | (exfalso; omega) | skip
          go_ret2
          exact ⟨by rw [hP.out]; rfl, hbel⟩
        · have icut : a < 1152921504606846976 := by omega
          by_cases hov : 18446744073709551616 ≤ acc * 16 + digV n
          · exfalso; omega
          · have HN : Hid (a * 16 + ((n : Int) - 55) = ((acc * 16 + digV n : Nat) : Int) ∧ acc * 16 + digV n < 18446744073709551616 ∧ numN 16 bs = numFrom 16 (acc * 16 + digV n) (bs.drop (k + 1))) := Lib.hid ⟨by omega, by omega, hdec⟩
            have iov : a * 16 + ((n : Int) - 55) < 18446744073709551616 := by omega
            clear hcut hacc hov hdec ha hge hV
            go_wp2_with (go_at_call 206; refine (lower_c _ _).mono ?_; rintro e w' ⟨rfl, rfl⟩; try simp only [hlow])
            all_goals first | (exfalso; omega) | skip
            refine ⟨⟨k + 1, acc * 16 + digV n, a * 16 + ((n : Int) - 55), rfl, (by first | rfl | (congr 1; omega)), (by first | rfl | (congr 1; omega)), by omega, HN⟩, by simp [intOf]; omega⟩
    · have hkk : k = t.size := by omega
      subst hkk
      have hF : numFrom 16 acc (bs.drop t.size) = acc := by rw [List.drop_eq_nil_of_le (by omega)]; rfl
      rw [hF] at hdec
      have hP := Lib.hid (show pU 163 (numN 16 bs) = .tuple #[.int .u64 a, .nilIface] by rw [hdec, pU_ok hacc, ha])
      clear hacc hF hdec ha hdig hB
      go_wp2
      go_ret2
      exact ⟨by rw [hP.out]; rfl, hbel⟩

end Go.Proofs.YtdnbaliibiginaaGreatDoor

/- What the walks ask of the package-level variables of Go's library; it stands while nothing that lay in memory turns. -/
namespace Go.Proofs.YtdnbaliibiginaaGreatDoor
open Go.RowKit Go.Proofs

structure Std (w : World) : Prop where
  maxLen : ∃ m, w.cell? ⟨2, 0, none⟩ = some (.int .i64 m)
  errRange : ∃ te pe, w.cell? ⟨4, 0, none⟩ = some (.iface te pe)
theorem block_lt {w : World} {a : Addr} {v : Value} (h : w.cell? a = some v) : a.block < w.heap.size := by
  rcases Nat.lt_or_ge a.block w.heap.size with h' | h'
  · exact h'
  · simp [World.cell?, Array.getElem?_eq_none h'] at h
theorem cell_keep {w w' : World} {a : Addr} {v : Value} (h : w.cell? a = some v) (hb : Below w.heap.size w w') : w'.cell? a = some v := (hb.cell (block_lt h)).trans h
theorem Std.below {w w' : World} (h : Std w) (hb : Below w.heap.size w w') : Std w' := by
  obtain ⟨⟨m, hm⟩, ⟨te, pe, he⟩⟩ := h
  exact ⟨⟨m, cell_keep hm hb⟩, ⟨te, pe, cell_keep he hb⟩⟩
theorem Std.drewN {w : World} (h : Std w) (n : Nat) : Std (w.drewN n) := h.below (below_drewN (Below.refl _ _) n)
theorem Std.drew {w : World} (h : Std w) : Std w.drew := h.below (Below.refl _ _).drew
theorem Std.alloc {w : World} (h : Std w) (o : Obj) : Std (w.alloc o) := h.below ((Below.refl _ _).alloc (Nat.le_refl _) o)
end Go.Proofs.YtdnbaliibiginaaGreatDoor

/- Contracts of package refs: number, Named, Code: what each returns, whatever it is given; nothing that lay in memory turns. -/
namespace Go.Proofs.YtdnbaliibiginaaGreatDoor
open Go.RowKit Go.Proofs

def numberL (l : List UInt8) : Int :=
  if l = [97, 109, 112] then 38 else if l = [108, 116] then 60 else if l = [103, 116] then 62 else if l = [113, 117, 111, 116] then 34
  else if l = [97, 112, 111, 115] then 39 else if l = [110, 98, 115, 112] then 160 else if l = [99, 111, 112, 121] then 169 else if l = [114, 101, 103] then 174
  else if l = [112, 97, 114, 97] then 182 else if l = [109, 105, 100, 100, 111, 116] then 183 else if l = [101, 97, 99, 117, 116, 101] then 233
  else if l = [97, 117, 109, 108] then 228 else if l = [111, 117, 109, 108] then 246 else if l = [117, 117, 109, 108] then 252 else if l = [115, 122, 108, 105, 103] then 223
  else if l = [101, 117, 114, 111] then 8364 else if l = [104, 101, 108, 108, 105, 112] then 8230 else if l = [110, 100, 97, 115, 104] then 8211
  else if l = [109, 100, 97, 115, 104] then 8212 else if l = [98, 117, 108, 108] then 8226 else if l = [84, 97, 98] then 9 else if l = [78, 101, 119, 76, 105, 110, 101] then 10
  else if l = [99, 111, 108, 111, 110] then 58 else if l = [108, 112, 97, 114] then 40 else 0

set_option maxHeartbeats 4000000 in
set_option maxRecDepth 100000 in
theorem number_c (s : ByteArray) (w : World) :
    Calls Tryz.prog 192 #[.string s] w fun e w' => e = .returned (.int .i32 (numberL s.toList)) ∧ w = w' := by
  go_enter Tryz.func192, Tryz.ntmps192
  go_wp2
  all_goals go_ret
  all_goals (refine ⟨ret_i32 ?_, rfl⟩; simp_all [numberL])

/-- Named's answer: the character's bytes, and whether there is a name. -/
def namedL (l : List UInt8) : List UInt8 × Bool := if numberL l = 0 then ([], false) else ((Utf8.encode (numberL l)).data.toList, true)

set_option maxHeartbeats 4000000 in
set_option maxRecDepth 100000 in
theorem named_c (s : ByteArray) (w : World) :
    Calls Tryz.prog 174 #[.string s] w fun e w' => e = .returned (.tuple #[.string ⟨(namedL s.toList).1.toArray⟩, .bool (namedL s.toList).2]) ∧ w = w' := by
  go_enter Tryz.func174, Tryz.ntmps174
  go_wp2_with (go_at_call 192; refine (number_c _ _).mono ?_; rintro e w' ⟨rfl, rfl⟩)
  all_goals go_ret2
  all_goals (refine ⟨ret_sb ?_ ?_, rfl⟩ <;> simp_all [namedL])

def codeI (n : Int) : Int := if n < 1 ∨ 1114111 < n ∨ (55296 ≤ n ∧ n ≤ 57343) then 65533 else if n = 13 then 10 else n
def codeL (n : Int) : List UInt8 := (Utf8.encode (codeI n)).data.toList

set_option maxHeartbeats 4000000 in
set_option maxRecDepth 100000 in
theorem code_c (n : Int) (w : World) (h0 : -9223372036854775808 ≤ n) (h1 : n ≤ 9223372036854775807) :
    Calls Tryz.prog 191 #[.int .i64 n] w fun e w' => e = .returned (.string ⟨(codeL n).toArray⟩) ∧ w = w' := by
  go_enter Tryz.func191, Tryz.ntmps191
  go_wp2
  all_goals go_ret
  all_goals (refine ⟨ret_s ?_, rfl⟩)
  all_goals (simp only [codeL, codeI]; try simp only [beq_iff_eq, beq_eq_false_iff_ne] at *)
  all_goals first
    | (rw [if_pos (by omega)]; decide)
    | (rw [if_neg (by omega), if_pos (by omega)])
    | (rw [if_neg (by omega), if_neg (by omega)])
end Go.Proofs.YtdnbaliibiginaaGreatDoor

/- Contracts of ParseInt (internal/strconv's and strconv's) at digits of the bases 10 and 16, and of refs.coded at these bases. -/
namespace Go.Proofs.YtdnbaliibiginaaGreatDoor
open Go.RowKit Go.Proofs

theorem head_dig {base : Nat} {s : ByteArray} (h : digitsL base s.toList = true) : ∃ (h0 : 0 < s.size), 48 ≤ (s[0]'h0).toNat := by
  have hne := dig_ne h
  have h0 : 0 < s.size := by
    rcases Nat.eq_zero_or_pos s.size with e | e
    · rw [Lib.toList_data] at hne
      have : s.data.toList = [] := by
        apply List.eq_nil_of_length_eq_zero
        simpa using e
      rw [this] at hne
      cases hne
    · exact e
  refine ⟨h0, ?_⟩
  have := of_decide_eq_true (dig_at h h0)
  have e : s.data.toList.getD 0 0 = s[0]'h0 := by simp [List.getD, h0, ByteArray.getElem_eq_getElem_data]
  rw [e] at this
  omega

set_option maxHeartbeats 4000000 in
set_option maxRecDepth 100000 in
theorem iparse_ok (base : Nat) (hb : base = 10 ∨ base = 16) (s : ByteArray) (hd : digitsL base s.toList = true) (hs : s.size ≤ 1000000000) (hn : numN base s.data.toList < 9223372036854775808) (w : World) :
    Calls Tryz.prog 199 #[.string s, .int .i64 base, .int .i64 64] w fun e w' => e = .returned (.tuple #[.int .i64 (numN base s.data.toList), .nilIface]) ∧ Below w.heap.size w w' := by
  obtain ⟨h0, h48⟩ := head_dig hd
  have hne := dig_ne hd
  have hc : Calls Tryz.prog 201 #[.string s, .int .i64 base, .int .i64 64] w fun e w' => e = .returned (pU 163 (numN base s.data.toList)) ∧ Below w.heap.size w w' := by
    rcases hb with rfl | rfl
    · exact parseUint_10 s hd (by omega) w
    · exact parseUint_16 s hd (by omega) w
  rw [pU_ok (by omega)] at hc
  obtain ⟨a, ha⟩ : ∃ a : Int, a = (numN base s.data.toList : Nat) := ⟨_, rfl⟩
  rw [← ha] at hc ⊢
  have hc := Lib.hid hc
  rename_i hc0
  clear hc0
  have hni : a < 9223372036854775808 := by omega
  have hn0 : 0 ≤ a := by omega
  clear ha hn
  have h48i : (48 : Int) ≤ (s[0]'h0).toNat := by omega
  clear hb hd h48
  generalize (base : Int) = b at *
  have hmv : IntKind.u64.wrap 9223372036854775808 = 9223372036854775808 := by rw [IntKind.wrap_u64]; decide
  go_enter Tryz.func199, Tryz.ntmps199
  go_wp2_with (go_at_call 201; refine hc.out.mono ?_; rintro e w' ⟨rfl, hb1⟩)
  all_goals first | (exfalso; omega) | skip
  go_ret2
  exact ⟨rfl, hb1⟩

set_option maxHeartbeats 4000000 in
set_option maxRecDepth 100000 in
theorem iparse_big (base : Nat) (hb : base = 10 ∨ base = 16) (s : ByteArray) (hd : digitsL base s.toList = true) (hs : s.size ≤ 1000000000) (hn : 9223372036854775808 ≤ numN base s.data.toList) (w : World) :
    Calls Tryz.prog 199 #[.string s, .int .i64 base, .int .i64 64] w fun e w' => e = .returned (.tuple #[.int .i64 9223372036854775807, .iface 163 (.int .i64 1)]) ∧ Below w.heap.size w w' := by
  obtain ⟨h0, h48⟩ := head_dig hd
  have hne := dig_ne hd
  have hc : Calls Tryz.prog 201 #[.string s, .int .i64 base, .int .i64 64] w fun e w' => e = .returned (pU 163 (numN base s.data.toList)) ∧ Below w.heap.size w w' := by
    rcases hb with rfl | rfl
    · exact parseUint_10 s hd (by omega) w
    · exact parseUint_16 s hd (by omega) w
  by_cases hlt : numN base s.data.toList < 18446744073709551616
  · rw [pU_ok hlt] at hc
    obtain ⟨a, ha⟩ : ∃ a : Int, a = (numN base s.data.toList : Nat) := ⟨_, rfl⟩
    rw [← ha] at hc
    have hc := Lib.hid hc
    rename_i hc0
    clear hc0
    have hni : 9223372036854775808 ≤ a := by omega
    have hn0 : a < 18446744073709551616 := by omega
    clear ha hn hlt
    have h48i : (48 : Int) ≤ (s[0]'h0).toNat := by omega
    clear hb hd h48
    generalize (base : Int) = b at *
    have hmv : IntKind.u64.wrap 9223372036854775808 = 9223372036854775808 := by rw [IntKind.wrap_u64]; decide
    go_enter Tryz.func199, Tryz.ntmps199
    go_wp2_with (go_at_call 201; refine hc.out.mono ?_; rintro e w' ⟨rfl, hb1⟩)
    all_goals first | (exfalso; omega) | skip
    go_ret2
    exact ⟨rfl, hb1⟩
  · rw [pU_big (by omega)] at hc
    have hc := Lib.hid hc
    rename_i hc0
    clear hc0 hn hlt
    have hq1 : ∀ W, (binOp .neq 91 (.iface 163 (.int .i64 1)) (.iface 163 (.int .i64 1))).run Tryz.prog W = .ok (.bool false) W := fun W => Lib.run_neq_iface_int W 1 1 Tryz.underlying91 (by kernel_rfl) Tryz.underlying163
    have h48i : (48 : Int) ≤ (s[0]'h0).toNat := by omega
    clear hb hd h48
    generalize (base : Int) = b at *
    have hmv : IntKind.u64.wrap 9223372036854775808 = 9223372036854775808 := by rw [IntKind.wrap_u64]; decide
    go_enter Tryz.func199, Tryz.ntmps199
    go_wp2_with (go_at_call 201; refine hc.out.mono ?_; rintro e w' ⟨rfl, hb1⟩)
    all_goals first | (exfalso; omega) | skip
    go_ret2
    exact ⟨rfl, hb1⟩

set_option maxHeartbeats 4000000 in
set_option maxRecDepth 100000 in
theorem parse_ok (base : Nat) (hb : base = 10 ∨ base = 16) (s : ByteArray) (hd : digitsL base s.toList = true) (hs : s.size ≤ 1000000000) (hn : numN base s.data.toList < 9223372036854775808) (w : World) :
    Calls Tryz.prog 190 #[.string s, .int .i64 base, .int .i64 64] w fun e w' => e = .returned (.tuple #[.int .i64 (numN base s.data.toList), .nilIface]) ∧ Below w.heap.size w w' := by
  have hc := Lib.hid (iparse_ok base hb s hd hs hn w)
  generalize numN base s.data.toList = n at *
  generalize (base : Int) = b at *
  generalize (n : Int) = a at *
  clear hn
  go_enter Tryz.func190, Tryz.ntmps190
  go_wp2_with (go_at_call 199; refine hc.out.mono ?_; rintro e w' ⟨rfl, hb1⟩)
  go_ret2
  exact ⟨rfl, hb1⟩

/-- strconv.ParseInt's end at a number that is too great. -/
def PBig (w : World) (e : Ending) (w' : World) : Prop := ∃ p, e = .returned (.tuple #[.int .i64 9223372036854775807, .iface 166 (.pointer (some p))]) ∧ Below w.heap.size w w'
set_option maxHeartbeats 4000000 in
set_option maxRecDepth 100000 in
theorem parse_big (base : Nat) (hb : base = 10 ∨ base = 16) (s : ByteArray) (hd : digitsL base s.toList = true) (hs : s.size ≤ 1000000000) (hn : 9223372036854775808 ≤ numN base s.data.toList) (w : World) (hS : Std w) :
    Calls Tryz.prog 190 #[.string s, .int .i64 base, .int .i64 64] w (PBig w) := by
  have hc := Lib.hid (iparse_big base hb s hd hs hn w)
  generalize (base : Int) = b at *
  clear hn
  go_enter Tryz.func190, Tryz.ntmps190
  go_wp2_with (go_at_call 199; refine hc.out.mono ?_; rintro e w1 ⟨rfl, hb1⟩)
  obtain ⟨te, pe, hev⟩ := (hS.below hb1).errRange
  refine (Tryz.strconv_toError_range _ s _ _ (.iface te pe) w1 (by omega) hev (.inr ⟨_, _, rfl⟩)).mono ?_
  rintro e w2 ⟨q, rfl, _, _, hb2⟩
  go_wp2
  go_ret2
  exact ⟨_, rfl, below_seq hb1 hb2⟩

/-- What digits of a base stand for. -/
def codedL (base : Nat) (l : List UInt8) : List UInt8 × Bool := if digitsL base l then (codeL (numN base l), true) else ([], false)
theorem codeL_big (n : Int) (h : 1114111 < n) : codeL n = [239, 191, 189] := by
  unfold codeL codeI
  rw [if_pos (by omega)]
  decide
set_option maxHeartbeats 4000000 in
set_option maxRecDepth 100000 in
theorem coded_c (base : Nat) (hb : base = 10 ∨ base = 16) (s : ByteArray) (hs : s.size ≤ 1000000000) (w : World) (hS : Std w) :
    Calls Tryz.prog 173 #[.string s, .int .i64 base] w fun e w' => e = .returned (.tuple #[.string ⟨(codedL base s.toList).1.toArray⟩, .bool (codedL base s.toList).2]) ∧ Below w.heap.size w w' := by
  cases hd : digitsL base s.toList with
  | false =>
    have e1 : codedL base s.toList = ([], false) := by unfold codedL; rw [hd]; rfl
    rw [e1]
    have hc := Lib.hid (digits_c base hb s w (by omega))
    clear e1
    generalize (base : Int) = b at *
    go_enter Tryz.func173, Tryz.ntmps173
    go_wp2_with (go_at_call 189; refine hc.out.mono ?_; rintro e w1 ⟨rfl, hb1⟩)
    go_ret2
    exact ⟨rfl, hb1⟩
  | true =>
    have e1 : codedL base s.toList = (codeL (numN base s.toList), true) := by unfold codedL; rw [hd]; rfl
    rw [e1, Lib.toList_data]
    have hc := Lib.hid (digits_c base hb s w (by omega))
    by_cases hn : numN base s.data.toList < 9223372036854775808
    · have hp := Lib.hid (fun W => parse_ok base hb s hd hs hn W)
      clear e1
      generalize numN base s.data.toList = n at *
      obtain ⟨a, ha⟩ : ∃ a : Int, a = (n : Nat) := ⟨_, rfl⟩
      rw [← ha] at hp ⊢
      have a0 : 0 ≤ a := by omega
      have a1 : a < 9223372036854775808 := by omega
      clear ha hn
      generalize (base : Int) = b at *
      go_enter Tryz.func173, Tryz.ntmps173
      go_wp2_with (first
        | (go_at_call 189; refine hc.out.mono ?_; rintro e w1 ⟨rfl, hb1⟩)
        | (go_at_call 190; refine (hp.out _).mono ?_; rintro e w2 ⟨rfl, hb2⟩)
        | (go_at_call 191; refine (code_c _ _ (by omega) (by omega)).mono ?_; rintro e w3 ⟨rfl, rfl⟩))
      go_ret2
      exact ⟨rfl, below_seq hb1 hb2⟩
    · have hp := Lib.hid (fun W hS => parse_big base hb s hd hs (by omega) W hS)
      rw [codeL_big _ (by omega)]
      clear e1 hn
      generalize (base : Int) = b at *
      go_enter Tryz.func173, Tryz.ntmps173
      go_wp2_with (first
        | (go_at_call 189; refine hc.out.mono ?_; rintro e w1 ⟨rfl, hb1⟩)
        | (go_at_call 190; refine (hp.out _ (hS.below hb1)).mono ?_; rintro e w2 ⟨p, rfl, hb2⟩))
      go_ret2
      exact ⟨rfl, below_seq hb1 hb2⟩
end Go.Proofs.YtdnbaliibiginaaGreatDoor

/- Plain functions: a text cut at a byte; what stands between & and ;; a text with characters in the place of their references. No program in sight. -/
namespace Go.Proofs.YtdnbaliibiginaaGreatDoor
open Go.RowKit Go.Proofs

def cut1 (c : UInt8) : List UInt8 → List UInt8 × List UInt8 × Bool
  | [] => ([], [], false)
  | x :: l => if x = c then ([], l, true) else (x :: (cut1 c l).1, (cut1 c l).2.1, (cut1 c l).2.2)
theorem cut_eq (c : UInt8) (l : List UInt8) : Lib.cut l [c] = cut1 c l := by
  induction l with
  | nil => rfl
  | cons x l ih =>
    unfold Lib.cut at ih ⊢
    unfold cut1 Lib.index
    by_cases h : x = c
    · subst h
      simp
    · have hp : List.isPrefixOf [c] (x :: l) = false := by simp [List.isPrefixOf, Ne.symm h]
      rw [hp, if_neg h, ← ih]
      have hge := Lib.index_ge l [c]
      by_cases h1 : Lib.index l [c] = -1
      · simp [h1]
      · have h2 : 0 ≤ Lib.index l [c] := by omega
        have h3 : (Lib.index l [c] + 1).toNat = (Lib.index l [c]).toNat + 1 := by omega
        have h4 : 0 ≤ Lib.index l [c] + 1 := by omega
        simp [h1, h2, h3, h4]
theorem cut1_len (c : UInt8) (l : List UInt8) : (cut1 c l).1.length + (cut1 c l).2.1.length + (if (cut1 c l).2.2 then 1 else 0) = l.length := by
  induction l with
  | nil => rfl
  | cons x l ih =>
    unfold cut1
    by_cases h : x = c
    · simp [h]
    · simp only [if_neg h, List.length_cons]
      omega
theorem cut1_yes {c : UInt8} {l : List UInt8} (h : (cut1 c l).2.2 = true) : l = (cut1 c l).1 ++ c :: (cut1 c l).2.1 := by
  induction l with
  | nil => cases h
  | cons x l ih =>
    unfold cut1 at h ⊢
    by_cases e : x = c
    · simp [e]
    · simp only [if_neg e] at h ⊢
      rw [List.cons_append, ← ih h]
theorem cut1_no {c : UInt8} {l : List UInt8} (h : (cut1 c l).2.2 = false) : (cut1 c l).1 = l ∧ c ∉ l := by
  induction l with
  | nil => exact ⟨rfl, by simp⟩
  | cons x l ih =>
    unfold cut1 at h ⊢
    by_cases e : x = c
    · simp [e] at h
    · simp only [if_neg e] at h ⊢
      exact ⟨by rw [(ih h).1], by simp [(ih h).2, Ne.symm e]⟩
theorem cut1_not (c : UInt8) (l : List UInt8) : c ∉ (cut1 c l).1 := by
  induction l with
  | nil => simp [cut1]
  | cons x l ih =>
    unfold cut1
    by_cases e : x = c
    · simp [e]
    · simp [if_neg e, ih, Ne.symm e]

def kindL (l : List UInt8) : Int := if Lib.hasPrefix l [35, 120] || Lib.hasPrefix l [35, 88] then 2 else if Lib.hasPrefix l [35] then 1 else 0
def meantL (l : List UInt8) : List UInt8 × Bool := if kindL l = 2 then codedL 16 (l.drop 2) else if kindL l = 1 then codedL 10 l.tail else namedL l
theorem enc_len (n : Int) : (Utf8.encode n).data.toList.length ≤ 4 := by
  have := encode_size_le n
  rwa [Lib.size_eq] at this
theorem meantL_len (l : List UInt8) : (meantL l).1.length ≤ 4 := by
  unfold meantL codedL namedL codeL
  repeat' split
  all_goals first | exact enc_len _ | simp

def decL : List UInt8 → List UInt8
  | [] => []
  | c :: l => if c = 38 then (if (cut1 59 l).2.2 && (meantL (cut1 59 l).1).2 then (meantL (cut1 59 l).1).1 ++ decL (cut1 59 l).2.1 else 38 :: decL l) else c :: decL l
termination_by l => l.length
decreasing_by
  all_goals simp only [List.length_cons]
  all_goals have := cut1_len 59 l
  all_goals omega
theorem decL_nil : decL [] = [] := by rw [decL]
theorem decL_cons (c : UInt8) (l : List UInt8) : decL (c :: l) = if c = 38 then (if (cut1 59 l).2.2 && (meantL (cut1 59 l).1).2 then (meantL (cut1 59 l).1).1 ++ decL (cut1 59 l).2.1 else 38 :: decL l) else c :: decL l := by rw [decL]
theorem decL_plain (a l : List UInt8) (h : (38 : UInt8) ∉ a) : decL (a ++ l) = a ++ decL l := by
  induction a with
  | nil => rfl
  | cons x a ih =>
    rw [List.cons_append, decL_cons, if_neg (fun e => h (by simp [e])), ih (fun e => h (by simp [e])), List.cons_append]
theorem decL_none {l : List UInt8} (h : (38 : UInt8) ∉ l) : decL l = l := by
  have := decL_plain l [] h
  simpa [decL_nil] using this
theorem decL_miss {l : List UInt8} (h : (cut1 38 l).2.2 = false) : decL l = (cut1 38 l).1 := by
  rw [(cut1_no h).1]
  exact decL_none (cut1_no h).2
theorem decL_hit {l : List UInt8} (h : (cut1 38 l).2.2 = true) : decL l = (cut1 38 l).1 ++ decL (38 :: (cut1 38 l).2.1) := by
  conv => lhs; rw [cut1_yes h]
  exact decL_plain _ _ (cut1_not 38 l)
theorem decL_ref {l : List UInt8} (h1 : (cut1 59 l).2.2 = true) (h2 : (meantL (cut1 59 l).1).2 = true) : decL (38 :: l) = (meantL (cut1 59 l).1).1 ++ decL (cut1 59 l).2.1 := by
  rw [decL_cons, if_pos rfl, h1, h2]; rfl
theorem decL_amp {l : List UInt8} (h : ((cut1 59 l).2.2 && (meantL (cut1 59 l).1).2) = false) : decL (38 :: l) = 38 :: decL l := by
  rw [decL_cons, if_pos rfl, h]; rfl
end Go.Proofs.YtdnbaliibiginaaGreatDoor

/- Plain: tokens, and how bytes are cut to tokens. No program in sight. -/
namespace Go.Proofs.YtdnbaliibiginaaGreatDoor
open Go.Proofs

abbrev Txt := List UInt8
structure Tok where
  kind : Int
  name : Txt
  attrs : List (Txt × Txt)
  data : Txt
  self : Bool
  deriving DecidableEq

def spaceB (c : UInt8) : Bool := c == 32 || c == 9 || c == 10 || c == 12 || c == 13
def letterB (c : UInt8) : Bool := (decide (97 ≤ c.toNat) && decide (c.toNat ≤ 122)) || (decide (65 ≤ c.toNat) && decide (c.toNat ≤ 90))
def slashedB (c : UInt8) : Bool := spaceB c || c == 47 || c == 62
def lowB (c : UInt8) : UInt8 := if 65 ≤ c.toNat ∧ c.toNat ≤ 90 then c + 32 else c
def lowL (l : Txt) : Txt := l.map lowB
def rawsL : List Txt := [[105, 102, 114, 97, 109, 101], [110, 111, 101, 109, 98, 101, 100], [110, 111, 102, 114, 97, 109, 101, 115], [115, 99, 114, 105, 112, 116], [115, 116, 121, 108, 101], [120, 109, 112]]
def softsL : List Txt := [[116, 101, 120, 116, 97, 114, 101, 97], [116, 105, 116, 108, 101]]
def inB (L : List Txt) (l : Txt) : Bool := L.contains l
def rawB (l : Txt) : Bool := inB rawsL l
def softB (l : Txt) : Bool := inB softsL l
def letterL : Txt → Bool
  | [] => false
  | c :: _ => letterB c

/-- How long an attribute's name is that stands at the beginning. -/
def attrK (s : Txt) : Nat := 1 + s.tail.findIdx (fun c => slashedB c || c == 61)
def skipS (s : Txt) : Txt := s.drop (s.findIdx (fun c => !spaceB c))
def wordK (s : Txt) : Nat := s.findIdx (fun c => spaceB c || c == 62)
/-- What follows an attribute's name: the attribute, what follows it, and whether it ended. -/
def valF (nm s : Txt) : (Txt × Txt) × Txt × Bool :=
  match s with
  | [] => ((nm, []), [], false)
  | q :: t => if q = 34 ∨ q = 39 then ((nm, decL (cut1 q t).1), (cut1 q t).2.1, (cut1 q t).2.2) else ((nm, decL ((q :: t).take (wordK (q :: t)))), (q :: t).drop (wordK (q :: t)), decide (wordK (q :: t) < (q :: t).length))
def attrR (nm s : Txt) : (Txt × Txt) × Txt × Bool :=
  match skipS s with
  | [] => ((nm, []), [], false)
  | c :: t => if c = 61 then valF nm (skipS t) else ((nm, []), s, true)
/-- An attribute that stands at the beginning: it, what follows, and whether it ended. -/
def attrF (s : Txt) : (Txt × Txt) × Txt × Bool := attrR (lowL (s.take (attrK s))) (s.drop (attrK s))

def addA (acc : List (Txt × Txt)) (a : Txt × Txt) : List (Txt × Txt) := if acc.any (fun b => b.1 == a.1) then acc else acc ++ [a]
def gapF (s : Txt) : Nat := s.findIdx (fun c => !spaceB c && c != 47)
def slashF (s : Txt) : Bool := decide (0 < gapF s) && (s[gapF s - 1]? == some 47)

/-- The attributes, and what follows the tag's end. -/
def attrsN : Nat → List (Txt × Txt) → Txt → Option (List (Txt × Txt) × Bool × Txt)
  | 0, _, _ => none
  | n + 1, acc, s =>
    match s.drop (gapF s) with
    | [] => none
    | c :: s1 =>
      if c = 62 then some (acc, slashF s, s1)
      else
        let r := attrF (c :: s1)
        if r.2.2 then attrsN n (addA acc r.1) r.2.1 else none
def attrsF (acc : List (Txt × Txt)) (s : Txt) := attrsN (s.length + 1) acc s

def openedF (s : Txt) : Option (Tok × Txt) :=
  (attrsF [] (s.drop (s.findIdx slashedB))).map fun r => (⟨0, lowL (s.take (s.findIdx slashedB)), r.1, [], r.2.1⟩, r.2.2)

/-- Does the end tag of a name stand at the beginning? -/
def closesB (name s : Txt) : Bool :=
  match s with
  | 60 :: 47 :: r => decide (name.length < r.length) && (lowL (r.take name.length) == lowL name) && (match r.drop name.length with | c :: _ => slashedB c | [] => false)
  | _ => false
def endF (name : Txt) : Txt → Nat
  | [] => 0
  | c :: t => if closesB name (c :: t) then 0 else 1 + endF name t
def insideT (name s : Txt) : List Tok :=
  if s.take (endF name s) = [] then [] else [⟨0, [], [], if softB name then decL (s.take (endF name s)) else s.take (endF name s), false⟩]
def insideR (name s : Txt) : Txt := s.drop (endF name s)

def trimL (s : Txt) : Txt := ((s.dropWhile spaceB).reverse.dropWhile spaceB).reverse

/-- A text up to another one. -/
def untilF (s e : Txt) : Txt × Txt := ((Lib.cut s e).1, (Lib.cut s e).2.1)
def noteF (kind : Int) (s e : Txt) : List Tok × Txt := ([⟨kind, [], [], if kind = 4 then trimL (untilF s e).1 else (untilF s e).1, false⟩], (untilF s e).2)
def commentF (s : Txt) : List Tok × Txt :=
  if Lib.hasPrefix s [62] then ([⟨3, [], [], [], false⟩], s.drop 1)
  else if Lib.hasPrefix s [45, 62] then ([⟨3, [], [], [], false⟩], s.drop 2)
  else noteF 3 s (if 0 ≤ Lib.index s [45, 45, 33, 62] ∧ (Lib.index s [45, 45, 62] < 0 ∨ Lib.index s [45, 45, 33, 62] < Lib.index s [45, 45, 62]) then [45, 45, 33, 62] else [45, 45, 62])
def isDoctypeB (s : Txt) : Bool := decide (8 ≤ s.length) && (lowL (s.take 8) == [33, 100, 111, 99, 116, 121, 112, 101]) && !letterL (s.drop 8)

def tagF (kind : Int) (s : Txt) : List Tok × Txt :=
  match openedF s with
  | none => ([], [])
  | some (t, r) =>
    if kind = 2 then ([⟨2, t.name, [], [], false⟩], r)
    else if rawB t.name || softB t.name then (⟨kind, t.name, t.attrs, t.data, t.self⟩ :: insideT t.name r, insideR t.name r)
    else ([⟨kind, t.name, t.attrs, t.data, t.self⟩], r)

/-- What begins behind a < : its tokens and what follows; none: it begins nothing. -/
def openF (s : Txt) : Option (List Tok × Txt) :=
  if letterL s then some (tagF 1 s)
  else if Lib.hasPrefix s [47] && letterL s.tail then some (tagF 2 s.tail)
  else if Lib.hasPrefix s [47, 62] then some ([], s.drop 2)
  else if Lib.hasPrefix s [33, 45, 45] then some (commentF (s.drop 3))
  else if isDoctypeB s then some (noteF 4 (s.drop 8) [62])
  else if Lib.hasPrefix s [33] then some (noteF 3 s.tail [62])
  else if Lib.hasPrefix s [63] then some (noteF 3 s [62])
  else if decide (1 < s.length) && Lib.hasPrefix s [47] then some (noteF 3 s.tail [62])
  else none

def tellF (t : Txt) : List Tok := if t = [] then [] else [⟨0, [], [], decL t, false⟩]
def textF (s : Txt) : Nat := s.findIdx (fun c => c == 60)

/-- All tokens, behind a text that is not told yet. -/
def runN : Nat → Txt → Txt → List Tok
  | 0, t, _ => tellF t
  | n + 1, t, s =>
    match s.drop (textF s) with
    | [] => tellF (t ++ s.take (textF s))
    | _ :: s1 =>
      match openF s1 with
      | none => runN n (t ++ s.take (textF s) ++ [60]) s1
      | some (ts, r) => tellF (t ++ s.take (textF s)) ++ ts ++ runN n [] r
def runF (t s : Txt) : List Tok := runN (s.length + 1) t s
def cutL (s : Txt) : List Tok := runF [] s
def inL (s name : Txt) : List Tok := if rawB name || softB name then insideT name s ++ runF [] (insideR name s) else runF [] s

/-- A fact of all 256 bytes, by counting. -/
theorem all_u8 {p : UInt8 → Bool} (h : (List.range 256).all (fun k => p (UInt8.ofNat k)) = true) (c : UInt8) : p c = true := by
  rw [List.all_eq_true] at h
  have := h c.toNat (by simp [c.toNat_lt])
  simpa using this

theorem ck1 : cutL [97, 60, 66, 32, 99, 61, 100, 62, 120, 60, 47, 98, 32, 62] = [⟨0, [], [], [97], false⟩, ⟨1, [98], [([99], [100])], [], false⟩, ⟨0, [], [], [120], false⟩, ⟨2, [98], [], [], false⟩] := by
  have h : cutL [97, 60, 66, 32, 99, 61, 100, 62, 120, 60, 47, 98, 32, 62] = [⟨0, [], [], decL [97], false⟩, ⟨1, [98], [([99], decL [100])], [], false⟩, ⟨0, [], [], decL [120], false⟩, ⟨2, [98], [], [], false⟩] := by rfl
  rw [h, decL_none (by decide), decL_none (by decide), decL_none (by decide)]
theorem ck2 : cutL [60, 115, 99, 114, 105, 112, 116, 62, 60, 98, 62, 60, 47, 115, 99, 114, 105, 112, 116, 62] = [⟨1, [115, 99, 114, 105, 112, 116], [], [], false⟩, ⟨0, [], [], [60, 98, 62], false⟩, ⟨2, [115, 99, 114, 105, 112, 116], [], [], false⟩] := by rfl
theorem ck3 : cutL [49, 32, 60, 32, 50] = [⟨0, [], [], [49, 32, 60, 32, 50], false⟩] := by
  have h : cutL [49, 32, 60, 32, 50] = [⟨0, [], [], decL [49, 32, 60, 32, 50], false⟩] := by rfl
  rw [h, decL_none (by decide)]
theorem ck4 : inL [97, 60, 98, 62, 38, 97, 109, 112, 59, 60, 47, 116, 105, 116, 108, 101, 62] [116, 105, 116, 108, 101] = [⟨0, [], [], [97, 60, 98, 62, 38], false⟩, ⟨2, [116, 105, 116, 108, 101], [], [], false⟩] := by
  have h : inL [97, 60, 98, 62, 38, 97, 109, 112, 59, 60, 47, 116, 105, 116, 108, 101, 62] [116, 105, 116, 108, 101] = [⟨0, [], [], decL [97, 60, 98, 62, 38, 97, 109, 112, 59], false⟩, ⟨2, [116, 105, 116, 108, 101], [], [], false⟩] := by rfl
  have m5 : meantL [97, 109, 112] = ([38], true) := by decide +kernel
  have d : decL [97, 60, 98, 62, 38, 97, 109, 112, 59] = [97, 60, 98, 62, 38] := by simp [decL_cons, decL_nil, cut1, m5]
  rw [h, d]
end Go.Proofs.YtdnbaliibiginaaGreatDoor

/- Contracts of strings.Builder's writing methods at this seat's numbers: behind each call the builder holds the bytes that it held and those that were written; every block that is not the builder's and no row of bytes stands as it stood. Condition: the new length takes at most 2^47 bytes. -/
namespace Go.Proofs.YtdnbaliibiginaaGreatDoor
open Go.RowKit Go.Proofs

theorem bSize : (Tryz.prog.info? 89).map (·.size) = some 2 := by kernel_rfl
theorem bLies : liesAt Tryz.prog Tryz.prog.depth 89 (2 / Tryz.prog.cellsOf 89) 0 89 1 = true := by kernel_rfl
theorem bByte : (Tryz.prog.info? 5).map (fun i => (i.zero, i.size, i.bytes)) = some (some (.int .u8 0), 1, 1) := by kernel_rfl

set_option maxRecDepth 100000 in
theorem copyCheck_used (b : Nat) (w : World) (h0 : w.cell? ⟨b, 0, none⟩ = some (.pointer (some ⟨b, 0, none⟩))) :
    Calls Tryz.prog 139 #[.pointer (some ⟨b, 0, none⟩)] w fun e w' => e = .returned (.tuple #[]) ∧ w' = w := by
  obtain ⟨j, hj, _⟩ := Option.map_eq_some_iff.1 bSize
  go_enter Tryz.func139, Tryz.ntmps139
  go_wp2
  rw [Lib.run_neq_ptr_same w _ Tryz.underlying86 hj]
  go_wp2
  go_end0
  exact ⟨rfl, rfl⟩

set_option maxRecDepth 100000 in
theorem copyCheck_fresh (b : Nat) (w : World) (h0 : w.cell? ⟨b, 0, none⟩ = some (.pointer none)) (hsh : w.shape? b = some (89, 2)) (hfz : w.frozen? ⟨b, 0, none⟩ = false) :
    Calls Tryz.prog 139 #[.pointer (some ⟨b, 0, none⟩)] w fun e w' => e = .returned (.tuple #[]) ∧ w' = w.setCell ⟨b, 0, none⟩ (.pointer (some ⟨b, 0, none⟩)) := by
  obtain ⟨j, hj, hjs⟩ := Option.map_eq_some_iff.1 bSize
  go_enter Tryz.func139, Tryz.ntmps139
  go_wp2
  rw [Lib.run_to_unsafe w ⟨b, 0, none⟩ Tryz.underlying86 Tryz.underlying140 hj (by rw [hjs]; decide) hsh (Nat.zero_lt_succ 1)]
  simp only [Result.andThen]
  rw [Oper.upon_value]
  go_wp2
  rw [run_callFunc_extern Tryz.func169 (by kernel_rfl) (by kernel_rfl) (by kernel_rfl) (e := Extern.AbiNoEscape.same) (by kernel_rfl)]
  rw [Lib.run_noEscape]
  simp only [Result.andThen]
  rw [Oper.upon_value]
  go_wp2
  rw [Lib.run_from_unsafe w ⟨b, 0, none⟩ Tryz.underlying140 Tryz.underlying86 hj hsh bLies]
  simp only [Result.andThen]
  rw [Oper.upon_value]
  go_wp2
  go_end0
  exact ⟨rfl, rfl⟩

theorem copyCheck_k (B b : Nat) (bs : List Value) (w : World) (h : Lib.IsBuilderF 89 5 B b bs w) :
    Calls Tryz.prog 139 #[.pointer (some ⟨b, 0, none⟩)] w fun e w' => e = .returned (.tuple #[]) ∧ (Lib.BuilderAtF 89 5 B b (.pointer (some ⟨b, 0, none⟩)) bs w' ∧ Below B w w' ∧ Lib.OthersKept 5 (some b) w w') := by
  rcases h with h | h
  · refine (copyCheck_fresh b w h.cell0 h.shape h.frozen0).mono ?_
    rintro e w' ⟨rfl, rfl⟩
    exact ⟨rfl, h.used _, (Below.refl B w).setCell (p := ⟨b, 0, none⟩) h.1 _, (Lib.OthersKept.refl _ _ w).setCell ⟨b, 0, none⟩ rfl _⟩
  · refine (copyCheck_used b w h.cell0).mono ?_
    rintro e w' ⟨rfl, rfl⟩
    exact ⟨rfl, h, Below.refl B _, Lib.OthersKept.refl _ _ _⟩

set_option maxHeartbeats 2000000 in
set_option maxRecDepth 100000 in
theorem writeByte_k (B b : Nat) (bs : List Value) (c : Int) (w : World) (h : Lib.IsBuilderF 89 5 B b bs w) (hlen : bs.length + 1 ≤ 140737488355328) (hBw : B ≤ w.heap.size) :
    Calls Tryz.prog 170 #[.pointer (some ⟨b, 0, none⟩), .int .u8 c] w fun e w' => e = .returned .nilIface ∧ (Lib.IsBuilderF 89 5 B b (bs ++ [.int .u8 c]) w' ∧ Below B w w' ∧ Lib.OthersKept 5 (some b) w w') := by
  obtain ⟨i0, hi, hz0, hz1, hz2⟩ := info_parts bByte
  go_enter Tryz.func170, Tryz.ntmps170
  go_wp2_with (go_at_call 139; refine (copyCheck_k B b bs _ h).mono ?_)
  rintro e w1 ⟨rfl, h1, hb1, hk1⟩
  obtain ⟨hB, v, hbk, hown, hne⟩ := h1
  have c0 : w1.cell? ⟨b, 0, none⟩ = some (.pointer (some ⟨b, 0, none⟩)) := by rw [Lib.cell_of_heap hbk]; rfl
  have c1 : w1.cell? ⟨b, 1, none⟩ = some v := by rw [Lib.cell_of_heap hbk]; rfl
  go_wp2_with (at_builtin; refine wpList_append_ownF _ rfl _ _ 87 rfl B 5 i0 (.int .u8 0) 1 1 Tryz.underlying87 hi hz0 hz1 hz2 rfl (by decide) _ _ _ rfl (hown.alloc _) ⟨w1.heap.size, 0, none⟩ 1 1 [.int .u8 c] rfl rfl ?c1 ?c2 ?c3 ?c4 ?c5 ?_)
  case c1 =>
    intro j u hj
    match j, hj with
    | 0, hj => simp at hj; subst hj; simp [Addr.add]
  case c2 => intro u hu; simp at hu; subst hu; rfl
  case c3 => unfold maxLen; omega
  case c4 => omega
  case c5 => have := hb1.size; simp; omega
  intro v' w2 hown' hgrow _
  have hlt : b < w1.heap.size := by
    rcases Nat.lt_or_ge b w1.heap.size with h' | h'
    · exact h'
    · simp [Array.getElem?_eq_none h'] at hbk
  have hb2 : w2.heap[b]? = some (.cells #[.pointer (some ⟨b, 0, none⟩), v] 89 (0, 0)) := by
    rw [hgrow.block b (by simp; omega) (fun e => hne e.symm), Lib.alloc_old w1 _ b hlt]
    exact hbk
  have d0 : w2.cell? ⟨b, 0, none⟩ = some (.pointer (some ⟨b, 0, none⟩)) := by rw [Lib.cell_of_heap hb2]; rfl
  have d1 : w2.cell? ⟨b, 1, none⟩ = some v := by rw [Lib.cell_of_heap hb2]; rfl
  have f1 : w2.frozen? ⟨b, 1, none⟩ = false := Lib.frozen_of_heap hb2 1
  obtain ⟨g, cap, rfl⟩ : ∃ g cap, v' = .slice (some ⟨g, 0, none⟩) (bs.length + 1) cap := by
    rcases hown'.2 with ⟨_, h0⟩ | ⟨g, cap, cur, fz, hv, _⟩
    · omega
    · exact ⟨g, cap, hv⟩
  go_wp2
  go_ret
  refine ⟨rfl, Or.inr ?_, ?_, ((hk1.alloc _).grown hgrow (Lib.ownsRowF_kind (hown.alloc _))).setCell ⟨b, 1, none⟩ rfl _⟩
  · exact Lib.BuilderAtF.put (T := 89) (e := 5) hB hb2 (bs' := bs ++ [.int .u8 c]) (by simpa using hown') (by decide)
  · exact ((hb1.alloc (by have := hb1.size; omega) _).grown hgrow (by have := hb1.size; simp; omega) (fun k hk => (hown.lt k hk).1)).setCell (p := ⟨b, 1, none⟩) hB _

set_option maxHeartbeats 2000000 in
set_option maxRecDepth 100000 in
theorem writeString_k (B b : Nat) (bs : List Value) (s : ByteArray) (w : World) (h : Lib.IsBuilderF 89 5 B b bs w) (hlen : bs.length + s.size ≤ 140737488355328) (hBw : B ≤ w.heap.size) :
    Calls Tryz.prog 95 #[.pointer (some ⟨b, 0, none⟩), .string s] w fun e w' => e = .returned (.tuple #[.int .i64 s.size, .nilIface]) ∧ (Lib.IsBuilderF 89 5 B b (bs ++ Lib.strCells s) w' ∧ Below B w w' ∧ Lib.OthersKept 5 (some b) w w') := by
  obtain ⟨i0, hi, hz0, hz1, hz2⟩ := info_parts bByte
  go_enter Tryz.func95, Tryz.ntmps95
  go_wp2_with (go_at_call 139; refine (copyCheck_k B b bs _ h).mono ?_)
  rintro e w1 ⟨rfl, h1, hb1, hk1⟩
  obtain ⟨hB, v, hbk, hown, hne⟩ := h1
  have c0 : w1.cell? ⟨b, 0, none⟩ = some (.pointer (some ⟨b, 0, none⟩)) := by rw [Lib.cell_of_heap hbk]; rfl
  have c1 : w1.cell? ⟨b, 1, none⟩ = some v := by rw [Lib.cell_of_heap hbk]; rfl
  go_wp2_with (at_builtin; refine Lib.wpList_append_own_stringF _ rfl _ _ 87 9 rfl B 5 i0 Tryz.underlying87 Tryz.underlying9 hi hz0 hz1 hz2 _ _ _ rfl hown s rfl ?c3 ?c4 ?c5 ?_)
  case c3 => unfold maxLen; omega
  case c4 => omega
  case c5 => have := hb1.size; omega
  intro v' w2 hown' hgrow _
  have hlt : b < w1.heap.size := by
    rcases Nat.lt_or_ge b w1.heap.size with h' | h'
    · exact h'
    · simp [Array.getElem?_eq_none h'] at hbk
  have hb2 : w2.heap[b]? = some (.cells #[.pointer (some ⟨b, 0, none⟩), v] 89 (0, 0)) := by
    rw [hgrow.block b hlt (fun e => hne e.symm)]
    exact hbk
  have d0 : w2.cell? ⟨b, 0, none⟩ = some (.pointer (some ⟨b, 0, none⟩)) := by rw [Lib.cell_of_heap hb2]; rfl
  have d1 : w2.cell? ⟨b, 1, none⟩ = some v := by rw [Lib.cell_of_heap hb2]; rfl
  have f1 : w2.frozen? ⟨b, 1, none⟩ = false := Lib.frozen_of_heap hb2 1
  obtain ⟨ao, n', cap, rfl⟩ : ∃ ao n' cap, v' = .slice ao n' cap := by
    rcases hown'.2 with ⟨hv, _⟩ | ⟨g, cap, cur, fz, hv, _⟩
    · exact ⟨_, _, _, hv⟩
    · exact ⟨_, _, _, hv⟩
  go_wp2
  go_ret2
  refine ⟨rfl, Or.inr ?_, ?_, (hk1.grown hgrow (Lib.ownsRowF_kind hown)).setCell ⟨b, 1, none⟩ rfl _⟩
  · exact Lib.BuilderAtF.put (T := 89) (e := 5) hB hb2 (bs' := bs ++ Lib.strCells s) (by simpa [Lib.strCells_length] using hown') (by decide)
  · exact (hb1.grown hgrow (by have := hb1.size; omega) (fun k hk => (hown.lt k hk).1)).setCell (p := ⟨b, 1, none⟩) hB _
end Go.Proofs.YtdnbaliibiginaaGreatDoor

/- Contracts of refs.kind and refs.meant, and of strings.Cut at a byte. -/
namespace Go.Proofs.YtdnbaliibiginaaGreatDoor
open Go.RowKit Go.Proofs

theorem cut_c (l : List UInt8) (c : UInt8) (hl : l.length ≤ 1000000000) (w : World) (hS : Std w) :
    Calls Tryz.prog 144 #[.string ⟨l.toArray⟩, .string ⟨#[c]⟩] w fun e w' => e = .returned (.tuple #[.string ⟨(cut1 c l).1.toArray⟩, .string ⟨(cut1 c l).2.1.toArray⟩, .bool (cut1 c l).2.2]) ∧ Below w.heap.size w w' := by
  obtain ⟨m, hm⟩ := hS.maxLen
  refine (Tryz.strings_Cut ⟨l.toArray⟩ ⟨#[c]⟩ m w (by rw [Lib.size_eq]; simp; omega) hm).mono ?_
  rintro e w' ⟨rfl, n, rfl⟩
  refine ⟨?_, below_drewN (Below.refl _ _) n⟩
  rw [show (⟨l.toArray⟩ : ByteArray).data.toList = l from by simp, show (⟨#[c]⟩ : ByteArray).data.toList = [c] from rfl, cut_eq]
theorem prefix_c (l p : List UInt8) (w : World) :
    Calls Tryz.prog 61 #[.string ⟨l.toArray⟩, .string ⟨p.toArray⟩] w fun e w' => e = .returned (.bool (Lib.hasPrefix l p)) ∧ w = w' := by
  refine (Tryz.strings_HasPrefix ⟨l.toArray⟩ ⟨p.toArray⟩ w).mono ?_
  rintro e w' ⟨rfl, rfl⟩
  exact ⟨rfl, rfl⟩

set_option maxHeartbeats 1000000 in
set_option maxRecDepth 100000 in
theorem kind_c (l : List UInt8) (w : World) :
    Calls Tryz.prog 172 #[.string ⟨l.toArray⟩] w fun e w' => e = .returned (.int .i64 (kindL l)) ∧ Below w.heap.size w w' := by
  go_enter Tryz.func172, Tryz.ntmps172
  go_wp2_with (go_at_call 61; refine (prefix_c _ _ _).mono ?_; rintro e w' ⟨rfl, rfl⟩)
  all_goals go_ret
  all_goals (refine ⟨ret_i64 ?_, Below.refl _ _⟩; simp_all [kindL])

theorem drop_le (l : List UInt8) (n : Nat) : (l.drop n).length ≤ l.length := by simp
theorem pre_len {l p : List UInt8} (h : Lib.hasPrefix l p = true) : p.length ≤ l.length := (List.isPrefixOf_iff_prefix.1 h).length_le
theorem coded_l (base : Nat) (hb : base = 10 ∨ base = 16) (l : List UInt8) (hl : l.length ≤ 1000000000) (w : World) (hS : Std w) :
    Calls Tryz.prog 173 #[.string ⟨l.toArray⟩, .int .i64 base] w fun e w' => e = .returned (.tuple #[.string ⟨(codedL base l).1.toArray⟩, .bool (codedL base l).2]) ∧ Below w.heap.size w w' := by
  have h := coded_c base hb ⟨l.toArray⟩ (by rw [Lib.size_eq]; simpa using hl) w hS
  rwa [Lib.toList_data, show (⟨l.toArray⟩ : ByteArray).data.toList = l from by simp] at h
theorem named_l (l : List UInt8) (w : World) :
    Calls Tryz.prog 174 #[.string ⟨l.toArray⟩] w fun e w' => e = .returned (.tuple #[.string ⟨(namedL l).1.toArray⟩, .bool (namedL l).2]) ∧ w = w' := by
  have h := named_c ⟨l.toArray⟩ w
  rwa [Lib.toList_data, show (⟨l.toArray⟩ : ByteArray).data.toList = l from by simp] at h

theorem coded_10 (l : List UInt8) (hl : l.length ≤ 1000000000) (w : World) (hS : Std w) :
    Calls Tryz.prog 173 #[.string ⟨l.toArray⟩, .int .i64 10] w fun e w' => e = .returned (.tuple #[.string ⟨(codedL 10 l).1.toArray⟩, .bool (codedL 10 l).2]) ∧ Below w.heap.size w w' := coded_l 10 (.inl rfl) l hl w hS
theorem coded_16 (l : List UInt8) (hl : l.length ≤ 1000000000) (w : World) (hS : Std w) :
    Calls Tryz.prog 173 #[.string ⟨l.toArray⟩, .int .i64 16] w fun e w' => e = .returned (.tuple #[.string ⟨(codedL 16 l).1.toArray⟩, .bool (codedL 16 l).2]) ∧ Below w.heap.size w w' := coded_l 16 (.inr rfl) l hl w hS
set_option maxHeartbeats 1000000 in
set_option maxRecDepth 100000 in
theorem meant_c (l : List UInt8) (hl : l.length ≤ 1000000000) (w : World) (hS : Std w) :
    Calls Tryz.prog 145 #[.string ⟨l.toArray⟩] w fun e w' => e = .returned (.tuple #[.string ⟨(meantL l).1.toArray⟩, .bool (meantL l).2]) ∧ Below w.heap.size w w' := by
  by_cases h2 : kindL l = 2
  · have e1 := Lib.hid (show meantL l = codedL 16 (l.drop 2) by unfold meantL; rw [if_pos h2])
    have hk := Lib.hid (kind_c l w)
    rw [h2] at hk
    have hlen : 2 ≤ l.length := by
      unfold kindL at h2
      split at h2
      · rename_i h
        rw [Bool.or_eq_true] at h
        rcases h with h | h <;> exact pre_len h
      · split at h2 <;> cases h2
    clear h2
    have hc := Lib.hid (fun W hS => coded_16 (l.drop 2) (Nat.le_trans (drop_le l 2) hl) W hS)
    go_enter Tryz.func145, Tryz.ntmps145
    go_wp2_with (first
      | (go_at_call 172; ((with_reducible refine hk.out.mono ?_); rintro e w1 ⟨rfl, hb1⟩))
      | (go_at_call 173; ((with_reducible refine (hc.out _ (hS.below hb1)).mono ?_); rintro e w2 ⟨rfl, hb2⟩)))
    go_ret2
    exact ⟨by rw [e1.out]; rfl, below_seq hb1 hb2⟩
  · by_cases h1 : kindL l = 1
    · have e1 := Lib.hid (show meantL l = codedL 10 l.tail by unfold meantL; rw [if_neg h2, if_pos h1])
      have hk := Lib.hid (kind_c l w)
      rw [h1] at hk
      have hlen : 1 ≤ l.length := by
        unfold kindL at h1
        split at h1
        · cases h1
        · split at h1
          · rename_i h
            exact pre_len h
          · cases h1
      clear h2 h1
      have hc := Lib.hid (fun W hS => coded_10 l.tail (by have := List.length_tail (l := l); omega) W hS)
      go_enter Tryz.func145, Tryz.ntmps145
      go_wp2_with (first
        | (go_at_call 172; ((with_reducible refine hk.out.mono ?_); rintro e w1 ⟨rfl, hb1⟩))
        | (go_at_call 173; ((with_reducible refine (hc.out _ (hS.below hb1)).mono ?_); rintro e w2 ⟨rfl, hb2⟩)))
      go_ret2
      exact ⟨by rw [e1.out]; rfl, below_seq hb1 hb2⟩
    · have e1 := Lib.hid (show meantL l = namedL l by unfold meantL; rw [if_neg h2, if_neg h1])
      have hk := Lib.hid (kind_c l w)
      have h0 : kindL l = 0 := by
        unfold kindL at h2 h1 ⊢
        repeat' split
        all_goals simp_all
      rw [h0] at hk
      clear h2 h1 h0
      go_enter Tryz.func145, Tryz.ntmps145
      go_wp2_with (first
        | (go_at_call 172; ((with_reducible refine hk.out.mono ?_); rintro e w1 ⟨rfl, hb1⟩))
        | (go_at_call 174; ((with_reducible refine (named_l _ _).mono ?_); rintro e w2 ⟨rfl, rfl⟩)))
      go_ret2
      exact ⟨by rw [e1.out]; rfl, hb1⟩

theorem bytes_str (l : List UInt8) : Lib.strCells ⟨l.toArray⟩ = Lib.byteCells l := by
  unfold Lib.strCells Lib.byteCells
  simp
/-- WriteString, in lists of bytes. -/
theorem write_l (B b : Nat) (acc l : List UInt8) (w : World) (h : Lib.IsBuilderF 89 5 B b (Lib.byteCells acc) w) (hlen : acc.length + l.length ≤ 140737488355328) (hBw : B ≤ w.heap.size) :
    Calls Tryz.prog 95 #[.pointer (some ⟨b, 0, none⟩), .string ⟨l.toArray⟩] w fun e w' => e = .returned (.tuple #[.int .i64 l.length, .nilIface]) ∧ (Lib.IsBuilderF 89 5 B b (Lib.byteCells (acc ++ l)) w' ∧ Below B w w' ∧ Lib.OthersKept 5 (some b) w w') := by
  refine (writeString_k B b _ ⟨l.toArray⟩ w h (by rw [Lib.byteCells_length, mk_size]; exact hlen) hBw).mono ?_
  rintro e w' ⟨rfl, h1, h2, h3⟩
  rw [mk_size]
  rw [bytes_str, ← Lib.byteCells_append] at h1
  exact ⟨rfl, h1, h2, h3⟩
end Go.Proofs.YtdnbaliibiginaaGreatDoor

/- Contract of refs.Decode: a text with characters in the place of their references; nothing that lay in memory turns. Condition: at most 10^9 bytes. -/
namespace Go.Proofs.YtdnbaliibiginaaGreatDoor
open Go.RowKit Go.Proofs

theorem grown_of_below {w w1 : World} (h : Below w.heap.size w w1) (row : Option Nat) : w.grownBy w1 row := ⟨h.os, h.tape, h.output, h.size, fun i hi _ => h.block i hi⟩
theorem bld_below {T e : TypeId} {B b : Nat} {bs : List Value} {w w1 : World} (h : Lib.IsBuilderF T e B b bs w) (hb : Below w.heap.size w w1) : Lib.IsBuilderF T e B b bs w1 := by
  have key : ∀ p, Lib.BuilderAtF T e B b p bs w → Lib.BuilderAtF T e B b p bs w1 := by
    intro p hp
    have hlt := hp.lt
    obtain ⟨hB, v, hv, hown, hne⟩ := hp
    exact ⟨hB, v, (hb.block b hlt).trans hv, hown.kept (grown_of_below hb none) (by cases hv : v.ownBlock <;> simp), hne⟩
  exact h.elim (fun x => .inl (key _ x)) (fun x => .inr (key _ x))
def strLen : Value → Nat | .string s => s.size | _ => 0
theorem strLen_mk (l : List UInt8) : strLen (.string ⟨l.toArray⟩) = l.length := mk_size l
theorem bld_new (B : Nat) (w : World) (h : B ≤ w.heap.size) : Lib.IsBuilderF 89 5 B w.heap.size (Lib.byteCells []) (w.alloc (.cells #[.pointer none, .slice none 0 0] 89)) := by
  refine .inl ⟨h, .slice none 0 0, ?_, World.ownsRowF_nil _ _ _ _, by simp [Value.ownBlock]⟩
  show (w.heap.push _)[w.heap.size]? = _
  simp

/-- The relation of Decode's loop. -/
def DecRel (l : List UInt8) (w : World) (v : Value) (wr : World) : Prop :=
  ∃ (rest acc : List UInt8), v = .string ⟨rest.toArray⟩ ∧ Lib.IsBuilderF 89 5 w.heap.size w.heap.size (Lib.byteCells acc) wr ∧ Below w.heap.size w wr ∧ w.heap.size < wr.heap.size ∧ decL l = acc ++ decL rest ∧ rest.length ≤ l.length ∧ acc.length + 5 * rest.length ≤ 5 * l.length

set_option maxHeartbeats 1000000 in
set_option maxRecDepth 100000 in
theorem decode_c (l : List UInt8) (hl : l.length ≤ 1000000000) (w : World) (hS : Std w) :
    Calls Tryz.prog 102 #[.string ⟨l.toArray⟩] w fun e w' => e = .returned (.string ⟨(decL l).toArray⟩) ∧ Below w.heap.size w w' := by
  go_enter Tryz.func102, Tryz.ntmps102
  go_wp2
  go_loopw [0] (fun v wr => DecRel l w v wr) (fun v wr => strLen v)
  case atStart =>
    exact ⟨l, [], rfl, bld_new _ _ (Nat.le_refl _), (Below.refl _ w).alloc (Nat.le_refl _) _, by simp, rfl, Nat.le_refl _, by simp⟩
  case round =>
    obtain ⟨rest, acc, rfl, hI, hbw, hsz, hdec, hr1, hr2⟩ := hrel
    have hSr := hS.below hbw
    have hcl := cut1_len 38 rest
    have hcut := Lib.hid (cut_c rest 38 (by omega) wr hSr)
    cases hf : (cut1 38 rest).2.2 with
    | false =>
      rw [hf] at hcut
      have hd := Lib.hid (hdec.trans (by rw [decL_miss hf]))
      clear hdec hf
      have hcl1 : (cut1 38 rest).1.length ≤ rest.length := by omega
      clear hcl
      generalize (cut1 38 rest).1 = before at *
      generalize (cut1 38 rest).2.1 = after at *
      go_wp2_with (go_at_call 144; ((with_reducible refine hcut.out.mono ?_); rintro e w1 ⟨rfl, hb1⟩))
      have hI1 := bld_below hI hb1
      have hz1 := hb1.size
      go_wp2_with (go_at_call 95; ((with_reducible refine (write_l _ _ acc before _ hI1 (by omega) (by omega)).mono ?_); rintro e w2 ⟨rfl, hI2, hb2, _⟩))
      have hz2 := hb2.size
      go_wp2_with (go_at_call 98; ((with_reducible refine (Tryz.Builder_String_any_k _ _ _ _ hI2 (by omega)).mono ?_); rintro e w3 ⟨rfl, _, hb3, _⟩))
      go_wp2
      go_ret
      rw [hd.out]
      exact ⟨rfl, ((below_then hbw (by omega) hb1).trans hb2).trans hb3⟩
    | true =>
      rw [hf] at hcut
      have hd := hdec.trans (by rw [decL_hit hf])
      clear hdec
      rw [if_pos hf] at hcl
      clear hf
      generalize (cut1 38 rest).1 = before at *
      generalize (cut1 38 rest).2.1 = r2 at *
      have hml := meantL_len (cut1 59 r2).1
      have hcut2 := Lib.hid (fun W hS => cut_c r2 59 (by omega) W hS)
      have hm := Lib.hid (fun W hS => meant_c (cut1 59 r2).1 (by have := cut1_len 59 r2; omega) W hS)
      have hlen2 := cut1_len 59 r2
      have hd1 := Lib.hid (fun h1 h2 => hd.trans (by rw [decL_ref h1 h2]))
      have hd2 := Lib.hid (fun h => hd.trans (by rw [decL_amp h]))
      clear hd
      generalize (cut1 59 r2).2.2 = ends at *
      generalize (cut1 59 r2).1 = name at *
      generalize (cut1 59 r2).2.1 = after at *
      generalize (meantL name).2 = is at *
      generalize (meantL name).1 = t at *
      cases ends <;> cases is
      all_goals
        go_wp2_with (go_at_call 144; ((with_reducible refine hcut.out.mono ?_); rintro e w1 ⟨rfl, hb1⟩))
        have hI1 := bld_below hI hb1
        have hz1 := hb1.size
        go_wp2_with (go_at_call 95; ((with_reducible refine (write_l _ _ acc before _ hI1 (by omega) (by omega)).mono ?_); rintro e w2 ⟨rfl, hI2, hb2, _⟩))
        have hz2 := hb2.size
        have hbw2 := (below_then hbw (by omega) hb1).trans hb2
        have hS2 := hS.below hbw2
        go_wp2_with (go_at_call 144; ((with_reducible refine (hcut2.out _ hS2).mono ?_); rintro e w3 ⟨rfl, hb3⟩))
        have hS3 := hS2.below hb3
        have hI3 := bld_below hI2 hb3
        have hz3 := hb3.size
        go_wp2_with (go_at_call 145; ((with_reducible refine (hm.out _ hS3).mono ?_); rintro e w4 ⟨rfl, hb4⟩))
        have hI4 := bld_below hI3 hb4
        have hz4 := hb4.size
        have hbw4 := below_then (below_then hbw2 (by omega) hb3) (by omega) hb4
        first
          | (have hd : Hid (decL l = acc ++ (before ++ 38 :: decL r2)) := by first | exact hd2.out rfl | exact hd2.out trivial | exact hd2.out
             go_wp2_with (go_at_call 95; ((with_reducible refine (write_l _ _ _ [38] _ hI4 (by simp; omega) (by omega)).mono ?_); rintro e w5 ⟨rfl, hI5, hb5, _⟩))
             go_wp2
             go_roundw
             case rel => exact ⟨r2, acc ++ before ++ [38], rfl, hI5, hbw4.trans hb5, by have := hb5.size; omega, by rw [hd.out]; simp, by omega, by simp; omega⟩
             case measure => rw [strLen_mk, strLen_mk]; omega)
          | (have hd : Hid (decL l = acc ++ (before ++ (t ++ decL after))) := by first | exact hd1.out rfl rfl | exact hd1.out trivial trivial | exact hd1.out
             go_wp2_with (go_at_call 95; ((with_reducible refine (write_l _ _ _ t _ hI4 (by simp; omega) (by omega)).mono ?_); rintro e w5 ⟨rfl, hI5, hb5, _⟩))
             go_wp2
             go_roundw
             case rel => exact ⟨after, acc ++ before ++ t, rfl, hI5, hbw4.trans hb5, by have := hb5.size; omega, by rw [hd.out]; simp, by simp at hlen2; omega, by simp at hlen2 ⊢; omega⟩
             case measure => rw [strLen_mk, strLen_mk]; simp at hlen2; omega)
end Go.Proofs.YtdnbaliibiginaaGreatDoor

/- Contracts of refs.written, Text and Value: a text with what may not stand so written out; nothing that lay in memory turns. Condition: at most 10^9 bytes. -/
namespace Go.Proofs.YtdnbaliibiginaaGreatDoor
open Go.RowKit Go.Proofs

def escL (q : Bool) (c : UInt8) : List UInt8 :=
  if c = 38 then [38, 97, 109, 112, 59] else if c = 60 then [38, 108, 116, 59] else if c = 62 then [38, 103, 116, 59] else if c = 34 ∧ q = true then [38, 113, 117, 111, 116, 59] else [c]
def wrL (q : Bool) : List UInt8 → List UInt8
  | [] => []
  | [c] => escL q c
  | c :: d :: l => if c = 194 ∧ d = 160 then [38, 110, 98, 115, 112, 59] ++ wrL q l else escL q c ++ wrL q (d :: l)
def hardL (l : List UInt8) : Bool := Lib.hasPrefix l [194, 160]
theorem wrL_hard {q : Bool} {l : List UInt8} (h : hardL l = true) : wrL q l = [38, 110, 98, 115, 112, 59] ++ wrL q (l.drop 2) := by
  obtain ⟨r, rfl⟩ := List.isPrefixOf_iff_prefix.1 h
  simp [wrL]
theorem wrL_step {q : Bool} {c : UInt8} {l : List UInt8} (h : hardL (c :: l) = false) : wrL q (c :: l) = escL q c ++ wrL q l := by
  cases l with
  | nil => simp [wrL]
  | cons d l =>
    rw [wrL, if_neg]
    rintro ⟨rfl, rfl⟩
    simp [hardL, Lib.hasPrefix] at h

theorem u8_eq {c : UInt8} {n : Nat} (h : c.toNat = n) (hn : n < 256) : c = UInt8.ofNat n := by
  apply UInt8.toNat_inj.1
  rw [h]
  simp [Nat.mod_eq_of_lt hn]
theorem esc38 {q : Bool} {c : UInt8} (h : c.toNat = 38) : escL q c = [38, 97, 109, 112, 59] := by rw [u8_eq h (by omega)]; rfl
theorem esc60 {q : Bool} {c : UInt8} (h : c.toNat = 60) : escL q c = [38, 108, 116, 59] := by rw [u8_eq h (by omega)]; rfl
theorem esc62 {q : Bool} {c : UInt8} (h : c.toNat = 62) : escL q c = [38, 103, 116, 59] := by rw [u8_eq h (by omega)]; rfl
theorem esc34 {c : UInt8} (h : c.toNat = 34) : escL true c = [38, 113, 117, 111, 116, 59] := by rw [u8_eq h (by omega)]; rfl
theorem escNo {q : Bool} {c : UInt8} (h1 : c.toNat ≠ 38) (h2 : c.toNat ≠ 60) (h3 : c.toNat ≠ 62) (h4 : ¬ (c.toNat = 34 ∧ q = true)) : escL q c = [c] := by
  unfold escL
  rw [if_neg (fun e => h1 (by rw [e]; rfl)), if_neg (fun e => h2 (by rw [e]; rfl)), if_neg (fun e => h3 (by rw [e]; rfl)), if_neg (fun e => h4 ⟨by rw [e.1]; rfl, e.2⟩)]
theorem wr_at {q : Bool} {l acc : List UInt8} {k : Nat} {c : UInt8} (hk : k < l.length) (hc : l[k] = c) (hdec : wrL q l = acc ++ wrL q (l.drop k)) (h : hardL (l.drop k) = false) {e : List UInt8} (he : escL q c = e) : wrL q l = (acc ++ e) ++ wrL q (l.drop (k + 1)) := by
  have hd : l.drop k = c :: l.drop (k + 1) := by rw [← hc]; exact List.drop_eq_getElem_cons hk
  rw [hd] at h hdec
  rw [hdec, wrL_step h, he, List.append_assoc]
theorem hard_no {l : List UInt8} {k : Nat} {c : UInt8} (hk : k < l.length) (hc : l[k] = c) (h : c.toNat ≠ 194) : hardL (l.drop k) = false := by
  have hd : l.drop k = c :: l.drop (k + 1) := by rw [← hc]; exact List.drop_eq_getElem_cons hk
  rw [hd]
  have : (194 : UInt8) ≠ c := fun e => h (by rw [← e]; rfl)
  simp [hardL, Lib.hasPrefix, List.isPrefixOf, this]
theorem wr_hard {q : Bool} {l acc : List UInt8} {k : Nat} (hdec : wrL q l = acc ++ wrL q (l.drop k)) (h : hardL (l.drop k) = true) : wrL q l = (acc ++ [38, 110, 98, 115, 112, 59]) ++ wrL q (l.drop (k + 1 + 1)) := by
  rw [hdec, wrL_hard h, List.drop_drop, List.append_assoc]
theorem hard_len {l : List UInt8} {k : Nat} (h : hardL (l.drop k) = true) : k + 2 ≤ l.length := by
  have := pre_len h
  simp at this
  omega
/-- WriteByte, in lists of bytes. -/
theorem byte_l (B b : Nat) (acc : List UInt8) (c : UInt8) (w : World) (h : Lib.IsBuilderF 89 5 B b (Lib.byteCells acc) w) (hlen : acc.length + 1 ≤ 140737488355328) (hBw : B ≤ w.heap.size) :
    Calls Tryz.prog 170 #[.pointer (some ⟨b, 0, none⟩), .int .u8 c.toNat] w fun e w' => e = .returned .nilIface ∧ (Lib.IsBuilderF 89 5 B b (Lib.byteCells (acc ++ [c])) w' ∧ Below B w w' ∧ Lib.OthersKept 5 (some b) w w') := by
  refine (writeByte_k B b _ c.toNat w h (by rw [Lib.byteCells_length]; exact hlen) hBw).mono ?_
  rintro e w' ⟨rfl, h1, h2, h3⟩
  exact ⟨rfl, by rw [Lib.byteCells_append]; exact h1, h2, h3⟩

theorem esc34f {c : UInt8} (h : c.toNat = 34) : escL false c = [34] := by rw [u8_eq h (by omega)]; rfl
theorem byte_34 (B b : Nat) (acc : List UInt8) (w : World) (h : Lib.IsBuilderF 89 5 B b (Lib.byteCells acc) w) (hlen : acc.length + 1 ≤ 140737488355328) (hBw : B ≤ w.heap.size) :
    Calls Tryz.prog 170 #[.pointer (some ⟨b, 0, none⟩), .int .u8 34] w fun e w' => e = .returned .nilIface ∧ (Lib.IsBuilderF 89 5 B b (Lib.byteCells (acc ++ [34])) w' ∧ Below B w w' ∧ Lib.OthersKept 5 (some b) w w') := byte_l B b acc 34 w h hlen hBw

set_option maxHeartbeats 1000000 in
set_option maxRecDepth 100000 in
theorem written_false (l : List UInt8) (hl : l.length ≤ 1000000000) (w : World) :
    Calls Tryz.prog 140 #[.string ⟨l.toArray⟩, .bool false] w fun e w' => e = .returned (.string ⟨(wrL false l).toArray⟩) ∧ Below w.heap.size w w' := by
  go_enter Tryz.func140, Tryz.ntmps140
  go_wp2
  go_loopw [6] (fun v wr => ∃ (k : Nat) (acc : List UInt8), v = .int .i64 k ∧ k ≤ l.length ∧ Lib.IsBuilderF 89 5 w.heap.size w.heap.size (Lib.byteCells acc) wr ∧ Below w.heap.size w wr ∧ w.heap.size < wr.heap.size ∧ Hid (wrL false l = acc ++ wrL false (l.drop k)) ∧ acc.length ≤ 6 * k) (fun v _ => l.length - (intOf v).toNat)
  case atStart =>
    exact ⟨0, [], rfl, by omega, bld_new _ _ (Nat.le_refl _), (Below.refl _ w).alloc (Nat.le_refl _) _, by simp, rfl, by simp⟩
  case round =>
    obtain ⟨k, acc, rfl, hk, hI, hbw, hsz, hdec, hal⟩ := hrel
    by_cases hlt : k < l.length
    · obtain ⟨c, hc⟩ : ∃ c, l[k] = c := ⟨_, rfl⟩
      have hc' := Lib.hid hc
      have hhl := Lib.hid (@hard_len l k)
      go_wp2_with (first
        | (go_at_call 61; ((with_reducible refine (prefix_c _ _ _).mono ?_); rintro e w1 ⟨rfl, rfl⟩))
        | (go_at_call 95; ((with_reducible refine (write_l _ _ acc _ _ hI (by simp; omega) (by omega)).mono ?_); rintro e w5 ⟨rfl, hI5, hb5, _⟩))
        | (go_at_call 170; ((with_reducible refine (byte_l _ _ acc c _ hI (by omega) (by omega)).mono ?_); rintro e w5 ⟨rfl, hI5, hb5, _⟩))
        | (go_at_call 170; ((with_reducible refine (byte_34 _ _ acc _ hI (by omega) (by omega)).mono ?_); rintro e w5 ⟨rfl, hI5, hb5, _⟩)))
      all_goals (simp only [beq_iff_eq, beq_eq_false_iff_ne, ne_eq] at *)
      all_goals first
        | (refine ⟨⟨k + 1, acc ++ _, rfl, by omega, hI5, hbw.trans hb5, by have := hb5.size; omega, wr_at hlt hc'.out hdec.out (hard_no hlt hc'.out (by omega)) (esc38 (by omega)), by simp; omega⟩, by simp [intOf]; omega⟩)
        | (refine ⟨⟨k + 1, acc ++ _, rfl, by omega, hI5, hbw.trans hb5, by have := hb5.size; omega, wr_at hlt hc'.out hdec.out (hard_no hlt hc'.out (by omega)) (esc60 (by omega)), by simp; omega⟩, by simp [intOf]; omega⟩)
        | (refine ⟨⟨k + 1, acc ++ _, rfl, by omega, hI5, hbw.trans hb5, by have := hb5.size; omega, wr_at hlt hc'.out hdec.out (hard_no hlt hc'.out (by omega)) (esc62 (by omega)), by simp; omega⟩, by simp [intOf]; omega⟩)
        | (refine ⟨⟨k + 1, acc ++ _, rfl, by omega, hI5, hbw.trans hb5, by have := hb5.size; omega, wr_at hlt hc'.out hdec.out (hard_no hlt hc'.out (by omega)) (esc34 (by omega)), by simp; omega⟩, by simp [intOf]; omega⟩)
        | (refine ⟨⟨k + 1, acc ++ _, rfl, by omega, hI5, hbw.trans hb5, by have := hb5.size; omega, wr_at hlt hc'.out hdec.out (hard_no hlt hc'.out (by omega)) (esc34f (by omega)), by simp; omega⟩, by simp [intOf]; omega⟩)
        | (refine ⟨⟨k + 1, acc ++ _, rfl, by omega, hI5, hbw.trans hb5, by have := hb5.size; omega, wr_at hlt hc'.out hdec.out (by assumption) (escNo (by omega) (by omega) (by omega) (by simp; try omega)), by simp; omega⟩, by simp [intOf]; omega⟩)
        | (have h2 := hhl.out (by assumption); refine ⟨⟨k + 1 + 1, acc ++ _, by first | rfl | (congr 1; omega), by omega, hI5, hbw.trans hb5, by have := hb5.size; omega, wr_hard hdec.out (by assumption), by simp; omega⟩, by simp [intOf]; omega⟩)
        | skip
    · have hd : wrL false l = acc := by
        rw [hdec.out, List.drop_eq_nil_of_le (by omega)]
        simp [wrL]
      have hd := Lib.hid hd
      rename_i hd0
      clear hd0
      go_wp2_with (go_at_call 98; ((with_reducible refine (Tryz.Builder_String_any_k _ _ _ _ hI (by omega)).mono ?_); rintro e w3 ⟨rfl, _, hb3, _⟩))
      go_ret
      rw [hd.out]
      exact ⟨rfl, hbw.trans hb3⟩

theorem text_c (l : List UInt8) (hl : l.length ≤ 1000000000) (w : World) :
    Calls Tryz.prog 96 #[.string ⟨l.toArray⟩] w fun e w' => e = .returned (.string ⟨(wrL false l).toArray⟩) ∧ Below w.heap.size w w' := by
  go_enter Tryz.func96, Tryz.ntmps96
  go_wp2_with (go_at_call 140; ((with_reducible refine (written_false l hl _).mono ?_); rintro e w3 ⟨rfl, hb3⟩))
  go_ret
  exact ⟨rfl, hb3⟩

set_option maxHeartbeats 1000000 in
set_option maxRecDepth 100000 in
theorem written_true (l : List UInt8) (hl : l.length ≤ 1000000000) (w : World) :
    Calls Tryz.prog 140 #[.string ⟨l.toArray⟩, .bool true] w fun e w' => e = .returned (.string ⟨(wrL true l).toArray⟩) ∧ Below w.heap.size w w' := by
  go_enter Tryz.func140, Tryz.ntmps140
  go_wp2
  go_loopw [6] (fun v wr => ∃ (k : Nat) (acc : List UInt8), v = .int .i64 k ∧ k ≤ l.length ∧ Lib.IsBuilderF 89 5 w.heap.size w.heap.size (Lib.byteCells acc) wr ∧ Below w.heap.size w wr ∧ w.heap.size < wr.heap.size ∧ Hid (wrL true l = acc ++ wrL true (l.drop k)) ∧ acc.length ≤ 6 * k) (fun v _ => l.length - (intOf v).toNat)
  case atStart =>
    exact ⟨0, [], rfl, by omega, bld_new _ _ (Nat.le_refl _), (Below.refl _ w).alloc (Nat.le_refl _) _, by simp, rfl, by simp⟩
  case round =>
    obtain ⟨k, acc, rfl, hk, hI, hbw, hsz, hdec, hal⟩ := hrel
    by_cases hlt : k < l.length
    · obtain ⟨c, hc⟩ : ∃ c, l[k] = c := ⟨_, rfl⟩
      have hc' := Lib.hid hc
      have hhl := Lib.hid (@hard_len l k)
      go_wp2_with (first
        | (go_at_call 61; ((with_reducible refine (prefix_c _ _ _).mono ?_); rintro e w1 ⟨rfl, rfl⟩))
        | (go_at_call 95; ((with_reducible refine (write_l _ _ acc _ _ hI (by simp; omega) (by omega)).mono ?_); rintro e w5 ⟨rfl, hI5, hb5, _⟩))
        | (go_at_call 170; ((with_reducible refine (byte_l _ _ acc c _ hI (by omega) (by omega)).mono ?_); rintro e w5 ⟨rfl, hI5, hb5, _⟩))
        | (go_at_call 170; ((with_reducible refine (byte_34 _ _ acc _ hI (by omega) (by omega)).mono ?_); rintro e w5 ⟨rfl, hI5, hb5, _⟩)))
      all_goals (simp only [beq_iff_eq, beq_eq_false_iff_ne, ne_eq] at *)
      all_goals first
        | (refine ⟨⟨k + 1, acc ++ _, rfl, by omega, hI5, hbw.trans hb5, by have := hb5.size; omega, wr_at hlt hc'.out hdec.out (hard_no hlt hc'.out (by omega)) (esc38 (by omega)), by simp; omega⟩, by simp [intOf]; omega⟩)
        | (refine ⟨⟨k + 1, acc ++ _, rfl, by omega, hI5, hbw.trans hb5, by have := hb5.size; omega, wr_at hlt hc'.out hdec.out (hard_no hlt hc'.out (by omega)) (esc60 (by omega)), by simp; omega⟩, by simp [intOf]; omega⟩)
        | (refine ⟨⟨k + 1, acc ++ _, rfl, by omega, hI5, hbw.trans hb5, by have := hb5.size; omega, wr_at hlt hc'.out hdec.out (hard_no hlt hc'.out (by omega)) (esc62 (by omega)), by simp; omega⟩, by simp [intOf]; omega⟩)
        | (refine ⟨⟨k + 1, acc ++ _, rfl, by omega, hI5, hbw.trans hb5, by have := hb5.size; omega, wr_at hlt hc'.out hdec.out (hard_no hlt hc'.out (by omega)) (esc34 (by omega)), by simp; omega⟩, by simp [intOf]; omega⟩)
        | (refine ⟨⟨k + 1, acc ++ _, rfl, by omega, hI5, hbw.trans hb5, by have := hb5.size; omega, wr_at hlt hc'.out hdec.out (hard_no hlt hc'.out (by omega)) (esc34f (by omega)), by simp; omega⟩, by simp [intOf]; omega⟩)
        | (refine ⟨⟨k + 1, acc ++ _, rfl, by omega, hI5, hbw.trans hb5, by have := hb5.size; omega, wr_at hlt hc'.out hdec.out (by assumption) (escNo (by omega) (by omega) (by omega) (by simp; try omega)), by simp; omega⟩, by simp [intOf]; omega⟩)
        | (have h2 := hhl.out (by assumption); refine ⟨⟨k + 1 + 1, acc ++ _, by first | rfl | (congr 1; omega), by omega, hI5, hbw.trans hb5, by have := hb5.size; omega, wr_hard hdec.out (by assumption), by simp; omega⟩, by simp [intOf]; omega⟩)
        | skip
    · have hd : wrL true l = acc := by
        rw [hdec.out, List.drop_eq_nil_of_le (by omega)]
        simp [wrL]
      have hd := Lib.hid hd
      rename_i hd0
      clear hd0
      go_wp2_with (go_at_call 98; ((with_reducible refine (Tryz.Builder_String_any_k _ _ _ _ hI (by omega)).mono ?_); rintro e w3 ⟨rfl, _, hb3, _⟩))
      go_ret
      rw [hd.out]
      exact ⟨rfl, hbw.trans hb3⟩

theorem value_c (l : List UInt8) (hl : l.length ≤ 1000000000) (w : World) :
    Calls Tryz.prog 141 #[.string ⟨l.toArray⟩] w fun e w' => e = .returned (.string ⟨(wrL true l).toArray⟩) ∧ Below w.heap.size w w' := by
  go_enter Tryz.func141, Tryz.ntmps141
  go_wp2_with (go_at_call 140; ((with_reducible refine (written_true l hl _).mono ?_); rintro e w3 ⟨rfl, hb3⟩))
  go_ret
  exact ⟨rfl, hb3⟩

end Go.Proofs.YtdnbaliibiginaaGreatDoor

/- Rows of texts and of numbers at a block. -/
namespace Go.Proofs.YtdnbaliibiginaaGreatDoor
open Go.RowKit Go.Proofs

theorem new_cells (w : World) (cs : Array Value) (t : TypeId) : (w.alloc (.cells cs t)).heap[w.heap.size]? = some (.cells cs t (0, 0)) := by
  show (w.heap.push _)[w.heap.size]? = _
  simp
/-- A row of texts at a block. -/
def TextsAt (b n : Nat) (L : List (List UInt8)) (w : World) : Prop := ∀ k, k < n → w.cell? ⟨b, k, none⟩ = some (.string ⟨(L.getD k []).toArray⟩)
def IntsAt (b n : Nat) (L : List Int) (w : World) : Prop := ∀ k, k < n → w.cell? ⟨b, k, none⟩ = some (.int .i64 (L.getD k 0))
theorem TextsAt.below {b n : Nat} {L : List (List UInt8)} {w w' : World} (h : TextsAt b n L w) (hb : Below w.heap.size w w') : TextsAt b n L w' := fun k hk => cell_keep (h k hk) hb
theorem IntsAt.below {b n : Nat} {L : List Int} {w w' : World} (h : IntsAt b n L w) (hb : Below w.heap.size w w') : IntsAt b n L w' := fun k hk => cell_keep (h k hk) hb
theorem TextsAt.of {b n : Nat} {L : List (List UInt8)} {w : World} {cs : Array Value} {t : TypeId} {fr : Nat × Nat} (h : w.heap[b]? = some (.cells cs t fr)) (hc : cs.toList = L.map fun l => Value.string ⟨l.toArray⟩) (hn : n ≤ L.length) : TextsAt b n L w := by
  intro k hk
  rw [Lib.cell_of_heap h, ← Array.getElem?_toList, hc, List.getElem?_map, List.getElem?_eq_getElem (show k < L.length by omega)]
  simp [List.getD, List.getElem?_eq_getElem (show k < L.length by omega)]
theorem IntsAt.of {b n : Nat} {L : List Int} {w : World} {cs : Array Value} {t : TypeId} {fr : Nat × Nat} (h : w.heap[b]? = some (.cells cs t fr)) (hc : cs.toList = L.map fun l => Value.int .i64 l) (hn : n ≤ L.length) : IntsAt b n L w := by
  intro k hk
  rw [Lib.cell_of_heap h, ← Array.getElem?_toList, hc, List.getElem?_map, List.getElem?_eq_getElem (show k < L.length by omega)]
  simp [List.getD, List.getElem?_eq_getElem (show k < L.length by omega)]
end Go.Proofs.YtdnbaliibiginaaGreatDoor

/- A row of bytes that the call itself owns: appended to, and made a text. -/
namespace Go.Proofs.YtdnbaliibiginaaGreatDoor
open Go.RowKit Go.Proofs

/-- A value that is a row of bytes of the call's own, from block 'base' on. -/
def Bts (w : World) (base : Nat) (v : Value) (l : List UInt8) : Prop := w.ownsRow base 5 1 v l.length (Lib.byteCells l)
theorem Bts.below {w w1 : World} {base : Nat} {v : Value} {l : List UInt8} (h : Bts w base v l) (hb : Below w.heap.size w w1) : Bts w1 base v l :=
  World.ownsRow.kept h (grown_of_below hb none) (by cases hv : v.ownBlock <;> simp)
theorem Bts.nil (w : World) (base : Nat) : Bts w base (.slice none 0 0) [] := World.ownsRow_nil _ _ _ _
theorem Bts.new (w : World) (base : Nat) (hB : base ≤ w.heap.size) : Bts (w.alloc (.cells #[] 5)) base (.slice (some ⟨w.heap.size, 0, none⟩) 0 0) [] :=
  ⟨rfl, .inr ⟨w.heap.size, 0, #[], rfl, hB, new_cells _ _ _, Nat.le_refl _, by unfold maxLen; omega, rfl, rfl⟩⟩
theorem conv_own {w : World} {base : Nat} {v : Value} {l : List UInt8} (h : Bts w base v l) : (convert 87 9 v).run Tryz.prog w = .ok (.string ⟨l.toArray⟩) w := by
  rcases h.2 with ⟨rfl, h0⟩ | ⟨g, cap, cur, rfl, hg, hh, hn, hc, hs, ht⟩
  · have : l = [] := List.eq_nil_of_length_eq_zero h0
    subst this
    exact run_convert_bytes_nil (P := Tryz.prog) w 87 5 Tryz.underlying87 Tryz.underlying5 0 0 9 Tryz.underlying9
  · refine run_convert_bytes_back (P := Tryz.prog) w 87 9 5 ⟨g, 0, none⟩ cap l Tryz.underlying87 Tryz.underlying5 Tryz.underlying9 ?_
    intro j hj
    have ha : (⟨g, 0, none⟩ : Addr).add j = ⟨g, j, none⟩ := by unfold Addr.add; split <;> simp_all
    rw [ha, Lib.cell_of_heap hh, ← Array.getElem?_toList]
    have h1 : (cur.toList.take (l.length * 1))[j]? = (Lib.byteCells l)[j]? := by rw [ht]
    rw [List.getElem?_take, if_pos (by omega)] at h1
    rw [h1]
    simp [Lib.byteCells, hj]
theorem own_base {w : World} {base : Nat} {e : TypeId} {size n : Nat} {v : Value} {xs : List Value} (h : w.ownsRow base e size v n xs) {k : Nat} (hk : v.ownBlock = some k) : base ≤ k := by
  rcases h.2 with ⟨rfl, _⟩ | ⟨g, cap, cur, rfl, hb, _⟩
  · simp [Value.ownBlock] at hk
  · have : g = k := by simpa [Value.ownBlock] using hk
    omega
theorem byteInfo : ∃ i, Tryz.prog.info? 5 = some i ∧ i.zero = some (.int .u8 0) ∧ i.size = 1 ∧ i.bytes = 1 := by
  obtain ⟨i0, hi, hz0, hz1, hz2⟩ := info_parts bByte
  exact ⟨i0, hi, hz0, hz1, hz2⟩
/-- append(b, s...): a text onto a row of bytes of the call's own. -/
theorem app_text {w : World} {ops : Array Oper} {rest : List Oper} {o : Oper} {a : Act} {Q : Exit → Act → World → Prop} (hgd : o.guard = none) (sl x : Operand)
    (ho : o.op = .call { callee := .builtin .append, args := #[sl, x], argTypes := #[87, 9] })
    (base : Nat) (v : Value) (l t : List UInt8) (hs : a.eval sl = v) (hown : Bts w base v l) (hx : a.eval x = .string ⟨t.toArray⟩)
    (hlen : l.length + t.length ≤ 100000000000000) (hbase : base ≤ w.heap.size)
    (h : ∀ v' w', Bts w' base v' (l ++ t) → Below base w w' → w.heap.size ≤ w'.heap.size → wpList Tryz.prog ops Q rest (a.put o.dst v') w') : wpList Tryz.prog ops Q (o :: rest) a w := by
  obtain ⟨i0, hi, hz0, hz1, hz2⟩ := byteInfo
  have hsz := mk_size t
  refine Lib.wpList_append_own_string w hgd sl x 87 9 ho base 5 i0 Tryz.underlying87 Tryz.underlying9 hi hz0 hz1 hz2 v l.length (Lib.byteCells l) hs hown ⟨t.toArray⟩ hx (by unfold maxLen; omega) (by omega) hbase ?_
  intro v' w' hown' hgrow _
  refine h v' w' ?_ ?_ hgrow.size
  · unfold Bts
    rw [bytes_str, ← Lib.byteCells_append, hsz] at hown'
    simpa using hown'
  · exact (Below.refl base w).grown hgrow hbase (fun k hk => own_base hown hk)
end Go.Proofs.YtdnbaliibiginaaGreatDoor

/- Contracts of package fold: Space, Letter, Lower, Same, Trim. Nothing that lay in memory turns. -/
namespace Go.Proofs.YtdnbaliibiginaaGreatDoor
open Go.RowKit Go.Proofs

def spaceI (n : Int) : Bool := n == 32 || n == 9 || n == 10 || n == 12 || n == 13
def letterI (n : Int) : Bool := (decide (97 ≤ n) && decide (n ≤ 122)) || (decide (65 ≤ n) && decide (n ≤ 90))
theorem spaceI_u8 (c : UInt8) : spaceI c.toNat = spaceB c := by
  have := all_u8 (p := fun c => spaceI c.toNat == spaceB c) (by decide +kernel) c
  simpa using this
theorem letterI_u8 (c : UInt8) : letterI c.toNat = letterB c := by
  have := all_u8 (p := fun c => letterI c.toNat == letterB c) (by decide +kernel) c
  simpa using this

theorem space_i (n : Int) (w : World) :
    Calls Tryz.prog 143 #[.int .u8 n] w fun e w' => e = .returned (.bool (spaceI n)) ∧ w = w' := by
  go_enter Tryz.func143, Tryz.ntmps143
  go_wp2
  all_goals go_ret
  all_goals (refine ⟨ret_b ?_, rfl⟩; simp_all [spaceI])
theorem letter_i (n : Int) (w : World) :
    Calls Tryz.prog 115 #[.int .u8 n] w fun e w' => e = .returned (.bool (letterI n)) ∧ w = w' := by
  go_enter Tryz.func115, Tryz.ntmps115
  go_wp2
  all_goals go_ret
  all_goals (refine ⟨ret_b ?_, rfl⟩; simp_all [letterI]; try omega)
end Go.Proofs.YtdnbaliibiginaaGreatDoor
