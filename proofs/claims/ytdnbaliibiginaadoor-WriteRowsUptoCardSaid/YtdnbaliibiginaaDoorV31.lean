/- Lemmas and walks, part 31: QNames, QScanA, QScanB, QScanC, QScanD, QTokR, QTokW, QTokT, QTokS, QTokG, QScanE, QScanF, QScanG, QScanH, QScanI, QSame, QPW8x1, QPW8x2. -/
import Derived.Test.YtdnbaliibiginaaDoorV5
import Derived.Test.YtdnbaliibiginaaDoorV6
import Derived.Deep.RegionLaw
import Derived.RegionTactic
import Derived.Test.YtdnbaliibiginaaDoorV13
import Derived.Test.YtdnbaliibiginaaDoorV4
set_option linter.unusedVariables false
set_option linter.unusedSimpArgs false

/- Contracts of package names: among, Raw, Soft. Nothing that lay in memory turns. -/
namespace Go.Proofs.YtdnbaliibiginaaDoor
open Go.RowKit Go.Proofs
end Go.Proofs.YtdnbaliibiginaaDoor

/- Contracts of token's scanner: until, isDoctype. What lay below the scanner's own blocks does not turn. -/
namespace Go.Proofs.YtdnbaliibiginaaDoor
open Go.RowKit Go.Proofs
def Env (w : World) (base : Nat) : Prop := ∃ w0, Std w0 ∧ w0.heap.size = base ∧ Below base w0 w
theorem Env.below {w w' : World} {base : Nat} (h : Env w base) (hb : Below base w w') : Env w' base := by
 obtain ⟨w0, h1, h2, h3⟩ := h
 exact ⟨w0, h1, h2, h3.trans hb⟩
theorem Env.le {w : World} {base : Nat} (h : Env w base) : base ≤ w.heap.size := by
 obtain ⟨w0, h1, rfl, h3⟩ := h
 exact h3.size
end Go.Proofs.YtdnbaliibiginaaDoor

/- Contract of token's scanner: tell: the text that was gone over becomes a token. What lay below the scanner's own blocks does not turn. -/
namespace Go.Proofs.YtdnbaliibiginaaDoor
open Go.RowKit Go.Proofs
theorem Toks.len {w : World} {base : Nat} {v : Value} {l : List Tok} (h : Toks w base v l) : ∃ a c, v = .slice a l.length c := by
 obtain ⟨ps, h1, h2, h3⟩ := h
 rcases h2.2 with ⟨rfl, h0⟩ | ⟨g, cap, cur, rfl, _⟩
 ·exact ⟨none, 0, by rw [h0]⟩
 ·exact ⟨_, _, rfl⟩
theorem Toks.alloc {w : World} {base : Nat} {v : Value} {l : List Tok} (h : Toks w base v l) (o : Obj) : Toks (w.alloc o) base v l := h.below ((Below.refl _ _).alloc (Nat.le_refl _) o)
end Go.Proofs.YtdnbaliibiginaaDoor

/- Contract of token's scanner: note: a comment or a doctype. What lay below the scanner's own blocks does not turn. -/
namespace Go.Proofs.YtdnbaliibiginaaDoor
open Go.RowKit Go.Proofs
end Go.Proofs.YtdnbaliibiginaaDoor

/- Contract of token's scanner: comment: one that begins as it should. What lay below the scanner's own blocks does not turn. -/
namespace Go.Proofs.YtdnbaliibiginaaDoor
open Go.RowKit Go.Proofs
end Go.Proofs.YtdnbaliibiginaaDoor

/- Plain: TokenEnds, TokenRaw, TokenComments: what the cut makes of texts of these shapes. No program in sight. -/
namespace Go.Proofs.YtdnbaliibiginaaDoor
open Go.Proofs
def quietB : Txt → Bool
 | [] => true
 | [c] => c != 60
 | c :: d :: r => !(c == 60 && d == 47) && quietB (d :: r)
end Go.Proofs.YtdnbaliibiginaaDoor

/- Plain: tokens, written; TokenBack: a start tag whose names may be, written, is cut as it was. No program in sight. -/
namespace Go.Proofs.YtdnbaliibiginaaDoor
open Go.Proofs
def attrsW (l : List (Txt × Txt)) : Txt := l.flatMap fun a => 32 :: (a.1 ++ 61 :: 34 :: (wrL true a.2 ++ [34]))
def selfW (b : Bool) : Txt := if b then [32, 47] else []
def taggedW (o : Txt) (t : Tok) : Txt := o ++ t.name ++ attrsW t.attrs ++ selfW t.self ++ [62]
def tokW (raw : Bool) (t : Tok) : Txt :=
 if t.kind = 0 then (if raw then t.data else wrL false t.data)
 else if t.kind = 1 then taggedW [60] t
 else if t.kind = 2 then taggedW [60, 47] ⟨0, t.name, [], [], false⟩
 else if t.kind = 3 then [60, 33, 45, 45] ++ t.data ++ [45, 45, 62]
 else if t.kind = 4 then [60, 33, 100, 111, 99, 116, 121, 112, 101, 32] ++ t.data ++ [62]
 else []
def rawT (t : Tok) : Bool := t.kind == 1 && rawB t.name
def writeN (raw : Bool) : List Tok → Txt
 | [] => []
 | t :: r => tokW raw t ++ writeN (rawT t) r
def writeL (l : List Tok) : Txt := writeN false l
structure AttrName (s : Txt) : Prop where
 ne : s ≠ []
 low : lowL s = s
 first : ∀ c r, s = c :: r → spaceB c = false ∧ c ≠ 47 ∧ c ≠ 62
 rest : ∀ x ∈ s.tail, slashedB x = false ∧ x ≠ 61
structure TagName (s : Txt) : Prop where
 low : lowL s = s
 letter : letterL s = true
 all : ∀ x ∈ s, slashedB x = false
def plainB (s but : Txt) : Bool := s.all (fun c => !(spaceB c || (decide (65 ≤ c.toNat) && decide (c.toNat ≤ 90)) || c == 0 || but.contains c)) && !s.isEmpty
def rightB (s : Txt) : Bool := plainB s [47, 62] && letterL s
def attrB (s : Txt) : Bool := plainB s [47, 62, 34, 39, 60, 61]
end Go.Proofs.YtdnbaliibiginaaDoor

/- Plain: TokenShapes: each token of any bytes has what its kind has, and nothing else. No program in sight. -/
namespace Go.Proofs.YtdnbaliibiginaaDoor
open Go.Proofs
def okB (c : UInt8) : Bool := !((decide (65 ≤ c.toNat) && decide (c.toNat ≤ 90)) || c == 32 || c == 9 || c == 10 || c == 12 || c == 13 || c == 62)
def lowerOK (s : Txt) : Bool := s.all okB
structure NameOK (s : Txt) : Prop where
 ne : s ≠ []
 ok : lowerOK s = true
structure AttrsOK (l : List (Txt × Txt)) : Prop where
 each : ∀ a ∈ l, NameOK a.1
 once : (l.map Prod.fst).Nodup
structure ShapeOK (t : Tok) : Prop where
 ge : 0 ≤ t.kind
 le : t.kind ≤ 4
 tag : t.kind = 1 ∨ t.kind = 2 → NameOK t.name ∧ t.data = []
 other : t.kind ≠ 1 → t.kind ≠ 2 → t.name = []
 start : t.kind ≠ 1 → t.attrs = [] ∧ t.self = false
 text : t.kind = 0 → t.data ≠ []
 attrs : AttrsOK t.attrs
end Go.Proofs.YtdnbaliibiginaaDoor

/- Plain: TokenComments: a comment's text without > comes back; a doctype's is no longer than it was. No program in sight. -/
namespace Go.Proofs.YtdnbaliibiginaaDoor
open Go.Proofs
end Go.Proofs.YtdnbaliibiginaaDoor

/- Plain: TokenAgain, first part: what the tokens of any bytes are like. No program in sight. -/
namespace Go.Proofs.YtdnbaliibiginaaDoor
open Go.Proofs
structure NoteOK (d : Txt) : Prop where
 no1 : ∀ j, Lib.occAt d [45, 45, 62] j = false
 no2 : ∀ j, Lib.occAt d [45, 45, 33, 62] j = false
 gt : Lib.hasPrefix d [62] = false
 arrow : Lib.hasPrefix d [45, 62] = false
structure DocOK (d : Txt) : Prop where
 no : (62 : UInt8) ∉ d
 trim : trimL (32 :: d) = d
structure StartOK (nm : Txt) (l : List (Txt × Txt)) : Prop where
 name : TagName nm
 attrs : ∀ a ∈ l, AttrName a.1
 once : (l.map Prod.fst).Nodup
def Closed (nm : Txt) (r : List Tok) : Prop := r = [] ∨ ∃ q, r = ⟨2, nm, [], [], false⟩ :: q
def RawOK (nm d : Txt) : Prop := ∀ j, j < d.length → closesB nm (d.drop j) = false
inductive Good : List Tok → Prop
 | nil : Good []
 | text {d : Txt} {r : List Tok} : d ≠ [] → Good r → Good (⟨0, [], [], d, false⟩ :: r)
 | start {nm : Txt} {l : List (Txt × Txt)} {b : Bool} {r : List Tok} : StartOK nm l → (rawB nm || softB nm) = false → Good r → Good (⟨1, nm, l, [], b⟩ :: r)
 | shut {nm : Txt} {l : List (Txt × Txt)} {b : Bool} {r : List Tok} : StartOK nm l → (rawB nm || softB nm) = true → Closed nm r → Good r → Good (⟨1, nm, l, [], b⟩ :: r)
 | full {nm : Txt} {l : List (Txt × Txt)} {b : Bool} {d : Txt} {r : List Tok} : StartOK nm l → (rawB nm || softB nm) = true → d ≠ [] → (rawB nm = true → RawOK nm d) → Closed nm r → Good r → Good (⟨1, nm, l, [], b⟩ :: ⟨0, [], [], d, false⟩ :: r)
 | shuts {nm : Txt} {r : List Tok} : TagName nm → Good r → Good (⟨2, nm, [], [], false⟩ :: r)
 | note {d : Txt} {r : List Tok} : NoteOK d → Good r → Good (⟨3, [], [], d, false⟩ :: r)
 | doct {d : Txt} {r : List Tok} : DocOK d → Good r → Good (⟨4, [], [], d, false⟩ :: r)
end Go.Proofs.YtdnbaliibiginaaDoor

/- Contract of token's scanner: inside: the text within an element that has text alone. What lay below the scanner's own blocks does not turn. -/
namespace Go.Proofs.YtdnbaliibiginaaDoor
open Go.RowKit Go.Proofs
end Go.Proofs.YtdnbaliibiginaaDoor

/- Contract of token's scanner: tag: a tag, whose letter stands at a place. What lay below the scanner's own blocks does not turn. -/
namespace Go.Proofs.YtdnbaliibiginaaDoor
open Go.RowKit Go.Proofs
theorem Atts.mono {w : World} {base base' : Nat} {v : Value} {l : List (Txt × Txt)} (h : Atts w base' v l) (hb : base ≤ base') : Atts w base v l := by
 obtain ⟨h1, h2⟩ := h
 refine ⟨h1, ?_⟩
 rcases h2 with h2 | ⟨g, cap, cur, e1, e2, e3⟩
 ·exact .inl h2
 ·exact .inr ⟨g, cap, cur, e1, Nat.le_trans hb e2, e3⟩
theorem Atts.set {w : World} {base b j : Nat} {v x : Value} {l : List (Txt × Txt)} {cur : Array Value} {e' : TypeId} {fz : Nat × Nat} (h : Atts w base v l) (hb : w.heap[b]? = some (.cells cur e' fz)) (hne : e' ≠ 45) : Atts (w.setCell ⟨b, j, none⟩ x) base v l := own_other h (grown_set w ⟨b, j, none⟩ x) hb hne
structure TagLay (w2 W : World) (base b tb : Nat) (r : Txt) (v1 : Value) (l1 : List Tok) (k : Int) (nm : Txt) (va : Value) (at0 : List (Txt × Txt)) (sf : Bool) : Prop where
 hb : W.heap[b]? = some (.cells #[.string ⟨r.toArray⟩, .string ⟨#[]⟩, v1] 80 (0, 0))
 ht : W.heap[tb]? = some (.cells #[.int .i64 k, .string ⟨nm.toArray⟩, .string ⟨#[]⟩, va, .bool sf] 56 (0, 0))
 toks : Toks W base v1 l1
 atts : Atts W base va at0
 below : Below base w2 W
 ne : v1.ownBlock ≠ some tb
end Go.Proofs.YtdnbaliibiginaaDoor

/- Contracts of token's scanner: tag, opens: what begins with a < . What lay below the scanner's own blocks does not turn. -/
namespace Go.Proofs.YtdnbaliibiginaaDoor
open Go.RowKit Go.Proofs
def OpenPost (o : Option (List Tok × Txt)) (w' : World) (base b : Nat) (s t : Txt) (l : List Tok) : Prop :=
 match o with
 | none => Sc w' base b s (t ++ [60]) l
 | some (ts, r) => Sc w' base b r [] ((l ++ tellF t) ++ ts)
end Go.Proofs.YtdnbaliibiginaaDoor

/- Contracts of token's scanner: all; of Cut and In. What lay in memory does not turn. -/
namespace Go.Proofs.YtdnbaliibiginaaDoor
open Go.RowKit Go.Proofs
end Go.Proofs.YtdnbaliibiginaaDoor

/- Contracts of token.Cut and In: the tokens lie in blocks that the call made. What lay in memory does not turn. -/
namespace Go.Proofs.YtdnbaliibiginaaDoor
open Go.RowKit Go.Proofs
end Go.Proofs.YtdnbaliibiginaaDoor

/- Rows of tokens that can be read; contract of the reference's Same: the same tokens are the same. Nothing that lay in memory turns. -/
namespace Go.Proofs.YtdnbaliibiginaaDoor
open Go.RowKit Go.Proofs
def RdA (w : World) (va : Value) (l : List (Txt × Txt)) : Prop :=
 ∃ ad cp, va = .slice ad l.length cp ∧ ∀ i (hi : i < l.length), ∃ g o, ad = some ⟨g, o, none⟩ ∧ w.cell? ⟨g, o + i * 2, none⟩ = some (.string ⟨l[i].1.toArray⟩) ∧ w.cell? ⟨g, o + i * 2 + 1, none⟩ = some (.string ⟨l[i].2.toArray⟩)
def RdT (w : World) (v : Value) (l : List Tok) : Prop :=
 ∃ ad cp, v = .slice ad l.length cp ∧ ∀ i (hi : i < l.length), ∃ g o va, ad = some ⟨g, o, none⟩ ∧ w.cell? ⟨g, o + i * 5, none⟩ = some (.int .i64 l[i].kind) ∧ w.cell? ⟨g, o + i * 5 + 1, none⟩ = some (.string ⟨l[i].name.toArray⟩) ∧ w.cell? ⟨g, o + i * 5 + 2, none⟩ = some (.string ⟨l[i].data.toArray⟩) ∧ w.cell? ⟨g, o + i * 5 + 3, none⟩ = some va ∧ w.cell? ⟨g, o + i * 5 + 4, none⟩ = some (.bool l[i].self) ∧ RdA w va l[i].attrs
theorem RdA.below {w w' : World} {va : Value} {l : List (Txt × Txt)} (h : RdA w va l) (hb : Below w.heap.size w w') : RdA w' va l := by
 obtain ⟨ad, cp, h1, h2⟩ := h
 refine ⟨ad, cp, h1, fun i hi => ?_⟩
 obtain ⟨g, o, h3, h4, h5⟩ := h2 i hi
 exact ⟨g, o, h3, cell_keep h4 hb, cell_keep h5 hb⟩
theorem RdT.below {w w' : World} {v : Value} {l : List Tok} (h : RdT w v l) (hb : Below w.heap.size w w') : RdT w' v l := by
 obtain ⟨ad, cp, h1, h2⟩ := h
 refine ⟨ad, cp, h1, fun i hi => ?_⟩
 obtain ⟨g, o, va, h3, h4, h5, h6, h7, h8, h9⟩ := h2 i hi
 exact ⟨g, o, va, h3, cell_keep h4 hb, cell_keep h5 hb, cell_keep h6 hb, cell_keep h7 hb, cell_keep h8 hb, h9.below hb⟩
theorem Atts.rd {w : World} {base : Nat} {va : Value} {l : List (Txt × Txt)} (h : Atts w base va l) : RdA w va l := by
 obtain ⟨ad, cp, rfl⟩ := h.len
 refine ⟨ad, cp, rfl, fun i hi => ?_⟩
 obtain ⟨g, cap, e, h2, h3, h4, h5⟩ := h.at hi
 simp only [Value.slice.injEq] at e
 exact ⟨g, 0, e.1, by rw [Nat.zero_add]; exact h4, by rw [Nat.zero_add]; exact h5⟩
theorem Toks.rd {w : World} {base : Nat} {v : Value} {l : List Tok} (h : Toks w base v l) : RdT w v l := by
 obtain ⟨ad, cp, rfl⟩ := h.len
 refine ⟨ad, cp, rfl, fun i hi => ?_⟩
 obtain ⟨ps, k1, k2, k3⟩ := h
 subst k1
 rw [List.length_map] at hi k2
 rcases k2.2 with ⟨e, h0⟩ | ⟨g, cap, cur, e, hg, hh, hn, hc, hs, ht⟩
 ·omega
 ·simp only [Value.slice.injEq] at e
  have key : ∀ j, j < 5 → w.cell? ⟨g, i * 5 + j, none⟩ = (ps.flatMap fun p => tokV p.1 p.2)[i * 5 + j]? := by
   intro j hj
   rw [Lib.cell_of_heap hh, ← Array.getElem?_toList, ← ht, List.getElem?_take, if_pos (by omega)]
  have hv : ∀ (l : List (Tok × Value)) (i : Nat) (hi : i < l.length) (j : Nat), j < 5 → (l.flatMap fun p => tokV p.1 p.2)[i * 5 + j]? = (tokV l[i].1 l[i].2)[j]? := by
   intro l
   induction l with
   | nil => intro i hi; simp at hi
   | cons a l ih =>
    intro i hi j hj
    have hlen : (tokV a.1 a.2).length = 5 := rfl
    cases i with
    | zero =>
     rw [List.flatMap_cons, List.getElem?_append_left (by omega), Nat.zero_mul, Nat.zero_add]
     rfl
    | succ i =>
     have := ih i (by simpa using hi) j hj
     rw [show (i + 1) * 5 + j = 5 + (i * 5 + j) from by omega, List.flatMap_cons, List.getElem?_append_right (by omega), hlen, Nat.add_sub_cancel_left, this]
     rfl
  have hk := fun j hj => (key j hj).trans (hv ps i hi j hj)
  have h0 := hk 0 (by omega)
  have h1 := hk 1 (by omega)
  have h2 := hk 2 (by omega)
  have h3 := hk 3 (by omega)
  have h4 := hk 4 (by omega)
  rw [List.getElem_map]
  refine ⟨g, 0, ps[i].2, by rw [← e.1], ?_, ?_, ?_, ?_, ?_, (k3 _ (List.getElem_mem hi)).rd⟩ <;> rw [Nat.zero_add]
  ·exact h0
  ·exact h1
  ·exact h2
  ·exact h3
  ·exact h4
theorem cell_al {w : World} {a : Addr} {v : Value} (h : w.cell? a = some v) : ∀ o, (w.alloc o).cell? a = some v := fun o => cell_keep h ((Below.refl _ w).alloc (Nat.le_refl _) o)
end Go.Proofs.YtdnbaliibiginaaDoor

/- Words and walks used below. -/
namespace Go.Proofs.YtdnbaliibiginaaDoorH.W8
open Go.RowKit Go.Proofs.YtdnbaliibiginaaDoorW.PrintWords Go.Proofs.YtdnbaliibiginaaDoorW.PrintLast Go.Proofs.YtdnbaliibiginaaDoorW.PrintMore
attribute [local go_sem] max2_int min2_int max_two min_two max_three min_three max_four min_four   -- for this text's walks alone
theorem eqA45 (d : Nat) (w : World) (x0 y0 : ByteArray) (x1 y1 : ByteArray) :
  (Op.equalIn (d + 2) 45 (.agg #[.string x0, .string x1]) (.agg #[.string y0, .string y1])).run Tryd.prog w = .ok (x0.toList == y0.toList && (x1.toList == y1.toList)) w := by
 refine eqA_of Tryd.underlying45 (by kernel_rfl) ?_
 refine eqf_cons (by rfl) (by go_simp; rfl) (by go_simp; rfl) (by go_simp) ?_
 exact eqf_last (by rfl) (by go_simp; rfl) (by go_simp; rfl) (by go_simp)
end Go.Proofs.YtdnbaliibiginaaDoorH.W8

/- Words and walks used below. -/
namespace Go.Proofs.YtdnbaliibiginaaDoorH.W8
open Go.RowKit Go.Proofs.YtdnbaliibiginaaDoorW.PrintWords Go.Proofs.YtdnbaliibiginaaDoorW.PrintLast Go.Proofs.YtdnbaliibiginaaDoorW.PrintMore
attribute [local go_sem] max2_int min2_int max_two min_two max_three min_three max_four min_four   -- for this text's walks alone
attribute [local go_sem high] eqA45
def rows_attrs.l0 : Nat → List (S45) → List (S45) → Int → Int → Option (Bool)
 | 0, _, _, _, _ => none
 | k + 1, x0, x1, x10, x11 => if x11 < x10 then (if 0 ≤ x11 then (if x11 < (x0.length : Int) then (if x11 < (x1.length : Int) then (if (!((((rd_T45 x0 x11).f0).toList) == (((rd_T45 x1 x11).f0).toList)) || (!((((rd_T45 x0 x11).f1).toList) == (((rd_T45 x1 x11).f1).toList)))) = true then (some false) else (rows_attrs.l0 k x0 x1 x10 (wrap64 (x11 + 1)))) else (none)) else (none)) else (none)) else (some ((x0.length : Int) == (x1.length : Int)))
def rows_attrs.f (k : Nat) (l0 : List (S45)) (l1 : List (S45)) : Option (Bool) := rows_attrs.l0 k l0 l1 (mn (l0.length : Int) (l1.length : Int)) 0
set_option maxHeartbeats 8000000 in
set_option maxRecDepth 100000 in
theorem rows_attrs.calls (k : Nat) (A0 : Option Addr) (c0 : Nat) (l0 : List (S45)) (A1 : Option Addr) (c1 : Nat) (l1 : List (S45)) (r : Bool) (w : World) (hr0 : Kd.C k45 w A0 l0.length l0) (hc0 : l0.length ≤ c0) (hr1 : Kd.C k45 w A1 l1.length l1) (hc1 : l1.length ≤ c1) (h : rows_attrs.f k l0 l1 = some r) :
  Calls Tryd.prog 57 #[.slice A0 l0.length c0, .slice A1 l1.length c1] w fun e w' => e = .returned (.bool r) ∧ Below w.heap.size w w' := by
 have hu45 := Tryd.underlying45
 have HR0 := Aside0.mk hr0
 have HC0 := Aside0.mk hc0
 clear hr0 hc0
 have HR1 := Aside0.mk hr1
 have HC1 := Aside0.mk hc1
 clear hr1 hc1
 have HB := Aside0.mk (Below.refl w.heap.size w)
 have H : (rows_attrs.l0 k l0 l1 (mn (l0.length : Int) (l1.length : Int)) 0) = some r := h
 clear h
 obtain ⟨ji3, hji3⟩ : ∃ j_ : Int, (mn (l0.length : Int) (l1.length : Int)) = j_ := ⟨_, rfl⟩
 replace H : (rows_attrs.l0 k l0 l1 ji3 0) = some r := by first | (rw [hji3] at H; exact H) | (simp only [hji3] at H ⊢; exact H)
 (try (have hji3l : 0 ≤ ji3 := by (rw [← hji3]; unfold mn; (repeat' split) <;> omega)))
 (try (have hji3m : 0 ≤ ji3 := by omega))
 have hji3_ : (if (l1.length : Int) < (l0.length : Int) then (l1.length : Int) else (l0.length : Int)) = ji3 := hji3
 have hji3_n : (if l1.length < l0.length then (l1.length : Int) else (l0.length : Int)) = ji3 := by (first | (simpa only [Int.ofNat_lt] using hji3_) | (simpa using hji3_))
 have H' := Aside0.mk H
 clear H
 go_enter Tryd.func57, Tryd.ntmps57
 go_wp2
 repeat (go_quiet (fail); try go_wp2)
 go_loopg [11] k (fun kq v11 w' => ∃ (x11_1 : Int), v11 = .int .i64 x11_1 ∧ Aside0 (rows_attrs.l0 kq l0 l1 ji3 x11_1 = some r) ∧ Aside0 (kq ≤ k) ∧ Aside0 (Below w.heap.size w w'))
 case atStart => exact ⟨(0), (by first | rfl | (simp; done) | (simp [*]; done) | (simp; generalize ByteArray.toList _ = l_; cases l_ <;> rfl)), H', ⟨Nat.le_refl _⟩, ⟨bz⟩⟩
 case round =>
  clear H'
  try clear c1
  try clear p2
  obtain ⟨x11_1, rfl, HA, HK1, HB⟩ := hrel
  cases gk with
  | zero => exact absurd HA.out (by simp [rows_attrs.l0])
  | succ k1 =>
   have H := HA.out
   clear HA
   simp only [rows_attrs.l0] at H
   by_cases c4 : x11_1 < ji3
   ·rw [if_pos c4] at H
    have c4b0 : decide (x11_1 < ji3) = true := decide_eq_true c4
    clear c4
    by_cases c5 : 0 ≤ x11_1
    ·rw [if_pos c5] at H
     have c5b0 : decide (0 ≤ x11_1) = true := decide_eq_true c5
     clear c5
     by_cases c6 : x11_1 < (l0.length : Int)
     ·rw [if_pos c6] at H
      have c6b0 : decide (x11_1 < (l0.length : Int)) = true := decide_eq_true c6
      clear c6
      by_cases c7 : x11_1 < (l1.length : Int)
      ·rw [if_pos c7] at H
       have c7b0 : decide (x11_1 < (l1.length : Int)) = true := decide_eq_true c7
       clear c7
       by_cases c8 : (!((((rd_T45 l0 x11_1).f0).toList) == (((rd_T45 l1 x11_1).f0).toList)) || (!((((rd_T45 l0 x11_1).f1).toList) == (((rd_T45 l1 x11_1).f1).toList)))) = true
       ·rw [if_pos c8] at H
        have c8b0 : (!((((rd_T45 l0 x11_1).f0).toList) == (((rd_T45 l1 x11_1).f0).toList)) || (!((((rd_T45 l0 x11_1).f1).toList) == (((rd_T45 l1 x11_1).f1).toList)))) = true := c8
        clear c8
        obtain rfl := Option.some.inj H
        have p101 : 0 ≤ (x11_1 : Int) := (by first | exact of_decide_eq_true (by first | (with_reducible assumption) | assumption) | assumption | omega)
        have q101 : x11_1 < (l0.length : Int) := (by first | exact of_decide_eq_true (by first | (with_reducible assumption) | assumption) | assumption | omega)
        obtain ⟨ad101, e101, hx101_0, hx101_1⟩ := at_T45 HR0.out x11_1 p101 q101
        cases e101
        replace hx101_0 := (HB.out.cell (World.block_lt_of_cell? w _ hx101_0)).trans hx101_0
        replace hx101_1 := (HB.out.cell (World.block_lt_of_cell? w _ hx101_1)).trans hx101_1
        replace p101 := eq_true p101
        replace q101 := eq_true q101
        have p102 : 0 ≤ (x11_1 : Int) := (by first | exact of_decide_eq_true (by first | (with_reducible assumption) | assumption) | assumption | omega)
        have q102 : x11_1 < (l1.length : Int) := (by first | exact of_decide_eq_true (by first | (with_reducible assumption) | assumption) | assumption | omega)
        obtain ⟨ad102, e102, hx102_0, hx102_1⟩ := at_T45 HR1.out x11_1 p102 q102
        cases e102
        replace hx102_0 := (HB.out.cell (World.block_lt_of_cell? w _ hx102_0)).trans hx102_0
        replace hx102_1 := (HB.out.cell (World.block_lt_of_cell? w _ hx102_1)).trans hx102_1
        replace p102 := eq_true p102
        replace q102 := eq_true q102
        go_wp2
        repeat (go_quiet (fail); try go_wp2)
        go_ret
        exact ⟨by first | rfl | (simp [errW_none, errW_some] <;> rfl) | (simp only [← hji3]; first | rfl | (simp [errW_none, errW_some] <;> rfl)) | (simp [*, errW_none, errW_some] <;> rfl), bz⟩
       ·rw [if_neg c8] at H
        have c8b0 : (!((((rd_T45 l0 x11_1).f0).toList) == (((rd_T45 l1 x11_1).f0).toList)) || (!((((rd_T45 l0 x11_1).f1).toList) == (((rd_T45 l1 x11_1).f1).toList)))) = false := by simpa using c8
        clear c8
        have H' := Aside0.mk H
        clear H
        have p101 : 0 ≤ (x11_1 : Int) := (by first | exact of_decide_eq_true (by first | (with_reducible assumption) | assumption) | assumption | omega)
        have q101 : x11_1 < (l0.length : Int) := (by first | exact of_decide_eq_true (by first | (with_reducible assumption) | assumption) | assumption | omega)
        obtain ⟨ad101, e101, hx101_0, hx101_1⟩ := at_T45 HR0.out x11_1 p101 q101
        cases e101
        replace hx101_0 := (HB.out.cell (World.block_lt_of_cell? w _ hx101_0)).trans hx101_0
        replace hx101_1 := (HB.out.cell (World.block_lt_of_cell? w _ hx101_1)).trans hx101_1
        replace p101 := eq_true p101
        replace q101 := eq_true q101
        have p102 : 0 ≤ (x11_1 : Int) := (by first | exact of_decide_eq_true (by first | (with_reducible assumption) | assumption) | assumption | omega)
        have q102 : x11_1 < (l1.length : Int) := (by first | exact of_decide_eq_true (by first | (with_reducible assumption) | assumption) | assumption | omega)
        obtain ⟨ad102, e102, hx102_0, hx102_1⟩ := at_T45 HR1.out x11_1 p102 q102
        cases e102
        replace hx102_0 := (HB.out.cell (World.block_lt_of_cell? w _ hx102_0)).trans hx102_0
        replace hx102_1 := (HB.out.cell (World.block_lt_of_cell? w _ hx102_1)).trans hx102_1
        replace p102 := eq_true p102
        replace q102 := eq_true q102
        go_wp2
        repeat (go_quiet (fail); try go_wp2)
        go_roundg k1
        case measure => have := HK1.out; omega
        case rel => exact ⟨(wrap64 (x11_1 + 1)), (by first | rfl | (simp; done) | (simp [*]; done) | (simp; generalize ByteArray.toList _ = l_; cases l_ <;> rfl)), H', ⟨by have := HK1.out; omega⟩, ⟨bz⟩⟩
      ·rw [if_neg c7] at H
       exact absurd H (by simp)
     ·rw [if_neg c6] at H
      exact absurd H (by simp)
    ·rw [if_neg c5] at H
     exact absurd H (by simp)
   ·rw [if_neg c4] at H
    have c4b0 : decide (x11_1 < ji3) = false := decide_eq_false c4
    clear c4
    obtain rfl := Option.some.inj H
    go_wp2
    repeat (go_quiet (fail); try go_wp2)
    go_ret
    exact ⟨by first | rfl | (simp [errW_none, errW_some] <;> rfl) | (simp only [← hji3]; first | rfl | (simp [errW_none, errW_some] <;> rfl)) | (simp [*, errW_none, errW_some] <;> rfl), bz⟩
end Go.Proofs.YtdnbaliibiginaaDoorH.W8
