/- Plain: tokens, and how bytes are cut to tokens. No program in sight. -/
import Derived.Test.YtcipgppjhhokbaaDoorDecP
set_option linter.unusedVariables false
namespace Go.Proofs.YtcipgppjhhokbaaDoor
open Go.Proofs

abbrev Txt := List UInt8
structure Tok where
  kind : Int
  name : Txt
  attrs : List (Txt × Txt)
  data : Txt
  self : Bool
  deriving DecidableEq

def spaceB (c : UInt8) : Bool := c == 32 || c == 9 || c == 10 || c == 12 || c == 13
def letterB (c : UInt8) : Bool := (decide (97 ≤ c.toNat) && decide (c.toNat ≤ 122)) || (decide (65 ≤ c.toNat) && decide (c.toNat ≤ 90))
def slashedB (c : UInt8) : Bool := spaceB c || c == 47 || c == 62
def lowB (c : UInt8) : UInt8 := if 65 ≤ c.toNat ∧ c.toNat ≤ 90 then c + 32 else c
def lowL (l : Txt) : Txt := l.map lowB
def rawsL : List Txt := [[105, 102, 114, 97, 109, 101], [110, 111, 101, 109, 98, 101, 100], [110, 111, 102, 114, 97, 109, 101, 115], [115, 99, 114, 105, 112, 116], [115, 116, 121, 108, 101], [120, 109, 112]]
def softsL : List Txt := [[116, 101, 120, 116, 97, 114, 101, 97], [116, 105, 116, 108, 101]]
def inB (L : List Txt) (l : Txt) : Bool := L.contains l
def rawB (l : Txt) : Bool := inB rawsL l
def softB (l : Txt) : Bool := inB softsL l
def letterL : Txt → Bool
  | [] => false
  | c :: _ => letterB c

/-- How long an attribute's name is that stands at the beginning. -/
def attrK (s : Txt) : Nat := 1 + s.tail.findIdx (fun c => slashedB c || c == 61)
def skipS (s : Txt) : Txt := s.drop (s.findIdx (fun c => !spaceB c))
def wordK (s : Txt) : Nat := s.findIdx (fun c => spaceB c || c == 62)
/-- What follows an attribute's name: the attribute, what follows it, and whether it ended. -/
def valF (nm s : Txt) : (Txt × Txt) × Txt × Bool :=
  match s with
  | [] => ((nm, []), [], false)
  | q :: t => if q = 34 ∨ q = 39 then ((nm, decL (cut1 q t).1), (cut1 q t).2.1, (cut1 q t).2.2) else ((nm, decL ((q :: t).take (wordK (q :: t)))), (q :: t).drop (wordK (q :: t)), decide (wordK (q :: t) < (q :: t).length))
def attrR (nm s : Txt) : (Txt × Txt) × Txt × Bool :=
  match skipS s with
  | [] => ((nm, []), [], false)
  | c :: t => if c = 61 then valF nm (skipS t) else ((nm, []), s, true)
/-- An attribute that stands at the beginning: it, what follows, and whether it ended. -/
def attrF (s : Txt) : (Txt × Txt) × Txt × Bool := attrR (lowL (s.take (attrK s))) (s.drop (attrK s))

def addA (acc : List (Txt × Txt)) (a : Txt × Txt) : List (Txt × Txt) := if acc.any (fun b => b.1 == a.1) then acc else acc ++ [a]
def gapF (s : Txt) : Nat := s.findIdx (fun c => !spaceB c && c != 47)
def slashF (s : Txt) : Bool := decide (0 < gapF s) && (s[gapF s - 1]? == some 47)

/-- The attributes, and what follows the tag's end. -/
def attrsN : Nat → List (Txt × Txt) → Txt → Option (List (Txt × Txt) × Bool × Txt)
  | 0, _, _ => none
  | n + 1, acc, s =>
    match s.drop (gapF s) with
    | [] => none
    | c :: s1 =>
      if c = 62 then some (acc, slashF s, s1)
      else
        let r := attrF (c :: s1)
        if r.2.2 then attrsN n (addA acc r.1) r.2.1 else none
def attrsF (acc : List (Txt × Txt)) (s : Txt) := attrsN (s.length + 1) acc s

def openedF (s : Txt) : Option (Tok × Txt) :=
  (attrsF [] (s.drop (s.findIdx slashedB))).map fun r => (⟨0, lowL (s.take (s.findIdx slashedB)), r.1, [], r.2.1⟩, r.2.2)

/-- Does the end tag of a name stand at the beginning? -/
def closesB (name s : Txt) : Bool :=
  match s with
  | 60 :: 47 :: r => decide (name.length < r.length) && (lowL (r.take name.length) == lowL name) && (match r.drop name.length with | c :: _ => slashedB c | [] => false)
  | _ => false
def endF (name : Txt) : Txt → Nat
  | [] => 0
  | c :: t => if closesB name (c :: t) then 0 else 1 + endF name t
def insideT (name s : Txt) : List Tok :=
  if s.take (endF name s) = [] then [] else [⟨0, [], [], if softB name then decL (s.take (endF name s)) else s.take (endF name s), false⟩]
def insideR (name s : Txt) : Txt := s.drop (endF name s)

def trimL (s : Txt) : Txt := ((s.dropWhile spaceB).reverse.dropWhile spaceB).reverse

/-- A text up to another one. -/
def untilF (s e : Txt) : Txt × Txt := ((Lib.cut s e).1, (Lib.cut s e).2.1)
def noteF (kind : Int) (s e : Txt) : List Tok × Txt := ([⟨kind, [], [], if kind = 4 then trimL (untilF s e).1 else (untilF s e).1, false⟩], (untilF s e).2)
def commentF (s : Txt) : List Tok × Txt :=
  if Lib.hasPrefix s [62] then ([⟨3, [], [], [], false⟩], s.drop 1)
  else if Lib.hasPrefix s [45, 62] then ([⟨3, [], [], [], false⟩], s.drop 2)
  else noteF 3 s (if 0 ≤ Lib.index s [45, 45, 33, 62] ∧ (Lib.index s [45, 45, 62] < 0 ∨ Lib.index s [45, 45, 33, 62] < Lib.index s [45, 45, 62]) then [45, 45, 33, 62] else [45, 45, 62])
def isDoctypeB (s : Txt) : Bool := decide (8 ≤ s.length) && (lowL (s.take 8) == [33, 100, 111, 99, 116, 121, 112, 101]) && !letterL (s.drop 8)

def tagF (kind : Int) (s : Txt) : List Tok × Txt :=
  match openedF s with
  | none => ([], [])
  | some (t, r) =>
    if kind = 2 then ([⟨2, t.name, [], [], false⟩], r)
    else if rawB t.name || softB t.name then (⟨kind, t.name, t.attrs, t.data, t.self⟩ :: insideT t.name r, insideR t.name r)
    else ([⟨kind, t.name, t.attrs, t.data, t.self⟩], r)

/-- What begins behind a < : its tokens and what follows; none: it begins nothing. -/
def openF (s : Txt) : Option (List Tok × Txt) :=
  if letterL s then some (tagF 1 s)
  else if Lib.hasPrefix s [47] && letterL s.tail then some (tagF 2 s.tail)
  else if Lib.hasPrefix s [47, 62] then some ([], s.drop 2)
  else if Lib.hasPrefix s [33, 45, 45] then some (commentF (s.drop 3))
  else if isDoctypeB s then some (noteF 4 (s.drop 8) [62])
  else if Lib.hasPrefix s [33] then some (noteF 3 s.tail [62])
  else if Lib.hasPrefix s [63] then some (noteF 3 s [62])
  else if decide (1 < s.length) && Lib.hasPrefix s [47] then some (noteF 3 s.tail [62])
  else none

def tellF (t : Txt) : List Tok := if t = [] then [] else [⟨0, [], [], decL t, false⟩]
def textF (s : Txt) : Nat := s.findIdx (fun c => c == 60)

/-- All tokens, behind a text that is not told yet. -/
def runN : Nat → Txt → Txt → List Tok
  | 0, t, _ => tellF t
  | n + 1, t, s =>
    match s.drop (textF s) with
    | [] => tellF (t ++ s.take (textF s))
    | _ :: s1 =>
      match openF s1 with
      | none => runN n (t ++ s.take (textF s) ++ [60]) s1
      | some (ts, r) => tellF (t ++ s.take (textF s)) ++ ts ++ runN n [] r
def runF (t s : Txt) : List Tok := runN (s.length + 1) t s
def cutL (s : Txt) : List Tok := runF [] s
def inL (s name : Txt) : List Tok := if rawB name || softB name then insideT name s ++ runF [] (insideR name s) else runF [] s

/-- A fact of all 256 bytes, by counting. -/
theorem all_u8 {p : UInt8 → Bool} (h : (List.range 256).all (fun k => p (UInt8.ofNat k)) = true) (c : UInt8) : p c = true := by
  rw [List.all_eq_true] at h
  have := h c.toNat (by simp [c.toNat_lt])
  simpa using this

theorem ck1 : cutL [97, 60, 66, 32, 99, 61, 100, 62, 120, 60, 47, 98, 32, 62] = [⟨0, [], [], [97], false⟩, ⟨1, [98], [([99], [100])], [], false⟩, ⟨0, [], [], [120], false⟩, ⟨2, [98], [], [], false⟩] := by
  have h : cutL [97, 60, 66, 32, 99, 61, 100, 62, 120, 60, 47, 98, 32, 62] = [⟨0, [], [], decL [97], false⟩, ⟨1, [98], [([99], decL [100])], [], false⟩, ⟨0, [], [], decL [120], false⟩, ⟨2, [98], [], [], false⟩] := by rfl
  rw [h, decL_none (by decide), decL_none (by decide), decL_none (by decide)]
theorem ck2 : cutL [60, 115, 99, 114, 105, 112, 116, 62, 60, 98, 62, 60, 47, 115, 99, 114, 105, 112, 116, 62] = [⟨1, [115, 99, 114, 105, 112, 116], [], [], false⟩, ⟨0, [], [], [60, 98, 62], false⟩, ⟨2, [115, 99, 114, 105, 112, 116], [], [], false⟩] := by rfl
theorem ck3 : cutL [49, 32, 60, 32, 50] = [⟨0, [], [], [49, 32, 60, 32, 50], false⟩] := by
  have h : cutL [49, 32, 60, 32, 50] = [⟨0, [], [], decL [49, 32, 60, 32, 50], false⟩] := by rfl
  rw [h, decL_none (by decide)]
theorem ck4 : inL [97, 60, 98, 62, 38, 97, 109, 112, 59, 60, 47, 116, 105, 116, 108, 101, 62] [116, 105, 116, 108, 101] = [⟨0, [], [], [97, 60, 98, 62, 38], false⟩, ⟨2, [116, 105, 116, 108, 101], [], [], false⟩] := by
  have h : inL [97, 60, 98, 62, 38, 97, 109, 112, 59, 60, 47, 116, 105, 116, 108, 101, 62] [116, 105, 116, 108, 101] = [⟨0, [], [], decL [97, 60, 98, 62, 38, 97, 109, 112, 59], false⟩, ⟨2, [116, 105, 116, 108, 101], [], [], false⟩] := by rfl
  have m5 : meantL [97, 109, 112] = ([38], true) := by decide +kernel
  have d : decL [97, 60, 98, 62, 38, 97, 109, 112, 59] = [97, 60, 98, 62, 38] := by simp [decL_cons, decL_nil, cut1, m5]
  rw [h, d]
end Go.Proofs.YtcipgppjhhokbaaDoor
