/- Plain: tokens, written; TokenBack: a start tag whose names may be, written, is cut as it was. No program in sight. -/
import Derived.Test.YtcipgppjhhokbaaDoorTokR
import Derived.Test.YtcipgppjhhokbaaDoorMoreP
set_option linter.unusedVariables false
namespace Go.Proofs.YtcipgppjhhokbaaDoor
open Go.Proofs

/-- Attributes, written. -/
def attrsW (l : List (Txt × Txt)) : Txt := l.flatMap fun a => 32 :: (a.1 ++ 61 :: 34 :: (wrL true a.2 ++ [34]))
def selfW (b : Bool) : Txt := if b then [32, 47] else []
def taggedW (o : Txt) (t : Tok) : Txt := o ++ t.name ++ attrsW t.attrs ++ selfW t.self ++ [62]
/-- A token, written; raw: it stands behind the start of an element with text as it stands. -/
def tokW (raw : Bool) (t : Tok) : Txt :=
  if t.kind = 0 then (if raw then t.data else wrL false t.data)
  else if t.kind = 1 then taggedW [60] t
  else if t.kind = 2 then taggedW [60, 47] ⟨0, t.name, [], [], false⟩
  else if t.kind = 3 then [60, 33, 45, 45] ++ t.data ++ [45, 45, 62]
  else if t.kind = 4 then [60, 33, 100, 111, 99, 116, 121, 112, 101, 32] ++ t.data ++ [62]
  else []
def rawT (t : Tok) : Bool := t.kind == 1 && rawB t.name
def writeN (raw : Bool) : List Tok → Txt
  | [] => []
  | t :: r => tokW raw t ++ writeN (rawT t) r
def writeL (l : List Tok) : Txt := writeN false l

/-- A name that may be an attribute's: no byte of it ends it. -/
structure AttrName (s : Txt) : Prop where
  ne : s ≠ []
  low : lowL s = s
  first : ∀ c r, s = c :: r → spaceB c = false ∧ c ≠ 47 ∧ c ≠ 62
  rest : ∀ x ∈ s.tail, slashedB x = false ∧ x ≠ 61
structure TagName (s : Txt) : Prop where
  low : lowL s = s
  letter : letterL s = true
  all : ∀ x ∈ s, slashedB x = false

theorem fi_zero {p : UInt8 → Bool} {c : UInt8} {r : Txt} (h : p c = true) : (c :: r).findIdx p = 0 := by simp [List.findIdx_cons, h]
theorem skip_no {c : UInt8} {r : Txt} (h : spaceB c = false) : skipS (c :: r) = c :: r := by
  unfold skipS
  rw [fi_zero (by simp [h])]
  rfl
theorem hasL_not {l : Txt} {n : Nat} {c : UInt8} (e : c.toNat = n) (h : hasL l n = false) : c ∉ l := by
  subst e
  exact hasL_mem h
/-- An attribute, written, is cut as it was. -/
theorem attr_back {nm v r : Txt} (hn : AttrName nm) : attrF (nm ++ 61 :: 34 :: (wrL true v ++ 34 :: r)) = ((nm, v), r, true) := by
  obtain ⟨c, t, rfl⟩ := List.exists_cons_of_ne_nil hn.ne
  have hk : attrK (c :: t ++ 61 :: 34 :: (wrL true v ++ 34 :: r)) = (c :: t).length := by
    unfold attrK
    rw [List.cons_append, List.tail_cons, fi_hit (by decide) (fun x hx => by
      have := hn.rest x hx
      simp [this.1, this.2])]
    simp
    omega
  have e1 : (c :: t ++ 61 :: 34 :: (wrL true v ++ 34 :: r)).take (c :: t).length = c :: t := List.take_left
  have e2 : (c :: t ++ 61 :: 34 :: (wrL true v ++ 34 :: r)).drop (c :: t).length = 61 :: 34 :: (wrL true v ++ 34 :: r) := List.drop_left
  have e3 : cut1 34 (wrL true v ++ 34 :: r) = (wrL true v, r, true) := cut1_at (hasL_not (by decide) (wr_no true 34 (by simp) v))
  unfold attrF
  rw [hk, e1, e2, hn.low]
  unfold attrR
  rw [skip_no (by decide)]
  simp only [if_true]
  rw [skip_no (by decide)]
  simp [valF, e3, dec_wr]
theorem attrs_self (acc : List (Txt × Txt)) (b : Bool) (r : Txt) : attrsF acc (selfW b ++ 62 :: r) = some (acc, b, r) := by
  cases b with
  | false => exact attrs_gt acc r
  | true =>
    have hg : gapF (32 :: 47 :: 62 :: r) = 2 := by simp [gapF, List.findIdx_cons, spaceB]
    show attrsF acc (32 :: 47 :: 62 :: r) = _
    rw [attrsF_eq, slashF, hg]
    simp
theorem addA_new {acc : List (Txt × Txt)} {a : Txt × Txt} (h : ∀ b ∈ acc, b.1 ≠ a.1) : addA acc a = acc ++ [a] := by
  unfold addA
  rw [if_neg]
  rw [List.any_eq_true]
  rintro ⟨b, hb, e⟩
  exact h b hb (by simpa using e)
theorem attrs_back (b : Bool) (r : Txt) : ∀ (l acc : List (Txt × Txt)), (∀ a ∈ l, AttrName a.1) → ((acc ++ l).map Prod.fst).Nodup → attrsF acc (attrsW l ++ (selfW b ++ 62 :: r)) = some (acc ++ l, b, r)
  | [], acc, _, _ => by simpa [attrsW] using attrs_self acc b r
  | a :: l, acc, h1, h2 => by
    have ha := h1 a (by simp)
    obtain ⟨nm, v⟩ := a
    simp only at ha
    have e0 : attrsW ((nm, v) :: l) ++ (selfW b ++ 62 :: r) = 32 :: (nm ++ 61 :: 34 :: (wrL true v ++ 34 :: (attrsW l ++ (selfW b ++ 62 :: r)))) := by simp [attrsW]
    have hb := attr_back (v := v) (r := attrsW l ++ (selfW b ++ 62 :: r)) ha
    obtain ⟨c, t, rfl⟩ := List.exists_cons_of_ne_nil ha.ne
    obtain ⟨f1, f2, f3⟩ := ha.first c t rfl
    have hg : gapF (32 :: (c :: t ++ 61 :: 34 :: (wrL true v ++ 34 :: (attrsW l ++ (selfW b ++ 62 :: r))))) = 1 := by
      unfold gapF
      rw [List.findIdx_cons, show (!spaceB 32 && (32 : UInt8) != 47) = false from by decide, List.cons_append, fi_zero (by simp [f1, f2])]
      simp
    have hne : ∀ b ∈ acc, b.1 ≠ (c :: t) := by
      intro x hx e
      rw [List.map_append, List.nodup_append] at h2
      exact h2.2.2 x.1 (List.mem_map_of_mem hx) (c :: t) (by simp) e
    rw [e0, attrsF_eq, hg]
    rw [List.cons_append] at hb ⊢
    simp only [List.drop_succ_cons, List.drop_zero]
    rw [if_neg f3, hb]
    simp only [if_true]
    rw [addA_new hne, attrs_back b r l _ (fun a ha => h1 a (by simp [ha])) (by simpa using h2)]
    simp
theorem attrsW_first (l : List (Txt × Txt)) (b : Bool) (r : Txt) : ∃ c q, attrsW l ++ (selfW b ++ 62 :: r) = c :: q ∧ slashedB c = true := by
  cases l with
  | nil =>
    cases b with
    | false => exact ⟨62, r, rfl, by decide⟩
    | true => exact ⟨32, 47 :: 62 :: r, rfl, by decide⟩
  | cons a l => exact ⟨32, _, rfl, by decide⟩
/-- A start tag, written, is opened as it was. -/
theorem opened_back {nm r : Txt} {l : List (Txt × Txt)} {b : Bool} (hn : TagName nm) (h1 : ∀ a ∈ l, AttrName a.1) (h2 : (l.map Prod.fst).Nodup) :
    openedF (nm ++ (attrsW l ++ (selfW b ++ 62 :: r))) = some (⟨0, nm, l, [], b⟩, r) := by
  obtain ⟨c, q, e, hc⟩ := attrsW_first l b r
  have h3 := attrs_back b r l [] h1 (by simpa using h2)
  rw [e] at h3 ⊢
  rw [opened_name hn.all hc, h3, hn.low]
  rfl
theorem letter_app {s r : Txt} (h : letterL s = true) : letterL (s ++ r) = true := by
  cases s with
  | nil => simp [letterL] at h
  | cons c t => exact h
theorem open_start {nm r : Txt} {l : List (Txt × Txt)} {b : Bool} (hn : TagName nm) (h1 : ∀ a ∈ l, AttrName a.1) (h2 : (l.map Prod.fst).Nodup) :
    openF (nm ++ (attrsW l ++ (selfW b ++ 62 :: r))) = some (if rawB nm || softB nm then (⟨1, nm, l, [], b⟩ :: insideT nm r, insideR nm r) else ([⟨1, nm, l, [], b⟩], r)) := by
  unfold openF
  rw [if_pos (letter_app hn.letter), tagF, opened_back hn h1 h2]
  simp
theorem open_end {nm r : Txt} (hn : TagName nm) : openF (47 :: (nm ++ 62 :: r)) = some ([⟨2, nm, [], [], false⟩], r) := by
  have h := opened_back (r := r) (l := []) (b := false) hn (by simp) (by simp)
  simp only [attrsW, selfW, List.flatMap_nil, List.nil_append, Bool.false_eq_true, if_false] at h
  unfold openF
  rw [if_neg (by simp [letterL, letterB]), if_pos (by simp [Lib.hasPrefix, letter_app hn.letter]), List.tail_cons, tagF, h]
  simp
theorem endF_here {nm r : Txt} : endF nm (60 :: 47 :: (nm ++ 62 :: r)) = 0 := by
  rw [endF, closes_yes (by decide)]
  rfl
theorem tag_back {nm : Txt} {l : List (Txt × Txt)} {b : Bool} (hn : TagName nm) (h1 : ∀ a ∈ l, AttrName a.1) (h2 : (l.map Prod.fst).Nodup) :
    cutL (writeL [⟨1, nm, l, [], b⟩, ⟨2, nm, [], [], false⟩]) = [⟨1, nm, l, [], b⟩, ⟨2, nm, [], [], false⟩] := by
  have e : writeL [⟨1, nm, l, [], b⟩, ⟨2, nm, [], [], false⟩] = [] ++ 60 :: (nm ++ (attrsW l ++ (selfW b ++ 62 :: (60 :: 47 :: (nm ++ 62 :: []))))) := by
    simp [writeL, writeN, tokW, taggedW, attrsW, selfW]
  have ho : openF (nm ++ (attrsW l ++ (selfW b ++ 62 :: (60 :: 47 :: (nm ++ 62 :: []))))) = some ([⟨1, nm, l, [], b⟩], 60 :: 47 :: (nm ++ 62 :: [])) := by
    rw [open_start hn h1 h2]
    split
    · unfold insideT insideR
      rw [endF_here]
      rfl
    · rfl
  unfold cutL
  rw [e, run_hit (by simp) ho, ← List.nil_append (60 :: 47 :: (nm ++ 62 :: [])), run_hit (by simp) (open_end hn), run_nil]
  simp [tellF]
theorem text_not (x : Txt) : (60 : UInt8) ∉ wrL false x := hasL_not (by decide) (wr_no false 60 (by simp) x)
theorem wr_nil {q : Bool} {x : Txt} (h : x ≠ []) : wrL q x ≠ [] := by
  intro e
  have h1 := wr_ge q x
  rw [e] at h1
  exact h (List.eq_nil_of_length_eq_zero (by simpa using h1))
theorem tell_wr {x : Txt} (h : x ≠ []) : tellF (wrL false x) = [⟨0, [], [], x, false⟩] := by
  unfold tellF
  rw [if_neg (wr_nil h), dec_wr]
theorem text_back {x : Txt} (h : x ≠ []) : cutL (writeL [⟨0, [], [], x, false⟩, ⟨1, [98], [], [], false⟩, ⟨0, [], [], x, false⟩]) = [⟨0, [], [], x, false⟩, ⟨1, [98], [], [], false⟩, ⟨0, [], [], x, false⟩] := by
  have e : writeL [⟨0, [], [], x, false⟩, ⟨1, [98], [], [], false⟩, ⟨0, [], [], x, false⟩] = wrL false x ++ 60 :: ([98] ++ (attrsW [] ++ (selfW false ++ 62 :: wrL false x))) := by
    simp [writeL, writeN, tokW, taggedW, attrsW, selfW, rawT, show rawB [98] = false from by decide]
  have hb : TagName [98] := ⟨by decide, by decide, by decide⟩
  have ho : openF ([98] ++ (attrsW [] ++ (selfW false ++ 62 :: wrL false x))) = some ([⟨1, [98], [], [], false⟩], wrL false x) := by
    rw [open_start hb (by simp) (by simp), if_neg (by decide)]
  unfold cutL
  rw [e, run_hit (text_not x) ho, run_none (text_not x)]
  simp [tell_wr h]

/-- names.plain: bytes, none of which is a space, a great letter, 0 or one of some. -/
def plainB (s but : Txt) : Bool := s.all (fun c => !(spaceB c || (decide (65 ≤ c.toNat) && decide (c.toNat ≤ 90)) || c == 0 || but.contains c)) && !s.isEmpty
def rightB (s : Txt) : Bool := plainB s [47, 62] && letterL s
def attrB (s : Txt) : Bool := plainB s [47, 62, 34, 39, 60, 61]
theorem plain_each {s but : Txt} (h : plainB s but = true) : ∀ c ∈ s, spaceB c = false ∧ ¬ (65 ≤ c.toNat ∧ c.toNat ≤ 90) ∧ c ∉ but := by
  unfold plainB at h
  rw [Bool.and_eq_true, List.all_eq_true] at h
  intro c hc
  have := h.1 c hc
  simp only [Bool.not_eq_true', Bool.or_eq_false_iff, Bool.and_eq_false_iff, decide_eq_false_iff_not] at this
  obtain ⟨⟨⟨a1, a2⟩, a3⟩, a4⟩ := this
  refine ⟨a1, by omega, ?_⟩
  intro hm
  rw [← List.contains_iff_mem] at hm
  rw [hm] at a4
  cases a4
theorem low_same : ∀ {s : Txt}, (∀ c ∈ s, ¬ (65 ≤ c.toNat ∧ c.toNat ≤ 90)) → lowL s = s
  | [], _ => rfl
  | c :: s, h => by
    have ih := low_same (s := s) (fun x hx => h x (by simp [hx]))
    unfold lowL at *
    rw [List.map_cons, ih, lowB, if_neg (h c (by simp))]
theorem right_name {s : Txt} (h : rightB s = true) : TagName s := by
  unfold rightB at h
  rw [Bool.and_eq_true] at h
  have hp := plain_each h.1
  refine ⟨low_same fun c hc => (hp c hc).2.1, h.2, fun x hx => ?_⟩
  obtain ⟨a1, a2, a3⟩ := hp x hx
  simp only [List.mem_cons, List.not_mem_nil, or_false, not_or] at a3
  simp [slashedB, a1, a3.1, a3.2]
theorem attr_name {s : Txt} (h : attrB s = true) : AttrName s := by
  have h' : plainB s [47, 62, 34, 39, 60, 61] = true := h
  have hp := plain_each h'
  refine ⟨?_, low_same fun c hc => (hp c hc).2.1, ?_, ?_⟩
  · rintro rfl
    simp [plainB] at h'
  · rintro c r rfl
    obtain ⟨a1, a2, a3⟩ := hp c (by simp)
    simp only [List.mem_cons, List.not_mem_nil, or_false, not_or] at a3
    exact ⟨a1, a3.1, a3.2.1⟩
  · intro x hx
    obtain ⟨a1, a2, a3⟩ := hp x (List.mem_of_mem_tail hx)
    simp only [List.mem_cons, List.not_mem_nil, or_false, not_or] at a3
    exact ⟨by simp [slashedB, a1, a3.1, a3.2.1], a3.2.2.2.2.2⟩
end Go.Proofs.YtcipgppjhhokbaaDoor
