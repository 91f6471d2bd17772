/- Lemmas and walks, part 19: QTokR, QMoreP, QTokW, QTokT, QTokS, QTokG. -/
import Derived.Test.YtkcmghlhpbepcaaGreatDoorB75
set_option linter.unusedVariables false
set_option linter.unusedSimpArgs false

/- Plain: TokenEnds, TokenRaw, TokenComments: what the cut makes of texts of these shapes. No program in sight. -/
namespace Go.Proofs.YtkcmghlhpbepcaaGreatDoor
open Go.Proofs
theorem fi_hit {p : UInt8 → Bool} {c : UInt8} {r : Txt} (h : p c = true) : ∀ {a : Txt}, (∀ x ∈ a, p x = false) → (a ++ c :: r).findIdx p = a.length
 | [], _ => by simp [List.findIdx_cons, h]
 | x :: a, ha => by
   rw [List.cons_append, List.findIdx_cons, ha x (by simp), fi_hit h (fun y hy => ha y (by simp [hy]))]
   simp
theorem fi_none {p : UInt8 → Bool} : ∀ {a : Txt}, (∀ x ∈ a, p x = false) → a.findIdx p = a.length
 | [], _ => rfl
 | x :: a, ha => by
   rw [List.findIdx_cons, ha x (by simp), fi_none (fun y hy => ha y (by simp [hy]))]
   simp
theorem run_hit {t a r q : Txt} {ts : List Tok} (ha : (60 : UInt8) ∉ a) (ho : openF r = some (ts, q)) : runF t (a ++ 60 :: r) = tellF (t ++ a) ++ ts ++ runF [] q := by
 have hf : textF (a ++ 60 :: r) = a.length := fi_hit (by decide) (fun x hx => beq_eq_false_iff_ne.2 (fun e => ha (by rw [← e]; exact hx)))
 rw [runF_eq, hf]
 simp [ho]
theorem run_none {t a : Txt} (ha : (60 : UInt8) ∉ a) : runF t a = tellF (t ++ a) := by
 have hf : textF a = a.length := fi_none (fun x hx => beq_eq_false_iff_ne.2 (fun e => ha (by rw [← e]; exact hx)))
 rw [runF_eq, hf]
 simp
theorem run_nil (t : Txt) : runF t [] = tellF t := by simpa using run_none (t := t) (a := []) (by simp)
theorem opened_name {nm r : Txt} {c : UInt8} (hn : ∀ x ∈ nm, slashedB x = false) (hc : slashedB c = true) : openedF (nm ++ c :: r) = (attrsF [] (c :: r)).map fun q => (⟨0, lowL nm, q.1, [], q.2.1⟩, q.2.2) := by
 unfold openedF
 rw [fi_hit hc hn]
 simp
theorem attrs_gt (acc : List (Txt × Txt)) (r : Txt) : attrsF acc (62 :: r) = some (acc, false, r) := by
 have hg : gapF (62 :: r) = 0 := by simp [gapF, List.findIdx_cons, spaceB]
 rw [attrsF_eq, slashF, hg]
 simp
def quietB : Txt → Bool
 | [] => true
 | [c] => c != 60
 | c :: d :: r => !(c == 60 && d == 47) && quietB (d :: r)
end Go.Proofs.YtkcmghlhpbepcaaGreatDoor

/- Plain laws of decoding and writing out: lengths; a text without & or without ; is decoded as it stands; what is written out twice; a text behind another one. No program in sight. -/
namespace Go.Proofs.YtkcmghlhpbepcaaGreatDoor
open Go.RowKit Go.Proofs
theorem numberL_short {l : List UInt8} (h : l.length < 2) : numberL l = 0 := by
 unfold numberL
 repeat rw [if_neg (fun e => by rw [e] at h; simp at h)]
theorem numberL_len {l : List UInt8} (h : numberL l ≠ 0) : 2 ≤ l.length := by
 rcases Nat.lt_or_ge l.length 2 with e | e
 ·exact absurd (numberL_short e) h
 ·exact e
theorem digitsL_ne {b : Nat} {l : List UInt8} (h : digitsL b l = true) : 1 ≤ l.length := by
 unfold digitsL at h
 rw [Bool.and_eq_true] at h
 cases l with
 | nil => simp at h
 | cons c l => simp
theorem meantL_two {l : List UInt8} (h : (meantL l).2 = true) : 2 ≤ l.length := by
 unfold meantL at h
 split at h
 ·unfold codedL at h
  split at h
  ·rename_i hd
   have := digitsL_ne hd
   simp at this
   omega
  ·cases h
 ·split at h
  ·unfold codedL at h
   split at h
   ·rename_i hd
    have := digitsL_ne hd
    have := List.length_tail (l := l)
    omega
   ·cases h
  ·unfold namedL at h
   split at h
   ·cases h
   ·rename_i hn
    exact numberL_len hn
theorem decL_len : ∀ (n : Nat) (l : List UInt8), l.length ≤ n → (decL l).length ≤ l.length
 | 0, l, h => by
   have : l = [] := List.eq_nil_of_length_eq_zero (by omega)
   rw [this, decL_nil]
   exact Nat.le_refl _
 | n + 1, [], h => by rw [decL_nil]; exact Nat.le_refl _
 | n + 1, c :: l, h => by
   simp only [List.length_cons] at h
   rw [decL_cons]
   split
   ·split
    ·rename_i hm
     rw [Bool.and_eq_true] at hm
     have h1 := cut1_len 59 l
     rw [if_pos hm.1] at h1
     have h2 := meantL_two hm.2
     have h3 := meantL_len (cut1 59 l).1
     have h4 := decL_len n (cut1 59 l).2.1 (by omega)
     simp only [List.length_append, List.length_cons]
     omega
    ·have := decL_len n l (by omega)
     simp only [List.length_cons]
     omega
   ·have := decL_len n l (by omega)
    simp only [List.length_cons]
    omega
theorem hasL_mem {l : List UInt8} {c : UInt8} (h : hasL l c.toNat = false) : c ∉ l := by
 intro hm
 unfold hasL at h
 rw [List.any_eq_false] at h
 exact h c hm (by simp)
theorem esc_len1 (q : Bool) (c : UInt8) : 1 ≤ (escL q c).length := by
 unfold escL
 repeat' split
 all_goals simp
theorem wr_ge (q : Bool) : ∀ l, l.length ≤ (wrL q l).length
 | [] => by simp
 | [c] => by rw [wrL]; exact esc_len1 q c
 | c :: d :: l => by
   rw [wrL]
   split
   ·have := wr_ge q l
    simp; omega
   ·have := wr_ge q (d :: l)
    have := esc_len1 q c
    simp at *; omega
end Go.Proofs.YtkcmghlhpbepcaaGreatDoor

/- Plain: tokens, written; TokenBack: a start tag whose names may be, written, is cut as it was. No program in sight. -/
namespace Go.Proofs.YtkcmghlhpbepcaaGreatDoor
open Go.Proofs
def attrsW (l : List (Txt × Txt)) : Txt := l.flatMap fun a => 32 :: (a.1 ++ 61 :: 34 :: (wrL true a.2 ++ [34]))
def selfW (b : Bool) : Txt := if b then [32, 47] else []
def taggedW (o : Txt) (t : Tok) : Txt := o ++ t.name ++ attrsW t.attrs ++ selfW t.self ++ [62]
def tokW (raw : Bool) (t : Tok) : Txt :=
 if t.kind = 0 then (if raw then t.data else wrL false t.data)
 else if t.kind = 1 then taggedW [60] t
 else if t.kind = 2 then taggedW [60, 47] ⟨0, t.name, [], [], false⟩
 else if t.kind = 3 then [60, 33, 45, 45] ++ t.data ++ [45, 45, 62]
 else if t.kind = 4 then [60, 33, 100, 111, 99, 116, 121, 112, 101, 32] ++ t.data ++ [62]
 else []
def rawT (t : Tok) : Bool := t.kind == 1 && rawB t.name
def writeN (raw : Bool) : List Tok → Txt
 | [] => []
 | t :: r => tokW raw t ++ writeN (rawT t) r
def writeL (l : List Tok) : Txt := writeN false l
structure AttrName (s : Txt) : Prop where
 ne : s ≠ []
 low : lowL s = s
 first : ∀ c r, s = c :: r → spaceB c = false ∧ c ≠ 47 ∧ c ≠ 62
 rest : ∀ x ∈ s.tail, slashedB x = false ∧ x ≠ 61
structure TagName (s : Txt) : Prop where
 low : lowL s = s
 letter : letterL s = true
 all : ∀ x ∈ s, slashedB x = false
theorem fi_zero {p : UInt8 → Bool} {c : UInt8} {r : Txt} (h : p c = true) : (c :: r).findIdx p = 0 := by simp [List.findIdx_cons, h]
theorem skip_no {c : UInt8} {r : Txt} (h : spaceB c = false) : skipS (c :: r) = c :: r := by
 unfold skipS
 rw [fi_zero (by simp [h])]
 rfl
theorem hasL_not {l : Txt} {n : Nat} {c : UInt8} (e : c.toNat = n) (h : hasL l n = false) : c ∉ l := by
 subst e
 exact hasL_mem h
theorem attr_back {nm v r : Txt} (hn : AttrName nm) : attrF (nm ++ 61 :: 34 :: (wrL true v ++ 34 :: r)) = ((nm, v), r, true) := by
 obtain ⟨c, t, rfl⟩ := List.exists_cons_of_ne_nil hn.ne
 have hk : attrK (c :: t ++ 61 :: 34 :: (wrL true v ++ 34 :: r)) = (c :: t).length := by
  unfold attrK
  rw [List.cons_append, List.tail_cons, fi_hit (by decide) (fun x hx => by
   have := hn.rest x hx
   simp [this.1, this.2])]
  simp
  omega
 have e1 : (c :: t ++ 61 :: 34 :: (wrL true v ++ 34 :: r)).take (c :: t).length = c :: t := List.take_left
 have e2 : (c :: t ++ 61 :: 34 :: (wrL true v ++ 34 :: r)).drop (c :: t).length = 61 :: 34 :: (wrL true v ++ 34 :: r) := List.drop_left
 have e3 : cut1 34 (wrL true v ++ 34 :: r) = (wrL true v, r, true) := cut1_at (hasL_not (by decide) (wr_no true 34 (by simp) v))
 unfold attrF
 rw [hk, e1, e2, hn.low]
 unfold attrR
 rw [skip_no (by decide)]
 simp only [if_true]
 rw [skip_no (by decide)]
 simp [valF, e3, dec_wr]
theorem attrs_self (acc : List (Txt × Txt)) (b : Bool) (r : Txt) : attrsF acc (selfW b ++ 62 :: r) = some (acc, b, r) := by
 cases b with
 | false => exact attrs_gt acc r
 | true =>
   have hg : gapF (32 :: 47 :: 62 :: r) = 2 := by simp [gapF, List.findIdx_cons, spaceB]
   show attrsF acc (32 :: 47 :: 62 :: r) = _
   rw [attrsF_eq, slashF, hg]
   simp
theorem addA_new {acc : List (Txt × Txt)} {a : Txt × Txt} (h : ∀ b ∈ acc, b.1 ≠ a.1) : addA acc a = acc ++ [a] := by
 unfold addA
 rw [if_neg]
 rw [List.any_eq_true]
 rintro ⟨b, hb, e⟩
 exact h b hb (by simpa using e)
theorem attrs_back (b : Bool) (r : Txt) : ∀ (l acc : List (Txt × Txt)), (∀ a ∈ l, AttrName a.1) → ((acc ++ l).map Prod.fst).Nodup → attrsF acc (attrsW l ++ (selfW b ++ 62 :: r)) = some (acc ++ l, b, r)
 | [], acc, _, _ => by simpa [attrsW] using attrs_self acc b r
 | a :: l, acc, h1, h2 => by
   have ha := h1 a (by simp)
   obtain ⟨nm, v⟩ := a
   simp only at ha
   have e0 : attrsW ((nm, v) :: l) ++ (selfW b ++ 62 :: r) = 32 :: (nm ++ 61 :: 34 :: (wrL true v ++ 34 :: (attrsW l ++ (selfW b ++ 62 :: r)))) := by simp [attrsW]
   have hb := attr_back (v := v) (r := attrsW l ++ (selfW b ++ 62 :: r)) ha
   obtain ⟨c, t, rfl⟩ := List.exists_cons_of_ne_nil ha.ne
   obtain ⟨f1, f2, f3⟩ := ha.first c t rfl
   have hg : gapF (32 :: (c :: t ++ 61 :: 34 :: (wrL true v ++ 34 :: (attrsW l ++ (selfW b ++ 62 :: r))))) = 1 := by
    unfold gapF
    rw [List.findIdx_cons, show (!spaceB 32 && (32 : UInt8) != 47) = false from by decide, List.cons_append, fi_zero (by simp [f1, f2])]
    simp
   have hne : ∀ b ∈ acc, b.1 ≠ (c :: t) := by
    intro x hx e
    rw [List.map_append, List.nodup_append] at h2
    exact h2.2.2 x.1 (List.mem_map_of_mem hx) (c :: t) (by simp) e
   rw [e0, attrsF_eq, hg]
   rw [List.cons_append] at hb ⊢
   simp only [List.drop_succ_cons, List.drop_zero]
   rw [if_neg f3, hb]
   simp only [if_true]
   rw [addA_new hne, attrs_back b r l _ (fun a ha => h1 a (by simp [ha])) (by simpa using h2)]
   simp
theorem attrsW_first (l : List (Txt × Txt)) (b : Bool) (r : Txt) : ∃ c q, attrsW l ++ (selfW b ++ 62 :: r) = c :: q ∧ slashedB c = true := by
 cases l with
 | nil =>
   cases b with
   | false => exact ⟨62, r, rfl, by decide⟩
   | true => exact ⟨32, 47 :: 62 :: r, rfl, by decide⟩
 | cons a l => exact ⟨32, _, rfl, by decide⟩
theorem opened_back {nm r : Txt} {l : List (Txt × Txt)} {b : Bool} (hn : TagName nm) (h1 : ∀ a ∈ l, AttrName a.1) (h2 : (l.map Prod.fst).Nodup) :
 openedF (nm ++ (attrsW l ++ (selfW b ++ 62 :: r))) = some (⟨0, nm, l, [], b⟩, r) := by
 obtain ⟨c, q, e, hc⟩ := attrsW_first l b r
 have h3 := attrs_back b r l [] h1 (by simpa using h2)
 rw [e] at h3 ⊢
 rw [opened_name hn.all hc, h3, hn.low]
 rfl
theorem letter_app {s r : Txt} (h : letterL s = true) : letterL (s ++ r) = true := by
 cases s with
 | nil => simp [letterL] at h
 | cons c t => exact h
theorem open_start {nm r : Txt} {l : List (Txt × Txt)} {b : Bool} (hn : TagName nm) (h1 : ∀ a ∈ l, AttrName a.1) (h2 : (l.map Prod.fst).Nodup) :
 openF (nm ++ (attrsW l ++ (selfW b ++ 62 :: r))) = some (if rawB nm || softB nm then (⟨1, nm, l, [], b⟩ :: insideT nm r, insideR nm r) else ([⟨1, nm, l, [], b⟩], r)) := by
 unfold openF
 rw [if_pos (letter_app hn.letter), tagF, opened_back hn h1 h2]
 simp
theorem open_end {nm r : Txt} (hn : TagName nm) : openF (47 :: (nm ++ 62 :: r)) = some ([⟨2, nm, [], [], false⟩], r) := by
 have h := opened_back (r := r) (l := []) (b := false) hn (by simp) (by simp)
 simp only [attrsW, selfW, List.flatMap_nil, List.nil_append, Bool.false_eq_true, if_false] at h
 unfold openF
 rw [if_neg (by simp [letterL, letterB]), if_pos (by simp [Lib.hasPrefix, letter_app hn.letter]), List.tail_cons, tagF, h]
 simp
theorem wr_nil {q : Bool} {x : Txt} (h : x ≠ []) : wrL q x ≠ [] := by
 intro e
 have h1 := wr_ge q x
 rw [e] at h1
 exact h (List.eq_nil_of_length_eq_zero (by simpa using h1))
theorem tell_wr {x : Txt} (h : x ≠ []) : tellF (wrL false x) = [⟨0, [], [], x, false⟩] := by
 unfold tellF
 rw [if_neg (wr_nil h), dec_wr]
def plainB (s but : Txt) : Bool := s.all (fun c => !(spaceB c || (decide (65 ≤ c.toNat) && decide (c.toNat ≤ 90)) || c == 0 || but.contains c)) && !s.isEmpty
def rightB (s : Txt) : Bool := plainB s [47, 62] && letterL s
def attrB (s : Txt) : Bool := plainB s [47, 62, 34, 39, 60, 61]
theorem plain_each {s but : Txt} (h : plainB s but = true) : ∀ c ∈ s, spaceB c = false ∧ ¬ (65 ≤ c.toNat ∧ c.toNat ≤ 90) ∧ c ∉ but := by
 unfold plainB at h
 rw [Bool.and_eq_true, List.all_eq_true] at h
 intro c hc
 have := h.1 c hc
 simp only [Bool.not_eq_true', Bool.or_eq_false_iff, Bool.and_eq_false_iff, decide_eq_false_iff_not] at this
 obtain ⟨⟨⟨a1, a2⟩, a3⟩, a4⟩ := this
 refine ⟨a1, by omega, ?_⟩
 intro hm
 rw [← List.contains_iff_mem] at hm
 rw [hm] at a4
 cases a4
theorem low_same : ∀ {s : Txt}, (∀ c ∈ s, ¬ (65 ≤ c.toNat ∧ c.toNat ≤ 90)) → lowL s = s
 | [], _ => rfl
 | c :: s, h => by
   have ih := low_same (s := s) (fun x hx => h x (by simp [hx]))
   unfold lowL at *
   rw [List.map_cons, ih, lowB, if_neg (h c (by simp))]
theorem right_name {s : Txt} (h : rightB s = true) : TagName s := by
 unfold rightB at h
 rw [Bool.and_eq_true] at h
 have hp := plain_each h.1
 refine ⟨low_same fun c hc => (hp c hc).2.1, h.2, fun x hx => ?_⟩
 obtain ⟨a1, a2, a3⟩ := hp x hx
 simp only [List.mem_cons, List.not_mem_nil, or_false, not_or] at a3
 simp [slashedB, a1, a3.1, a3.2]
end Go.Proofs.YtkcmghlhpbepcaaGreatDoor

/- Plain: TokenShapes: each token of any bytes has what its kind has, and nothing else. No program in sight. -/
namespace Go.Proofs.YtkcmghlhpbepcaaGreatDoor
open Go.Proofs
def okB (c : UInt8) : Bool := !((decide (65 ≤ c.toNat) && decide (c.toNat ≤ 90)) || c == 32 || c == 9 || c == 10 || c == 12 || c == 13 || c == 62)
def lowerOK (s : Txt) : Bool := s.all okB
structure NameOK (s : Txt) : Prop where
 ne : s ≠ []
 ok : lowerOK s = true
structure AttrsOK (l : List (Txt × Txt)) : Prop where
 each : ∀ a ∈ l, NameOK a.1
 once : (l.map Prod.fst).Nodup
structure ShapeOK (t : Tok) : Prop where
 ge : 0 ≤ t.kind
 le : t.kind ≤ 4
 tag : t.kind = 1 ∨ t.kind = 2 → NameOK t.name ∧ t.data = []
 other : t.kind ≠ 1 → t.kind ≠ 2 → t.name = []
 start : t.kind ≠ 1 → t.attrs = [] ∧ t.self = false
 text : t.kind = 0 → t.data ≠ []
 attrs : AttrsOK t.attrs
theorem encode_ne (i : Int) : (Utf8.encode i).data.toList ≠ [] := by
 unfold Utf8.encode
 simp only
 repeat' split
 all_goals simp
theorem meantL_ne {l : Txt} (h : (meantL l).2 = true) : (meantL l).1 ≠ [] := by
 unfold meantL codedL namedL codeL at *
 repeat' split
 all_goals first | exact encode_ne _ | simp_all
theorem dec_ne : ∀ {l : Txt}, l ≠ [] → decL l ≠ []
 | [], h => absurd rfl h
 | c :: l, _ => by
   rw [decL_cons]
   split
   ·split
    ·rename_i h
     rw [Bool.and_eq_true] at h
     have := meantL_ne h.2
     simp [this]
    ·simp
   ·simp
theorem tk_no {p : UInt8 → Bool} : ∀ {s : Txt} {x : UInt8}, x ∈ s.take (s.findIdx p) → p x = false
 | [], _, h => by simp at h
 | c :: s, x, h => by
   rw [List.findIdx_cons] at h
   cases hc : p c with
   | true => rw [hc] at h; simp at h
   | false =>
     rw [hc] at h
     simp at h
     rcases h with rfl | h
     ·exact hc
     ·exact tk_no h
theorem dr_yes {p : UInt8 → Bool} : ∀ {s r : Txt} {c : UInt8}, s.drop (s.findIdx p) = c :: r → p c = true
 | [], _, _, h => by simp at h
 | x :: s, r, c, h => by
   rw [List.findIdx_cons] at h
   cases hx : p x with
   | true =>
     rw [hx] at h
     simp at h
     rw [← h.1]
     exact hx
   | false =>
     rw [hx] at h
     simp at h
     exact dr_yes h
theorem low_ok : ∀ c : UInt8, (slashedB c || okB (lowB c)) = true := all_u8 (by decide +kernel)
theorem low_first : ∀ c : UInt8, (spaceB c || c == 62 || okB (lowB c)) = true := all_u8 (by decide +kernel)
theorem letter_no : ∀ c : UInt8, (!letterB c || !slashedB c) = true := all_u8 (by decide +kernel)
theorem lowL_ok {s : Txt} (h : ∀ x ∈ s, slashedB x = false) : lowerOK (lowL s) = true := by
 unfold lowerOK lowL
 rw [List.all_eq_true]
 intro x hx
 obtain ⟨y, hy, rfl⟩ := List.mem_map.1 hx
 have := low_ok y
 rw [h y hy] at this
 simpa using this
theorem attrF_fst (s : Txt) : (attrF s).1.1 = lowL (s.take (attrK s)) := by
 unfold attrF attrR valF
 repeat' split
 all_goals rfl
theorem attrF_name {c : UInt8} {s : Txt} (h1 : spaceB c = false) (h2 : c ≠ 62) : NameOK (attrF (c :: s)).1.1 := by
 have e : attrK (c :: s) = s.findIdx (fun c => slashedB c || c == 61) + 1 := by unfold attrK; simp only [List.tail_cons]; omega
 rw [attrF_fst, e, List.take_succ_cons]
 refine ⟨by simp [lowL], ?_⟩
 have h3 := low_first c
 rw [h1, show (c == 62) = false from beq_eq_false_iff_ne.2 h2] at h3
 have h4 := lowL_ok (s := s.take (s.findIdx (fun c => slashedB c || c == 61))) (fun x hx => by
  have := tk_no hx
  simp only [Bool.or_eq_false_iff] at this
  exact this.1)
 unfold lowerOK lowL at *
 rw [List.map_cons, List.all_cons, h4]
 simpa using h3
theorem addA_ok {acc : List (Txt × Txt)} {a : Txt × Txt} (h : AttrsOK acc) (ha : NameOK a.1) : AttrsOK (addA acc a) := by
 unfold addA
 split
 ·exact h
 ·rename_i hn
  refine ⟨?_, ?_⟩
  ·intro b hb
   rw [List.mem_append] at hb
   rcases hb with hb | hb
   ·exact h.each b hb
   ·simp at hb
    subst hb
    exact ha
  ·rw [List.map_append, List.nodup_append]
   refine ⟨h.once, by simp, ?_⟩
   intro x hx y hy
   simp at hy
   subst hy
   intro e
   subst e
   obtain ⟨b, hb, hb2⟩ := List.mem_map.1 hx
   exact hn (List.any_eq_true.2 ⟨b, hb, by simp [hb2]⟩)
theorem gap_head {s r : Txt} {c : UInt8} (h : s.drop (gapF s) = c :: r) : spaceB c = false ∧ c ≠ 47 := by
 have := dr_yes h
 simpa using this
theorem attrsN_ok : ∀ (n : Nat) (acc : List (Txt × Txt)) (s : Txt) r, AttrsOK acc → attrsN n acc s = some r → AttrsOK r.1
 | 0, _, _, _, _, h => by simp [attrsN] at h
 | n + 1, acc, s, r, ha, h => by
   unfold attrsN at h
   cases hd : s.drop (gapF s) with
   | nil => rw [hd] at h; simp at h
   | cons c s1 =>
     rw [hd] at h
     have hg := gap_head hd
     simp only at h
     split at h
     ·simp at h
      subst h
      exact ha
     ·rename_i hc
      split at h
      ·exact attrsN_ok n _ _ r (addA_ok ha (attrF_name hg.1 hc)) h
      ·simp at h
theorem attrs0 : AttrsOK [] := ⟨by simp, by simp⟩
theorem opened_ok {s : Txt} {r : Tok × Txt} (hl : letterL s = true) (h : openedF s = some r) : r.1.kind = 0 ∧ NameOK r.1.name ∧ (∀ x ∈ r.1.name, slashedB x = false) ∧ r.1.data = [] ∧ AttrsOK r.1.attrs := by
 unfold openedF at h
 cases ha : attrsF [] (s.drop (s.findIdx slashedB)) with
 | none => rw [ha] at h; simp at h
 | some q =>
   rw [ha] at h
   simp at h
   have hq := attrsN_ok _ _ _ _ attrs0 ha
   have hl2 : ∀ c : UInt8, (slashedB c || !slashedB (lowB c)) = true := all_u8 (by decide +kernel)
   subst h
   refine ⟨rfl, ⟨?_, lowL_ok fun x hx => tk_no hx⟩, ?_, rfl, hq⟩
   ·cases s with
    | nil => simp [letterL] at hl
    | cons c t =>
      have := letter_no c
      have hc : letterB c = true := hl
      rw [hc] at this
      have hc2 : slashedB c = false := by simpa using this
      simp [lowL, List.findIdx_cons, hc2]
   ·intro x hx
    unfold lowL at hx
    obtain ⟨y, hy, rfl⟩ := List.mem_map.1 hx
    have := hl2 y
    rw [tk_no hy] at this
    simpa using this
theorem text_ok {d : Txt} (h : d ≠ []) : ShapeOK ⟨0, [], [], d, false⟩ := ⟨by simp, by simp, by simp, by simp, by simp, fun _ => h, attrs0⟩
theorem inside_ok (nm s : Txt) : ∀ t ∈ insideT nm s, ShapeOK t := by
 unfold insideT
 split
 ·simp
 ·rename_i h
  intro t ht
  simp only [List.mem_singleton] at ht
  subst ht
  refine text_ok ?_
  split
  ·exact dec_ne h
  ·exact h
theorem tag_ok {k : Int} {s : Txt} (hk : k = 1 ∨ k = 2) (hl : letterL s = true) : ∀ t ∈ (tagF k s).1, ShapeOK t := by
 unfold tagF
 cases ho : openedF s with
 | none => simp
 | some r =>
   obtain ⟨h1, h2, h3, h4, h5⟩ := opened_ok hl ho
   obtain ⟨t, q⟩ := r
   simp only at *
   split
   ·intro x hx
    simp only [List.mem_singleton] at hx
    subst hx
    exact ⟨by simp, by simp, fun _ => ⟨h2, rfl⟩, by simp, by simp, by simp, attrs0⟩
   ·rename_i hk2
    have hk1 : k = 1 := by omega
    subst hk1
    have h0 : ShapeOK ⟨1, t.name, t.attrs, t.data, t.self⟩ := ⟨by simp, by simp, fun _ => ⟨h2, h4⟩, by simp, by simp, by simp, h5⟩
    split
    ·intro x hx
     rw [List.mem_cons] at hx
     rcases hx with rfl | hx
     ·exact h0
     ·exact inside_ok _ _ x hx
    ·intro x hx
     simp only [List.mem_singleton] at hx
     subst hx
     exact h0
theorem note_ok {k : Int} {d : Txt} (hk : k = 3 ∨ k = 4) : ShapeOK ⟨k, [], [], d, false⟩ := by
 rcases hk with rfl | rfl <;> exact ⟨by simp, by simp, by simp, by simp, by simp, by simp, attrs0⟩
theorem noteF_ok {k : Int} (s e : Txt) (hk : k = 3 ∨ k = 4) : ∀ t ∈ (noteF k s e).1, ShapeOK t := by
 intro t ht
 unfold noteF at ht
 simp only [List.mem_singleton] at ht
 subst ht
 exact note_ok hk
theorem comment_ok (s : Txt) : ∀ t ∈ (commentF s).1, ShapeOK t := by
 have h3 : ShapeOK ⟨3, [], [], [], false⟩ := note_ok (.inl rfl)
 unfold commentF
 split
 ·simpa using h3
 ·split
  ·simpa using h3
  ·exact noteF_ok _ _ (.inl rfl)
theorem open_ok {s : Txt} {r : List Tok × Txt} (h : openF s = some r) : ∀ t ∈ r.1, ShapeOK t := by
 unfold openF at h
 split at h
 ·rename_i hl
  simp at h; subst h; exact tag_ok (.inl rfl) hl
 ·split at h
  ·rename_i hl
   rw [Bool.and_eq_true] at hl
   simp at h; subst h; exact tag_ok (.inr rfl) hl.2
  ·split at h
   ·simp at h; subst h; simp
   ·split at h
    ·simp at h; subst h; exact comment_ok _
    ·split at h
     ·simp at h; subst h; exact noteF_ok _ _ (.inr rfl)
     ·split at h
      ·simp at h; subst h; exact noteF_ok _ _ (.inl rfl)
      ·split at h
       ·simp at h; subst h; exact noteF_ok _ _ (.inl rfl)
       ·split at h
        ·simp at h; subst h; exact noteF_ok _ _ (.inl rfl)
        ·simp at h
theorem tell_ok (t : Txt) : ∀ x ∈ tellF t, ShapeOK x := by
 unfold tellF
 split
 ·simp
 ·rename_i h
  intro x hx
  simp only [List.mem_singleton] at hx
  subst hx
  exact text_ok (dec_ne h)
theorem runN_ok : ∀ (n : Nat) (t s : Txt), ∀ x ∈ runN n t s, ShapeOK x
 | 0, t, s, x, h => tell_ok t x h
 | n + 1, t, s, x, h => by
   unfold runN at h
   cases hd : s.drop (textF s) with
   | nil => rw [hd] at h; exact tell_ok _ x h
   | cons c s1 =>
     rw [hd] at h
     simp only at h
     cases ho : openF s1 with
     | none => rw [ho] at h; exact runN_ok n _ _ x h
     | some r =>
       rw [ho] at h
       obtain ⟨ts, q⟩ := r
       simp only [List.mem_append] at h
       rcases h with (h | h) | h
       ·exact tell_ok _ x h
       ·exact open_ok ho x h
       ·exact runN_ok n _ _ x h
end Go.Proofs.YtkcmghlhpbepcaaGreatDoor

/- Plain: TokenComments: a comment's text without > comes back; a doctype's is no longer than it was. No program in sight. -/
namespace Go.Proofs.YtkcmghlhpbepcaaGreatDoor
open Go.Proofs
theorem dropWhile_le {p : UInt8 → Bool} : ∀ l : Txt, (l.dropWhile p).length ≤ l.length
 | [] => by simp
 | c :: l => by
   have := dropWhile_le (p := p) l
   rw [List.dropWhile_cons]
   split
   ·simp only [List.length_cons]; omega
   ·exact Nat.le_refl _
end Go.Proofs.YtkcmghlhpbepcaaGreatDoor

/- Plain: TokenAgain, first part: what the tokens of any bytes are like. No program in sight. -/
namespace Go.Proofs.YtkcmghlhpbepcaaGreatDoor
open Go.Proofs
structure NoteOK (d : Txt) : Prop where
 no1 : ∀ j, Lib.occAt d [45, 45, 62] j = false
 no2 : ∀ j, Lib.occAt d [45, 45, 33, 62] j = false
 gt : Lib.hasPrefix d [62] = false
 arrow : Lib.hasPrefix d [45, 62] = false
structure DocOK (d : Txt) : Prop where
 no : (62 : UInt8) ∉ d
 trim : trimL (32 :: d) = d
structure StartOK (nm : Txt) (l : List (Txt × Txt)) : Prop where
 name : TagName nm
 attrs : ∀ a ∈ l, AttrName a.1
 once : (l.map Prod.fst).Nodup
def Closed (nm : Txt) (r : List Tok) : Prop := r = [] ∨ ∃ q, r = ⟨2, nm, [], [], false⟩ :: q
def RawOK (nm d : Txt) : Prop := ∀ j, j < d.length → closesB nm (d.drop j) = false
inductive Good : List Tok → Prop
 | nil : Good []
 | text {d : Txt} {r : List Tok} : d ≠ [] → Good r → Good (⟨0, [], [], d, false⟩ :: r)
 | start {nm : Txt} {l : List (Txt × Txt)} {b : Bool} {r : List Tok} : StartOK nm l → (rawB nm || softB nm) = false → Good r → Good (⟨1, nm, l, [], b⟩ :: r)
 | shut {nm : Txt} {l : List (Txt × Txt)} {b : Bool} {r : List Tok} : StartOK nm l → (rawB nm || softB nm) = true → Closed nm r → Good r → Good (⟨1, nm, l, [], b⟩ :: r)
 | full {nm : Txt} {l : List (Txt × Txt)} {b : Bool} {d : Txt} {r : List Tok} : StartOK nm l → (rawB nm || softB nm) = true → d ≠ [] → (rawB nm = true → RawOK nm d) → Closed nm r → Good r → Good (⟨1, nm, l, [], b⟩ :: ⟨0, [], [], d, false⟩ :: r)
 | shuts {nm : Txt} {r : List Tok} : TagName nm → Good r → Good (⟨2, nm, [], [], false⟩ :: r)
 | note {d : Txt} {r : List Tok} : NoteOK d → Good r → Good (⟨3, [], [], d, false⟩ :: r)
 | doct {d : Txt} {r : List Tok} : DocOK d → Good r → Good (⟨4, [], [], d, false⟩ :: r)
theorem endF_le (nm : Txt) : ∀ s : Txt, endF nm s ≤ s.length
 | [] => by simp [endF]
 | c :: t => by
   have := endF_le nm t
   rw [endF]
   split
   ·omega
   ·simp only [List.length_cons]; omega
theorem endF_no (nm : Txt) : ∀ (s : Txt) (j : Nat), j < endF nm s → closesB nm (s.drop j) = false
 | [], j, h => by simp [endF] at h
 | c :: t, j, h => by
   rw [endF] at h
   split at h
   ·omega
   ·rename_i hc
    cases j with
    | zero => simpa using hc
    | succ j =>
      rw [List.drop_succ_cons]
      exact endF_no nm t j (by omega)
theorem endF_at (nm : Txt) : ∀ (s : Txt), s.drop (endF nm s) = [] ∨ closesB nm (s.drop (endF nm s)) = true
 | [] => by simp
 | c :: t => by
   rw [endF]
   split
   ·rename_i hc
    exact .inr hc
   ·rw [Nat.add_comm, List.drop_succ_cons]
    exact endF_at nm t
theorem run_open {t r : Txt} {x : List Tok × Txt} (ho : openF r = some x) : runF t (60 :: r) = tellF t ++ x.1 ++ runF [] x.2 := by
 have := run_hit (t := t) (a := []) (by simp) ho
 simpa using this
theorem insideR_le (nm s : Txt) : (insideR nm s).length ≤ s.length := by simp [insideR]
end Go.Proofs.YtkcmghlhpbepcaaGreatDoor
