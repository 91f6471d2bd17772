/- Plain: TokenAgain, second part: what is written of the tokens of any bytes is cut to these, texts that stood side by side joined. No program in sight. -/
import Derived.Test.YtcipgppjhhokbaaDoorTokG
set_option linter.unusedVariables false
namespace Go.Proofs.YtcipgppjhhokbaaDoor
open Go.Proofs

theorem occ_into {d X sub : Txt} {j : Nat} (h : Lib.occAt (d ++ X) sub j = true) (hl : j + sub.length ≤ d.length) : Lib.occAt d sub j = true := by
  have hp := List.isPrefixOf_iff_prefix.1 h
  rw [List.drop_append_of_le_length (by omega)] at hp
  refine List.isPrefixOf_iff_prefix.2 ?_
  exact List.prefix_of_prefix_length_le hp (List.prefix_append _ _) (by rw [List.length_drop]; omega)
theorem comment_back {d X : Txt} (h : NoteOK d) : commentF (d ++ 45 :: 45 :: 62 :: X) = ([⟨3, [], [], d, false⟩], X) := by
  have g : ∀ k, (d ++ 45 :: 45 :: 62 :: X)[d.length + k]? = (45 :: 45 :: 62 :: X)[k]? := by
    intro k
    rw [List.getElem?_append_right (by omega)]
    congr 1
    omega
  have g0 := g 0
  have g1 := g 1
  have g2 := g 2
  simp only [List.getElem?_cons_zero, List.getElem?_cons_succ] at g0 g1 g2
  have n1 : Lib.hasPrefix (d ++ 45 :: 45 :: 62 :: X) [62] = false := by
    have := h.gt
    cases d with
    | nil => simp [Lib.hasPrefix, List.isPrefixOf]
    | cons c t => simp [Lib.hasPrefix, List.isPrefixOf] at this ⊢; exact this
  have n2 : Lib.hasPrefix (d ++ 45 :: 45 :: 62 :: X) [45, 62] = false := by
    have := h.arrow
    match d, this with
    | [], _ => simp [Lib.hasPrefix, List.isPrefixOf]
    | [c], _ => simp [Lib.hasPrefix, List.isPrefixOf]
    | c :: e :: t, this => simp [Lib.hasPrefix, List.isPrefixOf] at this ⊢; exact this
  have i1 : Lib.index (d ++ 45 :: 45 :: 62 :: X) [45, 45, 62] = d.length := by
    refine Lib.index_hit (i := d.length) ?_ (by simp) (by simp [Lib.occAt])
    intro j hj
    cases hp : Lib.occAt (d ++ 45 :: 45 :: 62 :: X) [45, 45, 62] j with
    | false => rfl
    | true =>
      by_cases hl : j + 3 ≤ d.length
      · have := occ_into hp (by simpa using hl)
        rw [h.no1 j] at this
        cases this
      · have h3 := occ_get hp 2 (by simp)
        rcases (by omega : j + 2 = d.length + 0 ∨ j + 2 = d.length + 1) with e | e
        · rw [e, g0] at h3; simp at h3
        · rw [e, g1] at h3; simp at h3
  have i2 : ¬ (0 ≤ Lib.index (d ++ 45 :: 45 :: 62 :: X) [45, 45, 33, 62] ∧ (Lib.index (d ++ 45 :: 45 :: 62 :: X) [45, 45, 62] < 0 ∨ Lib.index (d ++ 45 :: 45 :: 62 :: X) [45, 45, 33, 62] < Lib.index (d ++ 45 :: 45 :: 62 :: X) [45, 45, 62])) := by
    rw [i1]
    rcases Lib.index_spec (d ++ 45 :: 45 :: 62 :: X) [45, 45, 33, 62] with ⟨h1, h2⟩ | ⟨j, h1, h2, hp, h4⟩
    · omega
    · rw [h1]
      rintro ⟨_, hj⟩
      have hj : j < d.length := by omega
      by_cases hl : j + 4 ≤ d.length
      · have := occ_into hp (by simpa using hl)
        rw [h.no2 j] at this
        cases this
      · have h3 := occ_get hp 3 (by simp)
        have h5 := occ_get hp 2 (by simp)
        rcases (by omega : j + 3 = d.length + 0 ∨ j + 3 = d.length + 1 ∨ j + 3 = d.length + 2) with e | e | e
        · rw [e, g0] at h3; simp at h3
        · rw [e, g1] at h3; simp at h3
        · rw [(by omega : j + 2 = d.length + 1), g1] at h5; simp at h5
  unfold commentF
  rw [n1, n2]
  simp only [Bool.false_eq_true, if_false]
  rw [if_neg i2]
  simp [noteF, untilF, cut_hit i1]
theorem open_comment {d X : Txt} (h : NoteOK d) : openF (33 :: 45 :: 45 :: (d ++ 45 :: 45 :: 62 :: X)) = some ([⟨3, [], [], d, false⟩], X) := by
  unfold openF
  rw [if_neg (by simp [letterL, letterB]), if_neg (by simp [Lib.hasPrefix]), if_neg (by simp [Lib.hasPrefix]), if_pos (by simp [Lib.hasPrefix])]
  simp [comment_back h]
theorem open_doc {d X : Txt} (h : DocOK d) : openF (33 :: 100 :: 111 :: 99 :: 116 :: 121 :: 112 :: 101 :: 32 :: (d ++ 62 :: X)) = some ([⟨4, [], [], d, false⟩], X) := by
  have hc : Lib.cut (32 :: (d ++ 62 :: X)) [62] = (32 :: d, X, true) := by
    rw [cut_eq, show 32 :: (d ++ 62 :: X) = (32 :: d) ++ 62 :: X from rfl]
    exact cut1_gt (by simp [h.no])
  unfold openF
  rw [if_neg (by simp [letterL, letterB]), if_neg (by simp [Lib.hasPrefix]), if_neg (by simp [Lib.hasPrefix]), if_neg (by simp [Lib.hasPrefix]), if_pos (by simp [isDoctypeB, lowL, lowB, letterL, letterB])]
  simp [noteF, untilF, hc, h.trim]

theorem dec_wr_app (q : Bool) : ∀ l r, decL (wrL q l ++ r) = l ++ decL r
  | [], r => by simp [wrL]
  | [c], r => by
    rw [wrL, dec_esc]
    rfl
  | c :: d :: l, r => by
    rw [wrL]
    split
    · rename_i h
      rw [List.append_assoc, dec_nbsp, dec_wr_app q l r, h.1, h.2]
      rfl
    · rw [List.append_assoc, dec_esc, dec_wr_app q (d :: l) r]
      rfl
theorem run_push {q a Y : Txt} (ha : (60 : UInt8) ∉ a) : runF q (a ++ Y) = runF (q ++ a) Y := by
  have hf : textF (a ++ Y) = a.length + textF Y := by
    unfold textF
    rw [List.findIdx_append]
    have h2 : ¬ (a.findIdx (fun c => c == 60) < a.length) := by
      rw [List.findIdx_lt_length]
      rintro ⟨x, hx, e⟩
      exact ha (by rw [← beq_iff_eq.1 e]; exact hx)
    rw [if_neg h2, Nat.add_comm]
  have e1 : (a ++ Y).take (a.length + textF Y) = a ++ Y.take (textF Y) := by rw [List.take_append, List.take_of_length_le (by omega), Nat.add_sub_cancel_left]
  have e2 : (a ++ Y).drop (a.length + textF Y) = Y.drop (textF Y) := by
    rw [List.drop_append, List.drop_eq_nil_of_le (by omega), Nat.add_sub_cancel_left, List.nil_append]
  rw [runF_eq, hf, runF_eq (q ++ a), e2, e1]
  cases hd : Y.drop (textF Y) with
  | nil => simp
  | cons c s1 =>
    simp only
    cases openF s1 with
    | none => simp
    | some x => simp

def tellP (p : Txt) : List Tok := if p = [] then [] else [⟨0, [], [], p, false⟩]
/-- Texts that stand side by side are joined. -/
def joinP : Txt → List Tok → List Tok
  | p, [] => tellP p
  | p, t :: r => if t.kind = 0 then joinP (p ++ t.data) r else tellP p ++ t :: joinP [] r

/-- A written text that was gone over is as the text that was. -/
structure Pend (q p : Txt) : Prop where
  dec : ∀ r, decL (q ++ r) = p ++ decL r
  no : (60 : UInt8) ∉ q
  nil : q = [] ↔ p = []
theorem pend0 : Pend [] [] := ⟨fun r => rfl, by simp, by simp⟩
theorem pend_tell {q p : Txt} (h : Pend q p) : tellF q = tellP p := by
  unfold tellF tellP
  have h1 := h.dec []
  rw [decL_nil, List.append_nil, List.append_nil] at h1
  by_cases e : q = []
  · rw [if_pos e, if_pos (h.nil.1 e)]
  · rw [if_neg e, if_neg (fun x => e (h.nil.2 x)), h1]
theorem pend_text {q p d : Txt} (h : Pend q p) (hd : d ≠ []) : Pend (q ++ wrL false d) (p ++ d) := by
  refine ⟨fun r => ?_, ?_, ?_⟩
  · rw [List.append_assoc, h.dec, dec_wr_app, List.append_assoc]
  · rw [List.mem_append]
    rintro (e | e)
    · exact h.no e
    · exact text_not d e
  · simp [hd, wr_nil hd]
theorem write_closed {nm : Txt} {r : List Tok} (h : Closed nm r) (b : Bool) : writeN b r = writeN false r := by
  rcases h with rfl | ⟨q, rfl⟩
  · rfl
  · rfl
theorem join_closed {nm : Txt} {r : List Tok} (h : Closed nm r) (p : Txt) : joinP p r = tellP p ++ joinP [] r := by
  rcases h with rfl | ⟨q, rfl⟩
  · simp [joinP, tellP]
  · simp [joinP, tellP]
theorem write_end (nm : Txt) (q : List Tok) (b : Bool) : writeN b (⟨2, nm, [], [], false⟩ :: q) = 60 :: 47 :: (nm ++ 62 :: writeN false q) := by
  simp [writeN, tokW, taggedW, attrsW, selfW, rawT]
theorem write_start (nm : Txt) (l : List (Txt × Txt)) (b : Bool) (q : List Tok) : writeN false (⟨1, nm, l, [], b⟩ :: q) = 60 :: (nm ++ (attrsW l ++ (selfW b ++ 62 :: writeN (rawB nm) q))) := by
  simp [writeN, tokW, taggedW, rawT]
theorem endF_closed {nm : Txt} {r : List Tok} (h : Closed nm r) : endF nm (writeN false r) = 0 := by
  rcases h with rfl | ⟨q, rfl⟩
  · rfl
  · rw [write_end]
    exact endF_here
theorem endF_text {nm X : Txt} : ∀ {a : Txt}, (60 : UInt8) ∉ a → endF nm (a ++ X) = a.length + endF nm X
  | [], _ => by simp
  | c :: a, h => by
    have hc : c ≠ 60 := fun e => h (by simp [e])
    have h0 : closesB nm (c :: (a ++ X)) = false := by
      unfold closesB
      split
      · rename_i e
        simp only [List.cons.injEq] at e
        exact absurd e.1 hc
      · rfl
    rw [List.cons_append, endF, h0, endF_text (a := a) (fun e => h (by simp [e]))]
    simp
    omega
/-- No end tag stands at a place where a text that has none is followed by another tag. -/
theorem closes_across {nm x y : Txt} (hn : (60 : UInt8) ∉ nm) (hl : lowL nm = nm) (hx : x ≠ []) (h0 : closesB nm x = false) (hy : y = [] ∨ ∃ z, y = 60 :: z) : closesB nm (x ++ y) = false := by
  rcases hy with rfl | ⟨z, rfl⟩
  · rw [List.append_nil]; exact h0
  · cases hc : closesB nm (x ++ 60 :: z) with
    | false => rfl
    | true =>
      exfalso
      match x, hx with
      | [a], _ => simp [closesB] at hc
      | a :: b :: r, _ =>
        unfold closesB at hc
        split at hc
        · rename_i r' e
          simp only [List.cons_append, List.cons.injEq] at e
          obtain ⟨rfl, rfl, rfl⟩ := e
          simp only [Bool.and_eq_true, decide_eq_true_eq, beq_iff_eq, hl] at hc
          obtain ⟨⟨h1, h2⟩, h3⟩ := hc
          rcases Nat.lt_trichotomy nm.length r.length with hlt | heq | hgt
          · have e1 : (r ++ 60 :: z).take nm.length = r.take nm.length := List.take_append_of_le_length (by omega)
            have e2 : (r ++ 60 :: z).drop nm.length = r.drop nm.length ++ 60 :: z := List.drop_append_of_le_length (by omega)
            rw [e1] at h2
            rw [e2] at h3
            cases hd : r.drop nm.length with
            | nil =>
              have := congrArg List.length hd
              simp at this
              omega
            | cons c t =>
              rw [hd, List.cons_append] at h3
              simp only at h3
              simp [closesB, h2, hl, hd, h3, hlt] at h0
          · rw [heq, List.drop_left] at h3
            exact absurd h3 (by simp [slashedB, spaceB])
          · have hm : (60 : UInt8) ∈ (r ++ 60 :: z).take nm.length := by
              rw [List.take_append, List.mem_append]
              right
              obtain ⟨k, hk⟩ : ∃ k, nm.length - r.length = k + 1 := ⟨nm.length - r.length - 1, by omega⟩
              rw [hk]
              simp
            have hm2 : lowB 60 ∈ nm := by rw [← h2]; exact List.mem_map_of_mem hm
            exact hn hm2
        · cases hc
theorem endF_raw {nm y : Txt} (hn : (60 : UInt8) ∉ nm) (hl : lowL nm = nm) (hy : y = [] ∨ ∃ z, y = 60 :: z) : ∀ {d : Txt}, RawOK nm d → endF nm (d ++ y) = d.length + endF nm y
  | [], _ => by simp
  | c :: d, h => by
    have h0 : closesB nm (c :: d) = false := by simpa using h 0 (by simp)
    have h1 := closes_across hn hl (by simp) h0 hy
    rw [List.cons_append] at h1
    rw [List.cons_append, endF, h1, endF_raw hn hl hy (d := d) (fun j hj => by
      have := h (j + 1) (by simpa using hj)
      simpa using this)]
    simp
    omega
theorem raw_name {nm : Txt} (h : rawB nm = true) : (60 : UInt8) ∉ nm ∧ softB nm = false := by
  unfold rawB inB at h
  rw [List.contains_iff_mem] at h
  simp only [rawsL, List.mem_cons, List.not_mem_nil, or_false] at h
  rcases h with e | e | e | e | e | e <;> (rw [e]; decide)
theorem closed_head {nm : Txt} {r : List Tok} (h : Closed nm r) : writeN false r = [] ∨ ∃ z, writeN false r = 60 :: z := by
  rcases h with rfl | ⟨q, rfl⟩
  · exact .inl rfl
  · rw [write_end]
    exact .inr ⟨_, rfl⟩
theorem inside_none {nm Y : Txt} (h : endF nm Y = 0) : insideT nm Y = [] ∧ insideR nm Y = Y := by
  unfold insideT insideR
  rw [h]
  simp
theorem inside_some {nm a Y : Txt} (ha : a ≠ []) (h : endF nm (a ++ Y) = a.length) : insideT nm (a ++ Y) = [⟨0, [], [], if softB nm then decL a else a, false⟩] ∧ insideR nm (a ++ Y) = Y := by
  unfold insideT insideR
  rw [h, List.take_left, List.drop_left]
  simp [ha]

/-- What is written of tokens as any bytes have them is cut to these, texts joined. -/
theorem cut_write {L : List Tok} (h : Good L) : ∀ q p, Pend q p → runF q (writeN false L) = joinP p L := by
  induction h with
  | nil => intro q p hp; rw [writeN, run_nil, pend_tell hp, joinP]
  | @text d r hd _ ih =>
    intro q p hp
    have e : writeN false (⟨0, [], [], d, false⟩ :: r) = wrL false d ++ writeN false r := by simp [writeN, tokW, rawT]
    rw [e, run_push (text_not d), ih _ _ (pend_text hp hd)]
    simp [joinP]
  | @start nm l b r hs hrs _ ih =>
    intro q p hp
    have hr : rawB nm = false := by
      rw [Bool.or_eq_false_iff] at hrs
      exact hrs.1
    rw [write_start, run_open (open_start hs.name hs.attrs hs.once), pend_tell hp, hrs, hr]
    simp [joinP, ih _ _ pend0]
  | @shut nm l b r hs hrs hcl _ ih =>
    intro q p hp
    obtain ⟨i1, i2⟩ := inside_none (endF_closed hcl)
    rw [write_start, run_open (open_start hs.name hs.attrs hs.once), pend_tell hp, hrs, write_closed hcl]
    simp [joinP, i1, i2, ih _ _ pend0]
  | @full nm l b d r hs hrs hd hraw hcl _ ih =>
    intro q p hp
    have hj : joinP p (⟨1, nm, l, [], b⟩ :: ⟨0, [], [], d, false⟩ :: r) = tellP p ++ ⟨1, nm, l, [], b⟩ :: ⟨0, [], [], d, false⟩ :: joinP [] r := by
      simp [joinP, join_closed hcl d, tellP, hd]
    have he0 := endF_closed hcl
    have key : ∃ a, writeN (rawB nm) (⟨0, [], [], d, false⟩ :: r) = a ++ writeN false r ∧ insideT nm (a ++ writeN false r) = [⟨0, [], [], d, false⟩] ∧ insideR nm (a ++ writeN false r) = writeN false r := by
      cases hr : rawB nm with
      | true =>
        obtain ⟨h60, hsoft⟩ := raw_name hr
        have he := endF_raw h60 hs.name.low (closed_head hcl) (hraw hr)
        rw [he0, Nat.add_zero] at he
        obtain ⟨i1, i2⟩ := inside_some hd he
        refine ⟨d, by simp [writeN, tokW, rawT], ?_, i2⟩
        rw [i1, hsoft]
        rfl
      | false =>
        have hsoft : softB nm = true := by rw [hr] at hrs; simpa using hrs
        have he := endF_text (nm := nm) (X := writeN false r) (text_not d)
        rw [he0, Nat.add_zero] at he
        obtain ⟨i1, i2⟩ := inside_some (wr_nil hd) he
        refine ⟨wrL false d, by simp [writeN, tokW, rawT], ?_, i2⟩
        rw [i1, hsoft]
        simp [dec_wr]
    obtain ⟨a, k1, k2, k3⟩ := key
    rw [write_start, run_open (open_start hs.name hs.attrs hs.once), pend_tell hp, hrs, k1, k2, k3, hj]
    simp [ih _ _ pend0]
  | @shuts nm r hn _ ih =>
    intro q p hp
    rw [write_end, run_open (open_end hn), pend_tell hp]
    simp [joinP, ih _ _ pend0]
  | @note d r hd _ ih =>
    intro q p hp
    have e : writeN false (⟨3, [], [], d, false⟩ :: r) = 60 :: (33 :: 45 :: 45 :: (d ++ 45 :: 45 :: 62 :: writeN false r)) := by simp [writeN, tokW, rawT]
    rw [e, run_open (open_comment hd), pend_tell hp]
    simp [joinP, ih _ _ pend0]
  | @doct d r hd _ ih =>
    intro q p hp
    have e : writeN false (⟨4, [], [], d, false⟩ :: r) = 60 :: (33 :: 100 :: 111 :: 99 :: 116 :: 121 :: 112 :: 101 :: 32 :: (d ++ 62 :: writeN false r)) := by simp [writeN, tokW, rawT]
    rw [e, run_open (open_doc hd), pend_tell hp]
    simp [joinP, ih _ _ pend0]

theorem good_tellP {p : Txt} {L : List Tok} (h : Good L) : Good (tellP p ++ L) := by
  unfold tellP
  split
  · exact h
  · rename_i hp
    exact .text hp h
theorem closed_join {nm : Txt} {r : List Tok} (h : Closed nm r) : Closed nm (joinP [] r) := by
  rcases h with rfl | ⟨q, rfl⟩
  · exact .inl rfl
  · exact .inr ⟨_, rfl⟩
theorem join_good {L : List Tok} (h : Good L) : ∀ p, Good (joinP p L) := by
  induction h with
  | nil => intro p; have := good_tellP (p := p) .nil; simpa [joinP] using this
  | @text d r hd _ ih => intro p; simpa [joinP] using ih (p ++ d)
  | @start nm l b r hs hrs _ ih => intro p; simpa [joinP] using good_tellP (p := p) (.start (b := b) hs hrs (ih []))
  | @shut nm l b r hs hrs hcl _ ih => intro p; simpa [joinP] using good_tellP (p := p) (.shut (b := b) hs hrs (closed_join hcl) (ih []))
  | @full nm l b d r hs hrs hd hraw hcl _ ih =>
    intro p
    have := good_tellP (p := p) (.full (b := b) hs hrs hd hraw (closed_join hcl) (ih []))
    simpa [joinP, join_closed hcl d, tellP, hd] using this
  | @shuts nm r hn _ ih => intro p; simpa [joinP] using good_tellP (p := p) (.shuts hn (ih []))
  | @note d r hd _ ih => intro p; simpa [joinP] using good_tellP (p := p) (.note hd (ih []))
  | @doct d r hd _ ih => intro p; simpa [joinP] using good_tellP (p := p) (.doct hd (ih []))
theorem join_join : ∀ (L : List Tok) (p : Txt), joinP [] (joinP p L) = joinP p L
  | [], p => by
    by_cases e : p = []
    · simp [joinP, tellP, e]
    · simp [joinP, tellP, e]
  | t :: r, p => by
    rw [joinP]
    split
    · exact join_join r _
    · rename_i hk
      by_cases e : p = []
      · simp [joinP, tellP, e, hk, join_join r []]
      · simp [joinP, tellP, e, hk, join_join r []]
theorem again_law (s : Txt) : writeL (cutL (writeL (cutL s))) = writeL (cutL (writeL (cutL (writeL (cutL s))))) := by
  have h1 : cutL (writeL (cutL s)) = joinP [] (cutL s) := cut_write (cut_good s) _ _ pend0
  have h2 : cutL (writeL (joinP [] (cutL s))) = joinP [] (joinP [] (cutL s)) := cut_write (join_good (cut_good s) []) _ _ pend0
  rw [h1, h2, join_join]
end Go.Proofs.YtcipgppjhhokbaaDoor
