/- Plain: TokenEnds, TokenRaw, TokenComments: what the cut makes of texts of these shapes. No program in sight. -/
import Derived.Test.YtcipgppjhhokbaaDoorTokQ
set_option linter.unusedVariables false
namespace Go.Proofs.YtcipgppjhhokbaaDoor
open Go.Proofs

theorem fi_hit {p : UInt8 → Bool} {c : UInt8} {r : Txt} (h : p c = true) : ∀ {a : Txt}, (∀ x ∈ a, p x = false) → (a ++ c :: r).findIdx p = a.length
  | [], _ => by simp [List.findIdx_cons, h]
  | x :: a, ha => by
    rw [List.cons_append, List.findIdx_cons, ha x (by simp), fi_hit h (fun y hy => ha y (by simp [hy]))]
    simp
theorem fi_none {p : UInt8 → Bool} : ∀ {a : Txt}, (∀ x ∈ a, p x = false) → a.findIdx p = a.length
  | [], _ => rfl
  | x :: a, ha => by
    rw [List.findIdx_cons, ha x (by simp), fi_none (fun y hy => ha y (by simp [hy]))]
    simp

theorem run_hit {t a r q : Txt} {ts : List Tok} (ha : (60 : UInt8) ∉ a) (ho : openF r = some (ts, q)) : runF t (a ++ 60 :: r) = tellF (t ++ a) ++ ts ++ runF [] q := by
  have hf : textF (a ++ 60 :: r) = a.length := fi_hit (by decide) (fun x hx => beq_eq_false_iff_ne.2 (fun e => ha (by rw [← e]; exact hx)))
  rw [runF_eq, hf]
  simp [ho]
theorem run_none {t a : Txt} (ha : (60 : UInt8) ∉ a) : runF t a = tellF (t ++ a) := by
  have hf : textF a = a.length := fi_none (fun x hx => beq_eq_false_iff_ne.2 (fun e => ha (by rw [← e]; exact hx)))
  rw [runF_eq, hf]
  simp
theorem run_nil (t : Txt) : runF t [] = tellF t := by simpa using run_none (t := t) (a := []) (by simp)
theorem opened_name {nm r : Txt} {c : UInt8} (hn : ∀ x ∈ nm, slashedB x = false) (hc : slashedB c = true) : openedF (nm ++ c :: r) = (attrsF [] (c :: r)).map fun q => (⟨0, lowL nm, q.1, [], q.2.1⟩, q.2.2) := by
  unfold openedF
  rw [fi_hit hc hn]
  simp
theorem attrs_gt (acc : List (Txt × Txt)) (r : Txt) : attrsF acc (62 :: r) = some (acc, false, r) := by
  have hg : gapF (62 :: r) = 0 := by simp [gapF, List.findIdx_cons, spaceB]
  rw [attrsF_eq, slashF, hg]
  simp

theorem cut1_mem {c x : UInt8} {l : Txt} (h : x ∈ (cut1 c l).2.1) : x ∈ l := by
  cases hf : (cut1 c l).2.2 with
  | true => rw [cut1_yes hf]; simp [h]
  | false =>
    have h1 := cut1_len c l
    rw [(cut1_no hf).1] at h1
    have : (cut1 c l).2.1 = [] := List.eq_nil_of_length_eq_zero (by omega)
    rw [this] at h
    simp at h
theorem skipS_mem {x : UInt8} {s : Txt} (h : x ∈ skipS s) : x ∈ s := List.mem_of_mem_drop h
theorem valF_mem {x : UInt8} {nm s : Txt} (h : x ∈ (valF nm s).2.1) : x ∈ s := by
  unfold valF at h
  split at h
  · simp at h
  · split at h
    · exact List.mem_cons_of_mem _ (cut1_mem h)
    · exact List.mem_of_mem_drop h
theorem attrR_mem {x : UInt8} {nm s : Txt} (h : x ∈ (attrR nm s).2.1) : x ∈ s := by
  unfold attrR at h
  split at h
  · simp at h
  · rename_i c t e
    split at h
    · exact skipS_mem (by rw [e]; exact List.mem_cons_of_mem _ (skipS_mem (valF_mem h)))
    · exact h
theorem attrF_mem {x : UInt8} {s : Txt} (h : x ∈ (attrF s).2.1) : x ∈ s := List.mem_of_mem_drop (attrR_mem h)
theorem attrs_none : ∀ (n : Nat) (acc : List (Txt × Txt)) (s : Txt), (62 : UInt8) ∉ s → attrsN n acc s = none
  | 0, _, _, _ => rfl
  | n + 1, acc, s, h => by
    unfold attrsN
    cases hd : s.drop (gapF s) with
    | nil => rfl
    | cons c s1 =>
      have hm : (62 : UInt8) ∉ c :: s1 := fun hx => h (List.mem_of_mem_drop (i := gapF s) (by rw [hd]; exact hx))
      have hc : c ≠ 62 := fun e => hm (by simp [e])
      simp only
      rw [if_neg hc]
      split
      · exact attrs_none n _ _ fun hx => hm (attrF_mem hx)
      · rfl
theorem ends_start {s o : Txt} (h1 : (60 : UInt8) ∉ s) (h2 : (62 : UInt8) ∉ o) : cutL (s ++ (60 :: 97 :: 32 :: o)) = cutL s := by
  have ha : openedF (97 :: 32 :: o) = none := by
    have := opened_name (nm := [97]) (r := o) (c := 32) (by decide) (by decide)
    rw [List.singleton_append] at this
    rw [this, attrsF, attrs_none _ _ _ (by simp [h2])]
    rfl
  have ho : openF (97 :: 32 :: o) = some ([], []) := by
    unfold openF
    rw [if_pos (by rfl), tagF, ha]
  unfold cutL
  rw [run_hit h1 ho, run_none h1, run_nil]
  simp [tellF]
theorem ends_end {s o : Txt} (h1 : (60 : UInt8) ∉ s) (h2 : (62 : UInt8) ∉ o) : cutL (s ++ (60 :: 47 :: 97 :: 32 :: o)) = cutL s := by
  have ha : openedF (97 :: 32 :: o) = none := by
    have := opened_name (nm := [97]) (r := o) (c := 32) (by decide) (by decide)
    rw [List.singleton_append] at this
    rw [this, attrsF, attrs_none _ _ _ (by simp [h2])]
    rfl
  have ho : openF (47 :: 97 :: 32 :: o) = some ([], []) := by
    unfold openF
    rw [if_neg (by simp [letterL, letterB]), if_pos (by rfl)]
    simp [tagF, ha]
  unfold cutL
  rw [run_hit h1 ho, run_none h1, run_nil]
  simp [tellF]

/-- No end tag begins in a text, whatever stands behind it. -/
def quietB : Txt → Bool
  | [] => true
  | [c] => c != 60
  | c :: d :: r => !(c == 60 && d == 47) && quietB (d :: r)
theorem closes_no {name r : Txt} {c d : UInt8} (h : (c == 60 && d == 47) = false) : closesB name (c :: d :: r) = false := by
  unfold closesB
  split
  · simp_all
  · rfl
theorem endF_quiet (name X : Txt) : ∀ s, quietB s = true → endF name (s ++ X) = s.length + endF name X
  | [], _ => by simp
  | [c], h => by
    have hc : (c == 60) = false := by simpa [quietB] using h
    rw [List.singleton_append, endF]
    have : closesB name (c :: X) = false := by
      cases X with
      | nil => unfold closesB; split <;> simp_all
      | cons d r => exact closes_no (by rw [hc]; rfl)
    rw [this]
    simp
  | c :: d :: r, h => by
    simp only [quietB, Bool.and_eq_true, Bool.not_eq_true'] at h
    have ih := endF_quiet name X (d :: r) h.2
    rw [List.cons_append, endF, List.cons_append, closes_no h.1, if_neg (by simp), ← List.cons_append, ih]
    simp
    omega
theorem closes_yes {name r : Txt} {c : UInt8} (hc : slashedB c = true) : closesB name (60 :: 47 :: (name ++ c :: r)) = true := by
  simp [closesB, hc]
theorem raw_law {s rest : Txt} (h0 : s ≠ []) (hq : quietB s = true) : cutL ([60, 115, 116, 121, 108, 101, 62] ++ s ++ [60, 47, 115, 116, 121, 108, 101, 62] ++ rest) = [⟨1, [115, 116, 121, 108, 101], [], [], false⟩, ⟨0, [], [], s, false⟩, ⟨2, [115, 116, 121, 108, 101], [], [], false⟩] ++ cutL rest := by
  have e0 : [60, 115, 116, 121, 108, 101, 62] ++ s ++ [60, 47, 115, 116, 121, 108, 101, 62] ++ rest = [] ++ 60 :: ([115, 116, 121, 108, 101] ++ 62 :: (s ++ (60 :: 47 :: ([115, 116, 121, 108, 101] ++ 62 :: rest)))) := by simp
  have ho1 : ∀ r, openedF ([115, 116, 121, 108, 101] ++ 62 :: r) = some (⟨0, [115, 116, 121, 108, 101], [], [], false⟩, r) := by
    intro r
    rw [opened_name (by decide) (by decide), attrs_gt]
    rfl
  have he : endF [115, 116, 121, 108, 101] (s ++ (60 :: 47 :: ([115, 116, 121, 108, 101] ++ 62 :: rest))) = s.length := by
    rw [endF_quiet _ _ _ hq, endF, closes_yes (by decide)]
    simp
  have ht : tagF 1 ([115, 116, 121, 108, 101] ++ 62 :: (s ++ (60 :: 47 :: ([115, 116, 121, 108, 101] ++ 62 :: rest)))) = ([⟨1, [115, 116, 121, 108, 101], [], [], false⟩, ⟨0, [], [], s, false⟩], 60 :: 47 :: ([115, 116, 121, 108, 101] ++ 62 :: rest)) := by
    unfold tagF
    rw [ho1]
    simp only
    rw [if_neg (by decide), if_pos (by decide)]
    unfold insideT insideR
    rw [he]
    simp [h0, show softB [115, 116, 121, 108, 101] = false from by decide]
  have hop : openF ([115, 116, 121, 108, 101] ++ 62 :: (s ++ (60 :: 47 :: ([115, 116, 121, 108, 101] ++ 62 :: rest)))) = some (tagF 1 ([115, 116, 121, 108, 101] ++ 62 :: (s ++ (60 :: 47 :: ([115, 116, 121, 108, 101] ++ 62 :: rest))))) := by
    unfold openF
    rw [if_pos (by rfl)]
  have hop2 : openF (47 :: ([115, 116, 121, 108, 101] ++ 62 :: rest)) = some ([⟨2, [115, 116, 121, 108, 101], [], [], false⟩], rest) := by
    unfold openF
    rw [if_neg (by simp [letterL, letterB]), if_pos (by rfl), List.tail_cons]
    unfold tagF
    rw [ho1]
    simp
  unfold cutL
  rw [e0, run_hit (by simp) (hop.trans (congrArg some ht)), ← List.nil_append (60 :: 47 :: ([115, 116, 121, 108, 101] ++ 62 :: rest)), run_hit (by simp) hop2]
  simp [tellF]
end Go.Proofs.YtcipgppjhhokbaaDoor
