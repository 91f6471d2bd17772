/- Rows of attributes and of tokens that the call itself owns; the scanner. -/
import Derived.Test.YtcipgppjhhokbaaDoorTokP
import Derived.Test.YtcipgppjhhokbaaDoorOwn
import Derived.Laws.OwnMore
set_option linter.unusedVariables false
set_option linter.unusedSimpArgs false
namespace Go.Proofs.YtcipgppjhhokbaaDoor
open Go.RowKit Go.Proofs

theorem own_ne {w : World} {base : Nat} {e e' : TypeId} {size n b : Nat} {v : Value} {xs : List Value} {cur : Array Value} {fz : Nat × Nat} (h : w.ownsRow base e size v n xs) (hb : w.heap[b]? = some (.cells cur e' fz)) (hne : e' ≠ e) : v.ownBlock ≠ some b := by
  rcases h.2 with ⟨rfl, _⟩ | ⟨g, cap, cr, rfl, hg, hh, _⟩
  · simp [Value.ownBlock]
  · intro e0
    have : g = b := by simpa [Value.ownBlock] using e0
    subst this
    rw [hb] at hh
    simp at hh
    exact hne hh.2.1
theorem own_other {w w' : World} {base : Nat} {e e' : TypeId} {size n b : Nat} {v : Value} {xs : List Value} {cur : Array Value} {fz : Nat × Nat} (h : w.ownsRow base e size v n xs) (hg : w.grownBy w' (some b)) (hb : w.heap[b]? = some (.cells cur e' fz)) (hne : e' ≠ e) : w'.ownsRow base e size v n xs :=
  World.ownsRow.kept h hg (.inr (own_ne h hb hne))
theorem own_cells {w : World} {base : Nat} {e : TypeId} {size n b : Nat} {v : Value} {xs : List Value} (h : w.ownsRow base e size v n xs) (hv : v.ownBlock = some b) : ∃ cur, w.heap[b]? = some (.cells cur e (0, 0)) := by
  rcases h.2 with ⟨rfl, _⟩ | ⟨g, cap, cr, rfl, hg, hh, _⟩
  · simp [Value.ownBlock] at hv
  · have : g = b := by simpa [Value.ownBlock] using hv
    subst this
    exact ⟨cr, hh⟩
/-- Another row of another kind stands when a row of the call's own was grown. -/
theorem own_apart {w w' : World} {base base' : Nat} {e e' : TypeId} {size n size' n' : Nat} {v v' : Value} {xs xs' : List Value} (h : w.ownsRow base e size v n xs) (h' : w.ownsRow base' e' size' v' n' xs') (hg : w.grownBy w' v'.ownBlock) (hne : e' ≠ e) : w'.ownsRow base e size v n xs := by
  cases hv : v'.ownBlock with
  | none => rw [hv] at hg; exact World.ownsRow.kept h hg (by cases hx : v.ownBlock <;> simp)
  | some b =>
    rw [hv] at hg
    obtain ⟨cur, hc⟩ := own_cells h' hv
    exact own_other h hg hc hne
theorem own_below {w w1 : World} {base : Nat} {e : TypeId} {size n : Nat} {v : Value} {xs : List Value} (h : w.ownsRow base e size v n xs) (hb : Below w.heap.size w w1) : w1.ownsRow base e size v n xs :=
  World.ownsRow.kept h (grown_of_below hb none) (by cases hv : v.ownBlock <;> simp)

def attrV (l : List (Txt × Txt)) : List Value := l.flatMap fun a => [.string ⟨a.1.toArray⟩, .string ⟨a.2.toArray⟩]
def Atts (w : World) (base : Nat) (v : Value) (l : List (Txt × Txt)) : Prop := w.ownsRow base 33 2 v l.length (attrV l)
def tokV (t : Tok) (va : Value) : List Value := [.int .i64 t.kind, .string ⟨t.name.toArray⟩, .string ⟨t.data.toArray⟩, va, .bool t.self]
def Toks (w : World) (base : Nat) (v : Value) (l : List Tok) : Prop :=
  ∃ ps : List (Tok × Value), ps.map Prod.fst = l ∧ w.ownsRow base 30 5 v l.length (ps.flatMap fun p => tokV p.1 p.2) ∧ ∀ p ∈ ps, Atts w base p.2 p.1.attrs

theorem Atts.nil (w : World) (base : Nat) : Atts w base (.slice none 0 0) [] := World.ownsRow_nil _ _ _ _
theorem Toks.nil (w : World) (base : Nat) : Toks w base (.slice none 0 0) [] := ⟨[], rfl, World.ownsRow_nil _ _ _ _, by simp⟩
theorem Atts.below {w w1 : World} {base : Nat} {v : Value} {l : List (Txt × Txt)} (h : Atts w base v l) (hb : Below w.heap.size w w1) : Atts w1 base v l := own_below h hb
theorem Toks.below {w w1 : World} {base : Nat} {v : Value} {l : List Tok} (h : Toks w base v l) (hb : Below w.heap.size w w1) : Toks w1 base v l := by
  obtain ⟨ps, h1, h2, h3⟩ := h
  exact ⟨ps, h1, own_below h2 hb, fun p hp => (h3 p hp).below hb⟩
theorem Toks.other {w w' : World} {base b : Nat} {v : Value} {l : List Tok} {cur : Array Value} {e' : TypeId} {fz : Nat × Nat} (h : Toks w base v l) (hg : w.grownBy w' (some b)) (hb : w.heap[b]? = some (.cells cur e' fz)) (h1 : e' ≠ 30) (h2 : e' ≠ 33) : Toks w' base v l := by
  obtain ⟨ps, k1, k2, k3⟩ := h
  exact ⟨ps, k1, own_other k2 hg hb h1, fun p hp => own_other (k3 p hp) hg hb h2⟩

theorem tokInfo : ∃ i z, Tryd.prog.info? 30 = some i ∧ i.zero = some z ∧ i.size = 5 ∧ i.bytes = 72 ∧ z.cells.size = 5 := by
  have h : (Tryd.prog.info? 30).map (fun i => (i.zero.map fun z => z.cells.size, i.size, i.bytes)) = some (some 5, 5, 72) := by kernel_rfl
  cases hi : Tryd.prog.info? 30 with
  | none => rw [hi] at h; simp at h
  | some i =>
    rw [hi] at h
    simp at h
    obtain ⟨⟨z, hz, hs⟩, h2, h3⟩ := h
    exact ⟨i, z, rfl, hz, h2, h3, hs⟩
theorem attrInfo : ∃ i z, Tryd.prog.info? 33 = some i ∧ i.zero = some z ∧ i.size = 2 ∧ i.bytes = 32 ∧ z.cells.size = 2 := by
  have h : (Tryd.prog.info? 33).map (fun i => (i.zero.map fun z => z.cells.size, i.size, i.bytes)) = some (some 2, 2, 32) := by kernel_rfl
  cases hi : Tryd.prog.info? 33 with
  | none => rw [hi] at h; simp at h
  | some i =>
    rw [hi] at h
    simp at h
    obtain ⟨⟨z, hz, hs⟩, h2, h3⟩ := h
    exact ⟨i, z, rfl, hz, h2, h3, hs⟩

theorem addr_add (g j : Nat) : (⟨g, 0, none⟩ : Addr).add j = ⟨g, j, none⟩ := by unfold Addr.add; split <;> simp_all
theorem attrV_app (a b : List (Txt × Txt)) : attrV (a ++ b) = attrV a ++ attrV b := by simp [attrV]
/-- The value's row is one cell each. -/
theorem own_one {w : World} {base : Nat} {e : TypeId} {size n : Nat} {v : Value} {xs : List Value} (h : w.ownsRow base e size v n xs) : v.oneCell' = true := by
  rcases h.2 with ⟨rfl, _⟩ | ⟨g, cap, cr, rfl, _⟩ <;> rfl

/-- append(l, a): an attribute onto a row of attributes of the call's own. -/
theorem app_attr {w : World} {ops : Array Oper} {rest : List Oper} {o : Oper} {a : Act} {Q : Exit → Act → World → Prop} (hgd : o.guard = none) (sl x : Operand)
    (ho : o.op = .call { callee := .builtin .append, args := #[sl, x], argTypes := #[28, 28] })
    (base g : Nat) (v : Value) (l : List (Txt × Txt)) (t : Txt × Txt) (hs : a.eval sl = v) (hown : Atts w base v l) (hx : a.eval x = .slice (some ⟨g, 0, none⟩) 1 1)
    (hc0 : w.cell? ⟨g, 0, none⟩ = some (.string ⟨t.1.toArray⟩)) (hc1 : w.cell? ⟨g, 1, none⟩ = some (.string ⟨t.2.toArray⟩))
    (hlen : l.length + 1 ≤ 1000000000000) (hbase : base ≤ w.heap.size)
    (h : ∀ v' w', Atts w' base v' (l ++ [t]) → w.grownBy w' v.ownBlock → Below base w w' → wpList Tryd.prog ops Q rest (a.put o.dst v') w') : wpList Tryd.prog ops Q (o :: rest) a w := by
  obtain ⟨i, z, hi, hz, h2, h3, hzs⟩ := attrInfo
  refine wpList_append_own _ hgd sl x 28 ho base 33 i z 2 32 Tryd.underlying28 hi hz h2 h3 hzs (by decide) v l.length (attrV l) hs hown ⟨g, 0, none⟩ 1 1 (attrV [t]) hx rfl ?_ ?_ (by unfold maxLen; omega) (by omega) hbase ?_
  · intro j u hj
    rw [addr_add]
    match j, hj with
    | 0, hj => simp [attrV] at hj; subst hj; exact hc0
    | 1, hj => simp [attrV] at hj; subst hj; exact hc1
  · intro u hu
    simp [attrV] at hu
    rcases hu with rfl | rfl <;> rfl
  · intro v' w' hown' hgrow _
    refine h v' w' ?_ hgrow ((Below.refl base w).grown hgrow hbase (fun k hk => own_base hown hk))
    unfold Atts
    rw [attrV_app]
    simpa using hown'

/-- append(l, t): a token onto a row of tokens of the call's own. -/
theorem app_tok {w : World} {ops : Array Oper} {rest : List Oper} {o : Oper} {a : Act} {Q : Exit → Act → World → Prop} (hgd : o.guard = none) (sl x : Operand)
    (ho : o.op = .call { callee := .builtin .append, args := #[sl, x], argTypes := #[22, 22] })
    (base g : Nat) (v va : Value) (l : List Tok) (t : Tok) (hs : a.eval sl = v) (hown : Toks w base v l) (hx : a.eval x = .slice (some ⟨g, 0, none⟩) 1 1)
    (hc0 : w.cell? ⟨g, 0, none⟩ = some (.int .i64 t.kind)) (hc1 : w.cell? ⟨g, 1, none⟩ = some (.string ⟨t.name.toArray⟩)) (hc2 : w.cell? ⟨g, 2, none⟩ = some (.string ⟨t.data.toArray⟩)) (hc3 : w.cell? ⟨g, 3, none⟩ = some va) (hc4 : w.cell? ⟨g, 4, none⟩ = some (.bool t.self))
    (hat : Atts w base va t.attrs) (hlen : l.length + 1 ≤ 1000000000000) (hbase : base ≤ w.heap.size)
    (h : ∀ v' w', Toks w' base v' (l ++ [t]) → w.grownBy w' v.ownBlock → Below base w w' → (∀ (b : Nat) (cur : Array Value) (e : TypeId) (fz : Nat × Nat), w.heap[b]? = some (.cells cur e fz) → e ≠ 30 → w'.heap[b]? = some (.cells cur e fz)) → wpList Tryd.prog ops Q rest (a.put o.dst v') w') : wpList Tryd.prog ops Q (o :: rest) a w := by
  obtain ⟨i, z, hi, hz, h2, h3, hzs⟩ := tokInfo
  obtain ⟨ps, k1, k2, k3⟩ := hown
  refine wpList_append_own _ hgd sl x 22 ho base 30 i z 5 72 Tryd.underlying22 hi hz h2 h3 hzs (by decide) v l.length _ hs k2 ⟨g, 0, none⟩ 1 1 (tokV t va) hx rfl ?_ ?_ (by unfold maxLen; omega) (by omega) hbase ?_
  · intro j u hj
    rw [addr_add]
    match j, hj with
    | 0, hj => simp [tokV] at hj; subst hj; exact hc0
    | 1, hj => simp [tokV] at hj; subst hj; exact hc1
    | 2, hj => simp [tokV] at hj; subst hj; exact hc2
    | 3, hj => simp [tokV] at hj; subst hj; exact hc3
    | 4, hj => simp [tokV] at hj; subst hj; exact hc4
  · intro u hu
    simp [tokV] at hu
    rcases hu with rfl | rfl | rfl | rfl | rfl
    · rfl
    · rfl
    · rfl
    · exact own_one hat
    · rfl
  · intro v' w' hown' hgrow _
    refine h v' w' ⟨ps ++ [(t, va)], by simp [k1], by simpa using hown', ?_⟩ hgrow ((Below.refl base w).grown hgrow hbase (fun k hk => own_base k2 hk)) ?_
    · intro p hp
      rw [List.mem_append] at hp
      rcases hp with hp | hp
      · exact own_apart (k3 p hp) k2 hgrow (by decide)
      · simp at hp
        subst hp
        exact own_apart hat k2 hgrow (by decide)
    · intro b cur e fz hb hne
      rw [hgrow.block b (Array.getElem?_eq_some_iff.1 hb).1 (fun e0 => own_ne k2 hb hne e0.symm)]
      exact hb

/-- The scanner: the rest, the text that is not told yet, the tokens. -/
def Sc (w : World) (base b : Nat) (s t : Txt) (l : List Tok) : Prop :=
  base ≤ b ∧ ∃ v, w.heap[b]? = some (.cells #[.string ⟨s.toArray⟩, .string ⟨t.toArray⟩, v] 55 (0, 0)) ∧ Toks w base v l
theorem Sc.below {w w1 : World} {base b : Nat} {s t : Txt} {l : List Tok} (h : Sc w base b s t l) (hb : Below w.heap.size w w1) : Sc w1 base b s t l := by
  obtain ⟨h1, v, h2, h3⟩ := h
  exact ⟨h1, v, (hb.block b (Array.getElem?_eq_some_iff.1 h2).1).trans h2, h3.below hb⟩
theorem grown_set (w : World) (a : Addr) (v : Value) : w.grownBy (w.setCell a v) (some a.block) :=
  ⟨rfl, rfl, rfl, by simp, fun k _ hk => heap_setCell_other w a k v (fun e => hk (by simp [e]))⟩
theorem below_set {B b j : Nat} {w W : World} (h : Below B w W) (hb : B ≤ b) (v : Value) : Below B w (W.setCell ⟨b, j, none⟩ v) := h.setCell (p := ⟨b, j, none⟩) hb v
theorem Sc.set_s {w : World} {base b : Nat} {s t : Txt} {l : List Tok} (h : Sc w base b s t l) (s' : Txt) : Sc (w.setCell ⟨b, 0, none⟩ (.string ⟨s'.toArray⟩)) base b s' t l := by
  obtain ⟨h1, v, h2, h3⟩ := h
  exact ⟨h1, v, heap_setCell_same w b 0 _ _ _ h2, h3.other (grown_set w ⟨b, 0, none⟩ _) h2 (by decide) (by decide)⟩
theorem Sc.set_t {w : World} {base b : Nat} {s t : Txt} {l : List Tok} (h : Sc w base b s t l) (t' : Txt) : Sc (w.setCell ⟨b, 1, none⟩ (.string ⟨t'.toArray⟩)) base b s t' l := by
  obtain ⟨h1, v, h2, h3⟩ := h
  exact ⟨h1, v, heap_setCell_same w b 1 _ _ _ h2, h3.other (grown_set w ⟨b, 1, none⟩ _) h2 (by decide) (by decide)⟩
theorem Sc.set_o {w : World} {base b : Nat} {s t : Txt} {l l' : List Tok} {v v' : Value} (h1 : base ≤ b) (h2 : w.heap[b]? = some (.cells #[.string ⟨s.toArray⟩, .string ⟨t.toArray⟩, v] 55 (0, 0))) (h3 : Toks w base v' l') : Sc (w.setCell ⟨b, 2, none⟩ v') base b s t l' :=
  ⟨h1, v', heap_setCell_same w b 2 _ _ _ h2, h3.other (grown_set w ⟨b, 2, none⟩ _) h2 (by decide) (by decide)⟩
end Go.Proofs.YtcipgppjhhokbaaDoor
