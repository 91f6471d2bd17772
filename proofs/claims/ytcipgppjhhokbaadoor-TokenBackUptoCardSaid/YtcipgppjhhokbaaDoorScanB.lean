/- Contract of token's scanner: tell: the text that was gone over becomes a token. What lay below the scanner's own blocks does not turn. -/
import Derived.Test.YtcipgppjhhokbaaDoorScanA
import Derived.Deep.RegionLaw
import Derived.RegionTactic
set_option linter.unusedVariables false
set_option linter.unusedSimpArgs false
namespace Go.Proofs.YtcipgppjhhokbaaDoor
open Go.RowKit Go.Proofs

theorem Toks.len {w : World} {base : Nat} {v : Value} {l : List Tok} (h : Toks w base v l) : ∃ a c, v = .slice a l.length c := by
  obtain ⟨ps, h1, h2, h3⟩ := h
  rcases h2.2 with ⟨rfl, h0⟩ | ⟨g, cap, cur, rfl, _⟩
  · exact ⟨none, 0, by rw [h0]⟩
  · exact ⟨_, _, rfl⟩
theorem Toks.alloc {w : World} {base : Nat} {v : Value} {l : List Tok} (h : Toks w base v l) (o : Obj) : Toks (w.alloc o) base v l := h.below ((Below.refl _ _).alloc (Nat.le_refl _) o)

/-- append(l, t) as one step of a region that draws its order. -/
theorem step_tok {w : World} {ops : Array Oper} {o : Oper} {a : Act} {K : Act → World → Prop} {Q : Exit → Act → World → Prop} {E : Prop} (hgd : o.guard = none) (sl x : Operand)
    (ho : o.op = .call { callee := .builtin .append, args := #[sl, x], argTypes := #[22, 22] })
    (base g : Nat) (v va : Value) (l : List Tok) (t : Tok) (hs : a.eval sl = v) (hown : Toks w base v l) (hx : a.eval x = .slice (some ⟨g, 0, none⟩) 1 1)
    (hc0 : w.cell? ⟨g, 0, none⟩ = some (.int .i64 t.kind)) (hc1 : w.cell? ⟨g, 1, none⟩ = some (.string ⟨t.name.toArray⟩)) (hc2 : w.cell? ⟨g, 2, none⟩ = some (.string ⟨t.data.toArray⟩)) (hc3 : w.cell? ⟨g, 3, none⟩ = some va) (hc4 : w.cell? ⟨g, 4, none⟩ = some (.bool t.self))
    (hat : Atts w base va t.attrs) (hlen : l.length + 1 ≤ 1000000000000) (hbase : base ≤ w.heap.size)
    (h : ∀ v' w', Toks w' base v' (l ++ [t]) → w.grownBy w' v.ownBlock → Below base w w' → (∀ (b : Nat) (cur : Array Value) (e : TypeId) (fz : Nat × Nat), w.heap[b]? = some (.cells cur e fz) → e ≠ 30 → w'.heap[b]? = some (.cells cur e fz)) → K (a.put o.dst v') w') : if Region.wanted o (yielded ops a.tmps) = true then Oper.wp Tryd.prog o a w K Q else E := by
  have hw : Region.wanted o (yielded ops a.tmps) = true := by simp [Region.wanted, hgd]
  rw [if_pos hw]
  obtain ⟨i, z, hi, hz, h2, h3, hzs⟩ := tokInfo
  obtain ⟨ps, k1, k2, k3⟩ := hown
  refine wp_append_own _ sl x 22 ho base 30 i z 5 72 Tryd.underlying22 hi hz h2 h3 hzs (by decide) v l.length _ hs k2 ⟨g, 0, none⟩ 1 1 (tokV t va) hx rfl ?_ ?_ (by unfold maxLen; omega) (by omega) hbase ?_
  · intro j u hj
    rw [addr_add]
    match j, hj with
    | 0, hj => simp [tokV] at hj; subst hj; exact hc0
    | 1, hj => simp [tokV] at hj; subst hj; exact hc1
    | 2, hj => simp [tokV] at hj; subst hj; exact hc2
    | 3, hj => simp [tokV] at hj; subst hj; exact hc3
    | 4, hj => simp [tokV] at hj; subst hj; exact hc4
  · intro u hu
    simp [tokV] at hu
    rcases hu with rfl | rfl | rfl | rfl | rfl
    · rfl
    · rfl
    · rfl
    · exact own_one hat
    · rfl
  · intro v' w' hown' hgrow _
    refine h v' w' ⟨ps ++ [(t, va)], by simp [k1], by simpa using hown', ?_⟩ hgrow ((Below.refl base w).grown hgrow hbase (fun k hk => own_base k2 hk)) ?_
    · intro p hp
      rw [List.mem_append] at hp
      rcases hp with hp | hp
      · exact own_apart (k3 p hp) k2 hgrow (by decide)
      · simp at hp
        subst hp
        exact own_apart hat k2 hgrow (by decide)
    · intro b cur e fz hb hne
      rw [hgrow.block b (Array.getElem?_eq_some_iff.1 hb).1 (fun e0 => own_ne k2 hb hne e0.symm)]
      exact hb

set_option maxHeartbeats 2000000 in
set_option maxRecDepth 100000 in
theorem tell_c (base b : Nat) (s t : Txt) (l : List Tok) (ht : t.length ≤ 1000000000) (hl : l.length ≤ 100000000000) (w : World) (hsc : Sc w base b s t l) (hE : Env w base) :
    Calls Tryd.prog 41 #[.pointer (some ⟨b, 0, none⟩)] w fun r w' => r = .returned (.tuple #[]) ∧ Sc w' base b s [] (l ++ tellF t) ∧ Below base w w' := by
  have hS := hE.std
  have hle := hE.le
  have hbb := hsc.1
  obtain ⟨_, v, hh, hT⟩ := id hsc
  obtain ⟨ad, cp, rfl⟩ := hT.len
  obtain ⟨⟨c0, c1, c2⟩, c5⟩ := three_facts hh
  cases t with
  | nil =>
    go_enter Tryd.func41, Tryd.ntmps41
    go_wp2
    go_end0
    refine ⟨rfl, ?_, below_set (Below.refl _ _) hbb _⟩
    have := hsc.set_t []
    simpa [tellF] using this
  | cons c u =>
    obtain ⟨q, hq⟩ : ∃ q, c :: u = q := ⟨_, rfl⟩
    have htl : tellF (c :: u) = [⟨0, [], [], decL (c :: u), false⟩] := by simp [tellF]
    have hne : (q == []) = false := by rw [← hq]; rfl
    rw [htl]
    rw [hq] at hsc hh c1 ht ⊢
    clear htl hq
    have hdec := Lib.hid (fun W hS => decode_c q ht W hS)
    generalize decL q = dq at *
    have hSd := hS.drew
    have hscd := hsc.below (Below.refl _ w).drew
    go_enter Tryd.func41, Tryd.ntmps41
    go_wp2
    go_region_law (first
      | (refine step_tok rfl (.tmp 11) (.tmp 18) rfl base w2.heap.size (.slice ad l.length cp) (.slice none 0 0) l ⟨0, [], [], dq, false⟩ rfl hT3 rfl k0 k1 k2 k3 k4 (Atts.nil _ _) (by omega) hle3 ?_; intro v5 w5 hT5 hg5 hb5 hk5; obtain ⟨ad5, cp5, rfl⟩ := hT5.len; rw [show (l ++ [(⟨0, [], [], dq, false⟩ : Tok)]).length = l.length + 1 from List.length_append] at hT5; have hh5 := hk5 _ _ _ _ hh3 (by decide); obtain ⟨⟨e0, e1, e2⟩, e5⟩ := three_facts hh5; have hB5 := hB3.trans hb5)
      | (go_simp; go_at_call 45; ((with_reducible refine (hdec.out _ hSd).mono ?_); rintro e w2 ⟨rfl, hb2⟩; have hh2 := heap_below (w := w.drew) hh hb2; have hT2 := (hT.below (Below.refl _ w).drew).below hb2; obtain ⟨⟨d0, d1, d2⟩, d5⟩ := three_facts hh2; have hT3 := hT2.alloc (.cells #[.int .i64 0, .string ⟨#[]⟩, .string ⟨dq.toArray⟩, .slice none 0 0, .bool false] 30); have hh3 := heap_old hh2 (.cells #[.int .i64 0, .string ⟨#[]⟩, .string ⟨dq.toArray⟩, .slice none 0 0, .bool false] 30); obtain ⟨⟨k0, k1, k2, k3, k4⟩, k5⟩ := five_facts (new_cells w2 #[.int .i64 0, .string ⟨#[]⟩, .string ⟨dq.toArray⟩, .slice none 0 0, .bool false] 30); obtain ⟨⟨f0, f1, f2⟩, f5⟩ := three_facts hh3; have hB2 := below_then ((Below.refl base w).drew) hle hb2; have hle2 : base ≤ w2.heap.size := Nat.le_trans hle hB2.size; have hB3 := hB2.alloc hle2 (.cells #[.int .i64 0, .string ⟨#[]⟩, .string ⟨dq.toArray⟩, .slice none 0 0, .bool false] 30); have hle3 : base ≤ (w2.alloc (.cells #[.int .i64 0, .string ⟨#[]⟩, .string ⟨dq.toArray⟩, .slice none 0 0, .bool false] 30)).heap.size := (by rw [World.size_alloc]; omega))))
    all_goals
      have hfin := (Sc.set_o (l := l) hbb hh5 hT5).set_t []
      have hbf := fun x y => below_set (j := 1) (below_set (j := 2) hB5 hbb x) hbb y
      go_wp2
      go_end0
      exact ⟨rfl, hfin, hbf _ _⟩
end Go.Proofs.YtcipgppjhhokbaaDoor
