/- Lemmas and walks, part 23: QTokZ, QKOwnN, QNames, QScanA, QScanB, QScanC. -/
import Derived.Test.YtkcmghlhpbepcaaGreatDoorN822
import Derived.Test.YtkcmghlhpbepcaaGreatDoorN818
import Derived.Test.YtkcmghlhpbepcaaGreatDoorN87
import Derived.Test.YtkcmghlhpbepcaaGreatDoorN85
import Derived.Test.YtkcmghlhpbepcaaGreatDoorN86
import Derived.Test.YtkcmghlhpbepcaaGreatDoorN89
import Derived.Deep.RegionLaw
import Derived.RegionTactic
set_option linter.unusedVariables false
set_option linter.unusedSimpArgs false

/- Plain: how long what is written of the tokens of some bytes can be. No program in sight. -/
namespace Go.Proofs.YtkcmghlhpbepcaaGreatDoor
open Go.Proofs
def wt (t : Tok) : Nat := if t.kind = 0 then 6 * t.data.length else (tokW false t).length
def wts (l : List Tok) : Nat := (l.map wt).sum
theorem wts_app (a b : List Tok) : wts (a ++ b) = wts a + wts b := by simp [wts]
theorem wts_nil : wts [] = 0 := rfl
theorem wts_one (t : Tok) : wts [t] = wt t := by simp [wts]
theorem wts_cons (t : Tok) (l : List Tok) : wts (t :: l) = wt t + wts l := by simp [wts]
theorem decL_le (l : Txt) : (decL l).length ≤ l.length := decL_len _ l (Nat.le_refl _)
theorem valF_len (nm s : Txt) : (valF nm s).1.1 = nm ∧ (valF nm s).1.2.length + (valF nm s).2.1.length ≤ s.length := by
 unfold valF
 split
 ·simp
 ·rename_i q t
  split
  ·have h1 := cut1_len q t
   have h2 := decL_le (cut1 q t).1
   refine ⟨rfl, ?_⟩
   simp only [List.length_cons]
   omega
  ·have h2 := decL_le ((q :: t).take (wordK (q :: t)))
   refine ⟨rfl, ?_⟩
   simp only [List.length_take, List.length_drop] at *
   omega
theorem attrR_len (nm s : Txt) : (attrR nm s).1.1 = nm ∧ (attrR nm s).1.2.length + (attrR nm s).2.1.length ≤ s.length := by
 have h1 := skipS_le s
 unfold attrR
 split
 ·simp
 ·rename_i c t h
  rw [h] at h1
  simp only [List.length_cons] at h1
  split
  ·have h2 := valF_len nm (skipS t)
   have h3 := skipS_le t
   refine ⟨h2.1, ?_⟩
   omega
  ·simp
theorem attrF_len (s : Txt) : (attrF s).1.1.length + (attrF s).1.2.length + (attrF s).2.1.length ≤ s.length := by
 have h := attrR_len (lowL (s.take (attrK s))) (s.drop (attrK s))
 unfold attrF
 rw [h.1]
 have h2 := h.2
 simp only [lowL, List.length_map, List.length_take, List.length_drop] at *
 omega
theorem addA_len (acc : List (Txt × Txt)) (a : Txt × Txt) : (attrsW (addA acc a)).length ≤ (attrsW acc).length + 4 + a.1.length + 6 * a.2.length := by
 unfold addA
 split
 ·omega
 ·have e : attrsW (acc ++ [a]) = attrsW acc ++ attrsW [a] := by simp only [attrsW, List.flatMap_append]
  have h := wr_len true a.2
  rw [e, List.length_append]
  simp only [attrsW, List.flatMap_cons, List.flatMap_nil, List.append_nil, List.length_cons, List.length_append, List.length_nil]
  omega
theorem attrsN_len : ∀ (n : Nat) (acc : List (Txt × Txt)) (s : Txt) r, attrsN n acc s = some r → (attrsW r.1).length + 20 * (r.2.2.length + 1) ≤ (attrsW acc).length + 20 * s.length
 | 0, _, _, _, h => by simp [attrsN] at h
 | n + 1, acc, s, r, h => by
   unfold attrsN at h
   cases hd : s.drop (gapF s) with
   | nil => rw [hd] at h; simp at h
   | cons c s1 =>
     rw [hd] at h
     have hg := gap_head hd
     have h1 : s1.length + 1 ≤ s.length := by
      have := congrArg List.length hd
      simp at this
      omega
     simp only at h
     split at h
     ·simp at h
      subst h
      simp only
      omega
     ·rename_i hc
      split at h
      ·have ih := attrsN_len n _ _ r h
       have h2 := addA_len acc (attrF (c :: s1)).1
       have h3 := attrF_len (c :: s1)
       have h4 := (attrF_name (s := s1) hg.1 hc).ne
       have h5 := List.length_pos_iff.2 h4
       simp only [List.length_cons] at h3
       omega
      ·simp at h
theorem opened_len {s r : Txt} {t : Tok} (h : openedF s = some (t, r)) : t.name.length + (attrsW t.attrs).length + 20 * r.length + 20 ≤ 20 * s.length ∧ t.data = [] := by
 unfold openedF at h
 cases ha : attrsF [] (s.drop (s.findIdx slashedB)) with
 | none => rw [ha] at h; simp at h
 | some q =>
   rw [ha] at h
   simp at h
   have h2 := attrsN_len _ _ _ _ ha
   obtain ⟨rfl, rfl⟩ := h
   have hk : s.findIdx slashedB ≤ s.length := List.findIdx_le_length
   refine ⟨?_, rfl⟩
   simp only [lowL, List.length_map, List.length_take, List.length_drop, attrsW, List.flatMap_nil, List.length_nil] at *
   omega
theorem inside_len (nm s : Txt) : wts (insideT nm s) + 20 * (insideR nm s).length ≤ 20 * s.length := by
 have hl := endF_le nm s
 unfold insideT insideR
 rw [List.length_drop]
 split
 ·rw [wts_nil]; omega
 ·rw [wts_one, wt, if_pos rfl]
  have h2 := decL_le (s.take (endF nm s))
  rw [List.length_take] at h2
  split
  ·simp only; omega
  ·simp only [List.length_take]; omega
theorem wt_k1 (nm : Txt) (l : List (Txt × Txt)) (d : Txt) (b : Bool) : wt ⟨1, nm, l, d, b⟩ = (taggedW [60] ⟨1, nm, l, d, b⟩).length := rfl
theorem wt_k2 (nm : Txt) : wt ⟨2, nm, [], [], false⟩ = (taggedW [60, 47] ⟨0, nm, [], [], false⟩).length := rfl
theorem wt_k3 (d : Txt) : wt ⟨3, [], [], d, false⟩ = ([60, 33, 45, 45] ++ d ++ [45, 45, 62]).length := rfl
theorem wt_k4 (d : Txt) : wt ⟨4, [], [], d, false⟩ = ([60, 33, 100, 111, 99, 116, 121, 112, 101, 32] ++ d ++ [62]).length := rfl
theorem tag_len {k : Int} (hk : k = 1 ∨ k = 2) (s : Txt) : wts (tagF k s).1 + 20 * (tagF k s).2.length ≤ 20 * (s.length + 1) := by
 unfold tagF
 cases ho : openedF s with
 | none => simp [wts]
 | some x =>
   obtain ⟨t, r⟩ := x
   obtain ⟨h1, hd⟩ := opened_len ho
   have hs : (selfW t.self).length ≤ 2 := by unfold selfW; split <;> simp
   have w1 : wt ⟨1, t.name, t.attrs, t.data, t.self⟩ ≤ t.name.length + (attrsW t.attrs).length + 4 := by
    rw [wt_k1]
    simp only [taggedW, List.length_append, List.length_cons, List.length_nil]
    omega
   have w2 : wt ⟨2, t.name, [], [], false⟩ ≤ t.name.length + 4 := by
    rw [wt_k2]
    simp only [taggedW, attrsW, selfW, List.flatMap_nil, List.length_append, List.length_cons, List.length_nil, Bool.false_eq_true, if_false]
    omega
   simp only
   rcases hk with rfl | rfl
   ·rw [if_neg (by decide)]
    split
    ·have h2 := inside_len t.name r
     simp only [wts_cons]
     omega
    ·rw [wts_one]
     simp only
     omega
   ·rw [if_pos rfl, wts_one]
    simp only
    omega
theorem cut_sum (s e : Txt) : (Lib.cut s e).1.length + (Lib.cut s e).2.1.length ≤ s.length := by
 unfold Lib.cut
 split
 ·simp
  omega
 ·simp
theorem trim_len (s : Txt) : (trimL s).length ≤ s.length := by
 unfold trimL
 rw [List.length_reverse]
 have h1 := dropWhile_le (p := spaceB) (s.dropWhile spaceB).reverse
 have h2 := dropWhile_le (p := spaceB) s
 rw [List.length_reverse] at h1
 omega
theorem note_len {k : Int} (hk : k = 3 ∨ k = 4) (s e : Txt) : wts (noteF k s e).1 + 20 * (noteF k s e).2.length ≤ 20 * s.length + 11 := by
 have h := cut_sum s e
 have h2 := trim_len (Lib.cut s e).1
 unfold noteF untilF
 rw [wts_one]
 rcases hk with rfl | rfl
 ·rw [wt_k3, if_neg (by decide)]
  simp only [List.length_append, List.length_cons, List.length_nil]
  omega
 ·rw [wt_k4]
  simp only [if_true, List.length_append, List.length_cons, List.length_nil]
  omega
theorem comment_len (s : Txt) : wts (commentF s).1 + 20 * (commentF s).2.length ≤ 20 * s.length + 11 := by
 have w3 : wt ⟨3, [], [], [], false⟩ = 7 := by decide
 unfold commentF
 split
 ·rw [wts_one, w3]; simp; omega
 ·split
  ·rw [wts_one, w3]; simp; omega
  ·exact note_len (.inl rfl) _ _
theorem open_len {s r : Txt} {ts : List Tok} (h : openF s = some (ts, r)) : wts ts + 20 * r.length ≤ 20 * (s.length + 1) := by
 have hx : ∀ {x : List Tok × Txt} {n : Nat}, some x = some (ts, r) → wts x.1 + 20 * x.2.length ≤ n → wts ts + 20 * r.length ≤ n := by
  intro x n e hn
  simp only [Option.some.injEq] at e
  rw [e] at hn
  exact hn
 unfold openF at h
 split at h
 ·exact hx h (tag_len (.inl rfl) s)
 ·split at h
  ·have := tag_len (.inr rfl) s.tail
   rw [List.length_tail] at this
   exact hx h (by omega)
  ·split at h
   ·exact hx h (by simp [wts]; omega)
   ·split at h
    ·have := comment_len (s.drop 3)
     rw [List.length_drop] at this
     exact hx h (by omega)
    ·split at h
     ·have := note_len (.inr rfl) (s.drop 8) [62]
      rw [List.length_drop] at this
      exact hx h (by omega)
     ·split at h
      ·have := note_len (.inl rfl) s.tail [62]
       rw [List.length_tail] at this
       exact hx h (by omega)
      ·split at h
       ·have := note_len (.inl rfl) s [62]
        exact hx h (by omega)
       ·split at h
        ·have := note_len (.inl rfl) s.tail [62]
         rw [List.length_tail] at this
         exact hx h (by omega)
        ·simp at h
theorem tell_len (t : Txt) : wts (tellF t) ≤ 20 * t.length := by
 unfold tellF
 split
 ·simp [wts]
 ·have := decL_le t
  rw [wts_one, wt, if_pos rfl]
  simp only
  omega
theorem runN_len : ∀ (n : Nat) (t s : Txt), wts (runN n t s) ≤ 20 * (t.length + s.length)
 | 0, t, s => by
   have := tell_len t
   rw [runN]
   omega
 | n + 1, t, s => by
   have ht := tell_len (t ++ s.take (textF s))
   have hf : textF s ≤ s.length := List.findIdx_le_length
   rw [List.length_append, List.length_take] at ht
   unfold runN
   cases hd : s.drop (textF s) with
   | nil =>
     simp only
     omega
   | cons c s1 =>
     have h1 : textF s + (s1.length + 1) = s.length := by
      have := congrArg List.length hd
      simp at this
      omega
     simp only
     cases ho : openF s1 with
     | none =>
       have := runN_len n (t ++ s.take (textF s) ++ [60]) s1
       simp only [List.length_append, List.length_take, List.length_cons, List.length_nil] at this
       simp only
       omega
     | some x =>
       obtain ⟨ts, r⟩ := x
       have h2 := open_len ho
       have h3 := runN_len n [] r
       simp only [List.length_nil] at h3
       simp only
       rw [wts_app, wts_app]
       omega
end Go.Proofs.YtkcmghlhpbepcaaGreatDoor

/- Rows of tokens and of attributes of the call's own, in the words of the printed walks, and in our own. -/
namespace Go.Proofs.YtkcmghlhpbepcaaGreatDoorH.W7
open Go.RowKit Go.Proofs Go.Proofs.YtkcmghlhpbepcaaGreatDoor Go.Proofs.YtkcmghlhpbepcaaGreatDoorW.PrintWords
theorem flat_reps {α : Type} {R : α → List Value → Prop} {size : Nat} (g : α → List Value) : ∀ (ps : List α), (∀ p ∈ ps, R p (g p) ∧ (g p).length = size) → Reps R size ps (ps.flatMap g)
 | [], _ => by simpa using Reps.none R size
 | p :: ps, h => by
   have ih := flat_reps g ps (fun q hq => h q (by simp [hq]))
   obtain ⟨h1, h2⟩ := h p (by simp)
   refine ⟨by rw [List.flatMap_cons, List.length_append, ih.1, h2, List.length_cons, Nat.succ_mul, Nat.add_comm], fun j q hq => ?_⟩
   cases j with
   | zero =>
     simp at hq
     subst hq
     rw [Nat.zero_mul, List.drop_zero, List.flatMap_cons, List.take_append_of_le_length (by omega), List.take_of_length_le (by omega)]
     exact h1
   | succ j =>
     have := ih.2 j q (by simpa using hq)
     rw [List.flatMap_cons, Nat.succ_mul, Nat.add_comm, ← List.drop_drop, List.drop_left' h2]
     exact this
theorem flat_pair (l : List S36) : (l.flatMap fun a => [Value.string a.f0, .string a.f1]) = attrV (l.map pairS) := by
 induction l with
 | nil => rfl
 | cons a l ih => rw [List.flatMap_cons, ih]; rfl
theorem R_of_atts {w : World} {base : Nat} {ok : Nat → Prop} {v : Value} {l : List (Txt × Txt)} (h : Atts w base v l) (hok : ∀ k, v.ownBlock = some k → ok k) : k36.R 36 w base ok v (l.map pairT) := by
 refine ⟨hok, attrV l, ?_, ?_⟩
 ·rw [List.length_map]; exact h
 ·have := flat_pair (l.map pairT)
  rw [pairsS_T] at this
  rw [← this]
  exact flat_reps _ _ (fun p _ => ⟨k36_mkM _ _ _ _, rfl⟩)
theorem R_of_toks {w : World} {base : Nat} {v : Value} {l : List Tok} (h : Toks w base v l) : k65.R 65 w base (fun _ => True) v (l.map tokT) := by
 obtain ⟨ps, h1, h2, h3⟩ := h
 refine ⟨fun _ _ => trivial, ps.flatMap (fun p => tokV p.1 p.2), by rw [List.length_map]; exact h2, ?_⟩
 have hl : l.map tokT = ps.map (fun p => tokT p.1) := by rw [← h1, List.map_map]; rfl
 rw [hl]
 have key : ∀ (ps : List (Tok × Value)), (∀ p ∈ ps, Atts w base p.2 p.1.attrs) → Reps (k65.M w base (fun k => True ∧ some k ≠ v.ownBlock)) 5 (ps.map fun p => tokT p.1) (ps.flatMap fun p => tokV p.1 p.2) := by
  intro ps
  induction ps with
  | nil => intro _; exact Reps.none _ _
  | cons p ps ih =>
    intro hp
    have ih := ih (fun q hq => hp q (by simp [hq]))
    have hA := hp p (by simp)
    have hR := R_of_atts (ok := fun k => True ∧ some k ≠ v.ownBlock) hA (fun k hk => ⟨trivial, fun e => by
     obtain ⟨c1, e1⟩ := own_cells hA hk
     obtain ⟨c2, e2⟩ := own_cells h2 e.symm
     rw [e1] at e2
     injection e2 with e2
     injection e2 with _ e2
     exact absurd e2 (by decide)⟩)
    have hM := k65_mkM w base (fun k => True ∧ some k ≠ v.ownBlock) (tokT p.1) hR
    refine ⟨by rw [List.map_cons, List.flatMap_cons, List.length_append, ih.1, List.length_cons, Nat.succ_mul, Nat.add_comm]; rfl, fun j q hq => ?_⟩
    cases j with
    | zero =>
      simp at hq
      subst hq
      exact hM
    | succ j =>
      have := ih.2 j q (by simpa using hq)
      rw [List.flatMap_cons, Nat.succ_mul, Nat.add_comm, ← List.drop_drop]
      exact this
 exact key ps h3
end Go.Proofs.YtkcmghlhpbepcaaGreatDoorH.W7

/- Contracts of package names: among, Raw, Soft. Nothing that lay in memory turns. -/
namespace Go.Proofs.YtkcmghlhpbepcaaGreatDoor
open Go.RowKit Go.Proofs
theorem among_yes {L : List Txt} {l : Txt} {k : Nat} (hk : k < L.length) (h : L.getD k [] = l) : inB L l = true := by
 unfold inB
 rw [List.contains_iff_mem, ← h]
 simp [List.getD, List.getElem?_eq_getElem hk]
theorem among_no {L : List Txt} {l : Txt} (h : ∀ k, k < L.length → L.getD k [] ≠ l) : inB L l = false := by
 unfold inB
 cases hc : L.contains l with
 | false => rfl
 | true =>
   rw [List.contains_iff_mem] at hc
   obtain ⟨k, hk, e⟩ := List.getElem_of_mem hc
   exact absurd (by simp [List.getD, List.getElem?_eq_getElem hk, e]) (h k hk)
set_option maxHeartbeats 1000000 in
set_option maxRecDepth 100000 in
theorem among_c (b n : Nat) (L : List Txt) (l : Txt) (hn : n = L.length) (hN : n ≤ 1000000) (w : World) (ht : TextsAt b n L w) :
 Calls Tryz.prog 81 #[.string ⟨l.toArray⟩, .slice (some ⟨b, 0, none⟩) n n] w fun e w' => e = .returned (.bool (inB L l)) ∧ w = w' := by
 go_enter Tryz.func81, Tryz.ntmps81
 go_wp2
 go_loop [6, 9] (fun _ v => ∃ (k : Nat), v = .int .i64 k ∧ k ≤ n ∧ Hid (∀ j, j < k → L.getD j [] ≠ l)) (fun _ v => n - (intOf v).toNat)
 case atStart => exact ⟨0, rfl, by omega, fun j h => by omega⟩
 case round =>
  obtain ⟨k, rfl, hk, hno⟩ := hrel
  by_cases hlt : k < n
  ·have c1 := ht k hlt
   by_cases he : L.getD k [] = l
   ·have hy := Lib.hid (among_yes (by omega) he)
    rw [he] at c1
    have hbe : (l == l) = true := by simp
    clear he
    go_wp2
    go_ret
    rw [hy.out]
    exact ⟨rfl, rfl⟩
   ·have hno2 := Lib.hid (show ∀ j, j < k + 1 → L.getD j [] ≠ l by
     intro j hj
     by_cases e : j = k
     ·subst e; exact he
     ·exact hno.out j (by omega))
    have hbe : (L.getD k [] == l) = false := by simpa using he
    clear he
    generalize L.getD k [] = nm at *
    go_wp2
    refine ⟨⟨k + 1, rfl, by omega, hno2⟩, by simp [intOf]; omega⟩
  ·have hm := Lib.hid (among_no (L := L) (l := l) fun k hk => hno.out k (by omega))
   go_wp2
   go_ret
   rw [hm.out]
   exact ⟨rfl, rfl⟩
set_option maxRecDepth 100000 in
theorem raw_c (l : Txt) (w : World) :
 Calls Tryz.prog 32 #[.string ⟨l.toArray⟩] w fun e w' => e = .returned (.bool (rawB l)) ∧ Below w.heap.size w w' := by
 go_enter Tryz.func32, Tryz.ntmps32
 go_wp2_with (go_at_call 81; ((refine (among_c _ 6 rawsL _ (by rfl) (by decide) _ (TextsAt.of (new_cells _ _ _) (by rfl) (by decide))).mono ?_); rintro e w1 ⟨rfl, rfl⟩))
 go_ret
 exact ⟨rfl, (Below.refl _ w).alloc (Nat.le_refl _) _⟩
set_option maxRecDepth 100000 in
theorem soft_c (l : Txt) (w : World) :
 Calls Tryz.prog 33 #[.string ⟨l.toArray⟩] w fun e w' => e = .returned (.bool (softB l)) ∧ Below w.heap.size w w' := by
 go_enter Tryz.func33, Tryz.ntmps33
 go_wp2_with (go_at_call 81; ((refine (among_c _ 2 softsL _ (by rfl) (by decide) _ (TextsAt.of (new_cells _ _ _) (by rfl) (by decide))).mono ?_); rintro e w1 ⟨rfl, rfl⟩))
 go_ret
 exact ⟨rfl, (Below.refl _ w).alloc (Nat.le_refl _) _⟩
end Go.Proofs.YtkcmghlhpbepcaaGreatDoor

/- Contracts of token's scanner: until, isDoctype. What lay below the scanner's own blocks does not turn. -/
namespace Go.Proofs.YtkcmghlhpbepcaaGreatDoor
open Go.RowKit Go.Proofs
def Env (w : World) (base : Nat) : Prop := ∃ w0, Std w0 ∧ w0.heap.size = base ∧ Below base w0 w
theorem Env.std {w : World} {base : Nat} (h : Env w base) : Std w := by
 obtain ⟨w0, h1, rfl, h3⟩ := h
 exact h1.below h3
theorem Env.below {w w' : World} {base : Nat} (h : Env w base) (hb : Below base w w') : Env w' base := by
 obtain ⟨w0, h1, h2, h3⟩ := h
 exact ⟨w0, h1, h2, h3.trans hb⟩
theorem Env.le {w : World} {base : Nat} (h : Env w base) : base ≤ w.heap.size := by
 obtain ⟨w0, h1, rfl, h3⟩ := h
 exact h3.size
theorem below_up {w w' : World} {base : Nat} (hb : Below w.heap.size w w') (h : base ≤ w.heap.size) : Below base w w' := ⟨hb.os, hb.tape, hb.output, hb.size, fun i hi => hb.block i (by omega)⟩
theorem three_facts {w : World} {b : Nat} {v0 v1 v2 : Value} {t : TypeId} (h : w.heap[b]? = some (.cells #[v0, v1, v2] t (0, 0))) :
 (w.cell? ⟨b, 0, none⟩ = some v0 ∧ w.cell? ⟨b, 1, none⟩ = some v1 ∧ w.cell? ⟨b, 2, none⟩ = some v2) ∧ (∀ j, w.frozen? ⟨b, j, none⟩ = false) := by
 refine ⟨⟨?_, ?_, ?_⟩, fun j => frozen_of_row w b j _ _ h⟩ <;> (rw [Lib.cell_of_heap h]; rfl)
theorem cutg_c (s e : Txt) (hs : s.length ≤ 1000000000) (w : World) (hS : Std w) :
 Calls Tryz.prog 188 #[.string ⟨s.toArray⟩, .string ⟨e.toArray⟩] w fun r w' => r = .returned (.tuple #[.string ⟨(Lib.cut s e).1.toArray⟩, .string ⟨(Lib.cut s e).2.1.toArray⟩, .bool (Lib.cut s e).2.2]) ∧ Below w.heap.size w w' := by
 obtain ⟨m, hm⟩ := hS.maxLen
 refine (Tryz.strings_Cut ⟨s.toArray⟩ ⟨e.toArray⟩ m w (by rw [mk_size]; omega) hm).mono ?_
 rintro e w' ⟨rfl, n, rfl⟩
 refine ⟨?_, below_drewN (Below.refl _ _) n⟩
 rw [mk_data_list, mk_data_list]
theorem cut_false {s e : Txt} (h : (Lib.cut s e).2.2 = false) : Lib.cut s e = (s, [], false) := by
 unfold Lib.cut at *
 split
 ·rename_i h0
  rw [if_pos h0] at h
  simp at h
 ·rfl
set_option maxHeartbeats 1000000 in
set_option maxRecDepth 100000 in
theorem until_c (base b : Nat) (s t e : Txt) (l : List Tok) (hs : s.length ≤ 1000000000) (w : World) (hsc : Sc w base b s t l) (hE : Env w base) :
 Calls Tryz.prog 214 #[.pointer (some ⟨b, 0, none⟩), .string ⟨e.toArray⟩] w fun r w' => r = .returned (.string ⟨(untilF s e).1.toArray⟩) ∧ Sc w' base b (untilF s e).2 t l ∧ Below base w w' := by
 have hS := hE.std
 have hle := hE.le
 have hbb := hsc.1
 have hcut := Lib.hid (fun W hS => cutg_c s e hs W hS)
 unfold untilF
 have hcf := Lib.hid (fun h => cut_false (s := s) (e := e) h)
 generalize Lib.cut s e = c at *
 obtain ⟨v1, v2, fd⟩ := c
 obtain ⟨_, v, hh, hT⟩ := id hsc
 obtain ⟨⟨c0, c1, c2⟩, c5⟩ := three_facts hh
 cases fd with
 | true =>
   go_enter Tryz.func214, Tryz.ntmps214
   go_wp2_with (go_at_call 188; ((with_reducible refine (hcut.out _ hS).mono ?_); rintro e w2 ⟨rfl, hb2⟩; have hsc2 := hsc.below hb2; obtain ⟨_, v2', hh2, hT2⟩ := id hsc2; obtain ⟨⟨d0, d1, d2⟩, d5⟩ := three_facts hh2))
   go_ret
   exact ⟨rfl, hsc2.set_s v2, below_set (below_up hb2 hle) hbb _⟩
 | false =>
   have hcc := hcf.out rfl
   simp only [Prod.mk.injEq] at hcc
   obtain ⟨rfl, rfl, _⟩ := hcc
   go_enter Tryz.func214, Tryz.ntmps214
   go_wp2_with (go_at_call 188; ((with_reducible refine (hcut.out _ hS).mono ?_); rintro e w2 ⟨rfl, hb2⟩; have hsc2 := hsc.below hb2; obtain ⟨_, v2', hh2, hT2⟩ := id hsc2; obtain ⟨⟨d0, d1, d2⟩, d5⟩ := three_facts hh2))
   go_ret
   exact ⟨rfl, hsc2.set_s [], below_set (below_up hb2 hle) hbb _⟩
set_option maxHeartbeats 1000000 in
set_option maxRecDepth 100000 in
theorem isDoctype_c (s : Txt) (hs : s.length ≤ 1000000000) (w : World) :
 Calls Tryz.prog 193 #[.string ⟨s.toArray⟩] w fun r w' => r = .returned (.bool (isDoctypeB s)) ∧ Below w.heap.size w w' := by
 have h1 := Lib.hid (fun W => fsame_c (s.take 8) [33, 100, 111, 99, 116, 121, 112, 101] (by simp; omega) (by simp) W)
 have h2 := Lib.hid (fun W => letter_c (s.drop 8) W)
 have hd : Hid (isDoctypeB s = (decide (8 ≤ s.length) && sameB (s.take 8) [33, 100, 111, 99, 116, 121, 112, 101] && !letterL (s.drop 8))) := rfl
 generalize isDoctypeB s = r at *
 generalize sameB (s.take 8) [33, 100, 111, 99, 116, 121, 112, 101] = q at *
 generalize letterL (s.drop 8) = p at *
 by_cases hl : 8 ≤ s.length
 ·have hlI : (8 : Int) ≤ s.length := by omega
  cases q with
  | true =>
    have hr := hd.out
    simp only [hl, decide_true, Bool.true_and] at hr
    have hr := Lib.hid hr
    rename_i hr0
    clear hr0
    go_enter Tryz.func193, Tryz.ntmps193
    go_wp2_with (first
     | (go_at_call 153; ((with_reducible refine (h1.out _).mono ?_); rintro e w1 ⟨rfl, hb⟩))
     | (go_at_call 190; ((with_reducible refine (h2.out _).mono ?_); rintro e w2 ⟨rfl, rfl⟩)))
    go_ret
    rw [hr.out]
    exact ⟨rfl, hb⟩
  | false =>
    have hr := hd.out
    simp only [Bool.and_false, Bool.false_and] at hr
    subst hr
    go_enter Tryz.func193, Tryz.ntmps193
    go_wp2_with (first
     | (go_at_call 153; ((with_reducible refine (h1.out _).mono ?_); rintro e w1 ⟨rfl, hb⟩))
     | (go_at_call 190; ((with_reducible refine (h2.out _).mono ?_); rintro e w2 ⟨rfl, rfl⟩)))
    go_ret
    exact ⟨rfl, hb⟩
 ·have hlI : ¬ (8 : Int) ≤ s.length := by omega
  have hr := hd.out
  simp only [hl, decide_false, Bool.false_and] at hr
  subst hr
  go_enter Tryz.func193, Tryz.ntmps193
  go_wp2
  go_ret
  exact ⟨rfl, Below.refl _ _⟩
end Go.Proofs.YtkcmghlhpbepcaaGreatDoor

/- Contract of token's scanner: tell: the text that was gone over becomes a token. What lay below the scanner's own blocks does not turn. -/
namespace Go.Proofs.YtkcmghlhpbepcaaGreatDoor
open Go.RowKit Go.Proofs
theorem Toks.len {w : World} {base : Nat} {v : Value} {l : List Tok} (h : Toks w base v l) : ∃ a c, v = .slice a l.length c := by
 obtain ⟨ps, h1, h2, h3⟩ := h
 rcases h2.2 with ⟨rfl, h0⟩ | ⟨g, cap, cur, rfl, _⟩
 ·exact ⟨none, 0, by rw [h0]⟩
 ·exact ⟨_, _, rfl⟩
theorem Toks.alloc {w : World} {base : Nat} {v : Value} {l : List Tok} (h : Toks w base v l) (o : Obj) : Toks (w.alloc o) base v l := h.below ((Below.refl _ _).alloc (Nat.le_refl _) o)
theorem step_tok {w : World} {ops : Array Oper} {o : Oper} {a : Act} {K : Act → World → Prop} {Q : Exit → Act → World → Prop} {E : Prop} (hgd : o.guard = none) (sl x : Operand)
 (ho : o.op = .call { callee := .builtin .append, args := #[sl, x], argTypes := #[26, 26] })
 (base g : Nat) (v va : Value) (l : List Tok) (t : Tok) (hs : a.eval sl = v) (hown : Toks w base v l) (hx : a.eval x = .slice (some ⟨g, 0, none⟩) 1 1)
 (hc0 : w.cell? ⟨g, 0, none⟩ = some (.int .i64 t.kind)) (hc1 : w.cell? ⟨g, 1, none⟩ = some (.string ⟨t.name.toArray⟩)) (hc2 : w.cell? ⟨g, 2, none⟩ = some (.string ⟨t.data.toArray⟩)) (hc3 : w.cell? ⟨g, 3, none⟩ = some va) (hc4 : w.cell? ⟨g, 4, none⟩ = some (.bool t.self))
 (hat : Atts w base va t.attrs) (hlen : l.length + 1 ≤ 1000000000000) (hbase : base ≤ w.heap.size)
 (h : ∀ v' w', Toks w' base v' (l ++ [t]) → w.grownBy w' v.ownBlock → Below base w w' → (∀ (b : Nat) (cur : Array Value) (e : TypeId) (fz : Nat × Nat), w.heap[b]? = some (.cells cur e fz) → e ≠ 65 → w'.heap[b]? = some (.cells cur e fz)) → K (a.put o.dst v') w') : if Region.wanted o (yielded ops a.tmps) = true then Oper.wp Tryz.prog o a w K Q else E := by
 have hw : Region.wanted o (yielded ops a.tmps) = true := by simp [Region.wanted, hgd]
 rw [if_pos hw]
 obtain ⟨i, z, hi, hz, h2, h3, hzs⟩ := tokInfo
 obtain ⟨ps, k1, k2, k3⟩ := hown
 refine wp_append_own _ sl x 26 ho base 65 i z 5 72 Tryz.underlying26 hi hz h2 h3 hzs (by decide) v l.length _ hs k2 ⟨g, 0, none⟩ 1 1 (tokV t va) hx rfl ?_ ?_ (by unfold maxLen; omega) (by omega) hbase ?_
 ·intro j u hj
  rw [addr_add]
  match j, hj with
  | 0, hj => simp [tokV] at hj; subst hj; exact hc0
  | 1, hj => simp [tokV] at hj; subst hj; exact hc1
  | 2, hj => simp [tokV] at hj; subst hj; exact hc2
  | 3, hj => simp [tokV] at hj; subst hj; exact hc3
  | 4, hj => simp [tokV] at hj; subst hj; exact hc4
 ·intro u hu
  simp [tokV] at hu
  rcases hu with rfl | rfl | rfl | rfl | rfl
  ·rfl
  ·rfl
  ·rfl
  ·exact own_one hat
  ·rfl
 ·intro v' w' hown' hgrow _
  refine h v' w' ⟨ps ++ [(t, va)], by simp [k1], by simpa using hown', ?_⟩ hgrow ((Below.refl base w).grown hgrow hbase (fun k hk => own_base k2 hk)) ?_
  ·intro p hp
   rw [List.mem_append] at hp
   rcases hp with hp | hp
   ·exact own_apart (k3 p hp) k2 hgrow (by decide)
   ·simp at hp
    subst hp
    exact own_apart hat k2 hgrow (by decide)
  ·intro b cur e fz hb hne
   rw [hgrow.block b (Array.getElem?_eq_some_iff.1 hb).1 (fun e0 => own_ne k2 hb hne e0.symm)]
   exact hb
set_option maxHeartbeats 2000000 in
set_option maxRecDepth 100000 in
theorem tell_c (base b : Nat) (s t : Txt) (l : List Tok) (ht : t.length ≤ 1000000000) (hl : l.length ≤ 100000000000) (w : World) (hsc : Sc w base b s t l) (hE : Env w base) :
 Calls Tryz.prog 159 #[.pointer (some ⟨b, 0, none⟩)] w fun r w' => r = .returned (.tuple #[]) ∧ Sc w' base b s [] (l ++ tellF t) ∧ Below base w w' := by
 have hS := hE.std
 have hle := hE.le
 have hbb := hsc.1
 obtain ⟨_, v, hh, hT⟩ := id hsc
 obtain ⟨ad, cp, rfl⟩ := hT.len
 obtain ⟨⟨c0, c1, c2⟩, c5⟩ := three_facts hh
 cases t with
 | nil =>
   go_enter Tryz.func159, Tryz.ntmps159
   go_wp2
   go_end0
   refine ⟨rfl, ?_, below_set (Below.refl _ _) hbb _⟩
   have := hsc.set_t []
   simpa [tellF] using this
 | cons c u =>
   obtain ⟨q, hq⟩ : ∃ q, c :: u = q := ⟨_, rfl⟩
   have htl : tellF (c :: u) = [⟨0, [], [], decL (c :: u), false⟩] := by simp [tellF]
   have hne : (q == []) = false := by rw [← hq]; rfl
   rw [htl]
   rw [hq] at hsc hh c1 ht ⊢
   clear htl hq
   have hdec := Lib.hid (fun W hS => decode_c q ht W hS)
   generalize decL q = dq at *
   have hSd := hS.drew
   have hscd := hsc.below (Below.refl _ w).drew
   go_enter Tryz.func159, Tryz.ntmps159
   go_wp2
   go_region_law (first
    | (refine step_tok rfl (.tmp 11) (.tmp 18) rfl base w2.heap.size (.slice ad l.length cp) (.slice none 0 0) l ⟨0, [], [], dq, false⟩ rfl hT3 rfl k0 k1 k2 k3 k4 (Atts.nil _ _) (by omega) hle3 ?_; intro v5 w5 hT5 hg5 hb5 hk5; obtain ⟨ad5, cp5, rfl⟩ := hT5.len; rw [show (l ++ [(⟨0, [], [], dq, false⟩ : Tok)]).length = l.length + 1 from List.length_append] at hT5; have hh5 := hk5 _ _ _ _ hh3 (by decide); obtain ⟨⟨e0, e1, e2⟩, e5⟩ := three_facts hh5; have hB5 := hB3.trans hb5)
    | (go_simp; go_at_call 155; ((with_reducible refine (hdec.out _ hSd).mono ?_); rintro e w2 ⟨rfl, hb2⟩; have hh2 := heap_below (w := w.drew) hh hb2; have hT2 := (hT.below (Below.refl _ w).drew).below hb2; obtain ⟨⟨d0, d1, d2⟩, d5⟩ := three_facts hh2; have hT3 := hT2.alloc (.cells #[.int .i64 0, .string ⟨#[]⟩, .string ⟨dq.toArray⟩, .slice none 0 0, .bool false] 65); have hh3 := heap_old hh2 (.cells #[.int .i64 0, .string ⟨#[]⟩, .string ⟨dq.toArray⟩, .slice none 0 0, .bool false] 65); obtain ⟨⟨k0, k1, k2, k3, k4⟩, k5⟩ := five_facts (new_cells w2 #[.int .i64 0, .string ⟨#[]⟩, .string ⟨dq.toArray⟩, .slice none 0 0, .bool false] 65); obtain ⟨⟨f0, f1, f2⟩, f5⟩ := three_facts hh3; have hB2 := below_then ((Below.refl base w).drew) hle hb2; have hle2 : base ≤ w2.heap.size := Nat.le_trans hle hB2.size; have hB3 := hB2.alloc hle2 (.cells #[.int .i64 0, .string ⟨#[]⟩, .string ⟨dq.toArray⟩, .slice none 0 0, .bool false] 65); have hle3 : base ≤ (w2.alloc (.cells #[.int .i64 0, .string ⟨#[]⟩, .string ⟨dq.toArray⟩, .slice none 0 0, .bool false] 65)).heap.size := (by rw [World.size_alloc]; omega))))
   all_goals
    have hfin := (Sc.set_o (l := l) hbb hh5 hT5).set_t []
    have hbf := fun x y => below_set (j := 1) (below_set (j := 2) hB5 hbb x) hbb y
    go_wp2
    go_end0
    exact ⟨rfl, hfin, hbf _ _⟩
end Go.Proofs.YtkcmghlhpbepcaaGreatDoor

/- Contract of token's scanner: note: a comment or a doctype. What lay below the scanner's own blocks does not turn. -/
namespace Go.Proofs.YtkcmghlhpbepcaaGreatDoor
open Go.RowKit Go.Proofs
theorem cut_le1 (s e : Txt) : (Lib.cut s e).1.length ≤ s.length := by
 unfold Lib.cut
 split
 ·simp
  omega
 ·simp
set_option maxHeartbeats 2000000 in
set_option maxRecDepth 100000 in
theorem note_c3 (base b : Nat) (s t e : Txt) (l : List Tok) (k : Nat) (fr : Int) (hfr : fr = k) (hk : k ≤ s.length) (hs : s.length ≤ 1000000000) (ht : t.length ≤ 1000000000) (hl : l.length ≤ 10000000000) (w : World) (hsc : Sc w base b s t l) (hE : Env w base) :
 Calls Tryz.prog 194 #[.pointer (some ⟨b, 0, none⟩), .int .i64 3, .int .i64 fr, .string ⟨e.toArray⟩] w fun r w' => r = .returned (.tuple #[]) ∧ Sc w' base b (untilF (s.drop k) e).2 [] ((l ++ tellF t) ++ [⟨3, [], [], (untilF (s.drop k) e).1, false⟩]) ∧ Below base w w' := by
 have hbb := hsc.1
 have hc1 := Lib.hid (tell_c base b s t l ht (by omega) w hsc hE)
 have hl1 : (l ++ tellF t).length ≤ 100000000000 := by unfold tellF; split <;> simp <;> omega
 generalize l ++ tellF t = l1 at *
 have hc2 := Lib.hid (fun W h1 h2 => until_c base b (s.drop k) [] e l1 (by simp; omega) W h1 h2)
 generalize untilF (s.drop k) e = u at *
 obtain ⟨u1, u2⟩ := u
 subst hfr
 have hkI : (k : Int) ≤ s.length := by omega
 have hsd : s.length ≤ 1000000000 := hs
 go_enter Tryz.func194, Tryz.ntmps194
 go_wp2_with (first
  | (go_at_call 159; ((with_reducible refine (hc1.out).mono ?_); rintro e w1 ⟨rfl, hsc1, hb1⟩; have hE1 := hE.below hb1; obtain ⟨_, v1, hh1, hT1⟩ := id hsc1; obtain ⟨⟨d0, d1, d2⟩, d5⟩ := three_facts hh1; have hE1' := hE1.below (below_set (j := 0) (Below.refl base w1) hbb (.string ⟨(s.drop k).toArray⟩)); have hsc1' := hsc1.set_s (s.drop k)))
  | (go_at_call 214; ((with_reducible refine (hc2.out _ hsc1' hE1').mono ?_); rintro e w2 ⟨rfl, hsc2, hb2⟩; obtain ⟨_, v2, hh2, hT2⟩ := id hsc2; obtain ⟨ad2, cp2, rfl⟩ := hT2.len; obtain ⟨⟨f0, f1, f2⟩, f5⟩ := three_facts hh2; have hE2 := hE1'.below hb2; have hle2 := hE2.le; have hB2 := (below_set (j := 0) hb1 hbb (.string ⟨(s.drop k).toArray⟩)).trans hb2; obtain ⟨⟨k0, k1, k2, k3, k4⟩, k5⟩ := five_facts (new_cells w2 #[.int .i64 3, .string ⟨#[]⟩, .string ⟨u1.toArray⟩, .slice none 0 0, .bool false] 65); have hT3 := hT2.alloc (.cells #[.int .i64 3, .string ⟨#[]⟩, .string ⟨u1.toArray⟩, .slice none 0 0, .bool false] 65); have hh3 := heap_old hh2 (.cells #[.int .i64 3, .string ⟨#[]⟩, .string ⟨u1.toArray⟩, .slice none 0 0, .bool false] 65); have hB3 := hB2.alloc hle2 (.cells #[.int .i64 3, .string ⟨#[]⟩, .string ⟨u1.toArray⟩, .slice none 0 0, .bool false] 65); have hle3 : base ≤ (w2.alloc (.cells #[.int .i64 3, .string ⟨#[]⟩, .string ⟨u1.toArray⟩, .slice none 0 0, .bool false] 65)).heap.size := (by rw [World.size_alloc]; omega)))
  | (at_builtin; refine app_tok rfl (.tmp 31) (.tmp 35) rfl base w2.heap.size (.slice ad2 l1.length cp2) (.slice none 0 0) l1 ⟨3, [], [], u1, false⟩ rfl hT3 rfl k0 k1 k2 k3 k4 (Atts.nil _ _) (by omega) hle3 ?_; intro v5 w5 hT5 hg5 hb5 hk5; obtain ⟨ad5, cp5, rfl⟩ := hT5.len; rw [show (l1 ++ [(⟨3, [], [], u1, false⟩ : Tok)]).length = l1.length + 1 from List.length_append] at hT5; have hh5 := hk5 _ _ _ _ hh3 (by decide); obtain ⟨⟨e0, e1, e2⟩, e5⟩ := three_facts hh5; have hB5 := hB3.trans hb5))
 go_end0
 exact ⟨rfl, Sc.set_o (l := l1) hbb hh5 hT5, below_set hB5 hbb _⟩
set_option maxHeartbeats 2000000 in
set_option maxRecDepth 100000 in
theorem note_c4 (base b : Nat) (s t e : Txt) (l : List Tok) (k : Nat) (fr : Int) (hfr : fr = k) (hk : k ≤ s.length) (hs : s.length ≤ 1000000000) (ht : t.length ≤ 1000000000) (hl : l.length ≤ 10000000000) (w : World) (hsc : Sc w base b s t l) (hE : Env w base) :
 Calls Tryz.prog 194 #[.pointer (some ⟨b, 0, none⟩), .int .i64 4, .int .i64 fr, .string ⟨e.toArray⟩] w fun r w' => r = .returned (.tuple #[]) ∧ Sc w' base b (untilF (s.drop k) e).2 [] ((l ++ tellF t) ++ [⟨4, [], [], trimL (untilF (s.drop k) e).1, false⟩]) ∧ Below base w w' := by
 have hbb := hsc.1
 have hc1 := Lib.hid (tell_c base b s t l ht (by omega) w hsc hE)
 have hl1 : (l ++ tellF t).length ≤ 100000000000 := by unfold tellF; split <;> simp <;> omega
 generalize l ++ tellF t = l1 at *
 have hc2 := Lib.hid (fun W h1 h2 => until_c base b (s.drop k) [] e l1 (by simp; omega) W h1 h2)
 have hul : (untilF (s.drop k) e).1.length ≤ (s.drop k).length := cut_le1 _ _
 rw [List.length_drop] at hul
 generalize untilF (s.drop k) e = u at *
 obtain ⟨u0, u2⟩ := u
 have hc3 := Lib.hid (fun W => ftrim_c u0 (by simp only at hul; omega) W)
 have hc2' := Lib.hid hc2.out
 simp only
 generalize trimL u0 = u1 at *
 subst hfr
 have hkI : (k : Int) ≤ s.length := by omega
 have hsd : s.length ≤ 1000000000 := hs
 go_enter Tryz.func194, Tryz.ntmps194
 go_wp2_with (first
  | (go_at_call 159; ((with_reducible refine (hc1.out).mono ?_); rintro e w1 ⟨rfl, hsc1, hb1⟩; have hE1 := hE.below hb1; obtain ⟨_, v1, hh1, hT1⟩ := id hsc1; obtain ⟨⟨d0, d1, d2⟩, d5⟩ := three_facts hh1; have hE1' := hE1.below (below_set (j := 0) (Below.refl base w1) hbb (.string ⟨(s.drop k).toArray⟩)); have hsc1' := hsc1.set_s (s.drop k)))
  | (go_at_call 214; ((with_reducible refine (hc2.out _ hsc1' hE1').mono ?_); rintro e w2 ⟨rfl, hsc2, hb2⟩; obtain ⟨_, v2, hh2, hT2⟩ := id hsc2; obtain ⟨ad2, cp2, rfl⟩ := hT2.len; obtain ⟨⟨f0, f1, f2⟩, f5⟩ := three_facts hh2; have hE2 := hE1'.below hb2; have hle2 := hE2.le; have hB2 := (below_set (j := 0) hb1 hbb (.string ⟨(s.drop k).toArray⟩)).trans hb2; obtain ⟨⟨k0, k1, k2, k3, k4⟩, k5⟩ := five_facts (new_cells w2 #[.int .i64 4, .string ⟨#[]⟩, .string ⟨u1.toArray⟩, .slice none 0 0, .bool false] 65); have hT3 := hT2.alloc (.cells #[.int .i64 4, .string ⟨#[]⟩, .string ⟨u1.toArray⟩, .slice none 0 0, .bool false] 65); have hh3 := heap_old hh2 (.cells #[.int .i64 4, .string ⟨#[]⟩, .string ⟨u1.toArray⟩, .slice none 0 0, .bool false] 65); have hB3 := hB2.alloc hle2 (.cells #[.int .i64 4, .string ⟨#[]⟩, .string ⟨u1.toArray⟩, .slice none 0 0, .bool false] 65); have hle3 : base ≤ (w2.alloc (.cells #[.int .i64 4, .string ⟨#[]⟩, .string ⟨u1.toArray⟩, .slice none 0 0, .bool false] 65)).heap.size := (by rw [World.size_alloc]; omega)))
  | (go_at_call 215; ((with_reducible refine (hc3.out _).mono ?_); rintro e w3 ⟨rfl, rfl⟩))
  | (at_builtin; refine app_tok rfl (.tmp 31) (.tmp 35) rfl base w2.heap.size (.slice ad2 l1.length cp2) (.slice none 0 0) l1 ⟨4, [], [], u1, false⟩ rfl hT3 rfl k0 k1 k2 k3 k4 (Atts.nil _ _) (by omega) hle3 ?_; intro v5 w5 hT5 hg5 hb5 hk5; obtain ⟨ad5, cp5, rfl⟩ := hT5.len; rw [show (l1 ++ [(⟨4, [], [], u1, false⟩ : Tok)]).length = l1.length + 1 from List.length_append] at hT5; have hh5 := hk5 _ _ _ _ hh3 (by decide); obtain ⟨⟨e0, e1, e2⟩, e5⟩ := three_facts hh5; have hB5 := hB3.trans hb5))
 go_end0
 exact ⟨rfl, Sc.set_o (l := l1) hbb hh5 hT5, below_set hB5 hbb _⟩
end Go.Proofs.YtkcmghlhpbepcaaGreatDoor
