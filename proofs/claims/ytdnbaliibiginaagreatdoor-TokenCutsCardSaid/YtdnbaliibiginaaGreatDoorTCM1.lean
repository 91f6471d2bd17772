/- Lemmas and walks, part 1: RSpoil, LTokenCuts. -/
import Derived.Test.YtdnbaliibiginaaGreatDoorTIM20
import Derived.Test.YtdnbaliibiginaaGreatDoorTIM13
import Derived.Test.YtdnbaliibiginaaGreatDoorTIM22
set_option linter.unusedVariables false
set_option linter.unusedSimpArgs false

/- Contract of boltinglaw06.spoil: tokens of the caller's own are written over; what lies below their blocks does not turn. -/
namespace Go.Proofs.YtdnbaliibiginaaGreatDoor
open Go.RowKit Go.Proofs

/-- A row of tokens that may be written over: its cells are there, and those of its attributes. -/
def SpOK (w : World) (base g : Nat) (ps : List (Tok × Value)) : Prop :=
  (base ≤ g ∧ ∃ cur, w.heap[g]? = some (.cells cur 59 (0, 0)) ∧ ∀ j (h : j < ps.length), cur[j * 5 + 3]? = some ps[j].2 ∧ ∃ x, cur[j * 5 + 1]? = some x) ∧
  ∀ p ∈ ps, ∃ a cap, p.2 = .slice a p.1.attrs.length cap ∧ (p.1.attrs = [] ∨ ∃ ga cur, a = some ⟨ga, 0, none⟩ ∧ base ≤ ga ∧ w.heap[ga]? = some (.cells cur 40 (0, 0)) ∧ p.1.attrs.length * 2 ≤ cur.size)
theorem SpOK.name {w : World} {base g : Nat} {ps : List (Tok × Value)} (h : SpOK w base g ps) (j : Nat) (v : Value) : SpOK (w.setCell ⟨g, j * 5 + 1, none⟩ v) base g ps := by
  obtain ⟨⟨hb, cur, hc, hj⟩, hp⟩ := h
  refine ⟨⟨hb, _, Go.Proofs.YtdnbaliibiginaaGreatDoorW.PrintWords.blk_put hc (j * 5 + 1) v rfl, fun i hi => ?_⟩, fun p hpm => ?_⟩
  · obtain ⟨h1, x, h2⟩ := hj i hi
    refine ⟨?_, ?_⟩
    · rw [Array.getElem?_setIfInBounds_ne (by omega)]; exact h1
    · by_cases e : j = i
      · subst e
        have hlt := (Array.getElem?_eq_some_iff.1 h2).1
        exact ⟨v, by rw [Array.getElem?_setIfInBounds_self_of_lt hlt]⟩
      · exact ⟨x, by rw [Array.getElem?_setIfInBounds_ne (by omega)]; exact h2⟩
  · obtain ⟨a, cap, h1, h2⟩ := hp p hpm
    refine ⟨a, cap, h1, h2.imp id ?_⟩
    rintro ⟨ga, cur', h3, h4, h5, h6⟩
    refine ⟨ga, cur', h3, h4, ?_, h6⟩
    rw [heap_setCell_other _ _ _ _ (by rintro rfl; rw [hc] at h5; injection h5 with h5; injection h5 with _ h5; exact absurd h5 (by decide))]
    exact h5
theorem SpOK.attr {w : World} {base g ga : Nat} {ps : List (Tok × Value)} (h : SpOK w base g ps) {cur0 : Array Value} (hg : w.heap[ga]? = some (.cells cur0 40 (0, 0))) (k : Nat) (v : Value) : SpOK (w.setCell ⟨ga, k, none⟩ v) base g ps := by
  obtain ⟨⟨hb, cur, hc, hj⟩, hp⟩ := h
  refine ⟨⟨hb, cur, ?_, hj⟩, fun p hpm => ?_⟩
  · rw [heap_setCell_other _ _ _ _ (by rintro rfl; rw [hc] at hg; injection hg with hg; injection hg with _ hg; exact absurd hg (by decide))]
    exact hc
  · obtain ⟨a, cap, h1, h2⟩ := hp p hpm
    refine ⟨a, cap, h1, h2.imp id ?_⟩
    rintro ⟨ga', cur', h3, h4, h5, h6⟩
    by_cases e : ga' = ga
    · subst e
      exact ⟨ga', _, h3, h4, Go.Proofs.YtdnbaliibiginaaGreatDoorW.PrintWords.blk_put h5 k v rfl, by simpa using h6⟩
    · exact ⟨ga', cur', h3, h4, by rw [heap_setCell_other _ _ _ _ e]; exact h5, h6⟩
theorem spOK_of {w : World} {base : Nat} {v : Value} {l : List Tok} (h : Toks w base v l) (hne : l ≠ []) : ∃ g cp ps, v = .slice (some ⟨g, 0, none⟩) l.length cp ∧ ps.length = l.length ∧ ps.map Prod.fst = l ∧ SpOK w base g ps := by
  obtain ⟨ps, rfl, h2, h3⟩ := h
  rw [List.length_map] at *
  rcases h2.2 with ⟨rfl, h0⟩ | ⟨g, cap, cur, rfl, hg, hh, hn, hc, hs, ht⟩
  · exact absurd (List.eq_nil_of_length_eq_zero h0) (by rintro rfl; simp at hne)
  · refine ⟨g, cap, ps, rfl, rfl, rfl, ⟨hg, cur, hh, fun j hj => ?_⟩, fun p hp => ?_⟩
    · have key : ∀ (i : Nat), i < 5 → cur[j * 5 + i]? = (tokV ps[j].1 ps[j].2)[i]? := by
        intro i hi
        rw [← Array.getElem?_toList]
        have h1 : (cur.toList.take (ps.length * 5))[j * 5 + i]? = (ps.flatMap fun p => tokV p.1 p.2)[j * 5 + i]? := by rw [ht]
        rw [List.getElem?_take, if_pos (by omega)] at h1
        rw [h1]
        have fl : ∀ (q : List (Tok × Value)) (j : Nat) (hj : j < q.length), (q.flatMap fun p => tokV p.1 p.2)[j * 5 + i]? = (tokV q[j].1 q[j].2)[i]? := by
          intro q
          induction q with
          | nil => intro j hj; simp at hj
          | cons p q ih =>
            intro j hj
            rw [List.flatMap_cons]
            cases j with
            | zero => rw [List.getElem?_append_left (by simp [tokV]; omega), Nat.zero_mul, Nat.zero_add]; rfl
            | succ j =>
              rw [List.getElem?_append_right (by simp [tokV]; omega)]
              have := ih j (by simpa using hj)
              simp only [List.getElem_cons_succ]
              rw [← this]
              congr 1
              simp [tokV]
              omega
        exact fl ps j hj
      exact ⟨(key 3 (by omega)).trans rfl, _, (key 1 (by omega)).trans rfl⟩
    · have hA := h3 p hp
      rcases hA.2 with ⟨hv, h0⟩ | ⟨ga, cap', cur', hv, hga, hh', hn', hc', hs', ht'⟩
      · exact ⟨none, 0, by rw [hv, h0], .inl (List.eq_nil_of_length_eq_zero h0)⟩
      · refine ⟨some ⟨ga, 0, none⟩, cap', hv, .inr ⟨ga, cur', rfl, hga, hh', ?_⟩⟩
        rw [hs']
        exact Nat.mul_le_mul_right _ hn'

theorem sp_cells {w : World} {base g : Nat} {ps : List (Tok × Value)} (h : SpOK w base g ps) (j : Nat) (hj : j < ps.length) : w.cell? ⟨g, j * 5 + 3, none⟩ = some ps[j].2 ∧ (∃ x, w.cell? ⟨g, j * 5 + 1, none⟩ = some x) ∧ (∀ o, w.frozen? ⟨g, o, none⟩ = false) := by
  obtain ⟨⟨hb, cur, hc, hjj⟩, hp⟩ := h
  obtain ⟨h1, x, h2⟩ := hjj j hj
  exact ⟨by rw [Lib.cell_of_heap hc]; exact h1, ⟨x, by rw [Lib.cell_of_heap hc]; exact h2⟩, fun o => frozen_of_row w g o _ _ hc⟩
theorem sp_attr {w : World} {base g : Nat} {ps : List (Tok × Value)} (h : SpOK w base g ps) (j : Nat) (hj : j < ps.length) : ∃ a cap, ps[j].2 = .slice a ps[j].1.attrs.length cap ∧ ∀ k, k < ps[j].1.attrs.length → ∃ ga, a = some ⟨ga, 0, none⟩ ∧ base ≤ ga ∧ (∃ x, w.cell? ⟨ga, k * 2, none⟩ = some x) ∧ (∀ o, w.frozen? ⟨ga, o, none⟩ = false) ∧ ∀ v, SpOK (w.setCell ⟨ga, k * 2, none⟩ v) base g ps := by
  obtain ⟨a, cap, h1, h2⟩ := h.2 ps[j] (List.getElem_mem hj)
  refine ⟨a, cap, h1, fun k hk => ?_⟩
  rcases h2 with h0 | ⟨ga, cur, h3, h4, h5, h6⟩
  · rw [h0] at hk; simp at hk
  · refine ⟨ga, h3, h4, ?_, fun o => frozen_of_row w ga o _ _ h5, fun v => h.attr h5 _ v⟩
    rw [Lib.cell_of_heap h5]
    exact ⟨_, Array.getElem?_eq_getElem (by omega)⟩
set_option maxHeartbeats 2000000 in
set_option maxRecDepth 100000 in
theorem spoil_c (base : Nat) (v : Value) (l : List Tok) (w : World) (hT : Toks w base v l) (hl : l.length ≤ 10000000000) (hla : ∀ t ∈ l, t.attrs.length ≤ 1000000000) :
    Calls Tryz.prog 13 #[v] w fun e w' => e = .returned (.tuple #[]) ∧ Below base w w' := by
  by_cases hne : l = []
  · subst hne
    obtain ⟨ad, cp, rfl⟩ := hT.len
    go_enter Tryz.func13, Tryz.ntmps13
    go_wp2
    go_loopw [2] (fun vi wr => vi = .int .i64 0 ∧ Below base w wr) (fun _ _ => 0)
    case atStart => exact ⟨rfl, Below.refl _ _⟩
    case round =>
      obtain ⟨rfl, hB⟩ := hrel
      go_wp2
      go_end0
      exact ⟨rfl, hB⟩
  · obtain ⟨g, cp, ps, rfl, hpl, hpm, hsp⟩ := spOK_of hT hne
    have hna0 : ∀ i (h : i < ps.length), ps[i].1.attrs.length ≤ 1000000000 := fun i h => hla _ (by rw [← hpm]; exact List.mem_map_of_mem (List.getElem_mem h))
    clear hla hpm
    go_enter Tryz.func13, Tryz.ntmps13
    go_wp2
    go_loopw [2] (fun vi wr => ∃ i : Nat, vi = .int .i64 i ∧ i ≤ l.length ∧ SpOK wr base g ps ∧ Below base w wr) (fun vi _ => l.length - (intOf vi).toNat)
    case atStart => exact ⟨0, rfl, by omega, hsp, Below.refl _ _⟩
    case round =>
      obtain ⟨i, rfl, hi, hS, hB⟩ := hrel
      by_cases hlt : i < l.length
      · obtain ⟨c3, ⟨x1, c1⟩, hfz⟩ := sp_cells hS i (by omega)
        have hgb := hS.1.1
        have hnb := hna0 i (by omega)
        have hS2 := hS.name i (.string ⟨#[120]⟩)
        have hB2 := hB.setCell (p := ⟨g, i * 5 + 1, none⟩) hgb (.string ⟨#[120]⟩)
        go_wp2
        go_loopw [3] (fun vk wr2 => ∃ k : Nat, vk = .int .i64 k ∧ k ≤ ps[i].1.attrs.length ∧ SpOK wr2 base g ps ∧ Below base w wr2) (fun vk _ => ps[i].1.attrs.length - (intOf vk).toNat)
        case atStart => exact ⟨0, rfl, by omega, hS2, hB2⟩
        case round =>
          obtain ⟨k, rfl, hk, hS3, hB3⟩ := hrel
          obtain ⟨d3, _, hfz3⟩ := sp_cells hS3 i (by omega)
          obtain ⟨a, cap, hv, hall⟩ := sp_attr hS3 i (by omega)
          rw [hv] at d3
          by_cases hkl : k < ps[i].1.attrs.length
          · obtain ⟨ga, rfl, hga, ⟨x, dx⟩, hfx, hset⟩ := hall k hkl
            have hset2 := hset (.string ⟨#[]⟩)
            have hB4 := hB3.setCell (p := ⟨ga, k * 2, none⟩) hga (.string ⟨#[]⟩)
            clear hv hall hset
            generalize ps[i].1.attrs.length = na at *
            go_wp2
            exact ⟨⟨k + 1, rfl, by omega, hset2, hB4⟩, by simp [intOf]; omega⟩
          · clear hall
            generalize hna : ps[i].1.attrs.length = na at *
            have hke : k = na := by omega
            clear hv hna
            go_wp2
            exact ⟨⟨i + 1, rfl, by omega, hS3, hB3⟩, by simp [intOf]; omega⟩
      · go_wp2
        go_end0
        exact ⟨rfl, hB⟩
end Go.Proofs.YtdnbaliibiginaaGreatDoor

/- boltinglaw06.TokenCuts is true of any bytes: its walk. -/
namespace Go.Proofs.YtdnbaliibiginaaGreatDoor
open Go.RowKit Go.Proofs Go.Proofs.YtdnbaliibiginaaGreatDoorH.TI

theorem open_len {s : Txt} {r : List Tok × Txt} (h : openF s = some r) : r.1.length ≤ 2 := by
  have it : ∀ nm s, (insideT nm s).length ≤ 1 := by intro nm s; unfold insideT; split <;> simp
  have tg : ∀ k s, (tagF k s).1.length ≤ 2 := by
    intro k s
    unfold tagF
    cases openedF s with
    | none => simp
    | some r =>
      simp only
      split
      · simp
      · split
        · have := it r.1.name r.2; simp; omega
        · simp
  have cm : ∀ s, (commentF s).1.length ≤ 2 := by
    intro s
    unfold commentF noteF
    split
    · simp
    · split <;> simp
  unfold openF at h
  split at h
  · simp at h; subst h; exact tg _ _
  · split at h
    · simp at h; subst h; exact tg _ _
    · split at h
      · simp at h; subst h; simp
      · split at h
        · simp at h; subst h; exact cm _
        · split at h
          · simp at h; subst h; simp [noteF]
          · split at h
            · simp at h; subst h; simp [noteF]
            · split at h
              · simp at h; subst h; simp [noteF]
              · split at h
                · simp at h; subst h; simp [noteF]
                · simp at h
theorem take_min5 (l : Txt) (n : Nat) : (List.take (min (l.length : Int) n).toNat l).length ≤ n := by
  rw [List.length_take]
  omega
theorem few_of_run : ∀ (m : Nat) (t s : Txt), s.length < m → (runF t s).length ≤ 3 * s.length + 1 := by
  intro m
  induction m with
  | zero => intro t s h; omega
  | succ m ih =>
    intro t s h
    rw [runF_eq]
    have tl : ∀ t, (tellF t).length ≤ 1 := by intro t; unfold tellF; split <;> simp
    cases hd : s.drop (textF s) with
    | nil => have := tl (t ++ s.take (textF s)); simp only; omega
    | cons c s1 =>
      have h1 : s1.length < s.length := by
        have := congrArg List.length hd
        simp at this
        omega
      simp only
      cases ho : openF s1 with
      | none => have := ih (t ++ s.take (textF s) ++ [60]) s1 (by omega); simp only; omega
      | some r =>
        have h3 := openF_le ho
        have h4 := open_len ho
        obtain ⟨ts, r⟩ := r
        simp only at h3 h4
        have h5 := tl (t ++ s.take (textF s))
        have h6 := ih [] r (by omega)
        simp only [List.length_append]
        omega
theorem in_empty (x : Txt) : inL x [] = cutL x := by
  unfold inL cutL
  rw [if_neg (by decide)]
set_option maxHeartbeats 8000000 in
set_option maxRecDepth 100000 in
theorem tokenCuts_l (l1 : Txt) (hl1 : l1.length ≤ 9223372036854775807) (w : World) (hS : Std w) :
    Calls Tryz.prog 4 #[.string ⟨l1.toArray⟩] w fun e w' => e = .returned (.bool true) ∧ Below w.heap.size w w' := by
  have hfix := Lib.hid (fun W hS => fixed6_c W hS)
  have hx : (List.take (min (l1.length : Int) 500).toNat l1).length ≤ 500 := take_min5 l1 500
  obtain ⟨x, hxe⟩ : ∃ x, List.take (min (l1.length : Int) 500).toNat l1 = x := ⟨_, rfl⟩
  rw [hxe] at hx
  have c0 := Lib.hid (fun W => rin_c x [] (by omega) W)
  rw [in_empty] at c0
  have c1 := Lib.hid (fun W hS => cut_g x (by omega) W hS)
  have hLl : (cutL x).length ≤ 10000000000 := by have := few_of_run (x.length + 1) [] x (by omega); unfold cutL; omega
  have hLa : ∀ t ∈ cutL x, t.attrs.length ≤ 1000000000 := fun t ht => by have h8 : t.attrs.length ≤ x.length + 1 := few_run (x.length + 1) (x.length + 1) [] x (by omega) (by omega) t ht; omega
  generalize cutL x = L at *
  have csame := Lib.hid (fun v1 v2 W h1 h2 => same_c v1 v2 L (by omega) (fun t ht => by have := hLa t ht; omega) W h1 h2)
  have cspoil := Lib.hid (fun base v W hT => spoil_c base v L W hT hLl hLa)
  clear hLa
  go_enter Tryz.func4, Tryz.ntmps4
  go_wp2_with fail
  refine (c0.out _).mono ?_
  rintro e w1 ⟨v1, rfl, hT1, hb1⟩
  obtain ⟨ad1, cp1, rfl⟩ := hT1.len
  have hR1 := hT1.rd
  go_wp2_with fail
  go_loopw [4] (fun vk wr => ∃ k : Nat, vk = .int .i64 k ∧ k ≤ 2 ∧ Below w.heap.size w wr ∧ RdT wr (.slice ad1 L.length cp1) L) (fun vk _ => 2 - (intOf vk).toNat)
  case atStart => exact ⟨0, rfl, by omega, hb1, hR1⟩
  case round =>
    obtain ⟨k, rfl, hk, hB, hR⟩ := hrel
    by_cases hlt : k < 2
    · have hltI : (k : Int) < 2 := by omega
      go_wp2_with fail
      refine (c1.out _ (hS.below hB)).mono ?_
      rintro e w2 ⟨v2, rfl, hT2, hb2⟩
      obtain ⟨ad2, cp2, rfl⟩ := hT2.len
      go_wp2_with fail
      refine (csame.out _ _ _ hT2.rd (hR.below hb2)).mono ?_
      rintro e w3 ⟨rfl, hb3⟩
      have hb23 := below_then hb2 hb2.size hb3
      go_wp2_with fail
      refine (cspoil.out _ _ _ (hT2.below hb3)).mono ?_
      rintro e w4 ⟨rfl, hb4⟩
      have hb24 := hb23.trans hb4
      have hB4 := below_then hB hB.size hb24
      have hR4 := hR.below hb24
      go_wp2
      exact ⟨⟨k + 1, rfl, by omega, hB4, hR4⟩, by simp [intOf]; omega⟩
    · have hge : ¬ (k : Int) < 2 := by omega
      go_wp2_with fail
      refine (hfix.out _ (hS.below hB)).mono ?_
      rintro e w5 ⟨rfl, hb5⟩
      go_wp2
      go_ret
      exact ⟨rfl, below_then hB hB.size hb5⟩
theorem tokenCuts_w (s : ByteArray) (hs : s.size ≤ maxLen) {W : World} (hS : Std W) :
    Calls Tryz.prog 4 #[.string s] W fun e w' => e = .returned (.bool true) ∧ Below W.heap.size W w' := by
  have := tokenCuts_l s.data.toList (by rw [Array.length_toList]; unfold maxLen at hs; exact hs) W hS
  rwa [Go.Proofs.YtdnbaliibiginaaGreatDoorH.TI.mk_toList] at this
end Go.Proofs.YtdnbaliibiginaaGreatDoor
