/- Lemmas and walks, part 11: ScanH. -/
import Derived.Test.YtdnbaliibiginaaGreatDoorTIM10
set_option linter.unusedVariables false
set_option linter.unusedSimpArgs false

/- Contracts of token's scanner: all; of Cut and In. What lay in memory does not turn. -/
namespace Go.Proofs.YtdnbaliibiginaaGreatDoor
open Go.RowKit Go.Proofs

theorem open_two {s r : Txt} {ts : List Tok} (h : openF s = some (ts, r)) : ts.length ≤ 2 := by
  have hn : ∀ k u e, (noteF k u e).1.length ≤ 2 := by intro k u e; simp [noteF]
  have ht : ∀ k u, (tagF k u).1.length ≤ 2 := by
    intro k u
    unfold tagF
    split
    · simp
    · split
      · simp
      · split
        · unfold insideT
          split <;> simp
        · simp
  have hc : ∀ u, (commentF u).1.length ≤ 2 := by
    intro u
    unfold commentF
    split
    · simp
    · split
      · simp
      · exact hn _ _ _
  unfold openF at h
  repeat' split at h
  all_goals first
    | (simp only [Option.some.injEq] at h
       have e := congrArg Prod.fst h
       simp only at e
       rw [← e]
       first | exact ht _ _ | exact hc _ | exact hn _ _ _)
    | (simp only [Option.some.injEq, Prod.mk.injEq] at h
       rw [← h.1]
       simp)
    | cases h
theorem str_app (a b : Txt) : (⟨a.toArray⟩ : ByteArray) ++ ⟨b.toArray⟩ = ⟨(a ++ b).toArray⟩ := by
  apply ByteArray.ext
  simp
theorem tell_one (t : Txt) : (tellF t).length ≤ 1 := by unfold tellF; split <;> simp

set_option maxHeartbeats 4000000 in
set_option maxRecDepth 100000 in
theorem all_c (base b : Nat) (S T : Txt) (l0 : List Tok) (hs : T.length + S.length ≤ 900000000) (hl : l0.length ≤ 10) (w : World) (hsc : Sc w base b S T l0) (hE : Env w base) :
    Calls Tryz.prog 45 #[.pointer (some ⟨b, 0, none⟩)] w fun e w' => ∃ v, e = .returned v ∧ Toks w' base v (l0 ++ runF T S) ∧ Below base w w' := by
  have hbb := hsc.1
  go_enter Tryz.func45, Tryz.ntmps45
  go_wp2
  go_loopg [3] S.length (fun g _ wr => ∃ (s t : Txt) (l : List Tok), s.length = g ∧ Sc wr base b s t l ∧ Below base w wr ∧ t.length + s.length ≤ T.length + S.length ∧ l.length + 3 * s.length ≤ l0.length + 3 * S.length ∧ Hid (l0 ++ runF T S = l ++ runF t s))
  case atStart => exact ⟨S, T, l0, rfl, hsc, Below.refl _ _, by omega, by omega, rfl⟩
  case round =>
    obtain ⟨s, t, l, hsg, hscr, hB, hts, hls, hinv⟩ := hrel
    subst hsg
    have hEr := hE.below hB
    obtain ⟨_, v, hh, hT⟩ := id hscr
    obtain ⟨ad, cp, rfl⟩ := hT.len
    obtain ⟨⟨c0, c1, c2⟩, c5⟩ := three_facts hh
    cases hs0 : s with
    | nil =>
      subst hs0
      have hfin := Lib.hid (show l0 ++ runF T S = l ++ tellF t by rw [hinv.out, run_nil])
      have htell := Lib.hid (tell_c base b [] t l (by omega) (by omega) wr hscr hEr)
      go_wp2_with (go_at_call 94; ((with_reducible refine (htell.out).mono ?_); rintro e w3 ⟨rfl, hsc3, hb3⟩; obtain ⟨_, v3, hh3, hT3⟩ := id hsc3; obtain ⟨ad3, cp3, rfl⟩ := hT3.len; rw [List.length_append] at hT3 hh3; obtain ⟨⟨y0, y1, y2⟩, y5⟩ := three_facts hh3))
      go_ret
      exact ⟨_, rfl, by rw [hfin.out]; exact hT3, hB.trans hb3⟩
    | cons c0' s0 =>
      have hne : (s == []) = false := by rw [hs0]; rfl
      have hpos : 0 < s.length := by rw [hs0]; simp
      clear hs0
      have hspan := Lib.hid (fun W => span_all1 s (by omega) W)
      have heq := runF_eq t s
      rw [show s.findIdx (fun c => c == 60) = textF s from rfl] at hspan
      have hnl : textF s ≤ s.length := List.findIdx_le_length
      have hhead : ∀ c r, s.drop (textF s) = c :: r → c = 60 := by
        intro c r h
        have := dr_yes h
        simpa using this
      generalize textF s = n at *
      have hnI : (n : Int) ≤ s.length := by omega
      have hdl : (s.drop n).length = s.length - n := by simp
      have htl : (s.take n).length = n := by simp; omega
      have hscA := (hscr.set_t (t ++ s.take n)).below (Below.refl _ _).drew
      have hBA := (below_set (j := 1) hB hbb (.string ⟨(t ++ s.take n).toArray⟩)).drew
      have hhA : ((wr.setCell ⟨b, 1, none⟩ (.string ⟨(t ++ s.take n).toArray⟩)).drew).heap[b]? = _ := heap_set_t (t' := t ++ s.take n) hh
      have hTA : Toks (wr.setCell ⟨b, 1, none⟩ (.string ⟨(t ++ s.take n).toArray⟩)).drew base (.slice ad l.length cp) l := (hT.other (grown_set wr ⟨b, 1, none⟩ (.string ⟨(t ++ s.take n).toArray⟩)) hh (by decide) (by decide)).below (Below.refl _ _).drew
      have hWA : ((wr.setCell ⟨b, 1, none⟩ (.string ⟨(t ++ s.take n).toArray⟩)).drew).heap.size = wr.heap.size := World.size_setCell _ _ _
      go_wp2_with (go_at_call 91; ((with_reducible refine (hspan.out _).mono ?_); rintro e w4 ⟨rfl, rfl⟩))
      go_region
      all_goals
        rw [str_app]
        generalize (wr.setCell ⟨b, 1, none⟩ (.string ⟨(t ++ s.take n).toArray⟩)).drew = W7 at *
        obtain ⟨⟨d0, d1, d2⟩, d5⟩ := three_facts hhA
        have hscB := hscA.set_s (s.drop n)
        have hBB := below_set (j := 0) hBA hbb (.string ⟨(s.drop n).toArray⟩)
        have hEB := hE.below hBB
        generalize hx : s.take n = x at *
        generalize hd : s.drop n = y at *
        cases y with
        | nil =>
          have hinv2 := Lib.hid (show l0 ++ runF T S = l ++ runF (t ++ x) [] by rw [hinv.out, heq, run_nil])
          clear heq hhead hinv
          go_wp2
          go_roundg 0
          · exact ⟨[], t ++ x, l, rfl, hscB, hBB, by simp; omega, by simp; omega, hinv2⟩
          · omega
        | cons c r =>
          obtain rfl := hhead c r rfl
          simp only [List.length_cons] at heq hdl
          have hop := Lib.hid (opens_c base b r (t ++ x) l (by omega) (by simp; omega) (by omega) _ hscB hEB)
          go_wp2_with (go_at_call 93; ((with_reducible refine (hop.out).mono ?_); rintro e w5 ⟨rfl, hp5, hb5⟩))
          cases ho : openF r with
          | none =>
            rw [ho] at hp5 heq
            have hinv2 := Lib.hid (show l0 ++ runF T S = l ++ runF (t ++ x ++ [60]) r by rw [hinv.out, heq])
            clear heq hhead hinv
            go_roundg r.length
            · exact ⟨r, t ++ x ++ [60], l, rfl, hp5, hBB.trans hb5, by simp; omega, by omega, hinv2⟩
            · omega
          | some q =>
            obtain ⟨ts, q⟩ := q
            rw [ho] at hp5 heq
            have hle := openF_le ho
            have h2 := open_two ho
            have h1 := tell_one (t ++ x)
            simp only at hle heq
            have hinv2 := Lib.hid (show l0 ++ runF T S = l ++ tellF (t ++ x) ++ ts ++ runF [] q by rw [hinv.out, heq]; simp)
            clear heq hhead hinv
            go_roundg q.length
            · exact ⟨q, [], _, rfl, hp5, hBB.trans hb5, by simp; omega, by simp; omega, hinv2⟩
            · omega
end Go.Proofs.YtdnbaliibiginaaGreatDoor
