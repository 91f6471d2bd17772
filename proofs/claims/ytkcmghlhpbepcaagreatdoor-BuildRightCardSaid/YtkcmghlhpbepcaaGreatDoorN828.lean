/- Lemmas and walks, part 28: QScanH, QScanN, QE7K, QE7C, QPW7x29, QPW7x30, QW7P, QPW7x1, QPW7x2. -/
import Derived.Test.YtkcmghlhpbepcaaGreatDoorN827
import Derived.Test.YtkcmghlhpbepcaaGreatDoorN823
import Derived.Test.YtkcmghlhpbepcaaGreatDoorN822
import Derived.Test.YtkcmghlhpbepcaaGreatDoorN83
import Derived.Test.YtkcmghlhpbepcaaGreatDoorN818
set_option linter.unusedVariables false
set_option linter.unusedSimpArgs false

/- Contracts of token's scanner: all; of Cut and In. What lay in memory does not turn. -/
namespace Go.Proofs.YtkcmghlhpbepcaaGreatDoor
open Go.RowKit Go.Proofs
theorem open_two {s r : Txt} {ts : List Tok} (h : openF s = some (ts, r)) : ts.length ≤ 2 := by
 have hn : ∀ k u e, (noteF k u e).1.length ≤ 2 := by intro k u e; simp [noteF]
 have ht : ∀ k u, (tagF k u).1.length ≤ 2 := by
  intro k u
  unfold tagF
  split
  ·simp
  ·split
   ·simp
   ·split
    ·unfold insideT
     split <;> simp
    ·simp
 have hc : ∀ u, (commentF u).1.length ≤ 2 := by
  intro u
  unfold commentF
  split
  ·simp
  ·split
   ·simp
   ·exact hn _ _ _
 unfold openF at h
 repeat' split at h
 all_goals first
  | (simp only [Option.some.injEq] at h
     have e := congrArg Prod.fst h
     simp only at e
     rw [← e]
     first | exact ht _ _ | exact hc _ | exact hn _ _ _)
  | (simp only [Option.some.injEq, Prod.mk.injEq] at h
     rw [← h.1]
     simp)
  | cases h
theorem str_app (a b : Txt) : (⟨a.toArray⟩ : ByteArray) ++ ⟨b.toArray⟩ = ⟨(a ++ b).toArray⟩ := by
 apply ByteArray.ext
 simp
theorem tell_one (t : Txt) : (tellF t).length ≤ 1 := by unfold tellF; split <;> simp
set_option maxHeartbeats 4000000 in
set_option maxRecDepth 100000 in
theorem all_c (base b : Nat) (S T : Txt) (l0 : List Tok) (hs : T.length + S.length ≤ 900000000) (hl : l0.length ≤ 10) (w : World) (hsc : Sc w base b S T l0) (hE : Env w base) :
 Calls Tryz.prog 116 #[.pointer (some ⟨b, 0, none⟩)] w fun e w' => ∃ v, e = .returned v ∧ Toks w' base v (l0 ++ runF T S) ∧ Below base w w' := by
 have hbb := hsc.1
 go_enter Tryz.func116, Tryz.ntmps116
 go_wp2
 go_loopg [3] S.length (fun g _ wr => ∃ (s t : Txt) (l : List Tok), s.length = g ∧ Sc wr base b s t l ∧ Below base w wr ∧ t.length + s.length ≤ T.length + S.length ∧ l.length + 3 * s.length ≤ l0.length + 3 * S.length ∧ Hid (l0 ++ runF T S = l ++ runF t s))
 case atStart => exact ⟨S, T, l0, rfl, hsc, Below.refl _ _, by omega, by omega, rfl⟩
 case round =>
  obtain ⟨s, t, l, hsg, hscr, hB, hts, hls, hinv⟩ := hrel
  subst hsg
  have hEr := hE.below hB
  obtain ⟨_, v, hh, hT⟩ := id hscr
  obtain ⟨ad, cp, rfl⟩ := hT.len
  obtain ⟨⟨c0, c1, c2⟩, c5⟩ := three_facts hh
  cases hs0 : s with
  | nil =>
    subst hs0
    have hfin := Lib.hid (show l0 ++ runF T S = l ++ tellF t by rw [hinv.out, run_nil])
    have htell := Lib.hid (tell_c base b [] t l (by omega) (by omega) wr hscr hEr)
    go_wp2_with (go_at_call 159; ((with_reducible refine (htell.out).mono ?_); rintro e w3 ⟨rfl, hsc3, hb3⟩; obtain ⟨_, v3, hh3, hT3⟩ := id hsc3; obtain ⟨ad3, cp3, rfl⟩ := hT3.len; rw [List.length_append] at hT3 hh3; obtain ⟨⟨y0, y1, y2⟩, y5⟩ := three_facts hh3))
    go_ret
    exact ⟨_, rfl, by rw [hfin.out]; exact hT3, hB.trans hb3⟩
  | cons c0' s0 =>
    have hne : (s == []) = false := by rw [hs0]; rfl
    have hpos : 0 < s.length := by rw [hs0]; simp
    clear hs0
    have hspan := Lib.hid (fun W => span_all1 s (by omega) W)
    have heq := runF_eq t s
    rw [show s.findIdx (fun c => c == 60) = textF s from rfl] at hspan
    have hnl : textF s ≤ s.length := List.findIdx_le_length
    have hhead : ∀ c r, s.drop (textF s) = c :: r → c = 60 := by
     intro c r h
     have := dr_yes h
     simpa using this
    generalize textF s = n at *
    have hnI : (n : Int) ≤ s.length := by omega
    have hdl : (s.drop n).length = s.length - n := by simp
    have htl : (s.take n).length = n := by simp; omega
    have hscA := (hscr.set_t (t ++ s.take n)).below (Below.refl _ _).drew
    have hBA := (below_set (j := 1) hB hbb (.string ⟨(t ++ s.take n).toArray⟩)).drew
    have hhA : ((wr.setCell ⟨b, 1, none⟩ (.string ⟨(t ++ s.take n).toArray⟩)).drew).heap[b]? = _ := heap_set_t (t' := t ++ s.take n) hh
    have hTA : Toks (wr.setCell ⟨b, 1, none⟩ (.string ⟨(t ++ s.take n).toArray⟩)).drew base (.slice ad l.length cp) l := (hT.other (grown_set wr ⟨b, 1, none⟩ (.string ⟨(t ++ s.take n).toArray⟩)) hh (by decide) (by decide)).below (Below.refl _ _).drew
    have hWA : ((wr.setCell ⟨b, 1, none⟩ (.string ⟨(t ++ s.take n).toArray⟩)).drew).heap.size = wr.heap.size := World.size_setCell _ _ _
    go_wp2_with (go_at_call 156; ((with_reducible refine (hspan.out _).mono ?_); rintro e w4 ⟨rfl, rfl⟩))
    go_region
    all_goals
     rw [str_app]
     generalize (wr.setCell ⟨b, 1, none⟩ (.string ⟨(t ++ s.take n).toArray⟩)).drew = W7 at *
     obtain ⟨⟨d0, d1, d2⟩, d5⟩ := three_facts hhA
     have hscB := hscA.set_s (s.drop n)
     have hBB := below_set (j := 0) hBA hbb (.string ⟨(s.drop n).toArray⟩)
     have hEB := hE.below hBB
     generalize hx : s.take n = x at *
     generalize hd : s.drop n = y at *
     cases y with
     | nil =>
       have hinv2 := Lib.hid (show l0 ++ runF T S = l ++ runF (t ++ x) [] by rw [hinv.out, heq, run_nil])
       clear heq hhead hinv
       go_wp2
       go_roundg 0
       ·exact ⟨[], t ++ x, l, rfl, hscB, hBB, by simp; omega, by simp; omega, hinv2⟩
       ·omega
     | cons c r =>
       obtain rfl := hhead c r rfl
       simp only [List.length_cons] at heq hdl
       have hop := Lib.hid (opens_c base b r (t ++ x) l (by omega) (by simp; omega) (by omega) _ hscB hEB)
       go_wp2_with (go_at_call 158; ((with_reducible refine (hop.out).mono ?_); rintro e w5 ⟨rfl, hp5, hb5⟩))
       cases ho : openF r with
       | none =>
         rw [ho] at hp5 heq
         have hinv2 := Lib.hid (show l0 ++ runF T S = l ++ runF (t ++ x ++ [60]) r by rw [hinv.out, heq])
         clear heq hhead hinv
         go_roundg r.length
         ·exact ⟨r, t ++ x ++ [60], l, rfl, hp5, hBB.trans hb5, by simp; omega, by omega, hinv2⟩
         ·omega
       | some q =>
         obtain ⟨ts, q⟩ := q
         rw [ho] at hp5 heq
         have hle := openF_le ho
         have h2 := open_two ho
         have h1 := tell_one (t ++ x)
         simp only at hle heq
         have hinv2 := Lib.hid (show l0 ++ runF T S = l ++ tellF (t ++ x) ++ ts ++ runF [] q by rw [hinv.out, heq]; simp)
         clear heq hhead hinv
         go_roundg q.length
         ·exact ⟨q, [], _, rfl, hp5, hBB.trans hb5, by simp; omega, by simp; omega, hinv2⟩
         ·omega
end Go.Proofs.YtkcmghlhpbepcaaGreatDoor

/- Contract of token.In: the tokens lie in blocks that the call made. What lay in memory does not turn. -/
namespace Go.Proofs.YtkcmghlhpbepcaaGreatDoor
open Go.RowKit Go.Proofs
theorem sc_new (s : Txt) (w : World) : Sc (w.alloc (.cells #[.string ⟨s.toArray⟩, .string ⟨#[]⟩, .slice none 0 0] 92)) w.heap.size w.heap.size s [] [] := ⟨Nat.le_refl _, _, new_cells _ _ _, Toks.nil _ _⟩
theorem env_new {w : World} (hS : Std w) (o : Obj) : Env (w.alloc o) w.heap.size := ⟨w, hS, rfl, (Below.refl _ w).alloc (Nat.le_refl _) o⟩
theorem short_of {L : List Txt} (h : L.all (fun l => decide (l.length ≤ 1000000000)) = true) {l : Txt} (hi : inB L l = true) : l.length ≤ 1000000000 := by
 rw [List.all_eq_true] at h
 have := h l (by simpa [inB] using hi)
 simpa using this
theorem raws_short : rawsL.all (fun l => decide (l.length ≤ 1000000000)) = true := by decide +kernel
theorem softs_short : softsL.all (fun l => decide (l.length ≤ 1000000000)) = true := by decide +kernel
set_option maxHeartbeats 1000000 in
set_option maxRecDepth 100000 in
theorem in_any (s nm : Txt) (hs : s.length ≤ 900000000) (w : World) (hS : Std w) :
 Calls Tryz.prog 72 #[.string ⟨s.toArray⟩, .string ⟨nm.toArray⟩] w fun e w' => ∃ v, e = .returned v ∧ Toks w' w.heap.size v (inL s nm) ∧ Below w.heap.size w w' := by
 have hsc := sc_new s w
 have hE := env_new hS (.cells #[.string ⟨s.toArray⟩, .string ⟨#[]⟩, .slice none 0 0] 92)
 have hB := (Below.refl _ w).alloc (Nat.le_refl _) (.cells #[.string ⟨s.toArray⟩, .string ⟨#[]⟩, .slice none 0 0] 92)
 have hle := hE.le
 have hraw := Lib.hid (fun W => raw_c nm W)
 have hsoft := Lib.hid (fun W => soft_c nm W)
 have hil : (insideT nm s).length ≤ 10 := by unfold insideT; split <;> simp
 have hrl := insideR_le nm s
 have hins0 := fun W h1 h2 (hnm : nm.length ≤ 1000000000) => inside_c w.heap.size w.heap.size s [] nm [] (by omega) hnm (by simp) W h1 h2
 rw [List.nil_append] at hins0
 have hins := Lib.hid hins0
 clear hins0
 have hall1 := Lib.hid (fun W h1 h2 => all_c w.heap.size w.heap.size (insideR nm s) [] (insideT nm s) (by simp; omega) hil W h1 h2)
 have hall2 := Lib.hid (fun W h1 h2 => all_c w.heap.size w.heap.size s [] [] (by simpa using hs) (by simp) W h1 h2)
 rw [List.nil_append] at hall2
 unfold inL
 generalize runF [] s = l at *
 generalize runF [] (insideR nm s) = l2 at *
 generalize hq1 : rawB nm = b1 at *
 generalize hq2 : softB nm = b2 at *
 cases b1 with
 | true =>
   have hn1 : nm.length ≤ 1000000000 := short_of raws_short hq1
   clear hq1 hq2
   simp only [Bool.true_or, if_true]
   go_enter Tryz.func72, Tryz.ntmps72
   go_wp2_with (first
    | (go_at_call 32; ((with_reducible refine (hraw.out _).mono ?_); rintro e w1 ⟨rfl, hb1⟩; have hsc1 := hsc.below hb1; have hB1 := below_then hB hle hb1; have hE1 := hE.below (below_up hb1 hle)))
    | (go_at_call 115; ((with_reducible refine (hins.out _ hsc1 hE1 hn1).mono ?_); rintro e w3 ⟨rfl, hsc3, hb3⟩; have hE3 := hE1.below hb3))
    | (go_at_call 116; ((with_reducible refine (hall1.out _ hsc3 hE3).mono ?_); rintro e w4 ⟨v, rfl, hT4, hb4⟩; obtain ⟨ad, cp, rfl⟩ := hT4.len; rw [List.length_append] at hT4)))
   go_ret
   exact ⟨_, rfl, hT4, (hB1.trans hb3).trans hb4⟩
 | false =>
   clear hq1
   cases b2 with
   | true =>
     have hn1 : nm.length ≤ 1000000000 := short_of softs_short hq2
     clear hq2
     simp only [Bool.false_or, if_true]
     go_enter Tryz.func72, Tryz.ntmps72
     go_wp2_with (first
      | (go_at_call 32; ((with_reducible refine (hraw.out _).mono ?_); rintro e w0 ⟨rfl, hb0⟩; have hsc0 := hsc.below hb0; have hB0 := below_then hB hle hb0; have hE0 := hE.below (below_up hb0 hle); have hle0 := hE0.le))
      | (go_at_call 33; ((with_reducible refine (hsoft.out _).mono ?_); rintro e w1 ⟨rfl, hb1⟩; have hsc1 := hsc0.below hb1; have hB1 := below_then hB0 hle0 hb1; have hE1 := hE0.below (below_up hb1 hle0)))
      | (go_at_call 115; ((with_reducible refine (hins.out _ hsc1 hE1 hn1).mono ?_); rintro e w3 ⟨rfl, hsc3, hb3⟩; have hE3 := hE1.below hb3))
      | (go_at_call 116; ((with_reducible refine (hall1.out _ hsc3 hE3).mono ?_); rintro e w4 ⟨v, rfl, hT4, hb4⟩; obtain ⟨ad, cp, rfl⟩ := hT4.len; rw [List.length_append] at hT4)))
     go_ret
     exact ⟨_, rfl, hT4, (hB1.trans hb3).trans hb4⟩
   | false =>
     clear hq2
     simp only [Bool.false_or, Bool.false_eq_true, if_false]
     go_enter Tryz.func72, Tryz.ntmps72
     go_wp2_with (first
      | (go_at_call 32; ((with_reducible refine (hraw.out _).mono ?_); rintro e w0 ⟨rfl, hb0⟩; have hsc0 := hsc.below hb0; have hB0 := below_then hB hle hb0; have hE0 := hE.below (below_up hb0 hle); have hle0 := hE0.le))
      | (go_at_call 33; ((with_reducible refine (hsoft.out _).mono ?_); rintro e w1 ⟨rfl, hb1⟩; have hsc1 := hsc0.below hb1; have hB1 := below_then hB0 hle0 hb1; have hE1 := hE0.below (below_up hb1 hle0)))
      | (go_at_call 116; ((with_reducible refine (hall2.out _ hsc1 hE1).mono ?_); rintro e w4 ⟨v, rfl, hT4, hb4⟩; obtain ⟨ad, cp, rfl⟩ := hT4.len)))
     go_ret
     exact ⟨_, rfl, hT4, hB1.trans hb4⟩
end Go.Proofs.YtkcmghlhpbepcaaGreatDoor

/- token.In, given to the printed walks. -/
namespace Go.Proofs.YtkcmghlhpbepcaaGreatDoorH.W7
open Go.RowKit Go.Proofs Go.Proofs.YtkcmghlhpbepcaaGreatDoor Go.Proofs.YtkcmghlhpbepcaaGreatDoorW.PrintWords
theorem mk_toList7 (a : ByteArray) : (⟨a.data.toList.toArray⟩ : ByteArray) = a := by cases a; simp
def token_In.f (a0 a1 : ByteArray) : Option (List S65) := if a0.size ≤ 900000000 then some ((inL a0.data.toList a1.data.toList).map tokT) else none
theorem token_In.calls (a0 a1 : ByteArray) (r : List S65) (w : World) (h : token_In.f a0 a1 = some r) (hS_ : Std w) :
 Calls Tryz.prog 72 #[.string a0, .string a1] w fun e w' => ∃ v0_ : Value, e = .returned v0_ ∧ Kd.R k65 65 w' w.heap.size (fun _ => True) v0_ r ∧ Below w.heap.size w w' := by
 unfold token_In.f at h
 split at h
 ·rename_i hz
  obtain rfl := Option.some.inj h
  have := in_any a0.data.toList a1.data.toList hz w hS_
  rw [mk_toList7, mk_toList7] at this
  exact this.mono fun e w' ⟨v, h1, h2, h3⟩ => ⟨v, h1, R_of_toks h2, h3⟩
 ·cases h
end Go.Proofs.YtkcmghlhpbepcaaGreatDoorH.W7

/- chars.Ready, given to the printed walks. -/
namespace Go.Proofs.YtkcmghlhpbepcaaGreatDoorH.W7
open Go.RowKit Go.Proofs Go.Proofs.YtkcmghlhpbepcaaGreatDoor Go.Proofs.YtkcmghlhpbepcaaGreatDoor.Ch
def chars_Ready.f (a0 : ByteArray) : Option ByteArray := if a0.data.toList.length ≤ 100000000 then some ⟨(readyF a0.data.toList).toArray⟩ else none
theorem chars_Ready.calls (a0 : ByteArray) (r : ByteArray) (w : World) (h : chars_Ready.f a0 = some r) (hS_ : Std w) :
 Calls Tryz.prog 73 #[.string a0] w fun e w' => e = .returned (.string r) ∧ Below w.heap.size w w' := by
 unfold chars_Ready.f at h
 split at h
 ·rename_i hz
  obtain rfl := Option.some.inj h
  have := ready_c a0.data.toList hz w hS_
  have he : (⟨a0.data.toList.toArray⟩ : ByteArray) = a0 := by cases a0; simp
  rw [he] at this
  exact this
 ·cases h
end Go.Proofs.YtkcmghlhpbepcaaGreatDoorH.W7

/- Words and walks used below. -/
namespace Go.Proofs.YtkcmghlhpbepcaaGreatDoorH.W7
open Go.RowKit Go.Proofs.YtkcmghlhpbepcaaGreatDoorW.PrintWords Go.Proofs.YtkcmghlhpbepcaaGreatDoorW.PrintLast Go.Proofs.YtkcmghlhpbepcaaGreatDoorW.PrintMore
attribute [local go_sem] max2_int min2_int max_two min_two max_three min_three max_four min_four   -- for this text's walks alone
def build_In.f (a0 : ByteArray) (a1 : ByteArray) : Option ((List (S34)) × Int) := if (a0.size : Int) > 65536 then (some (([] : List (S34)), 2)) else ((chars_Ready.f a0).bind fun t314 => ((token_In.f t314 a1).bind fun t315 => ((build_Tree.f t315).bind fun bt318 => (some (bt318.1, bt318.2)))))
set_option maxHeartbeats 8000000 in
set_option maxRecDepth 100000 in
theorem build_In.calls (a0 : ByteArray) (a1 : ByteArray) (r1 : List (S34)) (r2 : Int) (w : World) (h : build_In.f a0 a1 = some (r1, r2)) (hS_ : Go.Proofs.YtkcmghlhpbepcaaGreatDoor.Std w) :
 Calls Tryz.prog 24 #[.string a0, .string a1] w fun e w' => ∃ v0_ : Value, e = .returned (.tuple #[v0_, .int .i64 r2]) ∧ Kd.R k34 34 w' w.heap.size (fun _ => True) v0_ r1 ∧ Below w.heap.size w w' := by
 have HS_ := Aside0.mk hS_
 clear hS_
 have HB := Aside0.mk (Below.refl w.heap.size w)
 have H : (if (a0.size : Int) > 65536 then (some (([] : List (S34)), 2)) else ((chars_Ready.f a0).bind fun t314 => ((token_In.f t314 a1).bind fun t315 => ((build_Tree.f t315).bind fun bt318 => (some (bt318.1, bt318.2)))))) = some (r1, r2) := h
 clear h
 by_cases c3 : (a0.size : Int) > 65536
 ·rw [if_pos c3] at H
  have c3b0 : decide (65536 < (a0.size : Int)) = true := decide_eq_true c3
  have c3b1 : decide (65536 < a0.size) = true := decide_eq_true (by omega)
  clear c3
  simp only [Option.some.injEq, Prod.mk.injEq] at H
  obtain ⟨rfl, rfl⟩ := H
  go_enter Tryz.func24, Tryz.ntmps24
  go_wp2
  go_ret2
  exact ⟨_, by first | rfl | (simp [errW_none, errW_some] <;> rfl) | (simp [*, errW_none, errW_some] <;> rfl), by first | exact Kd.R_nil _ _ _ _ _ | exact Kd.N_nil _ _ _ _ _ | exact Kd.V_nil _ _ _ _ _ | exact Kd.Q_nil _ _ _ _ _ | exact Kd.S_nil _ _ _ _ _, bz⟩
 ·rw [if_neg c3] at H
  have c3b0 : decide (65536 < (a0.size : Int)) = false := decide_eq_false c3
  have c3b1 : decide (65536 < a0.size) = false := decide_eq_false (by omega)
  clear c3
  replace H := Option.bind_eq_some_iff.mp H
  obtain ⟨t314, A40, H⟩ := H
  replace H : ((token_In.f t314 a1).bind fun t315 => ((build_Tree.f t315).bind fun bt318 => (some (bt318.1, bt318.2)))) = some (r1, r2) := H
  have A4 := Aside0.mk A40
  clear A40
  replace H := Option.bind_eq_some_iff.mp H
  obtain ⟨t315, A50, H⟩ := H
  replace H : ((build_Tree.f t315).bind fun bt318 => (some (bt318.1, bt318.2))) = some (r1, r2) := H
  have A5 := Aside0.mk A50
  clear A50
  replace H := Option.bind_eq_some_iff.mp H
  obtain ⟨⟨t318, t319⟩, A60, H⟩ := H
  replace H : (some (t318, t319)) = some (r1, r2) := H
  have A6 := Aside0.mk A60
  clear A60
  simp only [Option.some.injEq, Prod.mk.injEq] at H
  obtain ⟨rfl, rfl⟩ := H
  go_enter Tryz.func24, Tryz.ntmps24
  go_wp2_with (first | ((with_reducible refine gate_callee (f := 73) rfl ?_); refine goesL_ (some 10) rfl rfl Tryz.func73 (by kernel_rfl) rfl #[.string a0] rfl (by (try simp only [List.map_toArray, List.map_cons, List.map_nil]); first | done | rfl | (simp only [List.length_drop, List.length_take]; rfl)) ?_; (with_reducible refine (chars_Ready.calls a0 t314 _ A4.out (Go.Proofs.YtkcmghlhpbepcaaGreatDoor.Std.below HS_.out bz)).mono ?_); rintro e w7 ⟨rfl, hb⟩; refine ⟨_, rfl, ?_⟩; have n0_ := Aside0.mk (below_step bz hb); clear HB; have HB := n0_; clear n0_; (try clear hb); (try clear hb2); (try clear hk); (try clear hi)) | ((with_reducible refine gate_callee (f := 72) rfl ?_); refine goesL_ (some 12) rfl rfl Tryz.func72 (by kernel_rfl) rfl #[.string t314, .string a1] rfl (by (try simp only [List.map_toArray, List.map_cons, List.map_nil]); first | done | rfl | (simp only [List.length_drop, List.length_take]; rfl)) ?_; (with_reducible refine (token_In.calls t314 a1 t315 _ A5.out (Go.Proofs.YtkcmghlhpbepcaaGreatDoor.Std.below HS_.out bz)).mono ?_); rintro e w8 ⟨v316, rfl, ho0, hb⟩; refine ⟨_, rfl, ?_⟩; have n0_ := Aside0.mk (Kd.R_lower ho0 (below_size bz)); have n1_ := Aside0.mk (below_step bz hb); clear HB; have HO317 := n0_; have HB := n1_; clear n0_ n1_; (try clear hb); (try clear hb2); (try clear hk); (try clear hi); (try clear ho0); obtain ⟨Ao9, co9, eo9⟩ := Kd.R_slice HO317.out; subst eo9) | ((with_reducible refine gate_callee (f := 21) rfl ?_); refine goesL_ (some 13) rfl rfl Tryz.func21 (by kernel_rfl) rfl #[.slice Ao9 t315.length co9] rfl (by (try simp only [List.map_toArray, List.map_cons, List.map_nil]); first | done | rfl | (simp only [List.length_drop, List.length_take]; rfl)) ?_; (with_reducible refine (build_Tree.calls _ _ t315 t318 t319 _ ?side1 ?side2 A6.out).mono ?_); (case side1 => exact cz (Kd.R_reads' HO317.out).2.2); (case side2 => exact (Kd.R_reads' HO317.out).2.1); rintro e w10 ⟨v320, rfl, ho0, hb⟩; refine ⟨_, rfl, ?_⟩; have n0_ := Aside0.mk (Kd.R_below (rz HO317.out) hb); have n1_ := Aside0.mk (Kd.R_lower ho0 (below_size bz)); have n2_ := Aside0.mk (below_step bz hb); clear HO317; clear HB; have HO317 := n0_; have HO321 := n1_; have HB := n2_; clear n0_ n1_ n2_; (try clear hb); (try clear hb2); (try clear hk); (try clear hi); (try clear ho0)))
  go_ret2
  exact ⟨_, by first | rfl | (simp [errW_none, errW_some] <;> rfl) | (simp [*, errW_none, errW_some] <;> rfl), by (with_reducible repeat (first | apply Kd.R_alloc | apply Kd.R_drewN | apply Kd.R_drew)); exact HO321.out, bz⟩
end Go.Proofs.YtkcmghlhpbepcaaGreatDoorH.W7

/- Words and walks used below. -/
namespace Go.Proofs.YtkcmghlhpbepcaaGreatDoorH.W7
open Go.RowKit Go.Proofs.YtkcmghlhpbepcaaGreatDoorW.PrintWords Go.Proofs.YtkcmghlhpbepcaaGreatDoorW.PrintLast Go.Proofs.YtkcmghlhpbepcaaGreatDoorW.PrintMore
attribute [local go_sem] max2_int min2_int max_two min_two max_three min_three max_four min_four   -- for this text's walks alone
def build_Parse.f (a0 : ByteArray) : Option ((List (S34)) × Int) := (build_In.f a0 (⟨#[]⟩ : ByteArray)).bind fun bt322 => (some (bt322.1, bt322.2))
set_option maxHeartbeats 8000000 in
set_option maxRecDepth 100000 in
theorem build_Parse.calls (a0 : ByteArray) (r1 : List (S34)) (r2 : Int) (w : World) (h : build_Parse.f a0 = some (r1, r2)) (hS_ : Go.Proofs.YtkcmghlhpbepcaaGreatDoor.Std w) :
 Calls Tryz.prog 26 #[.string a0] w fun e w' => ∃ v0_ : Value, e = .returned (.tuple #[v0_, .int .i64 r2]) ∧ Kd.R k34 34 w' w.heap.size (fun _ => True) v0_ r1 ∧ Below w.heap.size w w' := by
 have HS_ := Aside0.mk hS_
 clear hS_
 have HB := Aside0.mk (Below.refl w.heap.size w)
 have H : ((build_In.f a0 (⟨#[]⟩ : ByteArray)).bind fun bt322 => (some (bt322.1, bt322.2))) = some (r1, r2) := h
 clear h
 replace H := Option.bind_eq_some_iff.mp H
 obtain ⟨⟨t322, t323⟩, A20, H⟩ := H
 replace H : (some (t322, t323)) = some (r1, r2) := H
 have A2 := Aside0.mk A20
 clear A20
 simp only [Option.some.injEq, Prod.mk.injEq] at H
 obtain ⟨rfl, rfl⟩ := H
 go_enter Tryz.func26, Tryz.ntmps26
 go_wp2_with (first | ((with_reducible refine gate_callee (f := 24) rfl ?_); refine goesL_ (some 5) rfl rfl Tryz.func24 (by kernel_rfl) rfl #[.string a0, .string (⟨#[]⟩ : ByteArray)] rfl (by (try simp only [List.map_toArray, List.map_cons, List.map_nil]); first | done | rfl | (simp only [List.length_drop, List.length_take]; rfl)) ?_; (with_reducible refine (build_In.calls a0 (⟨#[]⟩ : ByteArray) t322 t323 _ A2.out (Go.Proofs.YtkcmghlhpbepcaaGreatDoor.Std.below HS_.out bz)).mono ?_); rintro e w3 ⟨v324, rfl, ho0, hb⟩; refine ⟨_, rfl, ?_⟩; have n0_ := Aside0.mk (Kd.R_lower ho0 (below_size bz)); have n1_ := Aside0.mk (below_step bz hb); clear HB; have HO325 := n0_; have HB := n1_; clear n0_ n1_; (try clear hb); (try clear hb2); (try clear hk); (try clear hi); (try clear ho0)))
 go_ret2
 exact ⟨_, by first | rfl | (simp [errW_none, errW_some] <;> rfl) | (simp [*, errW_none, errW_some] <;> rfl), by (with_reducible repeat (first | apply Kd.R_alloc | apply Kd.R_drewN | apply Kd.R_drew)); exact HO325.out, bz⟩
end Go.Proofs.YtkcmghlhpbepcaaGreatDoorH.W7

/- The trees of bytes, in lists alone. -/
namespace Go.Proofs.YtkcmghlhpbepcaaGreatDoorH.W7
open Go.RowKit Go.Proofs Go.Proofs.YtkcmghlhpbepcaaGreatDoorH Go.Proofs.YtkcmghlhpbepcaaGreatDoor Go.Proofs.YtkcmghlhpbepcaaGreatDoorW.PrintWords Go.Proofs.YtkcmghlhpbepcaaGreatDoor.Ch
theorem at_le : ∀ (l : List (Txt × Txt)), l.length ≤ (attrsW l).length
 | [] => Nat.le_refl _
 | a :: l => by
   have := at_le l
   have e : attrsW (a :: l) = (32 :: (a.1 ++ 61 :: 34 :: (wrL true a.2 ++ [34]))) ++ attrsW l := rfl
   rw [e, List.length_append]
   simp only [List.length_cons]
   omega
theorem tok_small {t : Tok} (h : ShapeOK t) : t.data.length ≤ wt t ∧ t.attrs.length ≤ wt t := by
 have hg := h.ge
 have hl := h.le
 by_cases k1 : t.kind = 1
 ·have hd := (h.tag (Or.inl k1)).2
  obtain ⟨k, nm, at_, d, sf⟩ := t
  simp only at k1 hd
  subst k1
  subst hd
  refine ⟨Nat.zero_le _, ?_⟩
  rw [wt_k1]
  have := at_le at_
  simp only [taggedW, List.length_append]
  omega
 ·have ha := (h.start k1).1
  rw [ha]
  refine ⟨?_, Nat.zero_le _⟩
  by_cases k0 : t.kind = 0
  ·unfold wt
   rw [if_pos k0]
   omega
  ·by_cases k2 : t.kind = 2
   ·rw [(h.tag (Or.inr k2)).2]
    exact Nat.zero_le _
   ·have hn := h.other k1 k2
    obtain ⟨k, nm, at_, d, sf⟩ := t
    simp only at k0 k1 k2 ha hn hg hl
    obtain ⟨rfl, -⟩ := h.start k1
    obtain rfl := hn
    have hs := (h.start k1).2
    simp only at hs
    subst hs
    rcases (show k = 3 ∨ k = 4 from by omega) with rfl | rfl
    ·rw [wt_k3]; simp only [List.length_append]; omega
    ·rw [wt_k4]; simp only [List.length_append]; omega
theorem wt_mem {t : Tok} : ∀ {L : List Tok}, t ∈ L → wt t ≤ wts L
 | [], h => by cases h
 | x :: L, h => by
   rw [wts_cons]
   rcases List.mem_cons.1 h with rfl | h
   ·omega
   ·have := wt_mem h
    omega
theorem inL_len (s nm : Txt) : wts (inL s nm) ≤ 20 * s.length := by
 unfold inL
 split
 ·have h1 := inside_len nm s
  have h2 : wts (runF [] (insideR nm s)) ≤ 20 * (([] : Txt).length + (insideR nm s).length) := runN_len _ _ _
  rw [wts_app]
  simp only [List.length_nil] at h2
  omega
 ·have h2 : wts (runF [] s) ≤ 20 * (([] : Txt).length + s.length) := runN_len _ _ _
  simpa using h2
theorem inL_ok (s nm : Txt) : ∀ t ∈ inL s nm, ShapeOK t := by
 unfold inL
 split
 ·intro t ht
  rcases List.mem_append.1 ht with h | h
  ·exact inside_ok nm s t h
  ·exact runN_ok _ _ _ t h
 ·exact runN_ok _ _ _
theorem sumT_le : ∀ (L : List Tok), (∀ t ∈ L, ShapeOK t) → sumT (L.map tokT) ≤ wts L
 | [], _ => Nat.zero_le _
 | t :: L, h => by
   have h1 := (tok_small (h t (by simp))).1
   have h2 := sumT_le L (fun x hx => h x (List.mem_cons_of_mem _ hx))
   have e : sumT ((t :: L).map tokT) = (tokT t).f2.size + sumT (L.map tokT) := by simp [sumT]
   have e2 : (tokT t).f2.size = t.data.length := by show (List.toArray t.data).size = _; simp
   rw [e, e2, wts_cons]
   omega
def toksF (s nm : Txt) : List Tk := (inL (readyF s) nm).map tokT
def ansF (o : Option (List Rw)) : List Rw × Int := match o with | none => ([], 2) | some r => (r, 0)
theorem toks_small (s nm : Txt) (hs : s.length ≤ 1000000) : sumT (toksF s nm) ≤ 80 * s.length ∧ ∀ t ∈ toksF s nm, t.f3.length ≤ 80 * s.length := by
 have h1 := readyF_len s
 have h2 := inL_len (readyF s) nm
 have hk := inL_ok (readyF s) nm
 have h3 := sumT_le _ hk
 refine ⟨by unfold toksF; omega, fun t ht => ?_⟩
 obtain ⟨x, hx, rfl⟩ := List.mem_map.1 ht
 have h4 := (tok_small (hk x hx)).2
 have h5 := wt_mem hx
 show (x.attrs.map pairT).length ≤ _
 rw [List.length_map]
 omega
theorem in_val (s nm : ByteArray) (hs : s.size ≤ 10000) : build_In.f s nm = some (ansF (treeP (toksF s.data.toList nm.data.toList) [] [])) := by
 have hz : s.data.toList.length = s.size := Array.length_toList
 have h1 := readyF_len s.data.toList
 obtain ⟨h2, h3⟩ := toks_small s.data.toList nm.data.toList (by omega)
 unfold build_In.f
 rw [if_neg (by omega)]
 unfold chars_Ready.f
 rw [if_pos (by omega), Option.bind_some]
 unfold token_In.f
 have hq : (⟨(readyF s.data.toList).toArray⟩ : ByteArray).size = (readyF s.data.toList).length := by show (List.toArray _).size = _; simp
 rw [if_pos (by omega), Option.bind_some]
 have ht := tree_f (toksF s.data.toList nm.data.toList) (by omega) (fun t ht => by have := h3 t ht; omega)
 show (build_Tree.f (toksF s.data.toList nm.data.toList)).bind _ = _
 rw [ht, Option.bind_some]
 rfl
end Go.Proofs.YtkcmghlhpbepcaaGreatDoorH.W7

/- Words and walks used below. -/
namespace Go.Proofs.YtkcmghlhpbepcaaGreatDoorH.W7
open Go.RowKit Go.Proofs.YtkcmghlhpbepcaaGreatDoorW.PrintWords Go.Proofs.YtkcmghlhpbepcaaGreatDoorW.PrintLast Go.Proofs.YtkcmghlhpbepcaaGreatDoorW.PrintMore
attribute [local go_sem] max2_int min2_int max_two min_two max_three min_three max_four min_four   -- for this text's walks alone
theorem eqA36 (d : Nat) (w : World) (x0 y0 : ByteArray) (x1 y1 : ByteArray) :
 (Op.equalIn (d + 2) 36 (.agg #[.string x0, .string x1]) (.agg #[.string y0, .string y1])).run Tryz.prog w = .ok (x0.toList == y0.toList && (x1.toList == y1.toList)) w := by
 refine eqA_of Tryz.underlying36 (by kernel_rfl) ?_
 refine eqf_cons (by rfl) (by go_simp; rfl) (by go_simp; rfl) (by go_simp) ?_
 exact eqf_last (by rfl) (by go_simp; rfl) (by go_simp; rfl) (by go_simp)
end Go.Proofs.YtkcmghlhpbepcaaGreatDoorH.W7

/- Words and walks used below. -/
namespace Go.Proofs.YtkcmghlhpbepcaaGreatDoorH.W7
open Go.RowKit Go.Proofs.YtkcmghlhpbepcaaGreatDoorW.PrintWords Go.Proofs.YtkcmghlhpbepcaaGreatDoorW.PrintLast Go.Proofs.YtkcmghlhpbepcaaGreatDoorW.PrintMore
attribute [local go_sem] max2_int min2_int max_two min_two max_three min_three max_four min_four   -- for this text's walks alone
attribute [local go_sem high] eqA36
def rows_attrs.l0 : Nat → List (S36) → List (S36) → Int → Int → Option (Bool)
 | 0, _, _, _, _ => none
 | k + 1, x0, x1, x10, x11 => if x11 < x10 then (if 0 ≤ x11 then (if x11 < (x0.length : Int) then (if x11 < (x1.length : Int) then (if (!((((rd_T36 x0 x11).f0).toList) == (((rd_T36 x1 x11).f0).toList)) || (!((((rd_T36 x0 x11).f1).toList) == (((rd_T36 x1 x11).f1).toList)))) = true then (some false) else (rows_attrs.l0 k x0 x1 x10 (wrap64 (x11 + 1)))) else (none)) else (none)) else (none)) else (some ((x0.length : Int) == (x1.length : Int)))
def rows_attrs.f (k : Nat) (l0 : List (S36)) (l1 : List (S36)) : Option (Bool) := rows_attrs.l0 k l0 l1 (mn (l0.length : Int) (l1.length : Int)) 0
set_option maxHeartbeats 8000000 in
set_option maxRecDepth 100000 in
theorem rows_attrs.calls (k : Nat) (A0 : Option Addr) (c0 : Nat) (l0 : List (S36)) (A1 : Option Addr) (c1 : Nat) (l1 : List (S36)) (r : Bool) (w : World) (hr0 : Kd.C k36 w A0 l0.length l0) (hc0 : l0.length ≤ c0) (hr1 : Kd.C k36 w A1 l1.length l1) (hc1 : l1.length ≤ c1) (h : rows_attrs.f k l0 l1 = some r) :
 Calls Tryz.prog 88 #[.slice A0 l0.length c0, .slice A1 l1.length c1] w fun e w' => e = .returned (.bool r) ∧ Below w.heap.size w w' := by
 have hu36 := Tryz.underlying36
 have HR0 := Aside0.mk hr0
 have HC0 := Aside0.mk hc0
 clear hr0 hc0
 have HR1 := Aside0.mk hr1
 have HC1 := Aside0.mk hc1
 clear hr1 hc1
 have HB := Aside0.mk (Below.refl w.heap.size w)
 have H : (rows_attrs.l0 k l0 l1 (mn (l0.length : Int) (l1.length : Int)) 0) = some r := h
 clear h
 obtain ⟨ji3, hji3⟩ : ∃ j_ : Int, (mn (l0.length : Int) (l1.length : Int)) = j_ := ⟨_, rfl⟩
 replace H : (rows_attrs.l0 k l0 l1 ji3 0) = some r := by first | (rw [hji3] at H; exact H) | (simp only [hji3] at H ⊢; exact H)
 (try (have hji3l : 0 ≤ ji3 := by (rw [← hji3]; unfold mn; (repeat' split) <;> omega)))
 (try (have hji3m : 0 ≤ ji3 := by omega))
 have hji3_ : (if (l1.length : Int) < (l0.length : Int) then (l1.length : Int) else (l0.length : Int)) = ji3 := hji3
 have hji3_n : (if l1.length < l0.length then (l1.length : Int) else (l0.length : Int)) = ji3 := by (first | (simpa only [Int.ofNat_lt] using hji3_) | (simpa using hji3_))
 have H' := Aside0.mk H
 clear H
 go_enter Tryz.func88, Tryz.ntmps88
 go_wp2
 repeat (go_quiet (fail); try go_wp2)
 go_loopg [11] k (fun kq v11 w' => ∃ (x11_1 : Int), v11 = .int .i64 x11_1 ∧ Aside0 (rows_attrs.l0 kq l0 l1 ji3 x11_1 = some r) ∧ Aside0 (kq ≤ k) ∧ Aside0 (Below w.heap.size w w'))
 case atStart => exact ⟨(0), (by first | rfl | (simp; done) | (simp [*]; done) | (simp; generalize ByteArray.toList _ = l_; cases l_ <;> rfl)), H', ⟨Nat.le_refl _⟩, ⟨bz⟩⟩
 case round =>
  clear H'
  try clear c1
  try clear p2
  obtain ⟨x11_1, rfl, HA, HK1, HB⟩ := hrel
  cases gk with
  | zero => exact absurd HA.out (by simp [rows_attrs.l0])
  | succ k1 =>
    have H := HA.out
    clear HA
    simp only [rows_attrs.l0] at H
    by_cases c4 : x11_1 < ji3
    ·rw [if_pos c4] at H
     have c4b0 : decide (x11_1 < ji3) = true := decide_eq_true c4
     clear c4
     by_cases c5 : 0 ≤ x11_1
     ·rw [if_pos c5] at H
      have c5b0 : decide (0 ≤ x11_1) = true := decide_eq_true c5
      clear c5
      by_cases c6 : x11_1 < (l0.length : Int)
      ·rw [if_pos c6] at H
       have c6b0 : decide (x11_1 < (l0.length : Int)) = true := decide_eq_true c6
       clear c6
       by_cases c7 : x11_1 < (l1.length : Int)
       ·rw [if_pos c7] at H
        have c7b0 : decide (x11_1 < (l1.length : Int)) = true := decide_eq_true c7
        clear c7
        by_cases c8 : (!((((rd_T36 l0 x11_1).f0).toList) == (((rd_T36 l1 x11_1).f0).toList)) || (!((((rd_T36 l0 x11_1).f1).toList) == (((rd_T36 l1 x11_1).f1).toList)))) = true
        ·rw [if_pos c8] at H
         have c8b0 : (!((((rd_T36 l0 x11_1).f0).toList) == (((rd_T36 l1 x11_1).f0).toList)) || (!((((rd_T36 l0 x11_1).f1).toList) == (((rd_T36 l1 x11_1).f1).toList)))) = true := c8
         clear c8
         obtain rfl := Option.some.inj H
         have p101 : 0 ≤ (x11_1 : Int) := (by first | exact of_decide_eq_true (by first | (with_reducible assumption) | assumption) | assumption | omega)
         have q101 : x11_1 < (l0.length : Int) := (by first | exact of_decide_eq_true (by first | (with_reducible assumption) | assumption) | assumption | omega)
         obtain ⟨ad101, e101, hx101_0, hx101_1⟩ := at_T36 HR0.out x11_1 p101 q101
         cases e101
         replace hx101_0 := (HB.out.cell (World.block_lt_of_cell? w _ hx101_0)).trans hx101_0
         replace hx101_1 := (HB.out.cell (World.block_lt_of_cell? w _ hx101_1)).trans hx101_1
         replace p101 := eq_true p101
         replace q101 := eq_true q101
         have p102 : 0 ≤ (x11_1 : Int) := (by first | exact of_decide_eq_true (by first | (with_reducible assumption) | assumption) | assumption | omega)
         have q102 : x11_1 < (l1.length : Int) := (by first | exact of_decide_eq_true (by first | (with_reducible assumption) | assumption) | assumption | omega)
         obtain ⟨ad102, e102, hx102_0, hx102_1⟩ := at_T36 HR1.out x11_1 p102 q102
         cases e102
         replace hx102_0 := (HB.out.cell (World.block_lt_of_cell? w _ hx102_0)).trans hx102_0
         replace hx102_1 := (HB.out.cell (World.block_lt_of_cell? w _ hx102_1)).trans hx102_1
         replace p102 := eq_true p102
         replace q102 := eq_true q102
         go_wp2
         repeat (go_quiet (fail); try go_wp2)
         go_ret
         exact ⟨by first | rfl | (simp [errW_none, errW_some] <;> rfl) | (simp only [← hji3]; first | rfl | (simp [errW_none, errW_some] <;> rfl)) | (simp [*, errW_none, errW_some] <;> rfl), bz⟩
        ·rw [if_neg c8] at H
         have c8b0 : (!((((rd_T36 l0 x11_1).f0).toList) == (((rd_T36 l1 x11_1).f0).toList)) || (!((((rd_T36 l0 x11_1).f1).toList) == (((rd_T36 l1 x11_1).f1).toList)))) = false := by simpa using c8
         clear c8
         have H' := Aside0.mk H
         clear H
         have p101 : 0 ≤ (x11_1 : Int) := (by first | exact of_decide_eq_true (by first | (with_reducible assumption) | assumption) | assumption | omega)
         have q101 : x11_1 < (l0.length : Int) := (by first | exact of_decide_eq_true (by first | (with_reducible assumption) | assumption) | assumption | omega)
         obtain ⟨ad101, e101, hx101_0, hx101_1⟩ := at_T36 HR0.out x11_1 p101 q101
         cases e101
         replace hx101_0 := (HB.out.cell (World.block_lt_of_cell? w _ hx101_0)).trans hx101_0
         replace hx101_1 := (HB.out.cell (World.block_lt_of_cell? w _ hx101_1)).trans hx101_1
         replace p101 := eq_true p101
         replace q101 := eq_true q101
         have p102 : 0 ≤ (x11_1 : Int) := (by first | exact of_decide_eq_true (by first | (with_reducible assumption) | assumption) | assumption | omega)
         have q102 : x11_1 < (l1.length : Int) := (by first | exact of_decide_eq_true (by first | (with_reducible assumption) | assumption) | assumption | omega)
         obtain ⟨ad102, e102, hx102_0, hx102_1⟩ := at_T36 HR1.out x11_1 p102 q102
         cases e102
         replace hx102_0 := (HB.out.cell (World.block_lt_of_cell? w _ hx102_0)).trans hx102_0
         replace hx102_1 := (HB.out.cell (World.block_lt_of_cell? w _ hx102_1)).trans hx102_1
         replace p102 := eq_true p102
         replace q102 := eq_true q102
         go_wp2
         repeat (go_quiet (fail); try go_wp2)
         go_roundg k1
         case measure => have := HK1.out; omega
         case rel => exact ⟨(wrap64 (x11_1 + 1)), (by first | rfl | (simp; done) | (simp [*]; done) | (simp; generalize ByteArray.toList _ = l_; cases l_ <;> rfl)), H', ⟨by have := HK1.out; omega⟩, ⟨bz⟩⟩
       ·rw [if_neg c7] at H
        exact absurd H (by simp)
      ·rw [if_neg c6] at H
       exact absurd H (by simp)
     ·rw [if_neg c5] at H
      exact absurd H (by simp)
    ·rw [if_neg c4] at H
     have c4b0 : decide (x11_1 < ji3) = false := decide_eq_false c4
     clear c4
     obtain rfl := Option.some.inj H
     go_wp2
     repeat (go_quiet (fail); try go_wp2)
     go_ret
     exact ⟨by first | rfl | (simp [errW_none, errW_some] <;> rfl) | (simp only [← hji3]; first | rfl | (simp [errW_none, errW_some] <;> rfl)) | (simp [*, errW_none, errW_some] <;> rfl), bz⟩
end Go.Proofs.YtkcmghlhpbepcaaGreatDoorH.W7
