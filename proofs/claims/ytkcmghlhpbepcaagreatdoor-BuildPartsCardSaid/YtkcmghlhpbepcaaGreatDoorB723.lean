/- Lemmas and walks, part 23: QScanH, QScanN, QE7K, QE8C, QPW7x8. -/
import Derived.Test.YtkcmghlhpbepcaaGreatDoorB722
import Derived.Test.YtkcmghlhpbepcaaGreatDoorB717
import Derived.Test.YtkcmghlhpbepcaaGreatDoorB79
import Derived.Test.YtkcmghlhpbepcaaGreatDoorB72
import Derived.Lib.SliceRun
import Derived.Lib.Walk
set_option linter.unusedVariables false
set_option linter.unusedSimpArgs false

/- Contracts of token's scanner: all; of Cut and In. What lay in memory does not turn. -/
namespace Go.Proofs.YtkcmghlhpbepcaaGreatDoor
open Go.RowKit Go.Proofs
theorem open_two {s r : Txt} {ts : List Tok} (h : openF s = some (ts, r)) : ts.length ≤ 2 := by
 have hn : ∀ k u e, (noteF k u e).1.length ≤ 2 := by intro k u e; simp [noteF]
 have ht : ∀ k u, (tagF k u).1.length ≤ 2 := by
  intro k u
  unfold tagF
  split
  ·simp
  ·split
   ·simp
   ·split
    ·unfold insideT
     split <;> simp
    ·simp
 have hc : ∀ u, (commentF u).1.length ≤ 2 := by
  intro u
  unfold commentF
  split
  ·simp
  ·split
   ·simp
   ·exact hn _ _ _
 unfold openF at h
 repeat' split at h
 all_goals first
  | (simp only [Option.some.injEq] at h
     have e := congrArg Prod.fst h
     simp only at e
     rw [← e]
     first | exact ht _ _ | exact hc _ | exact hn _ _ _)
  | (simp only [Option.some.injEq, Prod.mk.injEq] at h
     rw [← h.1]
     simp)
  | cases h
theorem str_app (a b : Txt) : (⟨a.toArray⟩ : ByteArray) ++ ⟨b.toArray⟩ = ⟨(a ++ b).toArray⟩ := by
 apply ByteArray.ext
 simp
theorem tell_one (t : Txt) : (tellF t).length ≤ 1 := by unfold tellF; split <;> simp
set_option maxHeartbeats 4000000 in
set_option maxRecDepth 100000 in
theorem all_c (base b : Nat) (S T : Txt) (l0 : List Tok) (hs : T.length + S.length ≤ 900000000) (hl : l0.length ≤ 10) (w : World) (hsc : Sc w base b S T l0) (hE : Env w base) :
 Calls Tryz.prog 116 #[.pointer (some ⟨b, 0, none⟩)] w fun e w' => ∃ v, e = .returned v ∧ Toks w' base v (l0 ++ runF T S) ∧ Below base w w' := by
 have hbb := hsc.1
 go_enter Tryz.func116, Tryz.ntmps116
 go_wp2
 go_loopg [3] S.length (fun g _ wr => ∃ (s t : Txt) (l : List Tok), s.length = g ∧ Sc wr base b s t l ∧ Below base w wr ∧ t.length + s.length ≤ T.length + S.length ∧ l.length + 3 * s.length ≤ l0.length + 3 * S.length ∧ Hid (l0 ++ runF T S = l ++ runF t s))
 case atStart => exact ⟨S, T, l0, rfl, hsc, Below.refl _ _, by omega, by omega, rfl⟩
 case round =>
  obtain ⟨s, t, l, hsg, hscr, hB, hts, hls, hinv⟩ := hrel
  subst hsg
  have hEr := hE.below hB
  obtain ⟨_, v, hh, hT⟩ := id hscr
  obtain ⟨ad, cp, rfl⟩ := hT.len
  obtain ⟨⟨c0, c1, c2⟩, c5⟩ := three_facts hh
  cases hs0 : s with
  | nil =>
    subst hs0
    have hfin := Lib.hid (show l0 ++ runF T S = l ++ tellF t by rw [hinv.out, run_nil])
    have htell := Lib.hid (tell_c base b [] t l (by omega) (by omega) wr hscr hEr)
    go_wp2_with (go_at_call 159; ((with_reducible refine (htell.out).mono ?_); rintro e w3 ⟨rfl, hsc3, hb3⟩; obtain ⟨_, v3, hh3, hT3⟩ := id hsc3; obtain ⟨ad3, cp3, rfl⟩ := hT3.len; rw [List.length_append] at hT3 hh3; obtain ⟨⟨y0, y1, y2⟩, y5⟩ := three_facts hh3))
    go_ret
    exact ⟨_, rfl, by rw [hfin.out]; exact hT3, hB.trans hb3⟩
  | cons c0' s0 =>
    have hne : (s == []) = false := by rw [hs0]; rfl
    have hpos : 0 < s.length := by rw [hs0]; simp
    clear hs0
    have hspan := Lib.hid (fun W => span_all1 s (by omega) W)
    have heq := runF_eq t s
    rw [show s.findIdx (fun c => c == 60) = textF s from rfl] at hspan
    have hnl : textF s ≤ s.length := List.findIdx_le_length
    have hhead : ∀ c r, s.drop (textF s) = c :: r → c = 60 := by
     intro c r h
     have := dr_yes h
     simpa using this
    generalize textF s = n at *
    have hnI : (n : Int) ≤ s.length := by omega
    have hdl : (s.drop n).length = s.length - n := by simp
    have htl : (s.take n).length = n := by simp; omega
    have hscA := (hscr.set_t (t ++ s.take n)).below (Below.refl _ _).drew
    have hBA := (below_set (j := 1) hB hbb (.string ⟨(t ++ s.take n).toArray⟩)).drew
    have hhA : ((wr.setCell ⟨b, 1, none⟩ (.string ⟨(t ++ s.take n).toArray⟩)).drew).heap[b]? = _ := heap_set_t (t' := t ++ s.take n) hh
    have hTA : Toks (wr.setCell ⟨b, 1, none⟩ (.string ⟨(t ++ s.take n).toArray⟩)).drew base (.slice ad l.length cp) l := (hT.other (grown_set wr ⟨b, 1, none⟩ (.string ⟨(t ++ s.take n).toArray⟩)) hh (by decide) (by decide)).below (Below.refl _ _).drew
    have hWA : ((wr.setCell ⟨b, 1, none⟩ (.string ⟨(t ++ s.take n).toArray⟩)).drew).heap.size = wr.heap.size := World.size_setCell _ _ _
    go_wp2_with (go_at_call 156; ((with_reducible refine (hspan.out _).mono ?_); rintro e w4 ⟨rfl, rfl⟩))
    go_region
    all_goals
     rw [str_app]
     generalize (wr.setCell ⟨b, 1, none⟩ (.string ⟨(t ++ s.take n).toArray⟩)).drew = W7 at *
     obtain ⟨⟨d0, d1, d2⟩, d5⟩ := three_facts hhA
     have hscB := hscA.set_s (s.drop n)
     have hBB := below_set (j := 0) hBA hbb (.string ⟨(s.drop n).toArray⟩)
     have hEB := hE.below hBB
     generalize hx : s.take n = x at *
     generalize hd : s.drop n = y at *
     cases y with
     | nil =>
       have hinv2 := Lib.hid (show l0 ++ runF T S = l ++ runF (t ++ x) [] by rw [hinv.out, heq, run_nil])
       clear heq hhead hinv
       go_wp2
       go_roundg 0
       ·exact ⟨[], t ++ x, l, rfl, hscB, hBB, by simp; omega, by simp; omega, hinv2⟩
       ·omega
     | cons c r =>
       obtain rfl := hhead c r rfl
       simp only [List.length_cons] at heq hdl
       have hop := Lib.hid (opens_c base b r (t ++ x) l (by omega) (by simp; omega) (by omega) _ hscB hEB)
       go_wp2_with (go_at_call 158; ((with_reducible refine (hop.out).mono ?_); rintro e w5 ⟨rfl, hp5, hb5⟩))
       cases ho : openF r with
       | none =>
         rw [ho] at hp5 heq
         have hinv2 := Lib.hid (show l0 ++ runF T S = l ++ runF (t ++ x ++ [60]) r by rw [hinv.out, heq])
         clear heq hhead hinv
         go_roundg r.length
         ·exact ⟨r, t ++ x ++ [60], l, rfl, hp5, hBB.trans hb5, by simp; omega, by omega, hinv2⟩
         ·omega
       | some q =>
         obtain ⟨ts, q⟩ := q
         rw [ho] at hp5 heq
         have hle := openF_le ho
         have h2 := open_two ho
         have h1 := tell_one (t ++ x)
         simp only at hle heq
         have hinv2 := Lib.hid (show l0 ++ runF T S = l ++ tellF (t ++ x) ++ ts ++ runF [] q by rw [hinv.out, heq]; simp)
         clear heq hhead hinv
         go_roundg q.length
         ·exact ⟨q, [], _, rfl, hp5, hBB.trans hb5, by simp; omega, by simp; omega, hinv2⟩
         ·omega
end Go.Proofs.YtkcmghlhpbepcaaGreatDoor

/- Contract of token.In: the tokens lie in blocks that the call made. What lay in memory does not turn. -/
namespace Go.Proofs.YtkcmghlhpbepcaaGreatDoor
open Go.RowKit Go.Proofs
theorem sc_new (s : Txt) (w : World) : Sc (w.alloc (.cells #[.string ⟨s.toArray⟩, .string ⟨#[]⟩, .slice none 0 0] 92)) w.heap.size w.heap.size s [] [] := ⟨Nat.le_refl _, _, new_cells _ _ _, Toks.nil _ _⟩
theorem env_new {w : World} (hS : Std w) (o : Obj) : Env (w.alloc o) w.heap.size := ⟨w, hS, rfl, (Below.refl _ w).alloc (Nat.le_refl _) o⟩
theorem short_of {L : List Txt} (h : L.all (fun l => decide (l.length ≤ 1000000000)) = true) {l : Txt} (hi : inB L l = true) : l.length ≤ 1000000000 := by
 rw [List.all_eq_true] at h
 have := h l (by simpa [inB] using hi)
 simpa using this
theorem raws_short : rawsL.all (fun l => decide (l.length ≤ 1000000000)) = true := by decide +kernel
theorem softs_short : softsL.all (fun l => decide (l.length ≤ 1000000000)) = true := by decide +kernel
set_option maxHeartbeats 1000000 in
set_option maxRecDepth 100000 in
theorem in_any (s nm : Txt) (hs : s.length ≤ 900000000) (w : World) (hS : Std w) :
 Calls Tryz.prog 72 #[.string ⟨s.toArray⟩, .string ⟨nm.toArray⟩] w fun e w' => ∃ v, e = .returned v ∧ Toks w' w.heap.size v (inL s nm) ∧ Below w.heap.size w w' := by
 have hsc := sc_new s w
 have hE := env_new hS (.cells #[.string ⟨s.toArray⟩, .string ⟨#[]⟩, .slice none 0 0] 92)
 have hB := (Below.refl _ w).alloc (Nat.le_refl _) (.cells #[.string ⟨s.toArray⟩, .string ⟨#[]⟩, .slice none 0 0] 92)
 have hle := hE.le
 have hraw := Lib.hid (fun W => raw_c nm W)
 have hsoft := Lib.hid (fun W => soft_c nm W)
 have hil : (insideT nm s).length ≤ 10 := by unfold insideT; split <;> simp
 have hrl := insideR_le nm s
 have hins0 := fun W h1 h2 (hnm : nm.length ≤ 1000000000) => inside_c w.heap.size w.heap.size s [] nm [] (by omega) hnm (by simp) W h1 h2
 rw [List.nil_append] at hins0
 have hins := Lib.hid hins0
 clear hins0
 have hall1 := Lib.hid (fun W h1 h2 => all_c w.heap.size w.heap.size (insideR nm s) [] (insideT nm s) (by simp; omega) hil W h1 h2)
 have hall2 := Lib.hid (fun W h1 h2 => all_c w.heap.size w.heap.size s [] [] (by simpa using hs) (by simp) W h1 h2)
 rw [List.nil_append] at hall2
 unfold inL
 generalize runF [] s = l at *
 generalize runF [] (insideR nm s) = l2 at *
 generalize hq1 : rawB nm = b1 at *
 generalize hq2 : softB nm = b2 at *
 cases b1 with
 | true =>
   have hn1 : nm.length ≤ 1000000000 := short_of raws_short hq1
   clear hq1 hq2
   simp only [Bool.true_or, if_true]
   go_enter Tryz.func72, Tryz.ntmps72
   go_wp2_with (first
    | (go_at_call 32; ((with_reducible refine (hraw.out _).mono ?_); rintro e w1 ⟨rfl, hb1⟩; have hsc1 := hsc.below hb1; have hB1 := below_then hB hle hb1; have hE1 := hE.below (below_up hb1 hle)))
    | (go_at_call 115; ((with_reducible refine (hins.out _ hsc1 hE1 hn1).mono ?_); rintro e w3 ⟨rfl, hsc3, hb3⟩; have hE3 := hE1.below hb3))
    | (go_at_call 116; ((with_reducible refine (hall1.out _ hsc3 hE3).mono ?_); rintro e w4 ⟨v, rfl, hT4, hb4⟩; obtain ⟨ad, cp, rfl⟩ := hT4.len; rw [List.length_append] at hT4)))
   go_ret
   exact ⟨_, rfl, hT4, (hB1.trans hb3).trans hb4⟩
 | false =>
   clear hq1
   cases b2 with
   | true =>
     have hn1 : nm.length ≤ 1000000000 := short_of softs_short hq2
     clear hq2
     simp only [Bool.false_or, if_true]
     go_enter Tryz.func72, Tryz.ntmps72
     go_wp2_with (first
      | (go_at_call 32; ((with_reducible refine (hraw.out _).mono ?_); rintro e w0 ⟨rfl, hb0⟩; have hsc0 := hsc.below hb0; have hB0 := below_then hB hle hb0; have hE0 := hE.below (below_up hb0 hle); have hle0 := hE0.le))
      | (go_at_call 33; ((with_reducible refine (hsoft.out _).mono ?_); rintro e w1 ⟨rfl, hb1⟩; have hsc1 := hsc0.below hb1; have hB1 := below_then hB0 hle0 hb1; have hE1 := hE0.below (below_up hb1 hle0)))
      | (go_at_call 115; ((with_reducible refine (hins.out _ hsc1 hE1 hn1).mono ?_); rintro e w3 ⟨rfl, hsc3, hb3⟩; have hE3 := hE1.below hb3))
      | (go_at_call 116; ((with_reducible refine (hall1.out _ hsc3 hE3).mono ?_); rintro e w4 ⟨v, rfl, hT4, hb4⟩; obtain ⟨ad, cp, rfl⟩ := hT4.len; rw [List.length_append] at hT4)))
     go_ret
     exact ⟨_, rfl, hT4, (hB1.trans hb3).trans hb4⟩
   | false =>
     clear hq2
     simp only [Bool.false_or, Bool.false_eq_true, if_false]
     go_enter Tryz.func72, Tryz.ntmps72
     go_wp2_with (first
      | (go_at_call 32; ((with_reducible refine (hraw.out _).mono ?_); rintro e w0 ⟨rfl, hb0⟩; have hsc0 := hsc.below hb0; have hB0 := below_then hB hle hb0; have hE0 := hE.below (below_up hb0 hle); have hle0 := hE0.le))
      | (go_at_call 33; ((with_reducible refine (hsoft.out _).mono ?_); rintro e w1 ⟨rfl, hb1⟩; have hsc1 := hsc0.below hb1; have hB1 := below_then hB0 hle0 hb1; have hE1 := hE0.below (below_up hb1 hle0)))
      | (go_at_call 116; ((with_reducible refine (hall2.out _ hsc1 hE1).mono ?_); rintro e w4 ⟨v, rfl, hT4, hb4⟩; obtain ⟨ad, cp, rfl⟩ := hT4.len)))
     go_ret
     exact ⟨_, rfl, hT4, hB1.trans hb4⟩
end Go.Proofs.YtkcmghlhpbepcaaGreatDoor

/- token.In, given to the printed walks. -/
namespace Go.Proofs.YtkcmghlhpbepcaaGreatDoorH.W7
open Go.RowKit Go.Proofs Go.Proofs.YtkcmghlhpbepcaaGreatDoor Go.Proofs.YtkcmghlhpbepcaaGreatDoorW.PrintWords
theorem mk_toList7 (a : ByteArray) : (⟨a.data.toList.toArray⟩ : ByteArray) = a := by cases a; simp
def token_In.f (a0 a1 : ByteArray) : Option (List S65) := if a0.size ≤ 900000000 then some ((inL a0.data.toList a1.data.toList).map tokT) else none
theorem token_In.calls (a0 a1 : ByteArray) (r : List S65) (w : World) (h : token_In.f a0 a1 = some r) (hS_ : Std w) :
 Calls Tryz.prog 72 #[.string a0, .string a1] w fun e w' => ∃ v0_ : Value, e = .returned v0_ ∧ Kd.R k65 65 w' w.heap.size (fun _ => True) v0_ r ∧ Below w.heap.size w w' := by
 unfold token_In.f at h
 split at h
 ·rename_i hz
  obtain rfl := Option.some.inj h
  have := in_any a0.data.toList a1.data.toList hz w hS_
  rw [mk_toList7, mk_toList7] at this
  exact this.mono fun e w' ⟨v, h1, h2, h3⟩ => ⟨v, h1, R_of_toks h2, h3⟩
 ·cases h
end Go.Proofs.YtkcmghlhpbepcaaGreatDoorH.W7

/- slices.Clone of attributes, given to the printed walk. -/
namespace Go.Proofs.YtkcmghlhpbepcaaGreatDoorH.W7
open Go.RowKit Go.Proofs.YtkcmghlhpbepcaaGreatDoorW.PrintWords Go.Proofs.YtkcmghlhpbepcaaGreatDoorW.PrintLast Go.Proofs.YtkcmghlhpbepcaaGreatDoorW.PrintMore
def api_Attr.f (l0 : List S36) : Option (List S36) := if l0.length * 32 ≤ 140737488355328 then some l0 else none
set_option maxHeartbeats 2000000 in
set_option maxRecDepth 100000 in
theorem api_Attr.calls (A0 : Option Addr) (c0 : Nat) (l0 : List S36) (r : List S36) (w : World) (hr0 : Kd.C k36 w A0 l0.length l0) (hc0 : l0.length ≤ c0) (h : api_Attr.f l0 = some r) :
 Calls Tryz.prog 132 #[.slice A0 l0.length c0] w fun e w' => ∃ v0_ : Value, e = .returned (v0_) ∧ Kd.R k36 36 w' w.heap.size (fun _ => True) v0_ r ∧ Below w.heap.size w w' := by
 unfold api_Attr.f at h
 split at h
 ·rename_i hz
  obtain rfl := Option.some.inj h
  clear h
  have HR0 := Aside0.mk hr0
  have HC0 := Aside0.mk hc0
  clear hr0 hc0
  have HB := Aside0.mk (Below.refl w.heap.size w)
  have hu := Tryz.underlying32
  have q22 : ∀ (w : World) (a : Option Addr) (n c n' c' : Nat), (binOp .eql 32 (.slice a n c) (.slice none n' c')).run Tryz.prog w = .ok (.bool a.isNone) w := fun w a n c n' c' => Lib.run_eql_slice_nil w _ _ a n c n' c' hu
  cases A0 with
  | none =>
    have hnil : l0 = [] := by
     cases l0 with
     | nil => rfl
     | cons x xs => obtain ⟨ad, e, _⟩ := HR0.out.2.2 (by simp); cases e
    subst hnil
    go_enter Tryz.func132, Tryz.ntmps132
    go_wp2
    go_ret
    exact ⟨_, rfl, Kd.R_nil _ _ _ _ _, HB.out⟩
  | some ad =>
    go_enter Tryz.func132, Tryz.ntmps132
    go_wp2_with (first | ((with_reducible refine gate_dst (N := 5) rfl ?_); refine Kd.R_lit k36 _ 36 ?hg (N := 5) ?hd (xs := ([] : List (S36))) (inner := []) (ok := fun _ => True) (okp := fun _ => True) ?hr ?hp (fun _ hk => hk) trivial (Below.refl _ _) (Nat.le_refl _) (by simp) ?_; (case hd => rfl); (case hg => rfl); (case hr => first | (go_simp; done) | (go_simp; rfl)); (case hp => exact (Reps.none _ _)); intro v5 w5 ho5 hb5 hg_ hnew_; clear hg_ hnew_; have HO5 := Aside0.mk ho5; have HB5 := Aside0.mk hb5; clear ho5 hb5) | ((with_reducible refine gate_builtin (b := .append) (xs := #[.tmp 5, .tmp 6]) rfl ?_); at_builtin; refine Kd.R_append_rows k36 (w0 := w) w.heap.size rfl (.tmp 5) (.tmp 6) 32 36 (.agg #[(.string ⟨#[]⟩), (.string ⟨#[]⟩)]) 32 rfl Tryz.underlying32 info36 rfl (by decide) (by omega) v5 [] l0 _ _ _ (fun _ => True) (fun _ => False) rfl rfl HO5.out (Kd.C_below HR0.out HB5.out) (fun _ _ h => h) (fun _ h => h.elim) (fun _ _ => trivial) HB5.out HB5.out.size (by simpa using hz) ?_; intro v7 w7 ho7 hb7 hg_ hat_))
    go_ret
    exact ⟨_, rfl, by simpa using ho7, hb7⟩
 ·cases h
end Go.Proofs.YtkcmghlhpbepcaaGreatDoorH.W7

/- Words and walks used below. -/
namespace Go.Proofs.YtkcmghlhpbepcaaGreatDoorH.W7
open Go.RowKit Go.Proofs.YtkcmghlhpbepcaaGreatDoorW.PrintWords Go.Proofs.YtkcmghlhpbepcaaGreatDoorW.PrintLast Go.Proofs.YtkcmghlhpbepcaaGreatDoorW.PrintMore
attribute [local go_sem] max2_int min2_int max_two min_two max_three min_three max_four min_four   -- for this text's walks alone
def rows_moved.l0 : Nat → Int → List (S34) → List (S34) → Int → Int → Option ((List (S34)))
 | 0, _, _, _, _, _ => none
 | k + 1, x1, x5, x8, x9, x10 => if x10 < x9 then (if 0 ≤ x10 then (if x10 < (x8.length : Int) then ((api_Attr.f ((rd_T34 x8 x10).f4)).bind fun t115 => (if x5.length < 1954687338268 then (rows_moved.l0 k x1 (x5 ++ [(⟨wrap64 (((rd_T34 x8 x10).f0) + x1), (rd_T34 x8 x10).f1, (rd_T34 x8 x10).f2, (rd_T34 x8 x10).f3, t115⟩ : S34)]) x8 x9 (wrap64 (x10 + 1))) else (none))) else (none)) else (none)) else (some x5)
def rows_moved.f (k : Nat) (l0 : List (S34)) (a1 : Int) : Option ((List (S34))) := rows_moved.l0 k a1 ([] : List (S34)) l0 (l0.length : Int) 0
set_option maxHeartbeats 8000000 in
set_option maxRecDepth 100000 in
theorem rows_moved.calls (k : Nat) (A0 : Option Addr) (c0 : Nat) (l0 : List (S34)) (a1 : Int) (r : List (S34)) (w : World) (hr0 : Kd.C k34 w A0 l0.length l0) (hc0 : l0.length ≤ c0) (h : rows_moved.f k l0 a1 = some r) :
 Calls Tryz.prog 89 #[.slice A0 l0.length c0, .int .i64 a1] w fun e w' => ∃ v0_ : Value, e = .returned (v0_) ∧ Kd.R k34 34 w' w.heap.size (fun _ => True) v0_ r ∧ Below w.heap.size w w' := by
 have hu34 := Tryz.underlying34
 have HR0 := Aside0.mk hr0
 have HC0 := Aside0.mk hc0
 clear hr0 hc0
 have HB := Aside0.mk (Below.refl w.heap.size w)
 have H : (rows_moved.l0 k a1 ([] : List (S34)) l0 (l0.length : Int) 0) = some r := h
 clear h
 have H' := Aside0.mk H
 clear H
 go_enter Tryz.func89, Tryz.ntmps89
 go_wp2
 go_loopg [5, 10] k (fun kq v5 v10 w' => ∃ (x5_1 : List (S34)) (x10_1 : Int), v10 = .int .i64 x10_1 ∧ Aside0 (rows_moved.l0 kq a1 x5_1 l0 (l0.length : Int) x10_1 = some r) ∧ Aside0 (kq ≤ k) ∧ Aside0 (Kd.R k34 34 w' w.heap.size (fun _ => True) v5 x5_1) ∧ Aside0 (Below w.heap.size w w'))
 case atStart => exact ⟨(([] : List (S34))), (0), (by first | rfl | (simp; done) | (simp [*]; done) | (simp; generalize ByteArray.toList _ = l_; cases l_ <;> rfl)), H', ⟨Nat.le_refl _⟩, ⟨by first | exact Kd.R_nil _ _ _ _ _ | exact Kd.N_nil _ _ _ _ _ | exact Kd.V_nil _ _ _ _ _ | exact Kd.Q_nil _ _ _ _ _ | exact Kd.S_nil _ _ _ _ _⟩, ⟨bz⟩⟩
 case round =>
  clear H'
  try clear p2
  obtain ⟨x5_1, x10_1, rfl, HA, HK1, HO_5, HB⟩ := hrel
  cases gk with
  | zero => exact absurd HA.out (by simp [rows_moved.l0])
  | succ k1 =>
    have H := HA.out
    clear HA
    simp only [rows_moved.l0] at H
    by_cases c3 : x10_1 < (l0.length : Int)
    ·rw [if_pos c3] at H
     have c3b0 : decide (x10_1 < (l0.length : Int)) = true := decide_eq_true c3
     clear c3
     by_cases c4 : 0 ≤ x10_1
     ·rw [if_pos c4] at H
      have c4b0 : decide (0 ≤ x10_1) = true := decide_eq_true c4
      clear c4
      by_cases c5 : x10_1 < (l0.length : Int)
      ·rw [if_pos c5] at H
       have c5b0 : decide (x10_1 < (l0.length : Int)) = true := decide_eq_true c5
       clear c5
       replace H := Option.bind_eq_some_iff.mp H
       obtain ⟨t115, A60, H⟩ := H
       replace H : (if x5_1.length < 1954687338268 then (rows_moved.l0 k1 a1 (x5_1 ++ [(⟨wrap64 (((rd_T34 l0 x10_1).f0) + a1), (rd_T34 l0 x10_1).f1, (rd_T34 l0 x10_1).f2, (rd_T34 l0 x10_1).f3, t115⟩ : S34)]) l0 (l0.length : Int) (wrap64 (x10_1 + 1))) else (none)) = some r := H
       have A6 := Aside0.mk A60
       clear A60
       by_cases c7 : x5_1.length < 1954687338268
       ·rw [if_pos c7] at H
        have LMc7 := Aside0.mk c7
        clear c7
        obtain ⟨y118, hy118⟩ : ∃ y_ : List (S34), y_ = (x5_1 ++ [(⟨wrap64 (((rd_T34 l0 x10_1).f0) + a1), (rd_T34 l0 x10_1).f1, (rd_T34 l0 x10_1).f2, (rd_T34 l0 x10_1).f3, t115⟩ : S34)]) := ⟨_, rfl⟩
        replace H : (rows_moved.l0 k1 a1 y118 l0 (l0.length : Int) (wrap64 (x10_1 + 1))) = some r := by first | (rw [hy118]; with_reducible exact H) | (have H2_ := (Option.bind_some _ _).symm.trans H; rw [hy118]; with_reducible exact H2_) | (have H2_ := (Option.bind_some _ _).symm.trans H; with_reducible exact H2_) | with_reducible exact H | (rw [hy118]; exact H) | exact H
        have Ny118 := Aside0.mk hy118
        clear hy118
        have H' := Aside0.mk H
        clear H
        have p113 : 0 ≤ (x10_1 : Int) := (by first | exact of_decide_eq_true (by first | (with_reducible assumption) | assumption) | assumption | omega)
        have q113 : x10_1 < (l0.length : Int) := (by first | exact of_decide_eq_true (by first | (with_reducible assumption) | assumption) | assumption | omega)
        obtain ⟨ad113, A113_4, c113_4, e113, hx113_0, hx113_1, hx113_2, hx113_3, hx113_4, hl113_4, hi113_4⟩ := at_T34 HR0.out x10_1 p113 q113
        cases e113
        replace hx113_0 := (HB.out.cell (World.block_lt_of_cell? w _ hx113_0)).trans hx113_0
        replace hx113_1 := (HB.out.cell (World.block_lt_of_cell? w _ hx113_1)).trans hx113_1
        replace hx113_2 := (HB.out.cell (World.block_lt_of_cell? w _ hx113_2)).trans hx113_2
        replace hx113_3 := (HB.out.cell (World.block_lt_of_cell? w _ hx113_3)).trans hx113_3
        replace hx113_4 := (HB.out.cell (World.block_lt_of_cell? w _ hx113_4)).trans hx113_4
        have HR113_4 := Aside0.mk hi113_4
        have HC113_4 := Aside0.mk hl113_4
        clear hi113_4 hl113_4
        replace p113 := eq_true p113
        replace q113 := eq_true q113
        go_wp2_with (first | ((with_reducible refine gate_dst (N := 7) rfl ?_); refine box_event ?hg (N := 7) ?hd (cs := #[.int .i64 0, .int .i64 0, .string (⟨#[]⟩ : ByteArray), .string (⟨#[]⟩ : ByteArray), .slice none 0 0]) (t := 34) ?hr ?_; (case hd => rfl); (case hg => rfl); (case hr => first | (go_simp; done) | (go_simp; rfl)); intro gb114 hg w8 hbox hb; have n0_ := Aside0.mk (Kd.R_below (Kd.R_elderB (rz HO_5.out) gb114 (Nat.le_of_eq hg.symm)) hb); have n1_ := Aside0.mk (below_step bz hb); have n2_ := Aside0.mk (hbox); have n3_ := Aside0.mk ((by rw [hg]; exact (below_size bz) : w.heap.size ≤ gb114)); have n4_ := Aside0.mk ((by rw [hg]; exact (below_size bz) : w.heap.size ≤ gb114)); clear HO_5; clear HB; have HO_5 := n0_; have HB := n1_; have BK114 := n2_; have GW114 := n3_; have GE114 := n4_; clear n0_ n1_ n2_ n3_ n4_; clear hb hbox hg; have hcz9_0 : w8.cell? ⟨gb114, 0, none⟩ = some (.int .i64 0) := (blk_cell BK114.out 0).trans rfl; have hcz9_1 : w8.cell? ⟨gb114, 1, none⟩ = some (.int .i64 0) := (blk_cell BK114.out 1).trans rfl; have hcz9_2 : w8.cell? ⟨gb114, 2, none⟩ = some (.string (⟨#[]⟩ : ByteArray)) := (blk_cell BK114.out 2).trans rfl; have hcz9_3 : w8.cell? ⟨gb114, 3, none⟩ = some (.string (⟨#[]⟩ : ByteArray)) := (blk_cell BK114.out 3).trans rfl; have hcz9_4 : w8.cell? ⟨gb114, 4, none⟩ = some (.slice none 0 0) := (blk_cell BK114.out 4).trans rfl; have hfz9_0 := blk_frozen BK114.out 0; have hfz9_1 := blk_frozen BK114.out 1; have hfz9_2 := blk_frozen BK114.out 2; have hfz9_3 := blk_frozen BK114.out 3; have hfz9_4 := blk_frozen BK114.out 4) | ((with_reducible refine gate_callee (f := 132) rfl ?_); refine goesL_ (some 21) rfl rfl Tryz.func132 (by kernel_rfl) rfl #[.slice A113_4 ((rd_T34 l0 x10_1).f4).length c113_4] rfl (by (try simp only [List.map_toArray, List.map_cons, List.map_nil]); first | done | rfl | (simp only [List.length_drop, List.length_take]; rfl)) ?_; (with_reducible refine (api_Attr.calls _ _ ((rd_T34 l0 x10_1).f4) t115 _ ?side1 ?side2 A6.out).mono ?_); (case side1 => exact Kd.C_below HR113_4.out (bs GE114.out)); (case side2 => exact HC113_4.out); rintro e w10 ⟨v116, rfl, ho0, hb⟩; refine ⟨_, rfl, ?_⟩; have n0_ := Aside0.mk (Kd.R_elder' (by (with_reducible repeat (first | apply Kd.R_alloc | apply Kd.R_drewN | apply Kd.R_drew)); exact (Kd.R_mono (Kd.R_far (p := ⟨gb114, 0, none⟩) (Kd.R_far (p := ⟨gb114, 4, none⟩) (Kd.R_far (p := ⟨gb114, 3, none⟩) (Kd.R_far (p := ⟨gb114, 2, none⟩) (Kd.R_far (p := ⟨gb114, 1, none⟩) (Kd.R_far (p := ⟨gb114, 0, none⟩) (Kd.R_mono HO_5.out (fun k_ hk => (⟨hk, hk.2⟩ : _ ∧ k_ ≠ gb114))) (fun _ hk => hk.2) (.int .i64 ((rd_T34 l0 x10_1).f0))) (fun _ hk => hk.2) (.int .i64 ((rd_T34 l0 x10_1).f1))) (fun _ hk => hk.2) (.string ((rd_T34 l0 x10_1).f2))) (fun _ hk => hk.2) (.string ((rd_T34 l0 x10_1).f3))) (fun _ hk => hk.2) (.slice A113_4 ((rd_T34 l0 x10_1).f4).length c113_4)) (fun _ hk => hk.2) (.int .i64 (wrap64 (((rd_T34 l0 x10_1).f0) + a1)))) (fun _ h_ => h_.1))) (Kd.R_base ho0) hb); have n1_ := Aside0.mk (Kd.R_lower ho0 (below_size (bs GE114.out))); have n2_ := Aside0.mk (blk_below (g := gb114) (o := .cells #[.int .i64 (wrap64 (((rd_T34 l0 x10_1).f0) + a1)), .int .i64 ((rd_T34 l0 x10_1).f1), .string ((rd_T34 l0 x10_1).f2), .string ((rd_T34 l0 x10_1).f3), .slice A113_4 ((rd_T34 l0 x10_1).f4).length c113_4] 34 (0, 0)) (by (with_reducible repeat (first | refine blk_drewN ?_ _ | refine blk_drew ?_ | refine blk_alloc ?_ _)); refine blk_put (cs := #[.int .i64 ((rd_T34 l0 x10_1).f0), .int .i64 ((rd_T34 l0 x10_1).f1), .string ((rd_T34 l0 x10_1).f2), .string ((rd_T34 l0 x10_1).f3), .slice A113_4 ((rd_T34 l0 x10_1).f4).length c113_4]) ?_ 0 _ rfl; (with_reducible repeat (first | refine blk_drewN ?_ _ | refine blk_drew ?_ | refine blk_alloc ?_ _)); refine blk_put (cs := #[.int .i64 ((rd_T34 l0 x10_1).f0), .int .i64 ((rd_T34 l0 x10_1).f1), .string ((rd_T34 l0 x10_1).f2), .string ((rd_T34 l0 x10_1).f3), .slice none 0 0]) ?_ 4 _ rfl; (with_reducible repeat (first | refine blk_drewN ?_ _ | refine blk_drew ?_ | refine blk_alloc ?_ _)); refine blk_put (cs := #[.int .i64 ((rd_T34 l0 x10_1).f0), .int .i64 ((rd_T34 l0 x10_1).f1), .string ((rd_T34 l0 x10_1).f2), .string (⟨#[]⟩ : ByteArray), .slice none 0 0]) ?_ 3 _ rfl; (with_reducible repeat (first | refine blk_drewN ?_ _ | refine blk_drew ?_ | refine blk_alloc ?_ _)); refine blk_put (cs := #[.int .i64 ((rd_T34 l0 x10_1).f0), .int .i64 ((rd_T34 l0 x10_1).f1), .string (⟨#[]⟩ : ByteArray), .string (⟨#[]⟩ : ByteArray), .slice none 0 0]) ?_ 2 _ rfl; (with_reducible repeat (first | refine blk_drewN ?_ _ | refine blk_drew ?_ | refine blk_alloc ?_ _)); refine blk_put (cs := #[.int .i64 ((rd_T34 l0 x10_1).f0), .int .i64 0, .string (⟨#[]⟩ : ByteArray), .string (⟨#[]⟩ : ByteArray), .slice none 0 0]) ?_ 1 _ rfl; (with_reducible repeat (first | refine blk_drewN ?_ _ | refine blk_drew ?_ | refine blk_alloc ?_ _)); refine blk_put (cs := #[.int .i64 0, .int .i64 0, .string (⟨#[]⟩ : ByteArray), .string (⟨#[]⟩ : ByteArray), .slice none 0 0]) ?_ 0 _ rfl; (with_reducible repeat (first | refine blk_drewN ?_ _ | refine blk_drew ?_ | refine blk_alloc ?_ _)); exact BK114.out) hb); have n3_ := Aside0.mk (below_step (bs GE114.out) hb); clear HO_5; clear BK114; clear HB; have HO_5 := n0_; have HO117 := n1_; have BK114 := n2_; have HB := n3_; clear n0_ n1_ n2_ n3_; (try clear hb); (try clear hb2); (try clear hk); (try clear hi); (try clear ho0); obtain ⟨Ao11, co11, eo11⟩ := Kd.R_slice HO117.out; subst eo11; have hcz12_0 : w10.cell? ⟨gb114, 0, none⟩ = some (.int .i64 (wrap64 (((rd_T34 l0 x10_1).f0) + a1))) := (blk_cell BK114.out 0).trans rfl; have hcz12_1 : w10.cell? ⟨gb114, 1, none⟩ = some (.int .i64 ((rd_T34 l0 x10_1).f1)) := (blk_cell BK114.out 1).trans rfl; have hcz12_2 : w10.cell? ⟨gb114, 2, none⟩ = some (.string ((rd_T34 l0 x10_1).f2)) := (blk_cell BK114.out 2).trans rfl; have hcz12_3 : w10.cell? ⟨gb114, 3, none⟩ = some (.string ((rd_T34 l0 x10_1).f3)) := (blk_cell BK114.out 3).trans rfl; have hcz12_4 : w10.cell? ⟨gb114, 4, none⟩ = some (.slice A113_4 ((rd_T34 l0 x10_1).f4).length c113_4) := (blk_cell BK114.out 4).trans rfl; have hfz12_0 := blk_frozen BK114.out 0; have hfz12_1 := blk_frozen BK114.out 1; have hfz12_2 := blk_frozen BK114.out 2; have hfz12_3 := blk_frozen BK114.out 3; have hfz12_4 := blk_frozen BK114.out 4) | ((with_reducible refine gate_store (t := 32) (p := 22) rfl ?_); refine store_event (t := 32) (p := 22) (v := ?vo_w13) (w1 := (w10.setCell ⟨gb114, 4, none⟩ (.slice Ao11 t115.length co11))) ?hg ?ho ?hn ?hr ?_; (case ho => rfl); (case hg => rfl); (case hn => rfl); (case hr => first | (go_simp; done) | (go_simp; rfl)); intro w13 hw; have n0_ : Aside0 (Kd.R k34 34 w13 w.heap.size (fun k_ => some k_ ≠ (.slice Ao11 t115.length co11 : Value).ownBlock ∧ k_ ≠ gb114) u5 x5_1) := ⟨(by rw [hw]; exact (by (with_reducible repeat (first | apply Kd.R_alloc | apply Kd.R_drewN | apply Kd.R_drew)); exact Kd.R_mono (Kd.R_far (p := ⟨gb114, 4, none⟩) (Kd.R_mono HO_5.out (fun k_ hk => (⟨hk, hk.1.2⟩ : _ ∧ k_ ≠ gb114))) (fun _ hk => hk.2) (.slice Ao11 t115.length co11)) (fun _ hk => ⟨hk.1.2, hk.1.1.2⟩)))⟩; have n1_ : Aside0 (Kd.R k36 36 w13 w.heap.size (fun _ => True) (.slice Ao11 t115.length co11) t115) := ⟨(by rw [hw]; exact (by (with_reducible repeat (first | apply Kd.R_alloc | apply Kd.R_drewN | apply Kd.R_drew)); exact Kd.R_mono (Kd.R_far (p := ⟨gb114, 4, none⟩) (Kd.R_types HO117.out BK114.out (by decide)) (fun _ hk => hk.2) (.slice Ao11 t115.length co11)) (fun _ hk => trivial)))⟩; have n2_ : Aside0 (w13.heap[gb114]? = some (.cells #[.int .i64 (wrap64 (((rd_T34 l0 x10_1).f0) + a1)), .int .i64 ((rd_T34 l0 x10_1).f1), .string ((rd_T34 l0 x10_1).f2), .string ((rd_T34 l0 x10_1).f3), .slice Ao11 t115.length co11] 34 (0, 0))) := ⟨(by rw [hw]; exact (by (with_reducible repeat (first | refine blk_drewN ?_ _ | refine blk_drew ?_ | refine blk_alloc ?_ _)); refine blk_put (cs := #[.int .i64 (wrap64 (((rd_T34 l0 x10_1).f0) + a1)), .int .i64 ((rd_T34 l0 x10_1).f1), .string ((rd_T34 l0 x10_1).f2), .string ((rd_T34 l0 x10_1).f3), .slice A113_4 ((rd_T34 l0 x10_1).f4).length c113_4]) ?_ 4 _ rfl; (with_reducible repeat (first | refine blk_drewN ?_ _ | refine blk_drew ?_ | refine blk_alloc ?_ _)); exact BK114.out))⟩; have n3_ : Aside0 (Below w.heap.size w w13) := ⟨(by rw [hw]; exact (bs GE114.out))⟩; clear hw; clear HO_5; clear HO117; clear BK114; clear HB; have HO_5 := n0_; have HO117 := n1_; have BK114 := n2_; have HB := n3_; clear n0_ n1_ n2_ n3_; have hcz14_0 : w13.cell? ⟨gb114, 0, none⟩ = some (.int .i64 (wrap64 (((rd_T34 l0 x10_1).f0) + a1))) := (blk_cell BK114.out 0).trans rfl; have hcz14_1 : w13.cell? ⟨gb114, 1, none⟩ = some (.int .i64 ((rd_T34 l0 x10_1).f1)) := (blk_cell BK114.out 1).trans rfl; have hcz14_2 : w13.cell? ⟨gb114, 2, none⟩ = some (.string ((rd_T34 l0 x10_1).f2)) := (blk_cell BK114.out 2).trans rfl; have hcz14_3 : w13.cell? ⟨gb114, 3, none⟩ = some (.string ((rd_T34 l0 x10_1).f3)) := (blk_cell BK114.out 3).trans rfl; have hcz14_4 : w13.cell? ⟨gb114, 4, none⟩ = some (.slice Ao11 t115.length co11) := (blk_cell BK114.out 4).trans rfl; have hfz14_0 := blk_frozen BK114.out 0; have hfz14_1 := blk_frozen BK114.out 1; have hfz14_2 := blk_frozen BK114.out 2; have hfz14_3 := blk_frozen BK114.out 3; have hfz14_4 := blk_frozen BK114.out 4) | ((with_reducible refine gate_builtin (b := .append) (xs := #[.tmp 23, .tmp 25]) rfl ?_); at_builtin; refine Kd.R_append k34 (w0 := w) w.heap.size rfl (.tmp 23) (.tmp 25) 22 34 (.agg #[(.int .i64 0), (.int .i64 0), (.string ⟨#[]⟩), (.string ⟨#[]⟩), (.slice none 0 0)]) 72 rfl Tryz.underlying22 info34 rfl (by decide) (by omega) u5 x5_1 (⟨wrap64 (((rd_T34 l0 x10_1).f0) + a1), (rd_T34 l0 x10_1).f1, (rd_T34 l0 x10_1).f2, (rd_T34 l0 x10_1).f3, t115⟩ : S34) [.int .i64 (wrap64 (((rd_T34 l0 x10_1).f0) + a1)), .int .i64 ((rd_T34 l0 x10_1).f1), .string ((rd_T34 l0 x10_1).f2), .string ((rd_T34 l0 x10_1).f3), .slice Ao11 t115.length co11] (fun k_ => k_ ≠ gb114) (fun k_ => ((fun k_ => k_ ≠ gb114)) k_ ∧ some k_ ≠ (u5 : Value).ownBlock) rfl rfl ?aP (fun _ hk => hk) ?aF ?aO ?aB ?aS ?aL ?_; (case aP => exact k34_mkM _ _ _ (⟨wrap64 (((rd_T34 l0 x10_1).f0) + a1), (rd_T34 l0 x10_1).f1, (rd_T34 l0 x10_1).f2, (rd_T34 l0 x10_1).f3, t115⟩ : S34) (Kd.R_mono (Kd.R_types (Kd.R_apart' (HO117.out) (Kd.R_typed HO_5.out) (by decide)) BK114.out (by decide)) (fun k_ hk => ⟨hk.2, hk.1.2⟩))); (case aB => exact (bs GE114.out)); (case aF => exact (fun k_ hk => Kd.freshB (g := gb114) (o := .cells #[.int .i64 (wrap64 (((rd_T34 l0 x10_1).f0) + a1)), .int .i64 ((rd_T34 l0 x10_1).f1), .string ((rd_T34 l0 x10_1).f2), .string ((rd_T34 l0 x10_1).f3), .slice Ao11 t115.length co11] 34 (0, 0)) (kz BK114.out) k_ hk)); (case aO => exact (by (with_reducible repeat (first | apply Kd.R_alloc | apply Kd.R_drewN | apply Kd.R_drew)); exact Kd.R_mono HO_5.out (fun _ hk => hk.2))); (case aS => exact (below_size (bs GE114.out))); (case aL => have := LMc7.out; omega); intro v119 w15 ho hb hg hat; rw [← Ny118.out] at ho; have n0_ := Aside0.mk (blk_grown (g := gb114) (o := .cells #[.int .i64 (wrap64 (((rd_T34 l0 x10_1).f0) + a1)), .int .i64 ((rd_T34 l0 x10_1).f1), .string ((rd_T34 l0 x10_1).f2), .string ((rd_T34 l0 x10_1).f3), .slice Ao11 t115.length co11] 34 (0, 0)) (kz BK114.out) hg (Kd.R_away HO_5.out (fun _ hk => hk.2))); have n1_ := Aside0.mk (hb); have n2_ := Aside0.mk (ho); clear BK114; clear HB; clear HO_5; clear HO117; have BK114 := n0_; have HB := n1_; have HO120 := n2_; clear n0_ n1_ n2_; clear ho hb hg hat))
        go_roundg k1
        case measure => have := HK1.out; omega
        case rel => exact ⟨(y118), (wrap64 (x10_1 + 1)), (by first | rfl | (simp; done) | (simp [*]; done) | (simp; generalize ByteArray.toList _ = l_; cases l_ <;> rfl)), H', ⟨by have := HK1.out; omega⟩, ⟨by (with_reducible repeat (first | apply Kd.R_alloc | apply Kd.R_drewN | apply Kd.R_drew)); exact Kd.R_mono HO120.out (fun _ hk => trivial)⟩, ⟨bs GE114.out⟩⟩
       ·rw [if_neg c7] at H
        exact absurd H (by simp)
      ·rw [if_neg c5] at H
       exact absurd H (by simp)
     ·rw [if_neg c4] at H
      exact absurd H (by simp)
    ·rw [if_neg c3] at H
     have c3b0 : decide (x10_1 < (l0.length : Int)) = false := decide_eq_false c3
     clear c3
     obtain rfl := Option.some.inj H
     go_wp2
     go_ret
     exact ⟨_, by first | rfl | (simp [errW_none, errW_some] <;> rfl) | (simp [*, errW_none, errW_some] <;> rfl), by (with_reducible repeat (first | apply Kd.R_alloc | apply Kd.R_drewN | apply Kd.R_drew)); exact HO_5.out, bz⟩
end Go.Proofs.YtkcmghlhpbepcaaGreatDoorH.W7
