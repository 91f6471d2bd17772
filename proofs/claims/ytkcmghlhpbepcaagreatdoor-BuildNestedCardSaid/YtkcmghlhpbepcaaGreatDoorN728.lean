/- Lemmas and walks, part 28: QScanH, QScanN, QE7K, QChars, QE7C, QPW7x29, QPW7x30, QPW7x1, QPW7x2, QPW7x3, QR8B, QPW7x6, QPW7x7. -/
import Derived.Test.YtkcmghlhpbepcaaGreatDoorN727
import Derived.Test.YtkcmghlhpbepcaaGreatDoorN723
import Derived.Shelf.Strings.BuilderRune
import Derived.Test.YtkcmghlhpbepcaaGreatDoorN75
import Derived.Test.YtkcmghlhpbepcaaGreatDoorN76
import Derived.Test.YtkcmghlhpbepcaaGreatDoorN74
import Derived.Test.YtkcmghlhpbepcaaGreatDoorN73
import Derived.Test.YtkcmghlhpbepcaaGreatDoorN722
import Derived.Test.YtkcmghlhpbepcaaGreatDoorN718
set_option linter.unusedVariables false
set_option linter.unusedSimpArgs false

/- Contracts of token's scanner: all; of Cut and In. What lay in memory does not turn. -/
namespace Go.Proofs.YtkcmghlhpbepcaaGreatDoor
open Go.RowKit Go.Proofs
theorem open_two {s r : Txt} {ts : List Tok} (h : openF s = some (ts, r)) : ts.length ≤ 2 := by
 have hn : ∀ k u e, (noteF k u e).1.length ≤ 2 := by intro k u e; simp [noteF]
 have ht : ∀ k u, (tagF k u).1.length ≤ 2 := by
  intro k u
  unfold tagF
  split
  ·simp
  ·split
   ·simp
   ·split
    ·unfold insideT
     split <;> simp
    ·simp
 have hc : ∀ u, (commentF u).1.length ≤ 2 := by
  intro u
  unfold commentF
  split
  ·simp
  ·split
   ·simp
   ·exact hn _ _ _
 unfold openF at h
 repeat' split at h
 all_goals first
  | (simp only [Option.some.injEq] at h
     have e := congrArg Prod.fst h
     simp only at e
     rw [← e]
     first | exact ht _ _ | exact hc _ | exact hn _ _ _)
  | (simp only [Option.some.injEq, Prod.mk.injEq] at h
     rw [← h.1]
     simp)
  | cases h
theorem str_app (a b : Txt) : (⟨a.toArray⟩ : ByteArray) ++ ⟨b.toArray⟩ = ⟨(a ++ b).toArray⟩ := by
 apply ByteArray.ext
 simp
theorem tell_one (t : Txt) : (tellF t).length ≤ 1 := by unfold tellF; split <;> simp
set_option maxHeartbeats 4000000 in
set_option maxRecDepth 100000 in
theorem all_c (base b : Nat) (S T : Txt) (l0 : List Tok) (hs : T.length + S.length ≤ 900000000) (hl : l0.length ≤ 10) (w : World) (hsc : Sc w base b S T l0) (hE : Env w base) :
 Calls Tryz.prog 116 #[.pointer (some ⟨b, 0, none⟩)] w fun e w' => ∃ v, e = .returned v ∧ Toks w' base v (l0 ++ runF T S) ∧ Below base w w' := by
 have hbb := hsc.1
 go_enter Tryz.func116, Tryz.ntmps116
 go_wp2
 go_loopg [3] S.length (fun g _ wr => ∃ (s t : Txt) (l : List Tok), s.length = g ∧ Sc wr base b s t l ∧ Below base w wr ∧ t.length + s.length ≤ T.length + S.length ∧ l.length + 3 * s.length ≤ l0.length + 3 * S.length ∧ Hid (l0 ++ runF T S = l ++ runF t s))
 case atStart => exact ⟨S, T, l0, rfl, hsc, Below.refl _ _, by omega, by omega, rfl⟩
 case round =>
  obtain ⟨s, t, l, hsg, hscr, hB, hts, hls, hinv⟩ := hrel
  subst hsg
  have hEr := hE.below hB
  obtain ⟨_, v, hh, hT⟩ := id hscr
  obtain ⟨ad, cp, rfl⟩ := hT.len
  obtain ⟨⟨c0, c1, c2⟩, c5⟩ := three_facts hh
  cases hs0 : s with
  | nil =>
    subst hs0
    have hfin := Lib.hid (show l0 ++ runF T S = l ++ tellF t by rw [hinv.out, run_nil])
    have htell := Lib.hid (tell_c base b [] t l (by omega) (by omega) wr hscr hEr)
    go_wp2_with (go_at_call 159; ((with_reducible refine (htell.out).mono ?_); rintro e w3 ⟨rfl, hsc3, hb3⟩; obtain ⟨_, v3, hh3, hT3⟩ := id hsc3; obtain ⟨ad3, cp3, rfl⟩ := hT3.len; rw [List.length_append] at hT3 hh3; obtain ⟨⟨y0, y1, y2⟩, y5⟩ := three_facts hh3))
    go_ret
    exact ⟨_, rfl, by rw [hfin.out]; exact hT3, hB.trans hb3⟩
  | cons c0' s0 =>
    have hne : (s == []) = false := by rw [hs0]; rfl
    have hpos : 0 < s.length := by rw [hs0]; simp
    clear hs0
    have hspan := Lib.hid (fun W => span_all1 s (by omega) W)
    have heq := runF_eq t s
    rw [show s.findIdx (fun c => c == 60) = textF s from rfl] at hspan
    have hnl : textF s ≤ s.length := List.findIdx_le_length
    have hhead : ∀ c r, s.drop (textF s) = c :: r → c = 60 := by
     intro c r h
     have := dr_yes h
     simpa using this
    generalize textF s = n at *
    have hnI : (n : Int) ≤ s.length := by omega
    have hdl : (s.drop n).length = s.length - n := by simp
    have htl : (s.take n).length = n := by simp; omega
    have hscA := (hscr.set_t (t ++ s.take n)).below (Below.refl _ _).drew
    have hBA := (below_set (j := 1) hB hbb (.string ⟨(t ++ s.take n).toArray⟩)).drew
    have hhA : ((wr.setCell ⟨b, 1, none⟩ (.string ⟨(t ++ s.take n).toArray⟩)).drew).heap[b]? = _ := heap_set_t (t' := t ++ s.take n) hh
    have hTA : Toks (wr.setCell ⟨b, 1, none⟩ (.string ⟨(t ++ s.take n).toArray⟩)).drew base (.slice ad l.length cp) l := (hT.other (grown_set wr ⟨b, 1, none⟩ (.string ⟨(t ++ s.take n).toArray⟩)) hh (by decide) (by decide)).below (Below.refl _ _).drew
    have hWA : ((wr.setCell ⟨b, 1, none⟩ (.string ⟨(t ++ s.take n).toArray⟩)).drew).heap.size = wr.heap.size := World.size_setCell _ _ _
    go_wp2_with (go_at_call 156; ((with_reducible refine (hspan.out _).mono ?_); rintro e w4 ⟨rfl, rfl⟩))
    go_region
    all_goals
     rw [str_app]
     generalize (wr.setCell ⟨b, 1, none⟩ (.string ⟨(t ++ s.take n).toArray⟩)).drew = W7 at *
     obtain ⟨⟨d0, d1, d2⟩, d5⟩ := three_facts hhA
     have hscB := hscA.set_s (s.drop n)
     have hBB := below_set (j := 0) hBA hbb (.string ⟨(s.drop n).toArray⟩)
     have hEB := hE.below hBB
     generalize hx : s.take n = x at *
     generalize hd : s.drop n = y at *
     cases y with
     | nil =>
       have hinv2 := Lib.hid (show l0 ++ runF T S = l ++ runF (t ++ x) [] by rw [hinv.out, heq, run_nil])
       clear heq hhead hinv
       go_wp2
       go_roundg 0
       ·exact ⟨[], t ++ x, l, rfl, hscB, hBB, by simp; omega, by simp; omega, hinv2⟩
       ·omega
     | cons c r =>
       obtain rfl := hhead c r rfl
       simp only [List.length_cons] at heq hdl
       have hop := Lib.hid (opens_c base b r (t ++ x) l (by omega) (by simp; omega) (by omega) _ hscB hEB)
       go_wp2_with (go_at_call 158; ((with_reducible refine (hop.out).mono ?_); rintro e w5 ⟨rfl, hp5, hb5⟩))
       cases ho : openF r with
       | none =>
         rw [ho] at hp5 heq
         have hinv2 := Lib.hid (show l0 ++ runF T S = l ++ runF (t ++ x ++ [60]) r by rw [hinv.out, heq])
         clear heq hhead hinv
         go_roundg r.length
         ·exact ⟨r, t ++ x ++ [60], l, rfl, hp5, hBB.trans hb5, by simp; omega, by omega, hinv2⟩
         ·omega
       | some q =>
         obtain ⟨ts, q⟩ := q
         rw [ho] at hp5 heq
         have hle := openF_le ho
         have h2 := open_two ho
         have h1 := tell_one (t ++ x)
         simp only at hle heq
         have hinv2 := Lib.hid (show l0 ++ runF T S = l ++ tellF (t ++ x) ++ ts ++ runF [] q by rw [hinv.out, heq]; simp)
         clear heq hhead hinv
         go_roundg q.length
         ·exact ⟨q, [], _, rfl, hp5, hBB.trans hb5, by simp; omega, by simp; omega, hinv2⟩
         ·omega
end Go.Proofs.YtkcmghlhpbepcaaGreatDoor

/- Contract of token.In: the tokens lie in blocks that the call made. What lay in memory does not turn. -/
namespace Go.Proofs.YtkcmghlhpbepcaaGreatDoor
open Go.RowKit Go.Proofs
theorem sc_new (s : Txt) (w : World) : Sc (w.alloc (.cells #[.string ⟨s.toArray⟩, .string ⟨#[]⟩, .slice none 0 0] 92)) w.heap.size w.heap.size s [] [] := ⟨Nat.le_refl _, _, new_cells _ _ _, Toks.nil _ _⟩
theorem env_new {w : World} (hS : Std w) (o : Obj) : Env (w.alloc o) w.heap.size := ⟨w, hS, rfl, (Below.refl _ w).alloc (Nat.le_refl _) o⟩
theorem short_of {L : List Txt} (h : L.all (fun l => decide (l.length ≤ 1000000000)) = true) {l : Txt} (hi : inB L l = true) : l.length ≤ 1000000000 := by
 rw [List.all_eq_true] at h
 have := h l (by simpa [inB] using hi)
 simpa using this
theorem raws_short : rawsL.all (fun l => decide (l.length ≤ 1000000000)) = true := by decide +kernel
theorem softs_short : softsL.all (fun l => decide (l.length ≤ 1000000000)) = true := by decide +kernel
set_option maxHeartbeats 1000000 in
set_option maxRecDepth 100000 in
theorem in_any (s nm : Txt) (hs : s.length ≤ 900000000) (w : World) (hS : Std w) :
 Calls Tryz.prog 72 #[.string ⟨s.toArray⟩, .string ⟨nm.toArray⟩] w fun e w' => ∃ v, e = .returned v ∧ Toks w' w.heap.size v (inL s nm) ∧ Below w.heap.size w w' := by
 have hsc := sc_new s w
 have hE := env_new hS (.cells #[.string ⟨s.toArray⟩, .string ⟨#[]⟩, .slice none 0 0] 92)
 have hB := (Below.refl _ w).alloc (Nat.le_refl _) (.cells #[.string ⟨s.toArray⟩, .string ⟨#[]⟩, .slice none 0 0] 92)
 have hle := hE.le
 have hraw := Lib.hid (fun W => raw_c nm W)
 have hsoft := Lib.hid (fun W => soft_c nm W)
 have hil : (insideT nm s).length ≤ 10 := by unfold insideT; split <;> simp
 have hrl := insideR_le nm s
 have hins0 := fun W h1 h2 (hnm : nm.length ≤ 1000000000) => inside_c w.heap.size w.heap.size s [] nm [] (by omega) hnm (by simp) W h1 h2
 rw [List.nil_append] at hins0
 have hins := Lib.hid hins0
 clear hins0
 have hall1 := Lib.hid (fun W h1 h2 => all_c w.heap.size w.heap.size (insideR nm s) [] (insideT nm s) (by simp; omega) hil W h1 h2)
 have hall2 := Lib.hid (fun W h1 h2 => all_c w.heap.size w.heap.size s [] [] (by simpa using hs) (by simp) W h1 h2)
 rw [List.nil_append] at hall2
 unfold inL
 generalize runF [] s = l at *
 generalize runF [] (insideR nm s) = l2 at *
 generalize hq1 : rawB nm = b1 at *
 generalize hq2 : softB nm = b2 at *
 cases b1 with
 | true =>
   have hn1 : nm.length ≤ 1000000000 := short_of raws_short hq1
   clear hq1 hq2
   simp only [Bool.true_or, if_true]
   go_enter Tryz.func72, Tryz.ntmps72
   go_wp2_with (first
    | (go_at_call 32; ((with_reducible refine (hraw.out _).mono ?_); rintro e w1 ⟨rfl, hb1⟩; have hsc1 := hsc.below hb1; have hB1 := below_then hB hle hb1; have hE1 := hE.below (below_up hb1 hle)))
    | (go_at_call 115; ((with_reducible refine (hins.out _ hsc1 hE1 hn1).mono ?_); rintro e w3 ⟨rfl, hsc3, hb3⟩; have hE3 := hE1.below hb3))
    | (go_at_call 116; ((with_reducible refine (hall1.out _ hsc3 hE3).mono ?_); rintro e w4 ⟨v, rfl, hT4, hb4⟩; obtain ⟨ad, cp, rfl⟩ := hT4.len; rw [List.length_append] at hT4)))
   go_ret
   exact ⟨_, rfl, hT4, (hB1.trans hb3).trans hb4⟩
 | false =>
   clear hq1
   cases b2 with
   | true =>
     have hn1 : nm.length ≤ 1000000000 := short_of softs_short hq2
     clear hq2
     simp only [Bool.false_or, if_true]
     go_enter Tryz.func72, Tryz.ntmps72
     go_wp2_with (first
      | (go_at_call 32; ((with_reducible refine (hraw.out _).mono ?_); rintro e w0 ⟨rfl, hb0⟩; have hsc0 := hsc.below hb0; have hB0 := below_then hB hle hb0; have hE0 := hE.below (below_up hb0 hle); have hle0 := hE0.le))
      | (go_at_call 33; ((with_reducible refine (hsoft.out _).mono ?_); rintro e w1 ⟨rfl, hb1⟩; have hsc1 := hsc0.below hb1; have hB1 := below_then hB0 hle0 hb1; have hE1 := hE0.below (below_up hb1 hle0)))
      | (go_at_call 115; ((with_reducible refine (hins.out _ hsc1 hE1 hn1).mono ?_); rintro e w3 ⟨rfl, hsc3, hb3⟩; have hE3 := hE1.below hb3))
      | (go_at_call 116; ((with_reducible refine (hall1.out _ hsc3 hE3).mono ?_); rintro e w4 ⟨v, rfl, hT4, hb4⟩; obtain ⟨ad, cp, rfl⟩ := hT4.len; rw [List.length_append] at hT4)))
     go_ret
     exact ⟨_, rfl, hT4, (hB1.trans hb3).trans hb4⟩
   | false =>
     clear hq2
     simp only [Bool.false_or, Bool.false_eq_true, if_false]
     go_enter Tryz.func72, Tryz.ntmps72
     go_wp2_with (first
      | (go_at_call 32; ((with_reducible refine (hraw.out _).mono ?_); rintro e w0 ⟨rfl, hb0⟩; have hsc0 := hsc.below hb0; have hB0 := below_then hB hle hb0; have hE0 := hE.below (below_up hb0 hle); have hle0 := hE0.le))
      | (go_at_call 33; ((with_reducible refine (hsoft.out _).mono ?_); rintro e w1 ⟨rfl, hb1⟩; have hsc1 := hsc0.below hb1; have hB1 := below_then hB0 hle0 hb1; have hE1 := hE0.below (below_up hb1 hle0)))
      | (go_at_call 116; ((with_reducible refine (hall2.out _ hsc1 hE1).mono ?_); rintro e w4 ⟨v, rfl, hT4, hb4⟩; obtain ⟨ad, cp, rfl⟩ := hT4.len)))
     go_ret
     exact ⟨_, rfl, hT4, hB1.trans hb4⟩
end Go.Proofs.YtkcmghlhpbepcaaGreatDoor

/- token.In, given to the printed walks. -/
namespace Go.Proofs.YtkcmghlhpbepcaaGreatDoorH.W7
open Go.RowKit Go.Proofs Go.Proofs.YtkcmghlhpbepcaaGreatDoor Go.Proofs.YtkcmghlhpbepcaaGreatDoorW.PrintWords
theorem mk_toList7 (a : ByteArray) : (⟨a.data.toList.toArray⟩ : ByteArray) = a := by cases a; simp
def token_In.f (a0 a1 : ByteArray) : Option (List S65) := if a0.size ≤ 900000000 then some ((inL a0.data.toList a1.data.toList).map tokT) else none
theorem token_In.calls (a0 a1 : ByteArray) (r : List S65) (w : World) (h : token_In.f a0 a1 = some r) (hS_ : Std w) :
 Calls Tryz.prog 72 #[.string a0, .string a1] w fun e w' => ∃ v0_ : Value, e = .returned v0_ ∧ Kd.R k65 65 w' w.heap.size (fun _ => True) v0_ r ∧ Below w.heap.size w w' := by
 unfold token_In.f at h
 split at h
 ·rename_i hz
  obtain rfl := Option.some.inj h
  have := in_any a0.data.toList a1.data.toList hz w hS_
  rw [mk_toList7, mk_toList7] at this
  exact this.mono fun e w' ⟨v, h1, h2, h3⟩ => ⟨v, h1, R_of_toks h2, h3⟩
 ·cases h
end Go.Proofs.YtkcmghlhpbepcaaGreatDoorH.W7

/- Contracts of chars.Decode, chars.Lines and chars.Ready: what bytes are, made ready, in lists of bytes. Nothing that lay in memory turns. Condition: at most 2^26 bytes. -/
namespace Go.Proofs.YtkcmghlhpbepcaaGreatDoor.Ch
open Go.RowKit Go.Proofs Go.Shelf
def runeRen : Go.Shelf.Ren := ⟨fun | 242 => 196 | 278 => 219 | n => n, fun | 0 => 0 | 3 => 3 | 4 => 4 | 5 => 5 | 9 => 9 | 21 => 21 | 37 => 43 | 46 => 140 | 51 => 172 | 72 => 106 | n => n, fun | n => n⟩
theorem runeLays : Go.Proofs.Lays.n242 Tryz.prog runeRen := {
 mixed := by kernel_rfl
 f242 := Tryz.func196.trans (congrArg some (by kernel_rfl))
 f278 := Tryz.func219.trans (congrArg some (by kernel_rfl))
 t4 := Tryz.underlying4
 a4 := Tryz.isAgg4
 z4 := Tryz.sizeOf4
 v4 := Tryz.zeroValue4
 t5 := Tryz.underlying5
 a5 := Tryz.isAgg5
 z5 := Tryz.sizeOf5
 v5 := Tryz.zeroValue5
 t21 := Tryz.underlying21
 a21 := Tryz.isAgg21
 z21 := Tryz.sizeOf21
 v21 := Tryz.zeroValue21
 t37 := Tryz.underlying43
 a37 := Tryz.isAgg43
 z37 := Tryz.sizeOf43
 v37 := Tryz.zeroValue43
 t46 := Tryz.underlying140
 a46 := Tryz.isAgg140
 z46 := Tryz.sizeOf140
 v46 := Tryz.zeroValue140
 t51 := Tryz.underlying172
 a51 := Tryz.isAgg172
 z51 := Tryz.sizeOf172
 v51 := Tryz.zeroValue172 }
theorem runeExtra : Builder.Extra Tryz.prog runeRen := {
 sizeBuilder := by kernel_rfl
 liesBuilder := by kernel_rfl
 t5 := Tryz.underlying5
 a5 := Tryz.isAgg5
 z5 := Tryz.sizeOf5
 v5 := Tryz.zeroValue5
 infoByte := by kernel_rfl
 cellsByte := by kernel_rfl
 sizeByte := by kernel_rfl
 neB5 := by decide }
set_option maxHeartbeats 4000000 in
set_option maxRecDepth 100000 in
theorem writeRune_k (B b : Nat) (bs : List Value) (r : Int) (hr0 : -2147483648 ≤ r) (hr1 : r ≤ 2147483647) (w : World) (h : Lib.IsBuilderF 106 5 B b bs w) (hlen : bs.length + 4 ≤ 140737488355328) (hBw : B ≤ w.heap.size) :
 Calls Tryz.prog 161 #[.pointer (some ⟨b, 0, none⟩), .int .i32 r] w fun e w' => e = .returned (.tuple #[.int .i64 (Lib.runeCells r).length, .nilIface]) ∧ (Lib.IsBuilderF 106 5 B b (bs ++ Lib.runeCells r) w' ∧ Below B w w' ∧ Lib.OthersKept 5 (some b) w w') := by
 have hk4 := Lib.runeCells_le r
 go_enter Tryz.func161, Tryz.ntmps161
 go_wp2_with (go_at_call 174; refine (copyCheck_k B b bs _ h).mono ?_)
 rintro e w1 ⟨rfl, h1, hb1, hk1⟩
 obtain ⟨hB, v, hbk, hown, hne⟩ := h1
 obtain ⟨ao, cap, rfl⟩ : ∃ ao cap, v = .slice ao bs.length cap := by
  rcases hown.2 with ⟨hv, h0⟩ | ⟨g, cap, cur, fz, hv, _⟩
  ·exact ⟨none, 0, by rw [hv, h0]⟩
  ·exact ⟨_, _, hv⟩
 have c0 : w1.cell? ⟨b, 0, none⟩ = some (.pointer (some ⟨b, 0, none⟩)) := by rw [Lib.cell_of_heap hbk]; rfl
 have c1 : w1.cell? ⟨b, 1, none⟩ = some (.slice ao bs.length cap) := by rw [Lib.cell_of_heap hbk]; rfl
 go_wp2_with (go_at_call 196; refine (Any.utf8_AppendRune_own runeLays runeExtra B _ bs.length bs r hr0 hr1 _ hown hlen (by have := hb1.size; omega)).mono ?_)
 rintro e w2 ⟨v', rfl, hown', o, hgrow⟩
 have hlt : b < w1.heap.size := by
  rcases Nat.lt_or_ge b w1.heap.size with h' | h'
  ·exact h'
  ·simp [Array.getElem?_eq_none h'] at hbk
 have hb2 : w2.heap[b]? = some (.cells #[.pointer (some ⟨b, 0, none⟩), .slice ao bs.length cap] 106 (0, 0)) := by
  rw [hgrow.block b (by simp; omega) (fun e => hne e.symm), Lib.alloc_old w1 _ b hlt]
  exact hbk
 have d0 : w2.cell? ⟨b, 0, none⟩ = some (.pointer (some ⟨b, 0, none⟩)) := by rw [Lib.cell_of_heap hb2]; rfl
 have d1 : w2.cell? ⟨b, 1, none⟩ = some (.slice ao bs.length cap) := by rw [Lib.cell_of_heap hb2]; rfl
 have f1 : w2.frozen? ⟨b, 1, none⟩ = false := Lib.frozen_of_heap hb2 1
 obtain ⟨g, cap', rfl⟩ : ∃ g cap', v' = .slice (some ⟨g, 0, none⟩) (bs.length + (Lib.runeCells r).length) cap' := by
  rcases hown'.2 with ⟨_, h0⟩ | ⟨g, cap', cur, fz, hv, _⟩
  ·omega
  ·exact ⟨g, cap', hv⟩
 go_wp2
 go_ret2
 refine ⟨?_, Or.inr ?_, ?_, ((hk1.alloc _).grown hgrow (Lib.ownsRowF_kind (hown.alloc _))).setCell ⟨b, 1, none⟩ rfl _⟩
 ·have e : ((bs.length : Int) + ((Lib.runeCells r).length : Int) - (bs.length : Int)) = ((Lib.runeCells r).length : Int) := by omega
  simp [e]
 ·exact Lib.BuilderAtF.put (T := 106) (e := 5) hB hb2 (bs' := bs ++ Lib.runeCells r) (by rw [List.length_append]; exact hown') (by decide)
 ·exact ((hb1.alloc (by have := hb1.size; omega) _).grown hgrow (by have := hb1.size; simp; omega) (fun k hk => (hown.lt k hk).1)).setCell (p := ⟨b, 1, none⟩) hB _
def ruF (r : Nat) : List UInt8 := Lib.encodeRune (if r = 0 then 65533 else (r : Int))
def deFrom (s : ByteArray) : Nat → Nat → List UInt8
 | 0, _ => []
 | fuel + 1, pos => if pos < s.size then ruF (Utf8.decode s pos).1 ++ deFrom s fuel (pos + (Utf8.decode s pos).2) else []
def deF (s : ByteArray) : List UInt8 := deFrom s s.size 0
theorem width_pos (s : ByteArray) (pos : Nat) (h : pos < s.size) : 1 ≤ (Utf8.decode s pos).2 := by
 by_cases ha : (s[pos]'h).toNat < 128
 ·rw [decode_ascii s pos h ha]
  exact Nat.le_refl _
 ·exact (decode_high s pos h (by omega)).2
theorem deFrom_end (s : ByteArray) (fuel pos : Nat) (h : ¬ pos < s.size) : deFrom s fuel pos = [] := by
 cases fuel with
 | zero => rfl
 | succ f => simp [deFrom, h]
set_option maxHeartbeats 4000000 in
set_option maxRecDepth 1000000 in
theorem decode_walk (s : ByteArray) (w : World) (hs : s.size ≤ 35184372088832) :
 Calls Tryz.prog 118 #[.string s] w fun e w' => e = .returned (.string ⟨(deF s).toArray⟩) ∧ Below w.heap.size w w' := by
 go_enter Tryz.func118, Tryz.ntmps118
 go_wp2
 go_loopw [] (fun wr => ∃ (pos fuel : Nat) (acc : List UInt8), Lib.IsBuilderF 106 5 w.heap.size w.heap.size (Lib.byteCells acc) wr ∧ wr.heap[w.heap.size + 1]? = some (.stringIter s pos) ∧ Below w.heap.size w wr ∧ Hid (acc ++ deFrom s fuel pos = deF s) ∧ s.size ≤ pos + fuel ∧ acc.length ≤ 4 * pos) (fun wr => s.size - wr.iterPos (w.heap.size + 1))
 case atStart =>
  refine ⟨0, s.size, [], (Lib.IsBuilderF.of (Lib.fresh_isBuilder 106 5 w)).alloc _, ?_, ((Below.refl _ w).alloc (Nat.le_refl _) _).alloc (by simp) _, rfl, by omega, by simp⟩
  have := World.iter_heap (w.alloc (.cells #[.pointer none, .slice none 0 0] 106)) s 0
  simpa using this
 case round =>
  obtain ⟨pos, fuel, acc, hI, hit, hbw, hacc, hfu, hal⟩ := hrel
  have hsz : w.heap.size + 1 < wr.heap.size := (Array.getElem?_eq_some_iff.1 hit).1
  by_cases hp : pos < s.size
  ·have hnx : ∀ ty, (Instr.next (.pointer (some ⟨w.heap.size + 1, 0, none⟩)) true ty).run Tryz.prog wr = _ := fun ty => Lib.run_next_any_at wr (w.heap.size + 1) s pos ty hit hp
   have hwd := width_pos s pos hp
   have hd1 := decode_le s pos
   have hI2 := hI.iterAt hit (pos + (Utf8.decode s pos).2)
   have hit2 := Lib.iterAt_heap wr (w.heap.size + 1) s pos (pos + (Utf8.decode s pos).2) hit
   have hbw2 := Lib.below_iterAt hbw (k := w.heap.size + 1) (by omega) s (pos + (Utf8.decode s pos).2)
   have hsz2 : w.heap.size ≤ (wr.iterAt (w.heap.size + 1) s (pos + (Utf8.decode s pos).2)).heap.size := by rw [Lib.iterAt_size]; omega
   obtain ⟨f, rfl⟩ : ∃ f, fuel = f + 1 := ⟨fuel - 1, by omega⟩
   have hacc2 := hacc.out
   simp only [deFrom] at hacc2
   rw [if_pos hp] at hacc2
   by_cases h0 : (Utf8.decode s pos).1 = 0
   ·have g1 : (((Utf8.decode s pos).1 : Int) == 0) = true := by rw [h0]; rfl
    go_wp2_with (go_at_call 161; refine (writeRune_k w.heap.size w.heap.size _ 65533 (by omega) (by omega) _ hI2 (by rw [Lib.byteCells_length]; omega) hsz2).mono ?_)
    rintro e W1 ⟨rfl, h1, b1, k1⟩
    go_wp2
    go_roundw
    case rel =>
     have hl4 := Lib.runeCells_le (65533 : Int)
     rw [Lib.runeCells_length] at hl4
     have he : ruF (Utf8.decode s pos).1 = Lib.encodeRune 65533 := by rw [h0]; rfl
     refine ⟨pos + (Utf8.decode s pos).2, f, acc ++ Lib.encodeRune 65533, ?_, k1.iter hit2 (by omega), hbw2.trans b1, ?_, by omega, by simp; omega⟩
     ·rw [Lib.byteCells_append, Lib.byteCells_encodeRune]; exact h1
     ·rw [he] at hacc2
      exact Lib.hid (by rw [← hacc2, List.append_assoc])
    case measure =>
     simp only [World.iterPos, k1.iter hit2 (by omega), hit]
     omega
   ·have g1 : (((Utf8.decode s pos).1 : Int) == 0) = false := by rw [beq_eq_false_iff_ne]; omega
    have g2 : ((Utf8.decode s pos).1 : Int) ≠ 0 := by omega
    go_wp2_with (go_at_call 161; refine (writeRune_k w.heap.size w.heap.size _ _ (by omega) (by omega) _ hI2 (by rw [Lib.byteCells_length]; omega) hsz2).mono ?_)
    rintro e W1 ⟨rfl, h1, b1, k1⟩
    go_wp2
    go_roundw
    case rel =>
     have hl4 := Lib.runeCells_le ((Utf8.decode s pos).1 : Int)
     rw [Lib.runeCells_length] at hl4
     have he : ruF (Utf8.decode s pos).1 = Lib.encodeRune ((Utf8.decode s pos).1 : Int) := by unfold ruF; rw [if_neg h0]
     refine ⟨pos + (Utf8.decode s pos).2, f, acc ++ Lib.encodeRune (Utf8.decode s pos).1, ?_, k1.iter hit2 (by omega), hbw2.trans b1, ?_, by omega, by simp; omega⟩
     ·rw [Lib.byteCells_append, Lib.byteCells_encodeRune]; exact h1
     ·rw [he] at hacc2
      exact Lib.hid (by rw [← hacc2, List.append_assoc])
    case measure =>
     simp only [World.iterPos, k1.iter hit2 (by omega), hit]
     omega
  ·have hnx : ∀ ty, (Instr.next (.pointer (some ⟨w.heap.size + 1, 0, none⟩)) true ty).run Tryz.prog wr = _ := fun ty => Lib.run_next_end_at wr (w.heap.size + 1) s pos ty hit hp
   go_wp2_with (go_at_call 138; refine (Tryz.Builder_String_any_k w.heap.size w.heap.size acc _ hI (by omega)).mono ?_)
   rintro e W1 ⟨rfl, _, b1, _⟩
   go_wp2
   go_ret
   have hacc2 := hacc.out
   rw [deFrom_end s fuel pos hp, List.append_nil] at hacc2
   subst hacc2
   exact ⟨rfl, hbw.trans b1⟩
theorem replaceK_len (old new : List UInt8) (h : new.length ≤ old.length) : ∀ (k : Nat) (s : List UInt8), (Lib.replaceK old new k s).length ≤ s.length
 | 0, s => Nat.le_refl _
 | k + 1, s => by
   by_cases hm : (Lib.index s old == -1) = true
   ·rw [Lib.replaceK, if_pos hm]
    exact Nat.le_refl _
   ·have hge := Lib.index_ge s old
    have h0 : 0 ≤ Lib.index s old := by
     have : Lib.index s old ≠ -1 := fun e => hm (by rw [e]; rfl)
     omega
    have hr := Lib.index_room s old h0
    have ih := replaceK_len old new h k (s.drop ((Lib.index s old).toNat + old.length))
    rw [Lib.replaceK, if_neg hm, List.length_append, List.length_append, List.length_take]
    rw [List.length_drop] at ih
    omega
theorem replaceAll_len (s old new : List UInt8) (h : new.length ≤ old.length) : (Lib.replaceAll s old new).length ≤ s.length := by
 unfold Lib.replaceAll Lib.replace
 split
 ·exact Nat.le_refl _
 ·exact replaceK_len old new h _ s
def lineF (l : List UInt8) : List UInt8 := Lib.replaceAll (Lib.replaceAll l [13, 10] [10]) [13] [10]
theorem all_c (s old new : ByteArray) (h1 : 1 ≤ old.size) (h2 : new.size ≤ old.size) (hs : s.size ≤ 4000000000) (w : World) (hS : Std w) :
 Calls Tryz.prog 160 #[.string s, .string old, .string new] w fun e w' => e = .returned (.string ⟨(Lib.replaceAll s.data.toList old.data.toList new.data.toList).toArray⟩) ∧ Below w.heap.size w w' := by
 obtain ⟨m, hm⟩ := hS.maxLen
 have hc := Lib.countB_mul_le old h1 s.size s (Nat.le_refl _)
 have hm2 := Nat.mul_le_mul_left (Lib.countB s old) h2
 exact Tryz.strings_ReplaceAll s old new m w (by omega) hm h1 (by omega)
theorem lines_c (s : ByteArray) (hs : s.size ≤ 4000000000) (w : World) (hS : Std w) :
 Calls Tryz.prog 117 #[.string s] w fun e w' => e = .returned (.string ⟨(lineF s.data.toList).toArray⟩) ∧ Below w.heap.size w w' := by
 have c1 := Lib.hid (all_c s ⟨#[13, 10]⟩ ⟨#[10]⟩ (by decide) (by decide) hs w hS)
 have hl := replaceAll_len s.data.toList [13, 10] [10] (by decide)
 have hz : s.size = s.data.toList.length := (Array.length_toList).symm
 have c2 := Lib.hid (fun (W : World) (hW : Below w.heap.size w W) => all_c ⟨(Lib.replaceAll s.data.toList [13, 10] [10]).toArray⟩ ⟨#[13]⟩ ⟨#[10]⟩ (by decide) (by decide) (by show (List.toArray _).size ≤ _; rw [List.size_toArray]; omega) W (hS.below hW))
 go_enter Tryz.func117, Tryz.ntmps117
 go_wp2_with (first
  | (go_at_call 160; ((with_reducible refine c1.out.mono ?_); rintro e w1 ⟨rfl, hb1⟩))
  | (go_at_call 160; ((with_reducible refine (c2.out _ hb1).mono ?_); rintro e w2 ⟨rfl, hb2⟩)))
 go_ret
 exact ⟨rfl, hb1.trans (hb2.mono hb1.size)⟩
def readyF (l : List UInt8) : List UInt8 := lineF (deF ⟨l.toArray⟩)
theorem deFrom_len (s : ByteArray) : ∀ (fuel pos : Nat), (deFrom s fuel pos).length ≤ 4 * fuel
 | 0, pos => by simp [deFrom]
 | fuel + 1, pos => by
   simp only [deFrom]
   by_cases h : pos < s.size
   ·rw [if_pos h]
    have ih := deFrom_len s fuel (pos + (Utf8.decode s pos).2)
    have h4 : (ruF (Utf8.decode s pos).1).length ≤ 4 := by
     unfold ruF Lib.encodeRune
     rw [List.length_map]
     exact (Lib.encodeRuneZ_length _).2
    simp only [List.length_append]
    omega
   ·rw [if_neg h]
    exact Nat.zero_le _
theorem ready_c (l : List UInt8) (hl : l.length ≤ 100000000) (w : World) (hS : Std w) :
 Calls Tryz.prog 73 #[.string ⟨l.toArray⟩] w fun e w' => e = .returned (.string ⟨(readyF l).toArray⟩) ∧ Below w.heap.size w w' := by
 have hz : (⟨l.toArray⟩ : ByteArray).size = l.length := List.size_toArray
 have hd := deFrom_len ⟨l.toArray⟩ (⟨l.toArray⟩ : ByteArray).size 0
 have c1 := Lib.hid (decode_walk ⟨l.toArray⟩ w (by omega))
 have c2 := Lib.hid (fun (W : World) (hW : Below w.heap.size w W) => lines_c ⟨(deF ⟨l.toArray⟩).toArray⟩ (by show (List.toArray _).size ≤ _; rw [List.size_toArray]; unfold deF; omega) W (hS.below hW))
 go_enter Tryz.func73, Tryz.ntmps73
 go_wp2_with (first
  | (go_at_call 118; ((with_reducible refine c1.out.mono ?_); rintro e w1 ⟨rfl, hb1⟩))
  | (go_at_call 117; ((with_reducible refine (c2.out _ hb1).mono ?_); rintro e w2 ⟨rfl, hb2⟩)))
 go_ret
 exact ⟨rfl, hb1.trans (hb2.mono hb1.size)⟩
end Go.Proofs.YtkcmghlhpbepcaaGreatDoor.Ch

/- chars.Ready, given to the printed walks. -/
namespace Go.Proofs.YtkcmghlhpbepcaaGreatDoorH.W7
open Go.RowKit Go.Proofs Go.Proofs.YtkcmghlhpbepcaaGreatDoor Go.Proofs.YtkcmghlhpbepcaaGreatDoor.Ch
def chars_Ready.f (a0 : ByteArray) : Option ByteArray := if a0.data.toList.length ≤ 100000000 then some ⟨(readyF a0.data.toList).toArray⟩ else none
theorem chars_Ready.calls (a0 : ByteArray) (r : ByteArray) (w : World) (h : chars_Ready.f a0 = some r) (hS_ : Std w) :
 Calls Tryz.prog 73 #[.string a0] w fun e w' => e = .returned (.string r) ∧ Below w.heap.size w w' := by
 unfold chars_Ready.f at h
 split at h
 ·rename_i hz
  obtain rfl := Option.some.inj h
  have := ready_c a0.data.toList hz w hS_
  have he : (⟨a0.data.toList.toArray⟩ : ByteArray) = a0 := by cases a0; simp
  rw [he] at this
  exact this
 ·cases h
end Go.Proofs.YtkcmghlhpbepcaaGreatDoorH.W7

/- Words and walks used below. -/
namespace Go.Proofs.YtkcmghlhpbepcaaGreatDoorH.W7
open Go.RowKit Go.Proofs.YtkcmghlhpbepcaaGreatDoorW.PrintWords Go.Proofs.YtkcmghlhpbepcaaGreatDoorW.PrintLast Go.Proofs.YtkcmghlhpbepcaaGreatDoorW.PrintMore
attribute [local go_sem] max2_int min2_int max_two min_two max_three min_three max_four min_four   -- for this text's walks alone
def build_In.f (a0 : ByteArray) (a1 : ByteArray) : Option ((List (S34)) × Int) := if (a0.size : Int) > 65536 then (some (([] : List (S34)), 2)) else ((chars_Ready.f a0).bind fun t314 => ((token_In.f t314 a1).bind fun t315 => ((build_Tree.f t315).bind fun bt318 => (some (bt318.1, bt318.2)))))
set_option maxHeartbeats 8000000 in
set_option maxRecDepth 100000 in
theorem build_In.calls (a0 : ByteArray) (a1 : ByteArray) (r1 : List (S34)) (r2 : Int) (w : World) (h : build_In.f a0 a1 = some (r1, r2)) (hS_ : Go.Proofs.YtkcmghlhpbepcaaGreatDoor.Std w) :
 Calls Tryz.prog 24 #[.string a0, .string a1] w fun e w' => ∃ v0_ : Value, e = .returned (.tuple #[v0_, .int .i64 r2]) ∧ Kd.R k34 34 w' w.heap.size (fun _ => True) v0_ r1 ∧ Below w.heap.size w w' := by
 have HS_ := Aside0.mk hS_
 clear hS_
 have HB := Aside0.mk (Below.refl w.heap.size w)
 have H : (if (a0.size : Int) > 65536 then (some (([] : List (S34)), 2)) else ((chars_Ready.f a0).bind fun t314 => ((token_In.f t314 a1).bind fun t315 => ((build_Tree.f t315).bind fun bt318 => (some (bt318.1, bt318.2)))))) = some (r1, r2) := h
 clear h
 by_cases c3 : (a0.size : Int) > 65536
 ·rw [if_pos c3] at H
  have c3b0 : decide (65536 < (a0.size : Int)) = true := decide_eq_true c3
  have c3b1 : decide (65536 < a0.size) = true := decide_eq_true (by omega)
  clear c3
  simp only [Option.some.injEq, Prod.mk.injEq] at H
  obtain ⟨rfl, rfl⟩ := H
  go_enter Tryz.func24, Tryz.ntmps24
  go_wp2
  go_ret2
  exact ⟨_, by first | rfl | (simp [errW_none, errW_some] <;> rfl) | (simp [*, errW_none, errW_some] <;> rfl), by first | exact Kd.R_nil _ _ _ _ _ | exact Kd.N_nil _ _ _ _ _ | exact Kd.V_nil _ _ _ _ _ | exact Kd.Q_nil _ _ _ _ _ | exact Kd.S_nil _ _ _ _ _, bz⟩
 ·rw [if_neg c3] at H
  have c3b0 : decide (65536 < (a0.size : Int)) = false := decide_eq_false c3
  have c3b1 : decide (65536 < a0.size) = false := decide_eq_false (by omega)
  clear c3
  replace H := Option.bind_eq_some_iff.mp H
  obtain ⟨t314, A40, H⟩ := H
  replace H : ((token_In.f t314 a1).bind fun t315 => ((build_Tree.f t315).bind fun bt318 => (some (bt318.1, bt318.2)))) = some (r1, r2) := H
  have A4 := Aside0.mk A40
  clear A40
  replace H := Option.bind_eq_some_iff.mp H
  obtain ⟨t315, A50, H⟩ := H
  replace H : ((build_Tree.f t315).bind fun bt318 => (some (bt318.1, bt318.2))) = some (r1, r2) := H
  have A5 := Aside0.mk A50
  clear A50
  replace H := Option.bind_eq_some_iff.mp H
  obtain ⟨⟨t318, t319⟩, A60, H⟩ := H
  replace H : (some (t318, t319)) = some (r1, r2) := H
  have A6 := Aside0.mk A60
  clear A60
  simp only [Option.some.injEq, Prod.mk.injEq] at H
  obtain ⟨rfl, rfl⟩ := H
  go_enter Tryz.func24, Tryz.ntmps24
  go_wp2_with (first | ((with_reducible refine gate_callee (f := 73) rfl ?_); refine goesL_ (some 10) rfl rfl Tryz.func73 (by kernel_rfl) rfl #[.string a0] rfl (by (try simp only [List.map_toArray, List.map_cons, List.map_nil]); first | done | rfl | (simp only [List.length_drop, List.length_take]; rfl)) ?_; (with_reducible refine (chars_Ready.calls a0 t314 _ A4.out (Go.Proofs.YtkcmghlhpbepcaaGreatDoor.Std.below HS_.out bz)).mono ?_); rintro e w7 ⟨rfl, hb⟩; refine ⟨_, rfl, ?_⟩; have n0_ := Aside0.mk (below_step bz hb); clear HB; have HB := n0_; clear n0_; (try clear hb); (try clear hb2); (try clear hk); (try clear hi)) | ((with_reducible refine gate_callee (f := 72) rfl ?_); refine goesL_ (some 12) rfl rfl Tryz.func72 (by kernel_rfl) rfl #[.string t314, .string a1] rfl (by (try simp only [List.map_toArray, List.map_cons, List.map_nil]); first | done | rfl | (simp only [List.length_drop, List.length_take]; rfl)) ?_; (with_reducible refine (token_In.calls t314 a1 t315 _ A5.out (Go.Proofs.YtkcmghlhpbepcaaGreatDoor.Std.below HS_.out bz)).mono ?_); rintro e w8 ⟨v316, rfl, ho0, hb⟩; refine ⟨_, rfl, ?_⟩; have n0_ := Aside0.mk (Kd.R_lower ho0 (below_size bz)); have n1_ := Aside0.mk (below_step bz hb); clear HB; have HO317 := n0_; have HB := n1_; clear n0_ n1_; (try clear hb); (try clear hb2); (try clear hk); (try clear hi); (try clear ho0); obtain ⟨Ao9, co9, eo9⟩ := Kd.R_slice HO317.out; subst eo9) | ((with_reducible refine gate_callee (f := 21) rfl ?_); refine goesL_ (some 13) rfl rfl Tryz.func21 (by kernel_rfl) rfl #[.slice Ao9 t315.length co9] rfl (by (try simp only [List.map_toArray, List.map_cons, List.map_nil]); first | done | rfl | (simp only [List.length_drop, List.length_take]; rfl)) ?_; (with_reducible refine (build_Tree.calls _ _ t315 t318 t319 _ ?side1 ?side2 A6.out).mono ?_); (case side1 => exact cz (Kd.R_reads' HO317.out).2.2); (case side2 => exact (Kd.R_reads' HO317.out).2.1); rintro e w10 ⟨v320, rfl, ho0, hb⟩; refine ⟨_, rfl, ?_⟩; have n0_ := Aside0.mk (Kd.R_below (rz HO317.out) hb); have n1_ := Aside0.mk (Kd.R_lower ho0 (below_size bz)); have n2_ := Aside0.mk (below_step bz hb); clear HO317; clear HB; have HO317 := n0_; have HO321 := n1_; have HB := n2_; clear n0_ n1_ n2_; (try clear hb); (try clear hb2); (try clear hk); (try clear hi); (try clear ho0)))
  go_ret2
  exact ⟨_, by first | rfl | (simp [errW_none, errW_some] <;> rfl) | (simp [*, errW_none, errW_some] <;> rfl), by (with_reducible repeat (first | apply Kd.R_alloc | apply Kd.R_drewN | apply Kd.R_drew)); exact HO321.out, bz⟩
end Go.Proofs.YtkcmghlhpbepcaaGreatDoorH.W7

/- Words and walks used below. -/
namespace Go.Proofs.YtkcmghlhpbepcaaGreatDoorH.W7
open Go.RowKit Go.Proofs.YtkcmghlhpbepcaaGreatDoorW.PrintWords Go.Proofs.YtkcmghlhpbepcaaGreatDoorW.PrintLast Go.Proofs.YtkcmghlhpbepcaaGreatDoorW.PrintMore
attribute [local go_sem] max2_int min2_int max_two min_two max_three min_three max_four min_four   -- for this text's walks alone
def build_Parse.f (a0 : ByteArray) : Option ((List (S34)) × Int) := (build_In.f a0 (⟨#[]⟩ : ByteArray)).bind fun bt322 => (some (bt322.1, bt322.2))
set_option maxHeartbeats 8000000 in
set_option maxRecDepth 100000 in
theorem build_Parse.calls (a0 : ByteArray) (r1 : List (S34)) (r2 : Int) (w : World) (h : build_Parse.f a0 = some (r1, r2)) (hS_ : Go.Proofs.YtkcmghlhpbepcaaGreatDoor.Std w) :
 Calls Tryz.prog 26 #[.string a0] w fun e w' => ∃ v0_ : Value, e = .returned (.tuple #[v0_, .int .i64 r2]) ∧ Kd.R k34 34 w' w.heap.size (fun _ => True) v0_ r1 ∧ Below w.heap.size w w' := by
 have HS_ := Aside0.mk hS_
 clear hS_
 have HB := Aside0.mk (Below.refl w.heap.size w)
 have H : ((build_In.f a0 (⟨#[]⟩ : ByteArray)).bind fun bt322 => (some (bt322.1, bt322.2))) = some (r1, r2) := h
 clear h
 replace H := Option.bind_eq_some_iff.mp H
 obtain ⟨⟨t322, t323⟩, A20, H⟩ := H
 replace H : (some (t322, t323)) = some (r1, r2) := H
 have A2 := Aside0.mk A20
 clear A20
 simp only [Option.some.injEq, Prod.mk.injEq] at H
 obtain ⟨rfl, rfl⟩ := H
 go_enter Tryz.func26, Tryz.ntmps26
 go_wp2_with (first | ((with_reducible refine gate_callee (f := 24) rfl ?_); refine goesL_ (some 5) rfl rfl Tryz.func24 (by kernel_rfl) rfl #[.string a0, .string (⟨#[]⟩ : ByteArray)] rfl (by (try simp only [List.map_toArray, List.map_cons, List.map_nil]); first | done | rfl | (simp only [List.length_drop, List.length_take]; rfl)) ?_; (with_reducible refine (build_In.calls a0 (⟨#[]⟩ : ByteArray) t322 t323 _ A2.out (Go.Proofs.YtkcmghlhpbepcaaGreatDoor.Std.below HS_.out bz)).mono ?_); rintro e w3 ⟨v324, rfl, ho0, hb⟩; refine ⟨_, rfl, ?_⟩; have n0_ := Aside0.mk (Kd.R_lower ho0 (below_size bz)); have n1_ := Aside0.mk (below_step bz hb); clear HB; have HO325 := n0_; have HB := n1_; clear n0_ n1_; (try clear hb); (try clear hb2); (try clear hk); (try clear hi); (try clear ho0)))
 go_ret2
 exact ⟨_, by first | rfl | (simp [errW_none, errW_some] <;> rfl) | (simp [*, errW_none, errW_some] <;> rfl), by (with_reducible repeat (first | apply Kd.R_alloc | apply Kd.R_drewN | apply Kd.R_drew)); exact HO325.out, bz⟩
end Go.Proofs.YtkcmghlhpbepcaaGreatDoorH.W7

/- Words and walks used below. -/
namespace Go.Proofs.YtkcmghlhpbepcaaGreatDoorH.W7
open Go.RowKit Go.Proofs.YtkcmghlhpbepcaaGreatDoorW.PrintWords Go.Proofs.YtkcmghlhpbepcaaGreatDoorW.PrintLast Go.Proofs.YtkcmghlhpbepcaaGreatDoorW.PrintMore
attribute [local go_sem] max2_int min2_int max_two min_two max_three min_three max_four min_four   -- for this text's walks alone
theorem eqA36 (d : Nat) (w : World) (x0 y0 : ByteArray) (x1 y1 : ByteArray) :
 (Op.equalIn (d + 2) 36 (.agg #[.string x0, .string x1]) (.agg #[.string y0, .string y1])).run Tryz.prog w = .ok (x0.toList == y0.toList && (x1.toList == y1.toList)) w := by
 refine eqA_of Tryz.underlying36 (by kernel_rfl) ?_
 refine eqf_cons (by rfl) (by go_simp; rfl) (by go_simp; rfl) (by go_simp) ?_
 exact eqf_last (by rfl) (by go_simp; rfl) (by go_simp; rfl) (by go_simp)
end Go.Proofs.YtkcmghlhpbepcaaGreatDoorH.W7

/- Words and walks used below. -/
namespace Go.Proofs.YtkcmghlhpbepcaaGreatDoorH.W7
open Go.RowKit Go.Proofs.YtkcmghlhpbepcaaGreatDoorW.PrintWords Go.Proofs.YtkcmghlhpbepcaaGreatDoorW.PrintLast Go.Proofs.YtkcmghlhpbepcaaGreatDoorW.PrintMore
attribute [local go_sem] max2_int min2_int max_two min_two max_three min_three max_four min_four   -- for this text's walks alone
attribute [local go_sem high] eqA36
def rows_attrs.l0 : Nat → List (S36) → List (S36) → Int → Int → Option (Bool)
 | 0, _, _, _, _ => none
 | k + 1, x0, x1, x10, x11 => if x11 < x10 then (if 0 ≤ x11 then (if x11 < (x0.length : Int) then (if x11 < (x1.length : Int) then (if (!((((rd_T36 x0 x11).f0).toList) == (((rd_T36 x1 x11).f0).toList)) || (!((((rd_T36 x0 x11).f1).toList) == (((rd_T36 x1 x11).f1).toList)))) = true then (some false) else (rows_attrs.l0 k x0 x1 x10 (wrap64 (x11 + 1)))) else (none)) else (none)) else (none)) else (some ((x0.length : Int) == (x1.length : Int)))
def rows_attrs.f (k : Nat) (l0 : List (S36)) (l1 : List (S36)) : Option (Bool) := rows_attrs.l0 k l0 l1 (mn (l0.length : Int) (l1.length : Int)) 0
end Go.Proofs.YtkcmghlhpbepcaaGreatDoorH.W7

/- Words and walks used below. -/
namespace Go.Proofs.YtkcmghlhpbepcaaGreatDoorH.W7
open Go.RowKit Go.Proofs.YtkcmghlhpbepcaaGreatDoorW.PrintWords Go.Proofs.YtkcmghlhpbepcaaGreatDoorW.PrintLast Go.Proofs.YtkcmghlhpbepcaaGreatDoorW.PrintMore
attribute [local go_sem] max2_int min2_int max_two min_two max_three min_three max_four min_four   -- for this text's walks alone
def rows_Same_1.f (k : Nat) (a0_0 : Int) (a0_1 : Int) (a0_2 : ByteArray) (a0_3 : ByteArray) (l0_4 : List (S36)) (a1_0 : Int) (a1_1 : Int) (a1_2 : ByteArray) (a1_3 : ByteArray) (l1_4 : List (S36)) : Option (Bool) := if a0_0 = a1_0 then (if a0_1 = a1_1 then (if a0_2.toList = a1_2.toList then (if a0_3.toList = a1_3.toList then ((rows_attrs.f k l0_4 l1_4).bind fun t105 => (some t105)) else (some false)) else (some false)) else (some false)) else (some false)
end Go.Proofs.YtkcmghlhpbepcaaGreatDoorH.W7

/- Contract of rows.Same: whether rows are the same. Nothing that lay in memory turns. -/
namespace Go.Proofs.YtkcmghlhpbepcaaGreatDoorH.W7
open Go.RowKit Go.Proofs Go.Proofs.YtkcmghlhpbepcaaGreatDoor
structure Rr where
 depth : Int
 kind : Int
 name : Txt
 data : Txt
 attrs : List (Txt × Txt)
 deriving DecidableEq
def prS (a : S36) : Txt × Txt := (a.f0.data.toList, a.f1.data.toList)
def rowS (x : Rw) : Rr := ⟨x.f0, x.f1, x.f2.data.toList, x.f3.data.toList, x.f4.map prS⟩
theorem w64 {x : Int} (h0 : -9223372036854775808 ≤ x) (h1 : x ≤ 9223372036854775807) : wrap64 x = x := by unfold wrap64; omega
theorem bytes_iff (a b : ByteArray) : a.toList = b.toList ↔ a.data.toList = b.data.toList := by rw [Lib.toList_data, Lib.toList_data]
theorem bytes_beq (a b : ByteArray) : (a.toList == b.toList) = (a.data.toList == b.data.toList) := by rw [Lib.toList_data, Lib.toList_data]
def rows_Same.f (l0 l1 : List Rw) : Option Bool := some (decide (l0.map rowS = l1.map rowS))
end Go.Proofs.YtkcmghlhpbepcaaGreatDoorH.W7

/- Words and walks used below. -/
namespace Go.Proofs.YtkcmghlhpbepcaaGreatDoorH.W7
open Go.RowKit Go.Proofs.YtkcmghlhpbepcaaGreatDoorW.PrintWords Go.Proofs.YtkcmghlhpbepcaaGreatDoorW.PrintLast Go.Proofs.YtkcmghlhpbepcaaGreatDoorW.PrintMore
attribute [local go_sem] max2_int min2_int max_two min_two max_three min_three max_four min_four   -- for this text's walks alone
def rows_is.f (l0 : List (S34)) (a1 : Int) : Option (Bool) := if a1 ≥ 0 then (some (decide (a1 < (l0.length : Int)))) else (some false)
end Go.Proofs.YtkcmghlhpbepcaaGreatDoorH.W7

/- Words and walks used below. -/
namespace Go.Proofs.YtkcmghlhpbepcaaGreatDoorH.W7
open Go.RowKit Go.Proofs.YtkcmghlhpbepcaaGreatDoorW.PrintWords Go.Proofs.YtkcmghlhpbepcaaGreatDoorW.PrintLast Go.Proofs.YtkcmghlhpbepcaaGreatDoorW.PrintMore
attribute [local go_sem] max2_int min2_int max_two min_two max_three min_three max_four min_four   -- for this text's walks alone
def rows_End.l0 : Nat → List (S34) → Int → Int → Option (Int)
 | 0, _, _, _ => none
 | k + 1, x0, x1, x5 => if x5 < (x0.length : Int) then (if 0 ≤ x5 then (if 0 ≤ x1 then (if x1 < (x0.length : Int) then (if ((rd_T34 x0 x5).f0) > ((rd_T34 x0 x1).f0) then (rows_End.l0 k x0 x1 (wrap64 (x5 + 1))) else (some x5)) else (none)) else (none)) else (none)) else (some x5)
def rows_End.f (k : Nat) (l0 : List (S34)) (a1 : Int) : Option (Int) := (rows_is.f l0 a1).bind fun t110 => (if t110 = true then (rows_End.l0 k l0 a1 (wrap64 (a1 + 1))) else (some 0))
end Go.Proofs.YtkcmghlhpbepcaaGreatDoorH.W7
