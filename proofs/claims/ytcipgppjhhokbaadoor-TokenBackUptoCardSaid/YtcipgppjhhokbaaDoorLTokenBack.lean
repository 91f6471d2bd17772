/- The walk of boltinglaw06.TokenBack: it returns true, whatever it is given, of at most 2000000 bytes each; nothing that lay in memory turns. -/
import Derived.Test.YtcipgppjhhokbaaDoorLTokenEnds
import Derived.Test.YtcipgppjhhokbaaDoorRight
set_option linter.unusedVariables false
set_option linter.unusedSimpArgs false
namespace Go.Proofs.YtcipgppjhhokbaaDoor
open Go.RowKit Go.Proofs

/-- What was taken over of the attributes. -/
structure Took (acc : List (Txt × Txt)) : Prop where
  name : ∀ a ∈ acc, attrB a.1 = true
  once : (acc.map Prod.fst).Nodup
  small : ∀ a ∈ acc, a.1.length ≤ 2000000 ∧ a.2.length ≤ 200
theorem took_nil : Took [] := ⟨by simp, by simp, by simp⟩
theorem took_add {acc : List (Txt × Txt)} {an av : Txt} (h : Took acc) (h1 : attrB an = true) (h2 : ∀ j (hj : j < acc.length), acc[j].1 ≠ an) (h3 : an.length ≤ 2000000) (h4 : av.length ≤ 200) : Took (acc ++ [(an, av)]) := by
  refine ⟨?_, ?_, ?_⟩
  · intro a ha
    rw [List.mem_append] at ha
    rcases ha with ha | ha
    · exact h.name a ha
    · simp only [List.mem_singleton] at ha
      subst ha
      exact h1
  · rw [List.map_append, List.nodup_append]
    refine ⟨h.once, by simp, ?_⟩
    intro x hx y hy
    simp only [List.map_cons, List.map_nil, List.mem_singleton] at hy
    subst hy
    intro e
    subst e
    obtain ⟨b, hb, hb2⟩ := List.mem_map.1 hx
    obtain ⟨j, hj, rfl⟩ := List.getElem_of_mem hb
    exact h2 j hj hb2
  · intro a ha
    rw [List.mem_append] at ha
    rcases ha with ha | ha
    · exact h.small a ha
    · simp only [List.mem_singleton] at ha
      subst ha
      exact ⟨h3, h4⟩

theorem attrsW_small : ∀ (l : List (Txt × Txt)), (∀ a ∈ l, a.1.length ≤ 2000000 ∧ a.2.length ≤ 200) → (attrsW l).length ≤ l.length * 2001300
  | [], _ => by simp [attrsW]
  | a :: l, h => by
    have ih := attrsW_small l (fun b hb => h b (by simp [hb]))
    have h1 := h a (by simp)
    have h2 := wr_len true a.2
    rw [show attrsW (a :: l) = attrsW [a] ++ attrsW l from attrsW_app [a] l]
    have h3 : (attrsW [a]).length = a.1.length + (wrL true a.2).length + 4 := by
      simp [attrsW]
      omega
    simp only [List.length_append, List.length_cons]
    omega
theorem back_len {nm : Txt} {b : Bool} {acc : List (Txt × Txt)} (h1 : nm.length ≤ 2000000) (h2 : ∀ a ∈ acc, a.1.length ≤ 2000000 ∧ a.2.length ≤ 200) (h3 : acc.length ≤ 6) : (writeL [⟨1, nm, acc, [], b⟩, ⟨2, nm, [], [], false⟩]).length ≤ 100000000 := by
  have h4 := attrsW_small acc h2
  have h5 : (selfW b).length ≤ 2 := by unfold selfW; split <;> simp
  have e : writeL [⟨1, nm, acc, [], b⟩, ⟨2, nm, [], [], false⟩] = taggedW [60] ⟨1, nm, acc, [], b⟩ ++ taggedW [60, 47] ⟨0, nm, [], [], false⟩ := by simp [writeL, writeN, tokW]
  rw [e]
  simp only [taggedW, List.length_append, List.length_cons, List.length_nil, attrsW, List.flatMap_nil, selfW, Bool.false_eq_true, if_false] at *
  omega

set_option maxHeartbeats 8000000 in
set_option maxRecDepth 100000 in
theorem tokenBack_w (k0 : Int) (nm d : Txt) (at0 : List (Txt × Txt)) (sf : Bool) (va : Value) (l2 : Txt) (hnm : nm.length ≤ 2000000) (hat : ∀ i (hi : i < at0.length), at0[i].1.length ≤ 2000000 ∧ at0[i].2.length ≤ 2000000) (hatl : at0.length ≤ 9223372036854775807) (hl2 : l2.length ≤ 2000000) (w : World) (hA : RdA w va at0) (hS : Std w) :
    Calls Tryd.prog 9 #[.agg #[.int .i64 k0, .string ⟨nm.toArray⟩, .string ⟨d.toArray⟩, va, .bool sf], .string ⟨l2.toArray⟩] w fun e w' => e = .returned (.bool true) ∧ Below w.heap.size w w' := by
  have hfix := Lib.hid (fun W hS => fixed6_c W hS)
  obtain ⟨ad, cp, rfl, hA0⟩ := id hA
  obtain ⟨r0, r1, hBw⟩ := two_new (wr := w) (A := #[.int .i64 k0, .string ⟨nm.toArray⟩, .string ⟨d.toArray⟩, .slice ad at0.length cp, .bool sf]) (B := #[.int .i64 1, .string ⟨nm.toArray⟩, .string ⟨#[]⟩, .slice none 0 0, .bool sf]) (t := 30) (u := 30)
  go_enter Tryd.func9, Tryd.ntmps9
  go_wp2
  go_loopw [6] (fun vi wr => ∃ (i : Nat) (acc : List (Txt × Txt)) (vx : Value), vi = .int .i64 i ∧ i ≤ 6 ∧ i ≤ at0.length ∧ acc.length = i ∧ Below w.heap.size w wr ∧ wr.heap[w.heap.size]? = some (.cells #[.int .i64 k0, .string ⟨nm.toArray⟩, .string ⟨d.toArray⟩, .slice ad at0.length cp, .bool sf] 30 (0, 0)) ∧ wr.heap[w.heap.size + 1]? = some (.cells #[.int .i64 1, .string ⟨nm.toArray⟩, .string ⟨#[]⟩, vx, .bool sf] 30 (0, 0)) ∧ Atts wr w.heap.size vx acc ∧ Hid (Took acc)) (fun vi _ => 6 - (intOf vi).toNat)
  case atStart =>
    exact ⟨0, [], .slice none 0 0, rfl, by omega, by omega, rfl, ((Below.refl _ w).alloc (Nat.le_refl _) _).alloc (by rw [World.size_alloc]; omega) _, r0, r1, Atts.nil _ _, took_nil⟩
  case round =>
    obtain ⟨i, acc, vx, rfl, hi6, hil, hacc, hB, q0, q1, hX, htook⟩ := hrel
    have hal6 : acc.length ≤ 6 := by omega
    replace hacc := Lib.hid hacc
    obtain ⟨adx, cpx, rfl⟩ := hX.len
    obtain ⟨⟨p0, p1, p2, p3, p4⟩, p5⟩ := five_facts q0
    obtain ⟨⟨y0, y1, y2, y3, y4⟩, y5⟩ := five_facts q1
    have hS2 := hS.below hB
    by_cases hlt : i < at0.length
    · by_cases h6 : i < 6
      · obtain ⟨g, o, rfl, z0, z1⟩ := hA0 i hlt
        replace z0 := cell_keep z0 hB
        replace z1 := cell_keep z1 hB
        have hsm := hat i hlt
        have hlI : (i : Int) < at0.length := by omega
        have h6I : (i : Int) < 6 := by omega
        generalize at0[i] = av at *
        obtain ⟨an, av⟩ := av
        simp only at z0 z1 hsm
        have hg := cell_lt z0
        have hn1 : g ≠ wr.heap.size := by omega
        have Z0 := cell_al z0
        have Z1 := cell_al z1
        have hlt0 := heap_lt q0
        have hlt1 := heap_lt q1
        have ha1 : w.heap.size ≠ wr.heap.size := by omega
        have ha2 : w.heap.size + 1 ≠ wr.heap.size := by omega
        obtain ⟨m0, m1, m2, m3⟩ := two_facts (new_cells wr #[.string ⟨an.toArray⟩, .string ⟨av.toArray⟩] 33)
        go_wp2
        have hav : (List.take (min (av.length : Int) 200).toNat av).length ≤ 200 := take_min_len av 200
        generalize List.take (min (av.length : Int) 200).toNat av = av1 at *
        have hnew := new_cells wr #[.string ⟨an.toArray⟩, .string ⟨av1.toArray⟩] 33
        have q0' := heap_old q0 (.cells #[.string ⟨an.toArray⟩, .string ⟨av1.toArray⟩] 33)
        have q1' := heap_old q1 (.cells #[.string ⟨an.toArray⟩, .string ⟨av1.toArray⟩] 33)
        have hX' : Atts (wr.alloc (.cells #[.string ⟨an.toArray⟩, .string ⟨av1.toArray⟩] 33)) w.heap.size (.slice adx acc.length cpx) acc := World.ownsRow.alloc hX _
        have hB' := hB.alloc hB.size (.cells #[.string ⟨an.toArray⟩, .string ⟨av1.toArray⟩] 33)
        have hle' := hB'.size
        have hszw : (wr.alloc (.cells #[.string ⟨an.toArray⟩, .string ⟨av1.toArray⟩] 33)).heap.size = wr.heap.size + 1 := World.size_alloc _ _
        clear Z0 Z1 z0 z1 m0 m1 m2 m3 p0 p1 p2 p3 p4 p5 y0 y1 y2 y3 y4 y5 q0 q1 hX hA
        generalize wr.alloc (.cells #[.string ⟨an.toArray⟩, .string ⟨av1.toArray⟩] 33) = W1 at *
        generalize wr.heap.size = t7 at *
        have hSW := hS.below hB'
        go_loopw [8] (fun vk wx => ∃ (j : Nat), vk = .int .i64 j ∧ j ≤ acc.length ∧ Below W1.heap.size W1 wx ∧ Hid (∀ n (hn : n < acc.length), n < j → acc[n].1 ≠ an)) (fun vk _ => acc.length - (intOf vk).toNat)
        case atStart => exact ⟨0, rfl, by omega, Below.refl _ _, fun n _ h => by omega⟩
        case round =>
          obtain ⟨j, rfl, hj, hBx, hno⟩ := hrel
          have qx0 := heap_below q0' hBx
          have qx1 := heap_below q1' hBx
          have qxn := heap_below hnew hBx
          have hXx := hX'.below hBx
          obtain ⟨⟨p0, p1, p2, p3, p4⟩, p5⟩ := five_facts qx1
          obtain ⟨m0, m1, m2, m3⟩ := two_facts qxn
          have hBa := below_then hB' hle' hBx
          have hSx := hS.below hBa
          by_cases hjl : j < acc.length
          · obtain ⟨g3, cap3, e3, _, _, z2, z3⟩ := hXx.at hjl
            simp only [Value.slice.injEq] at e3
            obtain ⟨rfl, _, rfl⟩ := e3
            have hjI : (j : Int) < acc.length := by omega
            by_cases heq : acc[j].1 = an
            · have heqB : (an == an) = true := by simp
              rw [heq] at z2
              go_wp2
              go_region
              all_goals
                go_wp2_with (go_at_call 11; ((with_reducible refine (hfix.out _ (hSx.below (Below.refl _ _).drew)).mono ?_); rintro e w3 ⟨rfl, hb3⟩))
                go_ret
                exact ⟨rfl, below_then (hBa.drew) (by have := hBa.size; exact this) hb3⟩
            · have hno2 : Hid (∀ n (hn : n < acc.length), n < j + 1 → acc[n].1 ≠ an) := by
                intro n hn hnj
                by_cases e : n = j
                · subst e; exact heq
                · exact hno.out n hn (by omega)
              have heqB : (acc[j].1 == an) = false := by simpa using heq
              clear hno heq
              generalize acc[j].1 = aj at *
              go_wp2
              go_region
              all_goals
                go_wp2
                exact ⟨⟨j + 1, rfl, by omega, hBx.drew, hno2⟩, by simp [intOf]; omega⟩
          · have hno2 := Lib.hid (fun (n : Nat) (hn : n < acc.length) => hno.out n hn (by omega))
            clear hno
            have cattr := Lib.hid (fun W => attr_c an (by omega) W)
            have htk := Lib.hid (fun h => took_add (an := an) (av := av1) htook.out h hno2.out hsm.1 hav)
            generalize attrB an = ab at *
            cases ab with
            | false =>
              clear htk hno2
              go_wp2_with (first
                | (go_at_call 17; ((with_reducible refine (cattr.out _).mono ?_); rintro e w3 ⟨rfl, hb3⟩; have hSx3 := hSx.below hb3; have hB3 := below_seq hBa hb3))
                | (go_at_call 11; ((with_reducible refine (hfix.out _ hSx3).mono ?_); rintro e w4 ⟨rfl, hb4⟩)))
              go_ret
              exact ⟨rfl, below_seq hB3 hb4⟩
            | true =>
              have htk2 := Lib.hid (htk.out rfl)
              clear htk hno2
              have hal1 : acc.length + 1 ≤ 1000000000000 := by omega
              go_wp2_with (first
                | (go_at_call 17; ((with_reducible refine (cattr.out _).mono ?_); rintro e w3 ⟨rfl, hb3⟩; have hB3 := below_seq hBa hb3; replace qx0 := heap_below qx0 hb3; replace qx1 := heap_below qx1 hb3; replace qxn := heap_below qxn hb3; replace hXx := hXx.below hb3; obtain ⟨⟨n0, n1, n2, n3, n4⟩, n5⟩ := five_facts qx1; obtain ⟨o0, o1, o2, o3⟩ := two_facts qxn; obtain ⟨zc0, zc1, zc2, zc3⟩ := two_facts (new_cells w3 #[.string ⟨an.toArray⟩, .string ⟨av1.toArray⟩] 33); have hXa : Atts (w3.alloc (.cells #[.string ⟨an.toArray⟩, .string ⟨av1.toArray⟩] 33)) w.heap.size (.slice adx acc.length cpx) acc := World.ownsRow.alloc hXx _; have qa0 := heap_old qx0 (.cells #[.string ⟨an.toArray⟩, .string ⟨av1.toArray⟩] 33); have qa1 := heap_old qx1 (.cells #[.string ⟨an.toArray⟩, .string ⟨av1.toArray⟩] 33); have hBb := hB3.alloc hB3.size (.cells #[.string ⟨an.toArray⟩, .string ⟨av1.toArray⟩] 33)))
                | (at_builtin; refine app_attr rfl (.tmp 63) (.tmp 65) rfl w.heap.size w3.heap.size (.slice adx acc.length cpx) acc (an, av1) rfl hXa rfl zc0 zc1 hal1 hBb.size ?_; intro v5 w5 hA5 hg5 hb5; obtain ⟨ad5, cp5, rfl⟩ := hA5.len; have r50 := app_after hXa hg5 qa0 (by decide); have r51 := app_after hXa hg5 qa1 (by decide); have hB5 := hBb.trans hb5; rw [show (acc ++ [(an, av1)]).length = acc.length + 1 from List.length_append] at hA5; obtain ⟨⟨s0, s1, s2, s3, s4⟩, s5⟩ := five_facts r51))
              refine ⟨⟨i + 1, acc ++ [(an, av1)], .slice ad5 (acc.length + 1) cp5, rfl, by omega, by omega, by have := hacc.out; simp; omega, below_set hB5 (by omega) _, (heap_setCell_other w5 ⟨w.heap.size + 1, 3, none⟩ w.heap.size _ (by simp)).trans r50, heap_setCell_same w5 (w.heap.size + 1) 3 _ _ _ r51, hA5.set r51 (by decide), htk2⟩, by simp [intOf]; omega⟩
      · have h6I : ¬ (i : Int) < 6 := by omega
        have hlI : (i : Int) < at0.length := by omega
        have cright := Lib.hid (fun W => right_c nm (by omega) W)
        have hrn := Lib.hid (fun h => right_name (s := nm) h)
        have hbk := Lib.hid (fun h => tag_back (b := sf) (right_name (s := nm) h) (fun a ha => attr_name (htook.out.name a ha)) htook.out.once)
        have hwl := back_len (nm := nm) (b := sf) hnm (fun a ha => htook.out.small a ha) hal6
        generalize rightB nm = rb at *
        cases rb with
        | false =>
          clear hbk hrn
          go_wp2_with (first
            | (go_at_call 18; ((with_reducible refine (cright.out _).mono ?_); rintro e w3 ⟨rfl, hb3⟩; have hSx3 := hS2.below hb3; have hB3 := below_seq hB hb3))
            | (go_at_call 11; ((with_reducible refine (hfix.out _ hSx3).mono ?_); rintro e w4 ⟨rfl, hb4⟩)))
          go_ret
          exact ⟨rfl, below_seq hB3 hb4⟩
        | true =>
          have hbk2 := hbk.out rfl
          clear hbk hrn
          have cw := Lib.hid (fun v W h => write_g v [⟨1, nm, acc, [], sf⟩, ⟨2, nm, [], [], false⟩] (by simp) (by omega) W h)
          have cc := Lib.hid (fun W hS => cut_g (writeL [⟨1, nm, acc, [], sf⟩, ⟨2, nm, [], [], false⟩]) (by omega) W hS)
          rw [hbk2] at cc
          clear hbk2
          generalize writeL [⟨1, nm, acc, [], sf⟩, ⟨2, nm, [], [], false⟩] = s1 at *
          have hx : (List.take (min (l2.length : Int) 200).toNat l2).length ≤ 200 := take_min_len l2 200
          obtain ⟨x, hxe⟩ : ∃ x, List.take (min (l2.length : Int) 200).toNat l2 = x := ⟨_, rfl⟩
          rw [hxe] at hx
          by_cases hx0 : x = []
          · go_wp2_with (first
              | (go_at_call 18; ((with_reducible refine (cright.out _).mono ?_); rintro e w3 ⟨rfl, hb3⟩; have hB3 := below_seq hB hb3; replace q1 := heap_below q1 hb3; obtain ⟨⟨n0, n1, n2, n3, n4⟩, n5⟩ := five_facts q1; replace q0 := heap_below q0 hb3; obtain ⟨⟨o0, o1, o2, o3, o4⟩, o5⟩ := five_facts q0; have hrow : RdT (w3.alloc (.cells #[.int .i64 1, .string ⟨nm.toArray⟩, .string ⟨#[]⟩, .slice adx acc.length cpx, .bool sf, .int .i64 2, .string ⟨nm.toArray⟩, .string ⟨#[]⟩, .slice none 0 0, .bool false] 30)) (.slice (some ⟨w3.heap.size, 0, none⟩) 2 2) [⟨1, nm, acc, [], sf⟩, ⟨2, nm, [], [], false⟩] := (rd_new w3 [(⟨1, nm, acc, [], sf⟩, .slice adx acc.length cpx), (⟨2, nm, [], [], false⟩, .slice none 0 0)] _ 2 _ rfl rfl (by intro p hp; simp only [List.mem_cons, List.not_mem_nil, or_false] at hp; rcases hp with rfl | rfl; exact (hX.below hb3).rd; exact RdA.nil _))))
              | (go_at_call 12; ((with_reducible refine (cw.out _ _ hrow).mono ?_); rintro e w4 ⟨rfl, hb4⟩; have hB4 := below_then (hB3.alloc hB3.size (.cells #[.int .i64 1, .string ⟨nm.toArray⟩, .string ⟨#[]⟩, .slice adx acc.length cpx, .bool sf, .int .i64 2, .string ⟨nm.toArray⟩, .string ⟨#[]⟩, .slice none 0 0, .bool false] 30)) (by rw [World.size_alloc]; have := hB3.size; omega) hb4; have hS4 := hS.below hB4; replace hrow := hrow.below hb4))
              | (go_at_call 14; ((with_reducible refine (cc.out _ hS4).mono ?_); rintro e w5 ⟨v5, rfl, hT5, hb5⟩; have hB5 := below_seq hB4 hb5; have hR5 := hT5.rd; replace hrow := hrow.below hb5))
              | (go_at_call 16; ((with_reducible refine (same_t _ _ _ _ hT5 hR5 hrow).mono ?_); rintro e w6 ⟨rfl, hb6⟩; have hB6 := below_seq hB5 hb6; have hS6 := hS.below hB6))
              | (go_at_call 11; ((with_reducible refine (hfix.out _ hS6).mono ?_); rintro e w9 ⟨rfl, hb9⟩)))
            go_ret
            exact ⟨rfl, below_seq hB6 hb9⟩
          · have hxb : (x == []) = false := by simpa using hx0
            have hbk3 := text_back hx0
            have hwl3 : (writeL [⟨0, [], [], x, false⟩, ⟨1, [98], [], [], false⟩, ⟨0, [], [], x, false⟩]).length ≤ 1000000 := by
              have h1 := wr_len false x
              simp [writeL, writeN, tokW, taggedW, attrsW, selfW, rawT, show rawB [98] = false from by decide]
              omega
            have cw3 := Lib.hid (fun v W h => write_g v [⟨0, [], [], x, false⟩, ⟨1, [98], [], [], false⟩, ⟨0, [], [], x, false⟩] (by simp) (by omega) W h)
            have cc3 := Lib.hid (fun W hS => cut_g (writeL [⟨0, [], [], x, false⟩, ⟨1, [98], [], [], false⟩, ⟨0, [], [], x, false⟩]) (by omega) W hS)
            rw [hbk3] at cc3
            clear hbk3
            generalize writeL [⟨0, [], [], x, false⟩, ⟨1, [98], [], [], false⟩, ⟨0, [], [], x, false⟩] = s3 at *
            go_wp2_with (first
              | (go_at_call 18; ((with_reducible refine (cright.out _).mono ?_); rintro e w3 ⟨rfl, hb3⟩; have hB3 := below_seq hB hb3; replace q1 := heap_below q1 hb3; obtain ⟨⟨n0, n1, n2, n3, n4⟩, n5⟩ := five_facts q1; replace q0 := heap_below q0 hb3; obtain ⟨⟨o0, o1, o2, o3, o4⟩, o5⟩ := five_facts q0; have hrow : RdT (w3.alloc (.cells #[.int .i64 1, .string ⟨nm.toArray⟩, .string ⟨#[]⟩, .slice adx acc.length cpx, .bool sf, .int .i64 2, .string ⟨nm.toArray⟩, .string ⟨#[]⟩, .slice none 0 0, .bool false] 30)) (.slice (some ⟨w3.heap.size, 0, none⟩) 2 2) [⟨1, nm, acc, [], sf⟩, ⟨2, nm, [], [], false⟩] := (rd_new w3 [(⟨1, nm, acc, [], sf⟩, .slice adx acc.length cpx), (⟨2, nm, [], [], false⟩, .slice none 0 0)] _ 2 _ rfl rfl (by intro p hp; simp only [List.mem_cons, List.not_mem_nil, or_false] at hp; rcases hp with rfl | rfl; exact (hX.below hb3).rd; exact RdA.nil _))))
              | (go_at_call 12; first
                | ((with_reducible refine (cw.out _ _ hrow).mono ?_); rintro e w4 ⟨rfl, hb4⟩; have hB4 := below_then (hB3.alloc hB3.size (.cells #[.int .i64 1, .string ⟨nm.toArray⟩, .string ⟨#[]⟩, .slice adx acc.length cpx, .bool sf, .int .i64 2, .string ⟨nm.toArray⟩, .string ⟨#[]⟩, .slice none 0 0, .bool false] 30)) (by rw [World.size_alloc]; have := hB3.size; omega) hb4; have hS4 := hS.below hB4; replace hrow := hrow.below hb4)
                | ((with_reducible refine (cw3.out _ _ hrow3).mono ?_); rintro e w7 ⟨rfl, hb7⟩; have hB7 := below_then (hB6.alloc hB6.size (.cells #[.int .i64 0, .string ⟨#[]⟩, .string ⟨x.toArray⟩, .slice none 0 0, .bool false, .int .i64 1, .string ⟨#[98]⟩, .string ⟨#[]⟩, .slice none 0 0, .bool false, .int .i64 0, .string ⟨#[]⟩, .string ⟨x.toArray⟩, .slice none 0 0, .bool false] 30)) (by rw [World.size_alloc]; have := hB6.size; omega) hb7; have hS7 := hS.below hB7; replace hrow3 := hrow3.below hb7))
              | (go_at_call 14; first
                | ((with_reducible refine (cc.out _ hS4).mono ?_); rintro e w5 ⟨v5, rfl, hT5, hb5⟩; have hB5 := below_seq hB4 hb5; have hR5 := hT5.rd; replace hrow := hrow.below hb5)
                | ((with_reducible refine (cc3.out _ hS7).mono ?_); rintro e w8 ⟨v8, rfl, hT8, hb8⟩; have hB8 := below_seq hB7 hb8; have hR8 := hT8.rd; replace hrow3 := hrow3.below hb8))
              | (go_at_call 16; first
                | ((with_reducible refine (same_t _ _ _ _ hT5 hR5 hrow).mono ?_); rintro e w6 ⟨rfl, hb6⟩; have hB6 := below_seq hB5 hb6; have hS6 := hS.below hB6; have hrow3 : RdT (w6.alloc (.cells #[.int .i64 0, .string ⟨#[]⟩, .string ⟨x.toArray⟩, .slice none 0 0, .bool false, .int .i64 1, .string ⟨#[98]⟩, .string ⟨#[]⟩, .slice none 0 0, .bool false, .int .i64 0, .string ⟨#[]⟩, .string ⟨x.toArray⟩, .slice none 0 0, .bool false] 30)) (.slice (some ⟨w6.heap.size, 0, none⟩) 3 3) [⟨0, [], [], x, false⟩, ⟨1, [98], [], [], false⟩, ⟨0, [], [], x, false⟩] := (rd_new w6 [(⟨0, [], [], x, false⟩, .slice none 0 0), (⟨1, [98], [], [], false⟩, .slice none 0 0), (⟨0, [], [], x, false⟩, .slice none 0 0)] _ 3 _ rfl rfl (by intro p hp; simp only [List.mem_cons, List.not_mem_nil, or_false] at hp; rcases hp with rfl | rfl | rfl <;> exact RdA.nil _)))
                | ((with_reducible refine (same_t _ _ _ _ hT8 hR8 hrow3).mono ?_); rintro e w9 ⟨rfl, hb9⟩; have hB9 := below_seq hB8 hb9; have hS9 := hS.below hB9))
              | (go_at_call 11; ((with_reducible refine (hfix.out _ hS9).mono ?_); rintro e w10 ⟨rfl, hb10⟩)))
            go_ret
            exact ⟨rfl, below_seq hB9 hb10⟩
    · have hlI : ¬ (i : Int) < at0.length := by omega
      have cright := Lib.hid (fun W => right_c nm (by omega) W)
      have hrn := Lib.hid (fun h => right_name (s := nm) h)
      have hbk := Lib.hid (fun h => tag_back (b := sf) (right_name (s := nm) h) (fun a ha => attr_name (htook.out.name a ha)) htook.out.once)
      have hwl := back_len (nm := nm) (b := sf) hnm (fun a ha => htook.out.small a ha) hal6
      generalize rightB nm = rb at *
      cases rb with
      | false =>
        clear hbk hrn
        go_wp2_with (first
          | (go_at_call 18; ((with_reducible refine (cright.out _).mono ?_); rintro e w3 ⟨rfl, hb3⟩; have hSx3 := hS2.below hb3; have hB3 := below_seq hB hb3))
          | (go_at_call 11; ((with_reducible refine (hfix.out _ hSx3).mono ?_); rintro e w4 ⟨rfl, hb4⟩)))
        go_ret
        exact ⟨rfl, below_seq hB3 hb4⟩
      | true =>
        have hbk2 := hbk.out rfl
        clear hbk hrn
        have cw := Lib.hid (fun v W h => write_g v [⟨1, nm, acc, [], sf⟩, ⟨2, nm, [], [], false⟩] (by simp) (by omega) W h)
        have cc := Lib.hid (fun W hS => cut_g (writeL [⟨1, nm, acc, [], sf⟩, ⟨2, nm, [], [], false⟩]) (by omega) W hS)
        rw [hbk2] at cc
        clear hbk2
        generalize writeL [⟨1, nm, acc, [], sf⟩, ⟨2, nm, [], [], false⟩] = s1 at *
        have hx : (List.take (min (l2.length : Int) 200).toNat l2).length ≤ 200 := take_min_len l2 200
        obtain ⟨x, hxe⟩ : ∃ x, List.take (min (l2.length : Int) 200).toNat l2 = x := ⟨_, rfl⟩
        rw [hxe] at hx
        by_cases hx0 : x = []
        · go_wp2_with (first
            | (go_at_call 18; ((with_reducible refine (cright.out _).mono ?_); rintro e w3 ⟨rfl, hb3⟩; have hB3 := below_seq hB hb3; replace q1 := heap_below q1 hb3; obtain ⟨⟨n0, n1, n2, n3, n4⟩, n5⟩ := five_facts q1; replace q0 := heap_below q0 hb3; obtain ⟨⟨o0, o1, o2, o3, o4⟩, o5⟩ := five_facts q0; have hrow : RdT (w3.alloc (.cells #[.int .i64 1, .string ⟨nm.toArray⟩, .string ⟨#[]⟩, .slice adx acc.length cpx, .bool sf, .int .i64 2, .string ⟨nm.toArray⟩, .string ⟨#[]⟩, .slice none 0 0, .bool false] 30)) (.slice (some ⟨w3.heap.size, 0, none⟩) 2 2) [⟨1, nm, acc, [], sf⟩, ⟨2, nm, [], [], false⟩] := (rd_new w3 [(⟨1, nm, acc, [], sf⟩, .slice adx acc.length cpx), (⟨2, nm, [], [], false⟩, .slice none 0 0)] _ 2 _ rfl rfl (by intro p hp; simp only [List.mem_cons, List.not_mem_nil, or_false] at hp; rcases hp with rfl | rfl; exact (hX.below hb3).rd; exact RdA.nil _))))
            | (go_at_call 12; ((with_reducible refine (cw.out _ _ hrow).mono ?_); rintro e w4 ⟨rfl, hb4⟩; have hB4 := below_then (hB3.alloc hB3.size (.cells #[.int .i64 1, .string ⟨nm.toArray⟩, .string ⟨#[]⟩, .slice adx acc.length cpx, .bool sf, .int .i64 2, .string ⟨nm.toArray⟩, .string ⟨#[]⟩, .slice none 0 0, .bool false] 30)) (by rw [World.size_alloc]; have := hB3.size; omega) hb4; have hS4 := hS.below hB4; replace hrow := hrow.below hb4))
            | (go_at_call 14; ((with_reducible refine (cc.out _ hS4).mono ?_); rintro e w5 ⟨v5, rfl, hT5, hb5⟩; have hB5 := below_seq hB4 hb5; have hR5 := hT5.rd; replace hrow := hrow.below hb5))
            | (go_at_call 16; ((with_reducible refine (same_t _ _ _ _ hT5 hR5 hrow).mono ?_); rintro e w6 ⟨rfl, hb6⟩; have hB6 := below_seq hB5 hb6; have hS6 := hS.below hB6))
            | (go_at_call 11; ((with_reducible refine (hfix.out _ hS6).mono ?_); rintro e w9 ⟨rfl, hb9⟩)))
          go_ret
          exact ⟨rfl, below_seq hB6 hb9⟩
        · have hxb : (x == []) = false := by simpa using hx0
          have hbk3 := text_back hx0
          have hwl3 : (writeL [⟨0, [], [], x, false⟩, ⟨1, [98], [], [], false⟩, ⟨0, [], [], x, false⟩]).length ≤ 1000000 := by
            have h1 := wr_len false x
            simp [writeL, writeN, tokW, taggedW, attrsW, selfW, rawT, show rawB [98] = false from by decide]
            omega
          have cw3 := Lib.hid (fun v W h => write_g v [⟨0, [], [], x, false⟩, ⟨1, [98], [], [], false⟩, ⟨0, [], [], x, false⟩] (by simp) (by omega) W h)
          have cc3 := Lib.hid (fun W hS => cut_g (writeL [⟨0, [], [], x, false⟩, ⟨1, [98], [], [], false⟩, ⟨0, [], [], x, false⟩]) (by omega) W hS)
          rw [hbk3] at cc3
          clear hbk3
          generalize writeL [⟨0, [], [], x, false⟩, ⟨1, [98], [], [], false⟩, ⟨0, [], [], x, false⟩] = s3 at *
          go_wp2_with (first
            | (go_at_call 18; ((with_reducible refine (cright.out _).mono ?_); rintro e w3 ⟨rfl, hb3⟩; have hB3 := below_seq hB hb3; replace q1 := heap_below q1 hb3; obtain ⟨⟨n0, n1, n2, n3, n4⟩, n5⟩ := five_facts q1; replace q0 := heap_below q0 hb3; obtain ⟨⟨o0, o1, o2, o3, o4⟩, o5⟩ := five_facts q0; have hrow : RdT (w3.alloc (.cells #[.int .i64 1, .string ⟨nm.toArray⟩, .string ⟨#[]⟩, .slice adx acc.length cpx, .bool sf, .int .i64 2, .string ⟨nm.toArray⟩, .string ⟨#[]⟩, .slice none 0 0, .bool false] 30)) (.slice (some ⟨w3.heap.size, 0, none⟩) 2 2) [⟨1, nm, acc, [], sf⟩, ⟨2, nm, [], [], false⟩] := (rd_new w3 [(⟨1, nm, acc, [], sf⟩, .slice adx acc.length cpx), (⟨2, nm, [], [], false⟩, .slice none 0 0)] _ 2 _ rfl rfl (by intro p hp; simp only [List.mem_cons, List.not_mem_nil, or_false] at hp; rcases hp with rfl | rfl; exact (hX.below hb3).rd; exact RdA.nil _))))
            | (go_at_call 12; first
              | ((with_reducible refine (cw.out _ _ hrow).mono ?_); rintro e w4 ⟨rfl, hb4⟩; have hB4 := below_then (hB3.alloc hB3.size (.cells #[.int .i64 1, .string ⟨nm.toArray⟩, .string ⟨#[]⟩, .slice adx acc.length cpx, .bool sf, .int .i64 2, .string ⟨nm.toArray⟩, .string ⟨#[]⟩, .slice none 0 0, .bool false] 30)) (by rw [World.size_alloc]; have := hB3.size; omega) hb4; have hS4 := hS.below hB4; replace hrow := hrow.below hb4)
              | ((with_reducible refine (cw3.out _ _ hrow3).mono ?_); rintro e w7 ⟨rfl, hb7⟩; have hB7 := below_then (hB6.alloc hB6.size (.cells #[.int .i64 0, .string ⟨#[]⟩, .string ⟨x.toArray⟩, .slice none 0 0, .bool false, .int .i64 1, .string ⟨#[98]⟩, .string ⟨#[]⟩, .slice none 0 0, .bool false, .int .i64 0, .string ⟨#[]⟩, .string ⟨x.toArray⟩, .slice none 0 0, .bool false] 30)) (by rw [World.size_alloc]; have := hB6.size; omega) hb7; have hS7 := hS.below hB7; replace hrow3 := hrow3.below hb7))
            | (go_at_call 14; first
              | ((with_reducible refine (cc.out _ hS4).mono ?_); rintro e w5 ⟨v5, rfl, hT5, hb5⟩; have hB5 := below_seq hB4 hb5; have hR5 := hT5.rd; replace hrow := hrow.below hb5)
              | ((with_reducible refine (cc3.out _ hS7).mono ?_); rintro e w8 ⟨v8, rfl, hT8, hb8⟩; have hB8 := below_seq hB7 hb8; have hR8 := hT8.rd; replace hrow3 := hrow3.below hb8))
            | (go_at_call 16; first
              | ((with_reducible refine (same_t _ _ _ _ hT5 hR5 hrow).mono ?_); rintro e w6 ⟨rfl, hb6⟩; have hB6 := below_seq hB5 hb6; have hS6 := hS.below hB6; have hrow3 : RdT (w6.alloc (.cells #[.int .i64 0, .string ⟨#[]⟩, .string ⟨x.toArray⟩, .slice none 0 0, .bool false, .int .i64 1, .string ⟨#[98]⟩, .string ⟨#[]⟩, .slice none 0 0, .bool false, .int .i64 0, .string ⟨#[]⟩, .string ⟨x.toArray⟩, .slice none 0 0, .bool false] 30)) (.slice (some ⟨w6.heap.size, 0, none⟩) 3 3) [⟨0, [], [], x, false⟩, ⟨1, [98], [], [], false⟩, ⟨0, [], [], x, false⟩] := (rd_new w6 [(⟨0, [], [], x, false⟩, .slice none 0 0), (⟨1, [98], [], [], false⟩, .slice none 0 0), (⟨0, [], [], x, false⟩, .slice none 0 0)] _ 3 _ rfl rfl (by intro p hp; simp only [List.mem_cons, List.not_mem_nil, or_false] at hp; rcases hp with rfl | rfl | rfl <;> exact RdA.nil _)))
              | ((with_reducible refine (same_t _ _ _ _ hT8 hR8 hrow3).mono ?_); rintro e w9 ⟨rfl, hb9⟩; have hB9 := below_seq hB8 hb9; have hS9 := hS.below hB9))
            | (go_at_call 11; ((with_reducible refine (hfix.out _ hS9).mono ?_); rintro e w10 ⟨rfl, hb10⟩)))
          go_ret
          exact ⟨rfl, below_seq hB9 hb10⟩
end Go.Proofs.YtcipgppjhhokbaaDoor
