/- The walk of boltinglaw06.TokenShapes: it returns true, whatever it is given; nothing that lay in memory turns. -/
import Derived.Test.YtcipgppjhhokbaaDoorLTokenEnds
import Derived.Test.YtcipgppjhhokbaaDoorTokZ
set_option linter.unusedVariables false
set_option linter.unusedSimpArgs false
namespace Go.Proofs.YtcipgppjhhokbaaDoor
open Go.RowKit Go.Proofs

theorem ok_num : ∀ c : UInt8, (!okB c || (!(decide (65 ≤ c.toNat) && decide (c.toNat ≤ 90)) && decide (c.toNat ≠ 32) && decide (c.toNat ≠ 9) && decide (c.toNat ≠ 10) && decide (c.toNat ≠ 12) && decide (c.toNat ≠ 13) && decide (c.toNat ≠ 62))) = true := all_u8 (by decide +kernel)
theorem ok_at {l : Txt} (h : lowerOK l = true) {k : Nat} (hk : k < l.length) : ¬ (65 ≤ l[k].toNat ∧ l[k].toNat ≤ 90) ∧ l[k].toNat ≠ 32 ∧ l[k].toNat ≠ 9 ∧ l[k].toNat ≠ 10 ∧ l[k].toNat ≠ 12 ∧ l[k].toNat ≠ 13 ∧ l[k].toNat ≠ 62 := by
  unfold lowerOK at h
  rw [List.all_eq_true] at h
  have h1 := h _ (List.getElem_mem hk)
  have h2 := ok_num l[k]
  rw [h1] at h2
  simp only [Bool.not_true, Bool.false_or, Bool.and_eq_true, Bool.not_eq_true', Bool.and_eq_false_iff, decide_eq_true_eq, decide_eq_false_iff_not] at h2
  obtain ⟨⟨⟨⟨⟨⟨a, b⟩, c⟩, d⟩, e⟩, f⟩, g⟩ := h2
  exact ⟨by omega, b, c, d, e, f, g⟩

set_option maxHeartbeats 4000000 in
set_option maxRecDepth 100000 in
theorem lower_yes (l : Txt) (hl : l.length ≤ 9223372036854775807) (h : lowerOK l = true) (w : World) :
    Calls Tryd.prog 15 #[.string ⟨l.toArray⟩] w fun e w' => e = .returned (.bool true) ∧ w = w' := by
  have hok := Lib.hid (fun (k : Nat) (hk : k < l.length) => ok_at h hk)
  clear h
  go_enter Tryd.func15, Tryd.ntmps15
  go_wp2
  go_loop [3] (fun v => ∃ (k : Nat), v = .int .i64 k ∧ k ≤ l.length) (fun v => l.length - (intOf v).toNat)
  case atStart => exact ⟨0, rfl, by omega⟩
  case round =>
    obtain ⟨k, rfl, hk⟩ := hrel
    by_cases hlt : k < l.length
    · have hf := hok.out k hlt
      obtain ⟨n, hn⟩ : ∃ n, l[k].toNat = n := ⟨_, rfl⟩
      rw [hn] at hf
      obtain ⟨f1, f2, f3, f4, f5, f6, f7⟩ := hf
      have i2 : ¬ (n : Int) = 32 := by omega
      have i3 : ¬ (n : Int) = 9 := by omega
      have i4 : ¬ (n : Int) = 10 := by omega
      have i5 : ¬ (n : Int) = 12 := by omega
      have i6 : ¬ (n : Int) = 13 := by omega
      have i7 : ¬ (n : Int) = 62 := by omega
      by_cases h65 : 65 ≤ n
      · have i0 : (65 : Int) ≤ n := by omega
        have i1 : ¬ (n : Int) ≤ 90 := by omega
        go_wp2
        exact ⟨⟨k + 1, rfl, by omega⟩, by simp [intOf]; omega⟩
      · have i0 : ¬ (65 : Int) ≤ n := by omega
        go_wp2
        exact ⟨⟨k + 1, rfl, by omega⟩, by simp [intOf]; omega⟩
    · go_wp2
      go_ret
      exact ⟨rfl, rfl⟩

theorem nodup_at {l : List (Txt × Txt)} (h : (l.map Prod.fst).Nodup) {j k : Nat} (hjk : j < k) (hk : k < l.length) : l[j].1 ≠ l[k].1 := by
  intro e
  have h2 := List.pairwise_iff_getElem.1 h j k (by simp; omega) (by simpa using hk) hjk
  simp only [List.getElem_map] at h2
  exact h2 e
theorem names_short {x : Txt} (hx : x.length ≤ 500) (t : Tok) (ht : t ∈ cutL x) : t.name.length ≤ 9223372036854775807 ∧ ∀ k (hk : k < t.attrs.length), t.attrs[k].1.length ≤ 9223372036854775807 := by
  have hw : wts (cutL x) ≤ 20 * x.length := by
    have := runN_len (x.length + 1) [] x
    unfold cutL runF
    simpa using this
  have h1 : wt t ≤ wts (cutL x) := by
    obtain ⟨a, b, e⟩ := List.append_of_mem ht
    rw [e, wts_app, wts_cons]
    omega
  have hs := cut_ok x t ht
  obtain ⟨kk, nm, at0, d, sf⟩ := t
  have hge := hs.ge
  have hle := hs.le
  simp only at hge hle ⊢
  by_cases k1 : kk = 1
  · subst k1
    rw [wt_k1] at h1
    simp only [taggedW, List.length_append, List.length_cons, List.length_nil] at h1
    refine ⟨by omega, fun k hk => ?_⟩
    have := attrsW_part hk
    omega
  · obtain ⟨ha, hb⟩ := hs.start k1
    simp only at ha hb
    subst ha hb
    refine ⟨?_, fun k hk => by simp at hk⟩
    by_cases k2 : kk = 2
    · subst k2
      have hd := (hs.tag (.inr rfl)).2
      simp only at hd
      subst hd
      rw [wt_k2] at h1
      simp only [taggedW, List.length_append, List.length_cons, List.length_nil] at h1
      omega
    · have := hs.other k1 k2
      simp only at this
      subst this
      simp

set_option maxHeartbeats 8000000 in
set_option maxRecDepth 100000 in
theorem tokenShapes_w (l1 : Txt) (hl1 : l1.length ≤ 9223372036854775807) (w : World) (hS : Std w) :
    Calls Tryd.prog 4 #[.string ⟨l1.toArray⟩] w fun e w' => e = .returned (.bool true) ∧ Below w.heap.size w w' := by
  have hfix := Lib.hid (fun W hS => fixed6_c W hS)
  have hx : (List.take (min (l1.length : Int) 500).toNat l1).length ≤ 500 := take_min_len l1 500
  obtain ⟨x, hxe⟩ : ∃ x, List.take (min (l1.length : Int) 500).toNat l1 = x := ⟨_, rfl⟩
  rw [hxe] at hx
  have hsl := Lib.hid (cut_ok x)
  have hnames := Lib.hid (fun (t : Tok) (ht : t ∈ cutL x) => names_short (x := x) hx t ht)
  have c1 := Lib.hid (fun W hS => cut_g x (by omega) W hS)
  generalize cutL x = L at *
  go_enter Tryd.func4, Tryd.ntmps4
  go_wp2_with (go_at_call 14; ((with_reducible refine (c1.out _ hS).mono ?_); rintro e w1 ⟨v1, rfl, hT1, hb1⟩; obtain ⟨ad1, cp1, rfl⟩ := hT1.len; have hR1 := hT1.rd; have hbnd := hT1.bound.1; have hbna := hT1.bound.2))
  go_loopw [4] (fun vi wr => ∃ (i : Nat), vi = .int .i64 i ∧ i ≤ L.length ∧ Below w1.heap.size w1 wr) (fun vi _ => L.length - (intOf vi).toNat)
  case atStart => exact ⟨0, rfl, by omega, Below.refl _ _⟩
  case round =>
    obtain ⟨i, rfl, hi, hB⟩ := hrel
    by_cases hlt : i < L.length
    · obtain ⟨ax, cx, e1, hrd⟩ := hR1.below hB
      simp only [Value.slice.injEq] at e1
      obtain ⟨rfl, _, rfl⟩ := e1
      obtain ⟨g, o, va, rfl, z0, z1, z2, z3, z4, hA⟩ := hrd i hlt
      have hlI : (i : Int) < L.length := by omega
      have hsh := hsl.out _ (List.getElem_mem hlt)
      have hnms := hnames.out _ (List.getElem_mem hlt)
      have hab := hbna _ (List.getElem_mem hlt)
      clear hrd
      generalize L[i] = tk at *
      obtain ⟨kk, nm, at0, d, sf⟩ := tk
      simp only at z0 z1 z2 z3 z4 hA hnms hab
      obtain ⟨hnl, hattb⟩ := hnms
      replace hattb := Lib.hid hattb
      obtain ⟨ad3, cp3, rfl, hA0⟩ := id hA
      have hnt := new_cells wr #[.int .i64 kk, .string ⟨nm.toArray⟩, .string ⟨d.toArray⟩, .slice ad3 at0.length cp3, .bool sf] 30
      have hBt := hB.alloc hB.size (.cells #[.int .i64 kk, .string ⟨nm.toArray⟩, .string ⟨d.toArray⟩, .slice ad3 at0.length cp3, .bool sf] 30)
      have hAt := hA.below ((Below.refl _ wr).alloc (Nat.le_refl _) (.cells #[.int .i64 kk, .string ⟨nm.toArray⟩, .string ⟨d.toArray⟩, .slice ad3 at0.length cp3, .bool sf] 30))
      obtain ⟨⟨p0, p1, p2, p3, p4⟩, p5⟩ := five_facts hnt
      clear hA0
      have hge := hsh.ge
      have hle := hsh.le
      simp only at hge hle
      rcases (by omega : kk = 0 ∨ kk = 1 ∨ kk = 2 ∨ kk = 3 ∨ kk = 4) with rfl | rfl | rfl | rfl | rfl
      · have hnm : nm = [] := hsh.other (by simp) (by simp)
        obtain ⟨hat0, hsf⟩ := hsh.start (by simp)
        simp only at hnm hat0 hsf
        subst hnm hat0 hsf
        have hd0 : (d == []) = false := by simpa using hsh.text rfl
        clear hsh
        go_wp2
        go_loopw [7] (fun vk wx => vk = .int .i64 0 ∧ Below w1.heap.size w1 wx ∧ wx.heap[wr.heap.size]? = some (.cells #[.int .i64 0, .string ⟨([] : Txt).toArray⟩, .string ⟨d.toArray⟩, .slice ad3 0 cp3, .bool false] 30 (0, 0))) (fun _ _ => 0)
        case atStart => exact ⟨rfl, hBt, hnt⟩
        case round =>
          obtain ⟨rfl, hBx, hntx⟩ := hrel
          obtain ⟨⟨r0, r1, r2, r3, r4⟩, r5⟩ := five_facts hntx
          go_wp2
          exact ⟨⟨i + 1, rfl, by omega, hBx⟩, by simp [intOf]; omega⟩
      · obtain ⟨hname, hdd⟩ := hsh.tag (.inl rfl)
        have hattrs := hsh.attrs
        simp only at hdd hname hattrs
        subst hdd
        have hn0 : (nm == []) = false := by simpa using hname.ne
        have clow := Lib.hid (fun W => lower_yes nm hnl hname.ok W)
        have heach := Lib.hid (fun (k : Nat) (hk : k < at0.length) => hattrs.each _ (List.getElem_mem hk))
        have honce := Lib.hid (fun (j k : Nat) (hjk : j < k) (hk : k < at0.length) => nodup_at hattrs.once hjk hk)
        clear hsh hname hattrs
        go_wp2_with (go_at_call 15; ((with_reducible refine (clow.out _).mono ?_); rintro e w3 ⟨rfl, rfl⟩))
        clear z0 z1 z2 z3 z4 hA
        generalize wr.alloc (.cells #[.int .i64 1, .string ⟨nm.toArray⟩, .string ⟨([] : Txt).toArray⟩, .slice ad3 at0.length cp3, .bool sf] 30) = W0 at *
        generalize wr.heap.size = tb at *
        go_loopw [7] (fun vk wx => ∃ (k : Nat), vk = .int .i64 k ∧ k ≤ at0.length ∧ Below W0.heap.size W0 wx) (fun vk _ => at0.length - (intOf vk).toNat)
        case atStart => exact ⟨0, rfl, by omega, Below.refl _ _⟩
        case round =>
          obtain ⟨k, rfl, hk, hBx⟩ := hrel
          obtain ⟨⟨p0, p1, p2, p3, p4⟩, p5⟩ := five_facts (heap_below hnt hBx)
          by_cases hkl : k < at0.length
          · obtain ⟨x1, y1, e1, t1⟩ := hAt.below hBx
            simp only [Value.slice.injEq] at e1
            obtain ⟨rfl, _, rfl⟩ := e1
            obtain ⟨g3, o3, rfl, z0, z1⟩ := t1 k hkl
            have hkI : (k : Int) < at0.length := by omega
            have hnk := heach.out k hkl
            have hok := Lib.hid (fun (j : Nat) (hj : j < k) => honce.out j k hj hkl)
            have hal := hattb.out k hkl
            generalize at0[k] = av at *
            obtain ⟨av1, av2⟩ := av
            simp only at z0 z1 hnk hok hal
            have hav0 : (av1 == []) = false := by simpa using hnk.ne
            have clow2 := Lib.hid (fun W => lower_yes av1 hal hnk.ok W)
            clear hnk
            go_wp2_with (go_at_call 15; ((with_reducible refine (clow2.out _).mono ?_); rintro e w3 ⟨rfl, rfl⟩))
            go_loopw [8] (fun vj wy => ∃ (j : Nat), vj = .int .i64 j ∧ j ≤ k ∧ Below wr.heap.size wr wy) (fun vj _ => k - (intOf vj).toNat)
            case atStart => exact ⟨0, rfl, by omega, Below.refl _ _⟩
            case round =>
              obtain ⟨j, rfl, hj, hBy⟩ := hrel
              obtain ⟨⟨r0, r1, r2, r3, r4⟩, r5⟩ := five_facts (heap_below (heap_below hnt hBx) hBy)
              by_cases hjk : j < k
              · obtain ⟨x2, y2, e2, t2⟩ := (hAt.below hBx).below hBy
                simp only [Value.slice.injEq] at e2
                obtain ⟨e2, _, _⟩ := e2
                obtain ⟨g4, o4, e3, z2, z3⟩ := t2 j (by omega)
                subst e3
                simp only [Option.some.injEq, Addr.mk.injEq, and_true] at e2
                obtain ⟨rfl, rfl⟩ := e2
                have z4 := cell_keep z0 hBy
                have hjI : (j : Int) < at0.length := by omega
                have hkI2 : (j : Int) < k := by omega
                have hne := hok.out j hjk
                have hneB : (at0[j].1 == av1) = false := by simpa using hne
                generalize at0[j].1 = aj at *
                go_wp2
                go_region
                all_goals
                  go_wp2
                  exact ⟨⟨j + 1, rfl, by omega, hBy.drew⟩, by simp [intOf]; omega⟩
              · go_wp2
                exact ⟨⟨k + 1, rfl, by omega, below_seq hBx hBy⟩, by simp [intOf]; omega⟩
          · go_wp2
            exact ⟨⟨i + 1, rfl, by omega, below_then hBt (by have := hBt.size; omega) hBx⟩, by simp [intOf]; omega⟩
      · obtain ⟨hname, hdd⟩ := hsh.tag (.inr rfl)
        obtain ⟨hat0, hsf⟩ := hsh.start (by simp)
        simp only at hdd hat0 hsf hname
        subst hdd hat0 hsf
        have hn0 : (nm == []) = false := by simpa using hname.ne
        have clow := Lib.hid (fun W => lower_yes nm hnl hname.ok W)
        clear hsh hname
        go_wp2_with (go_at_call 15; ((with_reducible refine (clow.out _).mono ?_); rintro e w3 ⟨rfl, rfl⟩))
        go_loopw [7] (fun vk wx => vk = .int .i64 0 ∧ Below w1.heap.size w1 wx ∧ wx.heap[wr.heap.size]? = some (.cells #[.int .i64 2, .string ⟨nm.toArray⟩, .string ⟨([] : Txt).toArray⟩, .slice ad3 0 cp3, .bool false] 30 (0, 0))) (fun _ _ => 0)
        case atStart => exact ⟨rfl, hBt, hnt⟩
        case round =>
          obtain ⟨rfl, hBx, hntx⟩ := hrel
          obtain ⟨⟨r0, r1, r2, r3, r4⟩, r5⟩ := five_facts hntx
          go_wp2
          exact ⟨⟨i + 1, rfl, by omega, hBx⟩, by simp [intOf]; omega⟩
      · have hnm : nm = [] := hsh.other (by simp) (by simp)
        obtain ⟨hat0, hsf⟩ := hsh.start (by simp)
        simp only at hnm hat0 hsf
        subst hnm hat0 hsf
        clear hsh
        go_wp2
        go_loopw [7] (fun vk wx => vk = .int .i64 0 ∧ Below w1.heap.size w1 wx ∧ wx.heap[wr.heap.size]? = some (.cells #[.int .i64 3, .string ⟨([] : Txt).toArray⟩, .string ⟨d.toArray⟩, .slice ad3 0 cp3, .bool false] 30 (0, 0))) (fun _ _ => 0)
        case atStart => exact ⟨rfl, hBt, hnt⟩
        case round =>
          obtain ⟨rfl, hBx, hntx⟩ := hrel
          obtain ⟨⟨r0, r1, r2, r3, r4⟩, r5⟩ := five_facts hntx
          go_wp2
          exact ⟨⟨i + 1, rfl, by omega, hBx⟩, by simp [intOf]; omega⟩
      · have hnm : nm = [] := hsh.other (by simp) (by simp)
        obtain ⟨hat0, hsf⟩ := hsh.start (by simp)
        simp only at hnm hat0 hsf
        subst hnm hat0 hsf
        clear hsh
        go_wp2
        go_loopw [7] (fun vk wx => vk = .int .i64 0 ∧ Below w1.heap.size w1 wx ∧ wx.heap[wr.heap.size]? = some (.cells #[.int .i64 4, .string ⟨([] : Txt).toArray⟩, .string ⟨d.toArray⟩, .slice ad3 0 cp3, .bool false] 30 (0, 0))) (fun _ _ => 0)
        case atStart => exact ⟨rfl, hBt, hnt⟩
        case round =>
          obtain ⟨rfl, hBx, hntx⟩ := hrel
          obtain ⟨⟨r0, r1, r2, r3, r4⟩, r5⟩ := five_facts hntx
          go_wp2
          exact ⟨⟨i + 1, rfl, by omega, hBx⟩, by simp [intOf]; omega⟩
    · go_wp2_with (go_at_call 11; ((with_reducible refine (hfix.out _ (hS.below (below_seq hb1 hB))).mono ?_); rintro e w7 ⟨rfl, hb7⟩))
      go_ret
      exact ⟨rfl, below_seq (below_seq hb1 hB) hb7⟩
end Go.Proofs.YtcipgppjhhokbaaDoor
