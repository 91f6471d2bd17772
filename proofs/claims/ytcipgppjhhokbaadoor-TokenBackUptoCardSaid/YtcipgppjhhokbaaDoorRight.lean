/- Contracts of names.plain, Attr and Right: whether a text may be a name. Nothing that lay in memory turns. -/
import Derived.Test.YtcipgppjhhokbaaDoorSame
import Derived.Test.YtcipgppjhhokbaaDoorTokW
set_option linter.unusedVariables false
set_option linter.unusedSimpArgs false
namespace Go.Proofs.YtcipgppjhhokbaaDoor
open Go.RowKit Go.Proofs

theorem plain_no {s but : Txt} {k : Nat} (hk : k < s.length) (h : (spaceB s[k] || (decide (65 ≤ s[k].toNat) && decide (s[k].toNat ≤ 90)) || s[k] == 0 || but.contains s[k]) = true) : plainB s but = false := by
  unfold plainB
  rw [Bool.and_eq_false_iff]
  left
  rw [List.all_eq_false]
  exact ⟨s[k], List.getElem_mem hk, by rw [h]; simp⟩
theorem plain_all {s but : Txt} (h : ∀ k (hk : k < s.length), (spaceB s[k] || (decide (65 ≤ s[k].toNat) && decide (s[k].toNat ≤ 90)) || s[k] == 0 || but.contains s[k]) = false) : plainB s but = !(s == []) := by
  unfold plainB
  have h1 : s.all (fun c => !(spaceB c || (decide (65 ≤ c.toNat) && decide (c.toNat ≤ 90)) || c == 0 || but.contains c)) = true := by
    rw [List.all_eq_true]
    intro c hc
    obtain ⟨k, hk, rfl⟩ := List.getElem_of_mem hc
    rw [h k hk]
    rfl
  rw [h1, Bool.true_and]
  cases s <;> rfl
theorem u8_zero : ∀ c : UInt8, ((c == 0) == decide (c.toNat = 0)) = true := all_u8 (by decide +kernel)

set_option maxHeartbeats 4000000 in
set_option maxRecDepth 100000 in
theorem plain_c (s but : Txt) (hs : s.length ≤ 9223372036854775807) (hb : but.length ≤ 1000) (w : World) :
    Calls Tryd.prog 30 #[.string ⟨s.toArray⟩, .string ⟨but.toArray⟩] w fun e w' => e = .returned (.bool (plainB s but)) ∧ Below w.heap.size w w' := by
  go_enter Tryd.func30, Tryd.ntmps30
  go_wp2
  go_loopw [9] (fun v wr => ∃ (k : Nat), v = .int .i64 k ∧ k ≤ s.length ∧ Below w.heap.size w wr ∧ Hid (∀ j (hj : j < s.length), j < k → (spaceB s[j] || (decide (65 ≤ s[j].toNat) && decide (s[j].toNat ≤ 90)) || s[j] == 0 || but.contains s[j]) = false)) (fun v _ => s.length - (intOf v).toNat)
  case atStart => exact ⟨0, rfl, by omega, Below.refl _ _, fun j _ h => by omega⟩
  case round =>
    obtain ⟨k, rfl, hk, hB, hno⟩ := hrel
    by_cases hlt : k < s.length
    · have hp := Lib.hid (@plain_no s but k hlt)
      have hsp := spaceI_u8 s[k]
      have hz := beq_iff_eq.1 (u8_zero s[k])
      have hext : Hid ((spaceB s[k] || (decide (65 ≤ s[k].toNat) && decide (s[k].toNat ≤ 90)) || s[k] == 0 || but.contains s[k]) = false → ∀ j (hj : j < s.length), j < k + 1 → (spaceB s[j] || (decide (65 ≤ s[j].toNat) && decide (s[j].toNat ≤ 90)) || s[j] == 0 || but.contains s[j]) = false) := by
        intro h j hj hjk
        by_cases e : j = k
        · subst e; exact h
        · exact hno.out j hj (by omega)
      have hmem : Hid (but.contains s[k] = true ↔ ∃ j, ∃ hj : j < but.length, but[j].toNat = s[k].toNat) := by
        show but.contains s[k] = true ↔ _
        rw [List.contains_iff_mem]
        constructor
        · intro h
          obtain ⟨j, hj, e⟩ := List.getElem_of_mem h
          exact ⟨j, hj, by rw [e]⟩
        · rintro ⟨j, hj, e⟩
          rw [← UInt8.toNat_inj.1 e]
          exact List.getElem_mem hj
      have hspace := Lib.hid (fun (n : Int) W => space_i n W)
      obtain ⟨n, hn⟩ : ∃ n, s[k].toNat = n := ⟨_, rfl⟩
      rw [hn] at hp hsp hz hext hmem
      generalize spaceB s[k] = sb at *
      generalize (s[k] == 0) = zb at *
      generalize but.contains s[k] = cb at *
      subst hz
      have hsi := Lib.hid (fun W => space_i n W)
      rw [hsp] at hsi
      clear hsp hspace
      cases sb with
      | true =>
        have hpf := Lib.hid (show plainB s but = false from hp.out (by simp))
        clear hp hext hmem
        go_wp2_with (go_at_call 42; ((with_reducible refine (hsi.out _).mono ?_); rintro e w1 ⟨rfl, rfl⟩))
        go_ret
        rw [hpf.out]
        exact ⟨rfl, hB⟩
      | false =>
        by_cases hg : 65 ≤ n ∧ n ≤ 90
        · have hpf := Lib.hid (show plainB s but = false from hp.out (by simp [hg.1, hg.2]))
          have g1 : (65 : Int) ≤ n := by omega
          have g2 : (n : Int) ≤ 90 := by omega
          clear hp hext hmem
          go_wp2_with (go_at_call 42; ((with_reducible refine (hsi.out _).mono ?_); rintro e w1 ⟨rfl, rfl⟩))
          go_ret
          rw [hpf.out]
          exact ⟨rfl, hB⟩
        · by_cases h0 : n = 0
          · have hpf := Lib.hid (show plainB s but = false from hp.out (by simp [h0]))
            subst h0
            have hs0 := Lib.hid (fun W => space_i 0 W)
            rw [show spaceI 0 = false from by decide] at hs0
            clear hp hext hmem hg
            go_wp2_with (go_at_call 42; ((with_reducible refine (hs0.out _).mono ?_); rintro e w1 ⟨rfl, rfl⟩))
            go_ret
            rw [hpf.out]
            exact ⟨rfl, hB⟩
          · have hgd : (decide (65 ≤ n) && decide (n ≤ 90)) = false := by
              rw [Bool.and_eq_false_iff, decide_eq_false_iff_not, decide_eq_false_iff_not]
              omega
            have h0I : ¬ (n : Int) = 0 := by omega
            rw [hgd, decide_eq_false h0] at hp hext
            simp only [Bool.false_or] at hp hext
            have hp2 := Lib.hid (fun h => hp.out h)
            have hext2 := Lib.hid (fun h => hext.out h)
            clear hp hext hgd
            by_cases hge : 65 ≤ n
            · have g1 : (65 : Int) ≤ n := by omega
              have g2 : ¬ (n : Int) ≤ 90 := by omega
              go_wp2_with (go_at_call 42; ((with_reducible refine (hsi.out _).mono ?_); rintro e w1 ⟨rfl, rfl⟩))
              go_loopw [36] (fun v wx => ∃ (j : Nat), v = .int .i64 j ∧ j ≤ but.length ∧ Below wr.heap.size wr wx ∧ Hid (∀ i (hi : i < but.length), i < j → but[i].toNat ≠ n)) (fun v _ => but.length - (intOf v).toNat)
              case atStart => exact ⟨0, rfl, by omega, Below.refl _ _, fun j _ h => by omega⟩
              case round =>
                obtain ⟨j, rfl, hj, hBx, hnb⟩ := hrel
                by_cases hjl : j < but.length
                · obtain ⟨m, hm⟩ : ∃ m, but[j].toNat = m := ⟨_, rfl⟩
                  have hm' := Lib.hid hm
                  have hjI : (j : Int) < but.length := by omega
                  have hkI : (k : Int) < s.length := by omega
                  by_cases hmn : n = m
                  · subst hmn
                    have hpf := Lib.hid (show plainB s but = false from hp2.out (hmem.out.2 ⟨j, hjl, hm'.out⟩))
                    clear hp2 hext2 hmem hnb
                    go_wp2
                    go_region
                    all_goals
                      go_wp2
                      go_ret
                      rw [hpf.out]
                      exact ⟨rfl, below_seq hB (hBx.drew)⟩
                  · have hmnI : ¬ (n : Int) = m := by omega
                    have hnb2 : Hid (∀ i (hi : i < but.length), i < j + 1 → but[i].toNat ≠ n) := by
                      intro i hi hij
                      by_cases e : i = j
                      · subst e; rw [hm'.out]; exact fun e => hmn e.symm
                      · exact hnb.out i hi (by omega)
                    clear hnb
                    go_wp2
                    go_region
                    all_goals
                      go_wp2
                      exact ⟨⟨j + 1, rfl, by omega, hBx.drew, hnb2⟩, by simp [intOf]; omega⟩
                · have hcb : cb = false := by
                    cases hc : cb with
                    | false => rfl
                    | true =>
                      obtain ⟨i, hi, e⟩ := hmem.out.1 hc
                      exact absurd e (hnb.out i hi (by omega))
                  have hno2 := Lib.hid (hext2.out hcb)
                  clear hp2 hext2 hmem hnb hno
                  go_wp2
                  exact ⟨⟨k + 1, rfl, by omega, below_seq hB hBx, hno2⟩, by simp [intOf]; omega⟩
            · have g1 : ¬ (65 : Int) ≤ n := by omega
              go_wp2_with (go_at_call 42; ((with_reducible refine (hsi.out _).mono ?_); rintro e w1 ⟨rfl, rfl⟩))
              go_loopw [36] (fun v wx => ∃ (j : Nat), v = .int .i64 j ∧ j ≤ but.length ∧ Below wr.heap.size wr wx ∧ Hid (∀ i (hi : i < but.length), i < j → but[i].toNat ≠ n)) (fun v _ => but.length - (intOf v).toNat)
              case atStart => exact ⟨0, rfl, by omega, Below.refl _ _, fun j _ h => by omega⟩
              case round =>
                obtain ⟨j, rfl, hj, hBx, hnb⟩ := hrel
                by_cases hjl : j < but.length
                · obtain ⟨m, hm⟩ : ∃ m, but[j].toNat = m := ⟨_, rfl⟩
                  have hm' := Lib.hid hm
                  have hjI : (j : Int) < but.length := by omega
                  have hkI : (k : Int) < s.length := by omega
                  by_cases hmn : n = m
                  · subst hmn
                    have hpf := Lib.hid (show plainB s but = false from hp2.out (hmem.out.2 ⟨j, hjl, hm'.out⟩))
                    clear hp2 hext2 hmem hnb
                    go_wp2
                    go_region
                    all_goals
                      go_wp2
                      go_ret
                      rw [hpf.out]
                      exact ⟨rfl, below_seq hB (hBx.drew)⟩
                  · have hmnI : ¬ (n : Int) = m := by omega
                    have hnb2 : Hid (∀ i (hi : i < but.length), i < j + 1 → but[i].toNat ≠ n) := by
                      intro i hi hij
                      by_cases e : i = j
                      · subst e; rw [hm'.out]; exact fun e => hmn e.symm
                      · exact hnb.out i hi (by omega)
                    clear hnb
                    go_wp2
                    go_region
                    all_goals
                      go_wp2
                      exact ⟨⟨j + 1, rfl, by omega, hBx.drew, hnb2⟩, by simp [intOf]; omega⟩
                · have hcb : cb = false := by
                    cases hc : cb with
                    | false => rfl
                    | true =>
                      obtain ⟨i, hi, e⟩ := hmem.out.1 hc
                      exact absurd e (hnb.out i hi (by omega))
                  have hno2 := Lib.hid (hext2.out hcb)
                  clear hp2 hext2 hmem hnb hno
                  go_wp2
                  exact ⟨⟨k + 1, rfl, by omega, below_seq hB hBx, hno2⟩, by simp [intOf]; omega⟩
    · have hq := Lib.hid (plain_all (s := s) (but := but) fun j hj => hno.out j hj (by omega))
      go_wp2
      go_ret
      rw [hq.out]
      exact ⟨ret_b (by cases s <;> rfl), hB⟩

theorem attr_c (s : Txt) (hs : s.length ≤ 9223372036854775807) (w : World) :
    Calls Tryd.prog 17 #[.string ⟨s.toArray⟩] w fun e w' => e = .returned (.bool (attrB s)) ∧ Below w.heap.size w w' := by
  have h1 := Lib.hid (fun W => plain_c s [47, 62, 34, 39, 60, 61] hs (by simp) W)
  unfold attrB
  generalize plainB s [47, 62, 34, 39, 60, 61] = b at *
  go_enter Tryd.func17, Tryd.ntmps17
  go_wp2_with (go_at_call 30; ((with_reducible refine (h1.out _).mono ?_); rintro e w1 ⟨rfl, hb⟩))
  go_ret
  exact ⟨rfl, hb⟩
set_option maxRecDepth 100000 in
theorem right_c (s : Txt) (hs : s.length ≤ 9223372036854775807) (w : World) :
    Calls Tryd.prog 18 #[.string ⟨s.toArray⟩] w fun e w' => e = .returned (.bool (rightB s)) ∧ Below w.heap.size w w' := by
  have h1 := Lib.hid (fun W => plain_c s [47, 62] hs (by simp) W)
  have hr : Hid (rightB s = (plainB s [47, 62] && letterL s)) := rfl
  cases s with
  | nil =>
    rw [show plainB [] [47, 62] = false from rfl] at h1
    go_enter Tryd.func18, Tryd.ntmps18
    go_wp2_with (go_at_call 30; ((with_reducible refine (h1.out _).mono ?_); rintro e w1 ⟨rfl, hb⟩))
    go_ret
    rw [hr.out]
    exact ⟨rfl, hb⟩
  | cons c t =>
    have hu : letterI c.toNat = letterL (c :: t) := letterI_u8 c
    have hl := Lib.hid (fun (n : Int) W => letter_i n W)
    obtain ⟨n, hn⟩ : ∃ n, (c.toNat : Int) = n := ⟨_, rfl⟩
    rw [hn] at hu
    generalize letterL (c :: t) = r at *
    generalize plainB (c :: t) [47, 62] = b at *
    cases b with
    | true =>
      go_enter Tryd.func18, Tryd.ntmps18
      go_wp2_with (first
        | (go_at_call 30; ((with_reducible refine (h1.out _).mono ?_); rintro e w1 ⟨rfl, hb⟩))
        | (go_at_call 31; ((with_reducible refine (letter_i _ _).mono ?_); rintro e w2 ⟨rfl, rfl⟩)))
      go_ret
      rw [hr.out]
      exact ⟨by first | rfl | (simp only [Bool.true_and]; rfl), hb⟩
    | false =>
      go_enter Tryd.func18, Tryd.ntmps18
      go_wp2_with (first
        | (go_at_call 30; ((with_reducible refine (h1.out _).mono ?_); rintro e w1 ⟨rfl, hb⟩)))
      go_ret
      rw [hr.out]
      exact ⟨rfl, hb⟩
end Go.Proofs.YtcipgppjhhokbaaDoor
