/- Contracts of fold.Same, Trim and token.letter. Nothing that lay in memory turns. -/
import Derived.Test.YtcipgppjhhokbaaDoorLower
set_option linter.unusedVariables false
set_option linter.unusedSimpArgs false
namespace Go.Proofs.YtcipgppjhhokbaaDoor
open Go.RowKit Go.Proofs

def sameB (a b : Txt) : Bool := lowL a == lowL b
set_option maxRecDepth 100000 in
theorem fsame_c (a b : Txt) (ha : a.length ≤ 1000000000) (hb : b.length ≤ 1000000000) (w : World) :
    Calls Tryd.prog 43 #[.string ⟨a.toArray⟩, .string ⟨b.toArray⟩] w fun e w' => e = .returned (.bool (sameB a b)) ∧ Below w.heap.size w w' := by
  have h1 := Lib.hid (fun W => flower_c a ha W)
  have h2 := Lib.hid (fun W => flower_c b hb W)
  have hs : (lowL a == lowL b) = sameB a b := rfl
  generalize sameB a b = r at *
  generalize lowL a = la at *
  generalize lowL b = lb at *
  have hB := Below.refl w.heap.size w
  go_enter Tryd.func43, Tryd.ntmps43
  go_wp2_with (go_at_call 54; first
    | ((with_reducible refine (h1.out _).mono ?_); rintro e w1 ⟨rfl, hb⟩; replace hB := below_seq hB hb; clear hb)
    | ((with_reducible refine (h2.out _).mono ?_); rintro e w1 ⟨rfl, hb⟩; replace hB := below_seq hB hb; clear hb))
  go_ret
  exact ⟨rfl, hB⟩

set_option maxRecDepth 100000 in
theorem letter_c (l : Txt) (w : World) :
    Calls Tryd.prog 49 #[.string ⟨l.toArray⟩] w fun e w' => e = .returned (.bool (letterL l)) ∧ w = w' := by
  cases l with
  | nil =>
    go_enter Tryd.func49, Tryd.ntmps49
    go_wp2
    go_ret
    exact ⟨rfl, rfl⟩
  | cons c t =>
    have h1 := Lib.hid (fun n (hn : (c.toNat : Int) = n) W => letter_i n W)
    have hu : letterI c.toNat = letterL (c :: t) := letterI_u8 c
    obtain ⟨n, hn⟩ : ∃ n, (c.toNat : Int) = n := ⟨_, rfl⟩
    rw [hn] at hu
    generalize letterL (c :: t) = r at *
    go_enter Tryd.func49, Tryd.ntmps49
    go_wp2_with (go_at_call 31; ((with_reducible refine (letter_i _ _).mono ?_); rintro e w1 ⟨rfl, rfl⟩))
    go_ret
    exact ⟨rfl, rfl⟩

theorem trim_l0 {c : UInt8} {t : Txt} (h : spaceB c = false) : (c :: t).dropWhile spaceB = c :: t := by rw [List.dropWhile_cons, if_neg (by rw [h]; simp)]
theorem trim_l1 {c : UInt8} {t : Txt} (h : spaceB c = true) : (c :: t).dropWhile spaceB = t.dropWhile spaceB := by rw [List.dropWhile_cons, if_pos h]
theorem trim_start {s l : Txt} (h : s = l.dropWhile spaceB) : ((s.reverse).dropWhile spaceB).reverse = trimL l := by rw [h]; rfl
theorem tail_string {c : UInt8} {t : Txt} : (⟨(c :: t).toArray⟩ : ByteArray).extract 1 (t.length + 1) = ⟨t.toArray⟩ := by
  have := ext_end (c :: t) 1
  simpa using this

set_option maxHeartbeats 1000000 in
set_option maxRecDepth 100000 in
theorem ftrim_c (l : Txt) (hl : l.length ≤ 1000000000) (w : World) :
    Calls Tryd.prog 61 #[.string ⟨l.toArray⟩] w fun e w' => e = .returned (.string ⟨(trimL l).toArray⟩) ∧ w = w' := by
  go_enter Tryd.func61, Tryd.ntmps61
  go_wp2
  go_loop [0] (fun v => ∃ (s : Txt), v = .string ⟨s.toArray⟩ ∧ s.length ≤ l.length ∧ Hid (s.dropWhile spaceB = l.dropWhile spaceB)) (fun v => strLen v)
  case atStart => exact ⟨l, rfl, by omega, rfl⟩
  case round =>
    obtain ⟨s, rfl, hk, hdec⟩ := hrel
    cases s with
    | nil =>
      have hdec := Lib.hid (show ([] : Txt) = l.dropWhile spaceB from hdec.out)
      rename_i hdec0
      clear hdec0
      go_wp2_with fail
      go_loop [0] (fun v => ∃ (r : Txt), v = .string ⟨r.reverse.toArray⟩ ∧ r.length ≤ l.length ∧ Hid ((r.dropWhile spaceB).reverse = trimL l)) (fun v => strLen v)
      case atStart => exact ⟨[].reverse, by simp, by simp, trim_start hdec.out⟩
      case round =>
        obtain ⟨r, rfl, hk, hdec2⟩ := hrel
        cases r with
        | nil =>
          have he := Lib.hid (show trimL l = [] from hdec2.out.symm)
          go_wp2
          go_ret
          rw [he.out]
          exact ⟨rfl, rfl⟩
        | cons c t =>
          obtain ⟨n, hn⟩ : ∃ n, (c.toNat : Int) = n := ⟨_, rfl⟩
          have hu := spaceI_u8 c
          rw [hn] at hu
          obtain ⟨q, hq⟩ : ∃ q, (c :: t).reverse = q := ⟨_, rfl⟩
          have hql : q.length = t.length + 1 := by rw [← hq]; simp
          have hx1 : (⟨q.toArray⟩ : ByteArray).extract 0 t.length = ⟨t.reverse.toArray⟩ := by
            rw [Lib.extract_eq, mk_data_list, ← hq]
            simp
          have hget : ∀ (h : t.length < q.length), q[t.length] = c := by
            intro h
            subst hq
            simp
          rw [hq]
          have ht1 : t.length ≤ 1000000000 := by simp only [List.length_cons] at hk; omega
          have hql0 : (0 : Int) < q.length := by omega
          have hsub : (q.length : Int) - 1 = t.length := by omega
          have hne : q ≠ [] := by rw [← hq]; simp
          have hbe : (q == []) = false := by simpa using hne
          cases hb : spaceI n with
          | true =>
            rw [hb] at hu
            have hd := Lib.hid (show (t.dropWhile spaceB).reverse = trimL l by rw [← trim_l1 hu.symm]; exact hdec2.out)
            have hc := Lib.hid (fun W => space_i n W)
            rw [hb] at hc
            clear hu hb hdec2 hq
            go_wp2_with (go_at_call 42; ((with_reducible refine (hc.out _).mono ?_); rintro e w1 ⟨rfl, rfl⟩))
            exact ⟨⟨t, rfl, by simp only [List.length_cons] at hk; omega, hd⟩, by rw [strLen_mk, strLen_mk, List.length_reverse]; omega⟩
          | false =>
            rw [hb] at hu
            have hd := Lib.hid (show q = trimL l by rw [← hq, ← hdec2.out, trim_l0 hu.symm])
            have hc := Lib.hid (fun W => space_i n W)
            rw [hb] at hc
            clear hu hb hdec2 hq
            go_wp2_with (go_at_call 42; ((with_reducible refine (hc.out _).mono ?_); rintro e w1 ⟨rfl, rfl⟩))
            go_ret
            rw [← hd.out]
            exact ⟨rfl, rfl⟩
    | cons c t =>
      obtain ⟨n, hn⟩ : ∃ n, (c.toNat : Int) = n := ⟨_, rfl⟩
      have hu := spaceI_u8 c
      rw [hn] at hu
      cases hb : spaceI n with
      | true =>
        rw [hb] at hu
        have hd := Lib.hid (show t.dropWhile spaceB = l.dropWhile spaceB by rw [← trim_l1 hu.symm]; exact hdec.out)
        have hc := Lib.hid (fun W => space_i n W)
        rw [hb] at hc
        clear hu hb hdec
        go_wp2_with (go_at_call 42; ((with_reducible refine (hc.out _).mono ?_); rintro e w1 ⟨rfl, rfl⟩))
        refine ⟨⟨t, by rw [tail_string], by simp only [List.length_cons] at hk; omega, hd⟩, by rw [tail_string, strLen_mk, strLen_mk]; simp⟩
      | false =>
        rw [hb] at hu
        have hdec := Lib.hid (show c :: t = l.dropWhile spaceB by rw [← trim_l0 hu.symm]; exact hdec.out)
        rename_i hdec0
        have hc := Lib.hid (fun W => space_i n W)
        rw [hb] at hc
        clear hu hb hdec0
        go_wp2_with (go_at_call 42; ((with_reducible refine (hc.out _).mono ?_); rintro e w1 ⟨rfl, rfl⟩))
        go_loop [0] (fun v => ∃ (r : Txt), v = .string ⟨r.reverse.toArray⟩ ∧ r.length ≤ l.length ∧ Hid ((r.dropWhile spaceB).reverse = trimL l)) (fun v => strLen v)
        case atStart => exact ⟨(c :: t).reverse, by simp, by simpa using hk, trim_start hdec.out⟩
        case round =>
          obtain ⟨r, rfl, hk, hdec2⟩ := hrel
          cases r with
          | nil =>
            have he := Lib.hid (show trimL l = [] from hdec2.out.symm)
            go_wp2
            go_ret
            rw [he.out]
            exact ⟨rfl, rfl⟩
          | cons c t =>
            obtain ⟨n, hn⟩ : ∃ n, (c.toNat : Int) = n := ⟨_, rfl⟩
            have hu := spaceI_u8 c
            rw [hn] at hu
            obtain ⟨q, hq⟩ : ∃ q, (c :: t).reverse = q := ⟨_, rfl⟩
            have hql : q.length = t.length + 1 := by rw [← hq]; simp
            have hx1 : (⟨q.toArray⟩ : ByteArray).extract 0 t.length = ⟨t.reverse.toArray⟩ := by
              rw [Lib.extract_eq, mk_data_list, ← hq]
              simp
            have hget : ∀ (h : t.length < q.length), q[t.length] = c := by
              intro h
              subst hq
              simp
            rw [hq]
            have ht1 : t.length ≤ 1000000000 := by simp only [List.length_cons] at hk; omega
            have hql0 : (0 : Int) < q.length := by omega
            have hsub : (q.length : Int) - 1 = t.length := by omega
            have hne : q ≠ [] := by rw [← hq]; simp
            have hbe : (q == []) = false := by simpa using hne
            cases hb : spaceI n with
            | true =>
              rw [hb] at hu
              have hd := Lib.hid (show (t.dropWhile spaceB).reverse = trimL l by rw [← trim_l1 hu.symm]; exact hdec2.out)
              have hc := Lib.hid (fun W => space_i n W)
              rw [hb] at hc
              clear hu hb hdec2 hq
              go_wp2_with (go_at_call 42; ((with_reducible refine (hc.out _).mono ?_); rintro e w1 ⟨rfl, rfl⟩))
              exact ⟨⟨t, rfl, by simp only [List.length_cons] at hk; omega, hd⟩, by rw [strLen_mk, strLen_mk, List.length_reverse]; omega⟩
            | false =>
              rw [hb] at hu
              have hd := Lib.hid (show q = trimL l by rw [← hq, ← hdec2.out, trim_l0 hu.symm])
              have hc := Lib.hid (fun W => space_i n W)
              rw [hb] at hc
              clear hu hb hdec2 hq
              go_wp2_with (go_at_call 42; ((with_reducible refine (hc.out _).mono ?_); rintro e w1 ⟨rfl, rfl⟩))
              go_ret
              rw [← hd.out]
              exact ⟨rfl, rfl⟩
end Go.Proofs.YtcipgppjhhokbaaDoor
