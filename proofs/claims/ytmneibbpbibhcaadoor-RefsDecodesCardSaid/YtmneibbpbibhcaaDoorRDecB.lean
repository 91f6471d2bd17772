/- Contracts of boltingref03's end and meant. Nothing that lay in memory turns. -/
import Derived.Test.YtmneibbpbibhcaaDoorRDecA
import Derived.Test.YtmneibbpbibhcaaDoorMoreP
set_option linter.unusedVariables false
set_option linter.unusedSimpArgs false
namespace Go.Proofs.YtmneibbpbibhcaaDoor
open Go.RowKit Go.Proofs

def endL (l : List UInt8) (k : Nat) : Int := if (cut1 59 (l.drop k)).2.2 then (k : Int) + (cut1 59 (l.drop k)).1.length else -1
theorem endL_hit {l : List UInt8} {k : Nat} (hk : k < l.length) (h : l[k].toNat = 59) : endL l k = k := by
  unfold endL
  rw [List.drop_eq_getElem_cons hk, u8_eq h (by omega)]
  simp [cut1]
theorem endL_step {l : List UInt8} {k : Nat} (hk : k < l.length) (h : l[k].toNat ≠ 59) : endL l k = endL l (k + 1) := by
  have hne : l[k] ≠ 59 := fun e => h (by rw [e]; rfl)
  unfold endL
  rw [List.drop_eq_getElem_cons hk, cut1, if_neg hne]
  simp only [List.length_cons]
  split
  · push_cast; omega
  · rfl
theorem endL_out {l : List UInt8} {k : Nat} (hk : l.length ≤ k) : endL l k = -1 := by
  unfold endL
  rw [List.drop_eq_nil_of_le hk]
  rfl
set_option maxHeartbeats 1000000 in
set_option maxRecDepth 100000 in
theorem rend_c (l : List UInt8) (hl : l.length ≤ 1000000000) (k0 : Nat) (h0 : k0 ≤ l.length) (w : World) :
    Calls Tryd.prog 60 #[.string ⟨l.toArray⟩, .int .i64 k0] w fun e w' => e = .returned (.int .i64 (endL l k0)) ∧ w = w' := by
  go_enter Tryd.func60, Tryd.ntmps60
  go_wp2
  go_loop [5] (fun vi => ∃ (k : Nat), vi = .int .i64 k ∧ k ≤ l.length ∧ Hid (endL l k0 = endL l k)) (fun vi => l.length - (intOf vi).toNat)
  case atStart => exact ⟨k0, rfl, h0, rfl⟩
  case round =>
    obtain ⟨k, rfl, hk, hh⟩ := hrel
    by_cases hlt : k < l.length
    · obtain ⟨n, hn⟩ : ∃ n, l[k].toNat = n := ⟨_, rfl⟩
      have hn' := Lib.hid hn
      go_wp2
      all_goals (simp only [beq_iff_eq, beq_eq_false_iff_ne, ne_eq] at *)
      · go_ret
        refine ⟨ret_i64 ?_, rfl⟩
        rw [hh.out, endL_hit hlt (by rw [hn'.out]; omega)]
      · refine ⟨⟨k + 1, rfl, by omega, ?_⟩, by simp [intOf]; omega⟩
        exact hh.out.trans (endL_step hlt (by rw [hn'.out]; omega))
    · have hv := Lib.hid (hh.out.trans (endL_out (by omega)))
      go_wp2
      go_ret
      rw [hv.out]
      exact ⟨rfl, rfl⟩

def rmL (l : List UInt8) : List UInt8 × Bool := if kindL l = 2 then (codeL (valL 16 (l.drop 2)).1, (valL 16 (l.drop 2)).2) else if kindL l = 1 then (codeL (valL 10 l.tail).1, (valL 10 l.tail).2) else namedL l
theorem val_dig (b : Nat) (l : List UInt8) : (valL b l).2 = digitsL b l := by
  unfold valL digitsL
  split
  · rename_i h
    rw [h, Bool.true_and]
  · rename_i h
    have h : l.all (fun c => digN b c.toNat) = false := by simpa using h
    rw [h]
    rfl
theorem val_code {b : Nat} {l : List UInt8} (h : digitsL b l = true) : codeL (valL b l).1 = codeL (numN b l) := by
  unfold digitsL at h
  rw [Bool.and_eq_true] at h
  unfold valL
  rw [if_pos h.1]
  by_cases hc : (numN b l : Int) ≤ 1114112
  · rw [Int.min_eq_left hc]
  · rw [Int.min_eq_right (by omega), codeL_big _ (by omega), codeL_big _ (by omega)]
theorem rm_is (l : List UInt8) : (rmL l).2 = (meantL l).2 := by
  unfold rmL meantL codedL
  split
  · simp only [val_dig]; split <;> simp_all
  · split
    · simp only [val_dig]; split <;> simp_all
    · rfl
theorem rm_what {l : List UInt8} (h : (meantL l).2 = true) : (rmL l).1 = (meantL l).1 := by
  unfold meantL codedL at h
  unfold rmL meantL codedL
  split at h
  · split at h
    · rename_i h1 h2
      rw [if_pos h1, if_pos h1, if_pos h2]
      exact val_code h2
    · cases h
  · rename_i h0
    rw [if_neg h0, if_neg h0]
    split at h
    · split at h
      · rename_i h1 h2
        rw [if_pos h1, if_pos h1, if_pos h2]
        exact val_code h2
      · cases h
    · rename_i h1
      rw [if_neg h1, if_neg h1]
theorem val_bd (b : Nat) (l : List UInt8) : 0 ≤ (valL b l).1 ∧ (valL b l).1 ≤ 1114112 := by
  unfold valL
  split
  · simp only; omega
  · simp
theorem kind2 {l : List UInt8} (h : 1 < l.length) (h0 : l[0].toNat = 35) (h1 : l[1].toNat = 120 ∨ l[1].toNat = 88) : kindL l = 2 := by
  match l, h, h0, h1 with
  | a :: b :: r, _, h0, h1 =>
    have ha : a = 35 := u8_eq (n := 35) h0 (by decide)
    subst ha
    rcases h1 with h1 | h1
    · have hb : b = 120 := u8_eq (n := 120) h1 (by decide)
      subst hb
      simp [kindL, Lib.hasPrefix, List.isPrefixOf]
    · have hb : b = 88 := u8_eq (n := 88) h1 (by decide)
      subst hb
      simp [kindL, Lib.hasPrefix, List.isPrefixOf]
theorem kind1 {l : List UInt8} (h : 0 < l.length) (h0 : l[0].toNat = 35) (h1 : ∀ (hh : 1 < l.length), l[1].toNat ≠ 120 ∧ l[1].toNat ≠ 88) : kindL l = 1 := by
  match l, h, h0, h1 with
  | [a], _, h0, _ =>
    have ha : a = 35 := u8_eq (n := 35) h0 (by decide)
    subst ha
    decide
  | a :: b :: r, _, h0, h1 =>
    have ha : a = 35 := u8_eq (n := 35) h0 (by decide)
    subst ha
    obtain ⟨k1, k2⟩ := h1 (by simp)
    have n1 : (120 : UInt8) ≠ b := fun e => k1 (by simp [← e])
    have n2 : (88 : UInt8) ≠ b := fun e => k2 (by simp [← e])
    simp [kindL, Lib.hasPrefix, List.isPrefixOf, n1, n2]
theorem kind0 {l : List UInt8} (h : ∀ (hh : 0 < l.length), l[0].toNat ≠ 35) : kindL l = 0 := by
  match l, h with
  | [], _ => decide
  | a :: r, h =>
    have n1 : (35 : UInt8) ≠ a := fun e => h (by simp) (by simp [← e])
    simp [kindL, Lib.hasPrefix, List.isPrefixOf, n1]

set_option maxHeartbeats 1000000 in
set_option maxRecDepth 100000 in
theorem rmeant_c (l : List UInt8) (hl : l.length ≤ 1000000000) (w : World) :
    Calls Tryd.prog 61 #[.string ⟨l.toArray⟩] w fun e w' => e = .returned (.tuple #[.string ⟨(rmL l).1.toArray⟩, .bool (rmL l).2]) ∧ Below w.heap.size w w' := by
  have v10 := Lib.hid (fun W => rvalue_10 l.tail (by have := List.length_tail (l := l); omega) W)
  have v16 := Lib.hid (fun W => rvalue_16 (l.drop 2) (by have := List.length_drop (l := l) (i := 2); omega) W)
  by_cases h0 : 0 < l.length
  · obtain ⟨c, hc⟩ : ∃ c, l[0] = c := ⟨_, rfl⟩
    by_cases h35 : c.toNat = 35
    · have t35 : ((c.toNat : Int) == 35) = true := by rw [beq_iff_eq]; omega
      by_cases h1 : 1 < l.length
      · obtain ⟨d, hd⟩ : ∃ d, l[1] = d := ⟨_, rfl⟩
        by_cases hx : d.toNat = 120 ∨ d.toNat = 88
        · have hk : rmL l = (codeL (valL 16 (l.drop 2)).1, (valL 16 (l.drop 2)).2) := by
            unfold rmL
            rw [if_pos (kind2 h1 (by rw [hc]; exact h35) (by rw [hd]; exact hx))]
          rw [hk]
          have hbd := val_bd 16 (l.drop 2)
          obtain ⟨b0, b1⟩ := hbd
          have cc := Lib.hid (fun W => rcode_c (valL 16 (l.drop 2)).1 (by omega) (by omega) W)
          clear hk h35
          generalize valL 10 l.tail = r1 at *
          obtain ⟨r1, r1'⟩ := r1
          generalize valL 16 (l.drop 2) = r at *
          obtain ⟨r, r'⟩ := r
          simp only at v10 v16 cc b0 b1
          generalize codeL r = cr at *
          have hx' : ((d.toNat : Int) == 120) = true ∨ (((d.toNat : Int) == 120) = false ∧ ((d.toNat : Int) == 88) = true) := by
            rcases hx with hx | hx
            · left; rw [beq_iff_eq]; omega
            · right; exact ⟨by rw [beq_eq_false_iff_ne]; omega, by rw [beq_iff_eq]; omega⟩
          clear hx
          rcases hx' with hx | ⟨hx, hx2⟩
          all_goals
            go_enter Tryd.func61, Tryd.ntmps61
            go_wp2_with (first
              | (go_at_call 89; first
                  | ((with_reducible refine (v10.out _).mono ?_); rintro e w1 ⟨rfl, rfl⟩)
                  | ((with_reducible refine (v16.out _).mono ?_); rintro e w1 ⟨rfl, rfl⟩))
              | (go_at_call 30; ((with_reducible refine (cc.out _).mono ?_); rintro e w1 ⟨rfl, hb⟩)))
            all_goals first | (exfalso; omega) | skip
            go_ret2
            exact ⟨rfl, hb⟩
        · have hk : rmL l = (codeL (valL 10 l.tail).1, (valL 10 l.tail).2) := by
            have h := kind1 h0 (by rw [hc]; exact h35) (fun _ => by rw [hd]; omega)
            unfold rmL
            rw [if_neg (by rw [h]; decide), if_pos h]
          rw [hk]
          have hbd := val_bd 10 l.tail
          obtain ⟨b0, b1⟩ := hbd
          have cc := Lib.hid (fun W => rcode_c (valL 10 l.tail).1 (by omega) (by omega) W)
          have x1 : ((d.toNat : Int) == 120) = false := by rw [beq_eq_false_iff_ne]; omega
          have x2 : ((d.toNat : Int) == 88) = false := by rw [beq_eq_false_iff_ne]; omega
          clear hk h35 hx v16
          generalize valL 10 l.tail = r at *
          obtain ⟨r, r'⟩ := r
          simp only at v10 cc b0 b1
          generalize codeL r = cr at *
          go_enter Tryd.func61, Tryd.ntmps61
          go_wp2_with (first
            | (go_at_call 89; ((with_reducible refine (v10.out _).mono ?_); rintro e w1 ⟨rfl, rfl⟩))
            | (go_at_call 30; ((with_reducible refine (cc.out _).mono ?_); rintro e w1 ⟨rfl, hb⟩)))
          all_goals first | (exfalso; omega) | skip
          go_ret2
          exact ⟨rfl, hb⟩
      · have hk : rmL l = (codeL (valL 10 l.tail).1, (valL 10 l.tail).2) := by
          have h := kind1 h0 (by rw [hc]; exact h35) (fun hh => absurd hh h1)
          unfold rmL
          rw [if_neg (by rw [h]; decide), if_pos h]
        rw [hk]
        have hbd := val_bd 10 l.tail
        obtain ⟨b0, b1⟩ := hbd
        have cc := Lib.hid (fun W => rcode_c (valL 10 l.tail).1 (by omega) (by omega) W)
        clear hk h35 v16
        generalize valL 10 l.tail = r at *
        obtain ⟨r, r'⟩ := r
        simp only at v10 cc b0 b1
        generalize codeL r = cr at *
        go_enter Tryd.func61, Tryd.ntmps61
        go_wp2_with (first
          | (go_at_call 89; ((with_reducible refine (v10.out _).mono ?_); rintro e w1 ⟨rfl, rfl⟩))
          | (go_at_call 30; ((with_reducible refine (cc.out _).mono ?_); rintro e w1 ⟨rfl, hb⟩)))
        all_goals first | (exfalso; omega) | skip
        go_ret2
        exact ⟨rfl, hb⟩
    · have t35 : ((c.toNat : Int) == 35) = false := by rw [beq_eq_false_iff_ne]; omega
      have hk : rmL l = namedL l := by
        have h := kind0 (l := l) (fun _ => by rw [hc]; exact h35)
        unfold rmL
        rw [if_neg (by rw [h]; decide), if_neg (by rw [h]; decide)]
      rw [hk]
      have cn := Lib.hid (fun W => rnamed_c l W)
      clear hk h35 v10 v16
      generalize namedL l = r at *
      obtain ⟨r, r'⟩ := r
      simp only at cn
      go_enter Tryd.func61, Tryd.ntmps61
      go_wp2_with (go_at_call 27; ((with_reducible refine (cn.out _).mono ?_); rintro e w1 ⟨rfl, hb⟩))
      all_goals first | (exfalso; omega) | skip
      go_ret2
      exact ⟨rfl, hb⟩
  · have hk : rmL l = namedL l := by
      have h := kind0 (l := l) (fun hh => absurd hh h0)
      unfold rmL
      rw [if_neg (by rw [h]; decide), if_neg (by rw [h]; decide)]
    rw [hk]
    have cn := Lib.hid (fun W => rnamed_c l W)
    clear hk v10 v16
    generalize namedL l = r at *
    obtain ⟨r, r'⟩ := r
    simp only at cn
    go_enter Tryd.func61, Tryd.ntmps61
    go_wp2_with (go_at_call 27; ((with_reducible refine (cn.out _).mono ?_); rintro e w1 ⟨rfl, hb⟩))
    all_goals first | (exfalso; omega) | skip
    go_ret2
    exact ⟨rfl, hb⟩
end Go.Proofs.YtmneibbpbibhcaaDoor
