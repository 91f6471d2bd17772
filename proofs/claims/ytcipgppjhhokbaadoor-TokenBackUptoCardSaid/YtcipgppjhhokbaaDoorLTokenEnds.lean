/- The walk of boltinglaw06.TokenEnds: it returns true, whatever it is given; nothing that lay in memory turns. -/
import Derived.Test.YtcipgppjhhokbaaDoorFixed6
set_option linter.unusedVariables false
set_option linter.unusedSimpArgs false
namespace Go.Proofs.YtcipgppjhhokbaaDoor
open Go.RowKit Go.Proofs

theorem Toks.bound {w : World} {base : Nat} {v : Value} {l : List Tok} (h : Toks w base v l) : l.length ≤ 9223372036854775807 ∧ ∀ t ∈ l, t.attrs.length ≤ 9223372036854775807 := by
  have own : ∀ {w : World} {base : Nat} {e : TypeId} {size n : Nat} {v : Value} {xs : List Value}, w.ownsRow base e size v n xs → n ≤ 9223372036854775807 := by
    intro w base e size n v xs h
    rcases h.2 with ⟨_, h0⟩ | ⟨g, cap, cur, _, _, _, hn, hc, _⟩
    · omega
    · unfold maxLen at hc
      omega
  obtain ⟨ps, k1, k2, k3⟩ := h
  refine ⟨own k2, ?_⟩
  subst k1
  intro t ht
  obtain ⟨p, hp, rfl⟩ := List.mem_map.1 ht
  exact own (k3 p hp)
theorem take_min_len (l : List UInt8) (n : Nat) : (List.take (min (l.length : Int) n).toNat l).length ≤ n := by
  rw [List.length_take]
  omega
theorem not_mem_of {x : Txt} {c : UInt8} (h : ∀ j (hj : j < x.length), x[j].toNat ≠ c.toNat) : c ∉ x := by
  intro hm
  obtain ⟨j, hj, e⟩ := List.getElem_of_mem hm
  exact h j hj (by rw [e])
/-- The same tokens, whatever rows they are told in. -/
theorem same_t (v1 v2 : Value) (l : List Tok) (w : World) {w0 : World} {base : Nat} {v : Value} (h : Toks w0 base v l) (h1 : RdT w v1 l) (h2 : RdT w v2 l) :
    Calls Tryd.prog 16 #[v1, v2] w fun e w' => e = .returned (.bool true) ∧ Below w.heap.size w w' := same_c v1 v2 l h.bound.1 h.bound.2 w h1 h2

set_option maxHeartbeats 4000000 in
set_option maxRecDepth 100000 in
theorem tokenEnds_w (l1 : Txt) (hl1 : l1.length ≤ 9223372036854775807) (l2 : Txt) (hl2 : l2.length ≤ 9223372036854775807) (w : World) (hS : Std w) :
    Calls Tryd.prog 8 #[.string ⟨l1.toArray⟩, .string ⟨l2.toArray⟩] w fun e w' => e = .returned (.bool true) ∧ Below w.heap.size w w' := by
  have hfix := Lib.hid (fun W hS => fixed6_c W hS)
  go_enter Tryd.func8, Tryd.ntmps8
  go_wp2_with fail
  have hx := take_min_len l1 200
  generalize List.take (min (l1.length : Int) 200).toNat l1 = x at *
  have hy := take_min_len l2 200
  generalize List.take (min (l2.length : Int) 200).toNat l2 = y at *
  have hxx : x.length ≤ 200 := hx
  have hyy : y.length ≤ 200 := hy
  clear hx hy
  go_loop [5] (fun v => ∃ (k : Nat), v = .int .i64 k ∧ k ≤ x.length ∧ Hid (∀ j (hj : j < x.length), j < k → x[j].toNat ≠ 60 ∧ x[j].toNat ≠ 38)) (fun v => x.length - (intOf v).toNat)
  case atStart => exact ⟨0, rfl, by omega, fun j _ h => by omega⟩
  case round =>
    obtain ⟨k, rfl, hk, hno⟩ := hrel
    by_cases hlt : k < x.length
    · obtain ⟨n, hn⟩ : ∃ n, x[k].toNat = n := ⟨_, rfl⟩
      have hn' := Lib.hid hn
      by_cases h60 : n = 60
      · subst h60
        go_wp2_with (go_at_call 11; ((with_reducible refine (hfix.out _ hS).mono ?_); rintro e w1 ⟨rfl, hb1⟩))
        go_ret
        exact ⟨rfl, hb1⟩
      · by_cases h38 : n = 38
        · subst h38
          go_wp2_with (go_at_call 11; ((with_reducible refine (hfix.out _ hS).mono ?_); rintro e w1 ⟨rfl, hb1⟩))
          go_ret
          exact ⟨rfl, hb1⟩
        · have h60I : ¬ (n : Int) = 60 := by omega
          have h38I : ¬ (n : Int) = 38 := by omega
          go_wp2
          refine ⟨⟨k + 1, rfl, by omega, fun j hj hjk => ?_⟩, by simp [intOf]; omega⟩
          by_cases e : j = k
          · subst e
            rw [hn'.out]
            exact ⟨h60, h38⟩
          · exact hno.out j hj (by omega)
    · have hm60 := Lib.hid (not_mem_of (x := x) (c := 60) fun j hj => (hno.out j hj (by omega)).1)
      clear hno
      go_wp2
      go_loop [6] (fun v => ∃ (k : Nat), v = .int .i64 k ∧ k ≤ y.length ∧ Hid (∀ j (hj : j < y.length), j < k → y[j].toNat ≠ 62)) (fun v => y.length - (intOf v).toNat)
      case atStart => exact ⟨0, rfl, by omega, fun j _ h => by omega⟩
      case round =>
        obtain ⟨k2, rfl, hk2, hno⟩ := hrel
        by_cases hlt2 : k2 < y.length
        · obtain ⟨n, hn⟩ : ∃ n, y[k2].toNat = n := ⟨_, rfl⟩
          have hn' := Lib.hid hn
          by_cases h62 : n = 62
          · subst h62
            go_wp2_with (go_at_call 11; ((with_reducible refine (hfix.out _ hS).mono ?_); rintro e w1 ⟨rfl, hb1⟩))
            go_ret
            exact ⟨rfl, hb1⟩
          · have h62I : ¬ (n : Int) = 62 := by omega
            go_wp2
            refine ⟨⟨k2 + 1, rfl, by omega, fun j hj hjk => ?_⟩, by simp [intOf]; omega⟩
            by_cases e : j = k2
            · subst e
              rw [hn'.out]
              exact h62
            · exact hno.out j hj (by omega)
        · have hm62 := not_mem_of (x := y) (c := 62) fun j hj => hno.out j hj (by omega)
          have e1 := ends_start hm60.out hm62
          have e2 := ends_end hm60.out hm62
          clear hno
          have c0 := Lib.hid (fun W hS => cut_g x (by omega) W hS)
          have c1 := Lib.hid (fun W hS => cut_g (x ++ 60 :: 97 :: 32 :: y) (by simp; omega) W hS)
          have c2 := Lib.hid (fun W hS => cut_g (x ++ 60 :: 47 :: 97 :: 32 :: y) (by simp; omega) W hS)
          rw [e1] at c1
          rw [e2] at c2
          clear e1 e2 hm62
          generalize cutL x = L at *
          have hc1 : (⟨x.toArray⟩ : ByteArray) ++ ⟨#[60, 97, 32]⟩ ++ ⟨y.toArray⟩ = ⟨(x ++ 60 :: 97 :: 32 :: y).toArray⟩ := by
            apply ByteArray.ext
            simp
          have hc2 : (⟨x.toArray⟩ : ByteArray) ++ ⟨#[60, 47, 97, 32]⟩ ++ ⟨y.toArray⟩ = ⟨(x ++ 60 :: 47 :: 97 :: 32 :: y).toArray⟩ := by
            apply ByteArray.ext
            simp
          generalize x ++ 60 :: 97 :: 32 :: y = q1 at *
          generalize x ++ 60 :: 47 :: 97 :: 32 :: y = q2 at *
          go_wp2_with (first
            | (go_at_call 14; first
              | ((with_reducible refine (c1.out _ hS).mono ?_); rintro e w1 ⟨v1, rfl, hT1, hb1⟩; have hS1 := hS.below hb1; have hR1 := hT1.rd)
              | ((with_reducible refine (c0.out _ hS1).mono ?_); rintro e w2 ⟨v2, rfl, hT2, hb2⟩; have hS2 := hS1.below hb2; have hR2 := hT2.rd; replace hR1 := hR1.below hb2; have hB2 := below_seq hb1 hb2)
              | ((with_reducible refine (c2.out _ hS3).mono ?_); rintro e w4 ⟨v4, rfl, hT4, hb4⟩; have hS4 := hS3.below hb4; have hR4 := hT4.rd; have hB4 := below_seq hB3 hb4)
              | ((with_reducible refine (c0.out _ hS4).mono ?_); rintro e w5 ⟨v5, rfl, hT5, hb5⟩; have hS5 := hS4.below hb5; have hR5 := hT5.rd; replace hR4 := hR4.below hb5; have hB5 := below_seq hB4 hb5))
            | (go_at_call 16; first
              | ((with_reducible refine (same_t _ _ _ _ hT1 hR1 hR2).mono ?_); rintro e w3 ⟨rfl, hb3⟩; have hS3 := hS2.below hb3; have hB3 := below_seq hB2 hb3)
              | ((with_reducible refine (same_t _ _ _ _ hT1 hR4 hR5).mono ?_); rintro e w6 ⟨rfl, hb6⟩; have hS6 := hS5.below hb6; have hB6 := below_seq hB5 hb6))
            | (go_at_call 11; ((with_reducible refine (hfix.out _ hS6).mono ?_); rintro e w7 ⟨rfl, hb7⟩)))
          go_ret
          exact ⟨rfl, below_seq hB6 hb7⟩
end Go.Proofs.YtcipgppjhhokbaaDoor
